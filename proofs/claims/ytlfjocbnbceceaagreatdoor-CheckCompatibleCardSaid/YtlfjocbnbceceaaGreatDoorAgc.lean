/-
  Library, plain laws and walks that the statements reach (joined by a program out of smaller texts).
-/
import Derived.Test.YtlfjocbnbceceaaGreatDoorAgb
import Derived.Test.YtlfjocbnbceceaaGreatDoorAga
import Derived.Scope
import Derived.Lib.Bytealg
set_option linter.unusedVariables false
set_option linter.unusedSimpArgs false
namespace Go.Proofs.YtlfjocbnbceceaaGreatDoor
open Go.RowKit Go.Vc
theorem iplace_calls (x n : Int) {w0 : World} (hn : 1 ≤ n) (hn2 : n ≤ 1000000000) :
    Calls Tryz.prog 11 #[.int .i64 x, .int .i64 n] w0 fun e w' => e = .returned (.int .i64 (x % n)) ∧ w0 = w' := by
 refine calls_enter (n := 14) Tryz.func11 rfl Tryz.ntmps11 rfl ?_
 have hV : Evo w0 w0 [] := Evo.refl _ _
 refine Zs ?_
 refine Zn asI ?_
 refine Zs ?_
 refine Zo mvI ?_
 refine Zo mvI ?_
 refine Zo (run_rem rfl η η ω) ?_
 refine Zn asI ?_
 refine r_seq ?_
 refine Zs ?_
 refine Zo mvI ?_
 refine Zn (run_lss rfl η η) ?_
 refine r_cond η (fun hc1 => ?_) (fun hc1 => ?_)
 ·skip
  refine r_region ?_
  refine Zo mvI ?_
  refine Zo mvI ?_
  refine Zo (run_add rfl η η (by have := tmod_bd x n ω; omega) (by have := tmod_bd x n ω; omega)) ?_
  refine Zn asI ?_
  refine Zs ?_
  refine Zo mvI ?_
  refine Zn asI ?_
  refine r_ret (res1 (v := .int _ _) rfl η) ?_
  exact ⟨ret_int (by rw [← place_neg x n ω ω]), rfl⟩
 refine r_skip ?_
 refine Zs ?_
 refine Zo mvI ?_
 refine Zn asI ?_
 refine r_ret (res1 (v := .int _ _) rfl η) ?_
 exact ⟨ret_int (by rw [← place_pos x n ω ω]), rfl⟩
theorem inext_calls {T bs : Nat} {ao : Option Addr} {b off cap : Nat} {l : List Int} {N : Nat} {n : Int} {w0 : World} (hb : Blk w0 bs T [.slice ao l.length cap, .int .i64 (N : Nat)]) (hl : RowE w0 ao b off cap l) (hN : N ≤ 1000000) (hn : 1 ≤ n) (hn2 : n ≤ 1000000000) :
    Calls Tryz.prog 38 #[.pointer (some ⟨bs, 0, none⟩), .int .i64 n] w0 fun e w' => e = .returned (.int .i64 (nextL l N n)) ∧ Evo w0 w' [bs] ∧ Blk w' bs T [.slice ao l.length cap, .int .i64 (N + 1 : Nat)] := by
 have hAs := hb.at
 refine calls_enter (n := 36) Tryz.func38 rfl Tryz.ntmps38 rfl ?_
 have hV : Evo w0 w0 [bs] := Evo.refl _ _
 have hbd_hl := hl.bd
 refine Zs ?_
 refine Zn asI ?_
 refine Zs ?_
 refine Zn asI ?_
 refine r_seq ?_
 refine r_seq ?_
 refine r_qregion ζ ζ ?_
 refine Zq (fun w' hC => mvP) ?_
 refine Zq (fun w' hC => run_nc rfl η) ?_
 refine Zq (fun w' hC => run_fa rfl η fo_70_1) ?_
 refine Zq (fun w' hC => run_ld1 rfl ag_3 η ((hAs.evo0 hC).cell 1 η)) ?_
 refine Zq (fun w' hC => mvP) ?_
 refine Zq (fun w' hC => run_nc rfl η) ?_
 refine Zq (fun w' hC => run_fa rfl η fo_70_0) ?_
 refine Zq (fun w' hC => run_ld1 rfl ag_22 η ((hAs.evo0 hC).cell 0 η)) ?_
 refine Zq (fun w' hC => run_lenSl rfl η Tryz.underlying22) ?_
 refine Zq (fun w' hC => run_lss rfl η η) ?_
 refine q_nil (fun w1 hE2 => ?_)
 have Q1 := hE2.size
 replace hV := Z0 hV hE2
 replace hb := hb.evo0 hE2
 replace hAs := hAs.evo0 hE2
 replace hl := hl.evo0 hE2
 refine r_cond η (fun hc3 => ?_) (fun hc3 => ?_)
 ·skip
  refine r_qregion ζ ζ ?_
  refine Zq (fun w' hC => mvP) ?_
  refine Zq (fun w' hC => run_nc rfl η) ?_
  refine Zq (fun w' hC => run_fa rfl η fo_70_0) ?_
  refine Zq (fun w' hC => run_ld1 rfl ag_22 η ((hAs.evo0 hC).cell 0 η)) ?_
  refine Zq (fun w' hC => mvP) ?_
  refine Zq (fun w' hC => run_nc rfl η) ?_
  refine Zq (fun w' hC => run_fa rfl η fo_70_1) ?_
  refine Zq (fun w' hC => run_ld1 rfl ag_3 η ((hAs.evo0 hC).cell 1 η)) ?_
  refine Zq (fun w' hC => run_ix (N) rfl Tryz.underlying22 ty_3 η η (by first | exact rfl | omega) ω (hl.addr (i := N) ω)) ?_
  have hA4 := hl.atD (N) ω
  refine Zq (fun w' hC => run_ld1 rfl ag_3 η ((hA4.evo0 hC).cell 0 η)) ?_
  refine Zq (fun w' hC => asI) ?_
  refine q_nil (fun w5 hE6 => ?_)
  have Q5 := hE6.size
  replace hV := Z0 hV hE6
  replace hb := hb.evo0 hE6
  replace hAs := hAs.evo0 hE6
  refine Zs ?_
  refine Zo mvP ?_
  refine Zo (run_nc rfl η) ?_
  refine Zo (run_fa rfl η fo_70_1) ?_
  refine Zo (run_ld1 rfl ag_3 η (hAs.cell 1 η)) ?_
  refine Zo (run_add rfl η η ω ω) ?_
  refine Zo (run_nc rfl η) ?_
  refine Zo (run_fa rfl η fo_70_1) ?_
  refine r_store (v := .int _ _) (vs := [_]) (cs' := [_, _]) η η hb ty_3 η rfl η rfl η ?_
  intro w7 E7 V7 hb_new
  have Q7 := E7.size
  replace hV := Z1 hV E7 (.inr (by simp))
  replace hb := hb_new
  clear hb_new
  refine r_nil ?_
  refine Zs ?_
  refine Zo mvI ?_
  refine Zo mvI ?_
  refine Zr [.int _ _, .int _ _] rfl η Tryz.func11 (iplace_calls _ _ ω ω) ?_
  rintro e w8 ⟨rfl, rfl⟩
  refine ⟨_, rfl, ?_⟩
  refine Zn asI ?_
  refine r_ret (res1 (v := .int _ _) rfl η) ?_
  exact ⟨ret_int (by first | rfl | (unfold nextL; simp [List.getD, List.getElem?_eq_none (by omega : l.length ≤ N)]; done)), hV, hb⟩
 refine r_skip ?_
 refine Zs ?_
 refine Zo mvP ?_
 refine Zo (run_nc rfl η) ?_
 refine Zo (run_fa rfl η fo_70_1) ?_
 refine Zo (run_ld1 rfl ag_3 η (hAs.cell 1 η)) ?_
 refine Zo (run_add rfl η η ω ω) ?_
 refine Zo (run_nc rfl η) ?_
 refine Zo (run_fa rfl η fo_70_1) ?_
 refine r_store (v := .int _ _) (vs := [_]) (cs' := [_, _]) η η hb ty_3 η rfl η rfl η ?_
 intro w9 E9 V9 hb_new
 have Q9 := E9.size
 replace hV := Z1 hV E9 (.inr (by simp))
 replace hb := hb_new
 clear hb_new
 refine r_nil ?_
 refine Zs ?_
 refine Zo mvI ?_
 refine Zo mvI ?_
 refine Zr [.int _ _, .int _ _] rfl η Tryz.func11 (iplace_calls _ _ ω ω) ?_
 rintro e w10 ⟨rfl, rfl⟩
 refine ⟨_, rfl, ?_⟩
 refine Zn asI ?_
 refine r_ret (res1 (v := .int _ _) rfl η) ?_
 exact ⟨ret_int (by first | rfl | (unfold nextL; simp [List.getD, List.getElem?_eq_none (by omega : l.length ≤ N)]; done)), hV, hb⟩
theorem inx_calls {w0 : World} {T bs : Nat} {ao : Option Addr} {b off cap : Nat} {l : List Int} {N : Nat} {n : Int} (hb : Blk w0 bs T [.slice ao l.length cap, .int .i64 (N : Nat)]) (hl : RowE w0 ao b off cap l) (hN : N ≤ 1000000) (hn : 1 ≤ n) (hn2 : n ≤ 1000000000) :
    Calls Tryz.prog 38 #[.pointer (some ⟨bs, 0, none⟩), .int .i64 n] w0 fun e w' => ∃ r, e = .returned (.int .i64 r) ∧ (0 ≤ r ∧ r < n) ∧ Evo w0 w' [bs] ∧ Blk w' bs T [.slice ao l.length cap, .int .i64 (N + 1 : Nat)] :=
  (inext_calls hb hl hN hn hn2).mono fun e w' ⟨h1, h2, h3⟩ => ⟨_, h1, nextL_bd l N n hn, h2, h3⟩
def wordsL : List Str := [[114, 101, 100], [99, 97, 114], [82, 101, 100], [97], [99, 97, 114, 115], [49, 44, 53], [50, 50], [100, 111, 110, 39, 116], [46], [33], [32], [32, 32], [60], [38], [123], [34], [92], [120, 45, 121], [10], [61], [125], [62], [9], [98]]
theorem iwords_bd (j : Nat) : (wordsL.getD j default).length ≤ 5 := by
  rcases Nat.lt_or_ge j 24 with h | h
  · have : ∀ j, j < 24 → (wordsL.getD j default).length ≤ 5 := by decide
    exact this j h
  · have e : wordsL.getD j default = [] := by simp [List.getD, List.getElem?_eq_none (show wordsL.length ≤ j from h)]; rfl
    rw [e]; simp
theorem word_calls {T bs : Nat} {ao : Option Addr} {b off cap : Nat} {l : List Int} {N : Nat} {w0 : World} (hb : Blk w0 bs T [.slice ao l.length cap, .int .i64 (N : Nat)]) (hl : ∀ w', Evo w0 w' [bs] → RowE w' ao b off cap l) (hN : N ≤ 900000) :
    Calls Tryz.prog 125 #[.pointer (some ⟨bs, 0, none⟩)] w0 fun e w' => ∃ t : Str, ∃ N', e = .returned (S t) ∧ t.length ≤ 5 ∧ (N ≤ N' ∧ N' ≤ N + 1) ∧ Evo w0 w' [bs] ∧ Blk w' bs T [.slice ao l.length cap, .int .i64 (N' : Nat)] := by
 have hAs := hb.at; have hbslt := hb.lt
 refine calls_enter (n := 8) Tryz.func125 rfl Tryz.ntmps125 rfl ?_
 have hV : Evo w0 w0 [bs] := Evo.refl _ _
 have hl0 := hl
 replace hl := hl0 _ hV
 have hbd_hl := hl.bd
 refine Zs ?_
 refine Zn asT ?_
 refine Zs ?_
 refine r_bslice (pv := [(0, S _), (1, S _), (2, S _), (3, S _), (4, S _), (5, S _), (6, S _), (7, S _), (8, S _), (9, S _), (10, S _), (11, S _), (12, S _), (13, S _), (14, S _), (15, S _), (16, S _), (17, S _), (18, S _), (19, S _), (20, S _), (21, S _), (22, S _), (23, S _)]) (zs := [_]) (cs := [_, _, _, _, _, _, _, _, _, _, _, _, _, _, _, _, _, _, _, _, _, _, _, _]) Tryz.underlying77 ty_9 η rfl η rfl η ?_
 intro b1 w2 J1 E2 B1 Y1
 have Q2 := E2.size
 replace hV := Z0 hV E2
 replace hb := hb.evo0 E2
 replace hl := hl0 _ hV
 have hrb1 : RowE w2 (some ⟨b1, 0, none⟩) b1 0 24 wordsL := rowLit wordsL B1 rfl rfl
 refine Zo mvP ?_
 refine Zr [.pointer _, .int _ _] rfl η Tryz.func38 (inx_calls hb hl ω ω ω) ?_
 rintro e w3 ⟨nx3, rfl, hx3, hE3, hn3⟩
 refine ⟨_, rfl, ?_⟩
 have Q3 := hE3.size
 replace hV := Z1 hV hE3 (.inr (by simp))
 replace hrb1 := hrb1.evo hE3 θ
 replace hb := hn3
 clear hn3
 refine Zo (run_ix (nx3.toNat) rfl Tryz.underlying77 ty_9 η η ω (by show _ < 24; omega) (hrb1.addr (i := nx3.toNat) (by show _ < 24; omega))) ?_
 have hA4 := hrb1.atD (nx3.toNat) (by show _ < 24; omega)
 refine Zo (run_ld1 rfl ag_9 η (hA4.cell 0 η)) ?_
 refine Zn asT ?_
 refine r_ret (res1 (v := S _) rfl η) ?_
 exact ⟨_, N + 1, rfl, iwords_bd _, by omega, hV, hb⟩
theorem line_calls {T bs : Nat} {ao : Option Addr} {b off cap : Nat} {l : List Int} {N : Nat} {n : Int} {w0 : World} (hb : Blk w0 bs T [.slice ao l.length cap, .int .i64 (N : Nat)]) (hl : ∀ w', Evo w0 w' [bs] → RowE w' ao b off cap l) (hN : N ≤ 800000) (hn0 : 0 ≤ n) (hn3 : n ≤ 3) (hbs : bs < w0.heap.size) :
    Calls Tryz.prog 74 #[.pointer (some ⟨bs, 0, none⟩), .int .i64 n] w0 fun e w' => ∃ t : Str, ∃ N', e = .returned (S t) ∧ t.length ≤ 18 ∧ (N ≤ N' ∧ N' ≤ N + 7) ∧ Evo w0 w' [bs] ∧ Blk w' bs T [.slice ao l.length cap, .int .i64 (N' : Nat)] := by
 have hAs := hb.at; have hbslt := hb.lt
 refine calls_enter (n := 31) Tryz.func74 rfl Tryz.ntmps74 rfl ?_
 have hV : Evo w0 w0 [bs] := Evo.refl _ _
 have hl0 := hl
 replace hl := hl0 _ hV
 have hbd_hl := hl.bd
 refine Zs ?_
 refine Zn asT ?_
 refine Zs ?_
 refine Zn asT ?_
 refine r_seq ?_
 refine Zs ?_
 refine Zo mvP ?_
 refine Zo mvI ?_
 refine Zo (run_add rfl η η ω ω) ?_
 refine Zr [.pointer _, .int _ _] rfl η Tryz.func38 (inx_calls hb hl ω ω ω) ?_
 rintro e w1 ⟨nx1, rfl, hx1, hE1, hn1⟩
 refine ⟨_, rfl, ?_⟩
 have Q1 := hE1.size
 replace hV := Z1 hV hE1 (.inr (by simp))
 replace hl := hl0 _ hV
 replace hb := hn1
 clear hn1
 have hAs := hb.at
 refine Zn asI ?_
 refine r_block ?_
 refine r_loop (α := Nat) [5, 6, 7, 12, 13, 14, 15, 16, 17, 18, 19, 20, 21, 22, 23, 24, 25, 26, 27, 28, 29] (fun i g w => ∃ t : Str, ∃ N1 : Nat, g 6 = .int .i64 (i : Nat) ∧ g 5 = S t ∧ Blk w bs T [.slice ao l.length cap, .int .i64 (N1 : Nat)] ∧ At w bs 0 [.slice ao l.length cap, .int .i64 (N1 : Nat)] ∧ (N + 1 ≤ N1 ∧ N1 + 2 * i ≤ N + 7) ∧ (t.length + 6 * i ≤ 18) ∧ w1.heap.size ≤ w.heap.size ∧ Evo w0 w [bs]) (fun i => i) nx1.toNat ?_ ?_
 ·refine ⟨[], _, (congrArg (Value.int _) ω), rfl, hb, hb.at, δ, θ, δ, hV⟩
 rintro i g w3 ⟨t, N1, hj4, hj5, hb, hAs, hN1, htl, hzl2, hV⟩
 have hs_w3hV := hV.size
 have hlt6 := hb.lt
 refine Zk 6 (v := .int .i64 (i : Nat)) (by exact hj4) ?_
 refine Zk 5 (v := S t) (by exact hj5) ?_
 refine r_seq ?_
 refine Zs ?_
 refine Zo mvI ?_
 refine Zn (run_gtr rfl η η) ?_
 refine r_cond η (fun hc7 => ?_) (fun hc7 => ?_)
 ·skip
  refine r_skip ?_
  refine r_seq ?_
  refine r_block ?_
  refine Zs ?_
  refine Zo mvP ?_
  refine Zr [.pointer _] rfl η Tryz.func125 (word_calls hb (fun w9 h9 => hl0 _ (Evo.trans hV h9 (fun x hx _ => hx))) ω) ?_
  rintro e w8 ⟨tw8, Nw8, rfl, htw8, hNw8, hE8, hn8⟩
  refine ⟨_, rfl, ?_⟩
  have Q8 := hE8.size
  replace hV := Z1 hV hE8 (.inr (by simp))
  replace hl := hl0 _ hV
  replace hb := hn8
  clear hn8
  have hAs := hb.at
  refine Zn asT ?_
  refine r_seq ?_
  refine Zs ?_
  refine Zo mvT ?_
  refine Zo (run_sneq rfl η η) ?_
  refine Zo mvB ?_
  refine r_g rfl (wantT η) rfl (fun hg => mvP) ?_
  refine r_gnext rfl (wantT η) rfl (fun hg => run_callf rfl (argcons (v := .pointer _) (glv η (fun h => h) hg) (argcons (v := .int _ _) η (rfl))) Tryz.func38 rfl ζ) (fun hg => (inx_calls hb hl ω ω ω)) hb ?_
  intro nx10 w9 Ng10 hx10 hE10 hna10 hnb10 hbn
  have Q9 := hE10.size
  replace hV := Z1 hV hE10 (.inr (by simp))
  replace hl := hl0 _ hV
  replace hb := hbn
  clear hbn
  have hAs := hb.at
  refine r_g rfl (wantT η) rfl (fun hg => run_gtr rfl (glv η (fun h => h) hg) η) ?_
  refine Zn (run_pick_and rfl η (fun hq => glv η (fun h => h) hq) rfl) ?_
  refine r_cond η (fun hc11 => ?_) (fun hc11 => ?_)
  ·skip
   refine r_region ?_
   refine Zo mvT ?_
   refine Zo (run_sadd rfl η η (by first | omega | (simp; done) | (simp; omega))) ?_
   refine Zn asT ?_
   refine r_region ?_
   refine Zo mvT ?_
   refine Zo mvT ?_
   refine Zo (run_sadd rfl η η (by first | omega | (simp; done) | (simp; omega))) ?_
   refine Zn asT ?_
   refine r_blk ?_
   refine r_region ?_
   refine Zo mvI ?_
   refine Zo (run_sub rfl η η ω ω) ?_
   refine Zn asI ?_
   refine r_again (i - 1) ?_ ?_ ?_
   ·first | omega | (dsimp only; omega)
   ·refine ⟨_, _, σ, rfl, hb, hb.at, δ, (by first | omega | (simp; omega)), δ, hV⟩
   exact ψ
  refine r_skip ?_
  refine r_region ?_
  refine Zo mvT ?_
  refine Zo mvT ?_
  refine Zo (run_sadd rfl η η (by first | omega | (simp; done) | (simp; omega))) ?_
  refine Zn asT ?_
  refine r_blk ?_
  refine r_region ?_
  refine Zo mvI ?_
  refine Zo (run_sub rfl η η ω ω) ?_
  refine Zn asI ?_
  refine r_again (i - 1) ?_ ?_ ?_
  ·first | omega | (dsimp only; omega)
  ·refine ⟨_, _, σ, rfl, hb, hb.at, δ, (by first | omega | (simp; omega)), δ, hV⟩
  exact ψ
 refine r_exit rfl ?_
 refine Zs ?_
 refine Zo mvT ?_
 refine Zn asT ?_
 refine r_ret (res1 (v := S _) rfl η) ?_
 exact ⟨_, N1, rfl, by omega, by omega, hV, hb⟩
theorem rconcat_calls {aoa aob : Option Addr} {ba offa capa bb offb capb : Nat} {a b : List Vc.Item} {w0 : World} (ha : RowE w0 aoa ba offa capa a) (hb : RowE w0 aob bb offb capb b) (hsm : Small (a ++ b)) :
    Calls Tryz.prog 76 #[.slice aoa a.length capa, .slice aob b.length capb] w0 fun e w' => ∃ v, e = .returned v ∧ Evo w0 w' [] ∧ OwnE w' w0.heap.size 32 v (normL (a ++ b)) := by
 have hs9 := hsm.1; rw [List.length_append] at hs9
 refine calls_enter (n := 10) Tryz.func76 rfl Tryz.ntmps76 rfl ?_
 have hV : Evo w0 w0 [] := Evo.refl _ _
 have ha0 := keepE ha
 have hbd_ha := ha.bd
 have hb0 := keepE hb
 have hbd_hb := hb.bd
 refine Zs ?_
 refine Zn asS ?_
 refine Zs ?_
 refine Zo mvS ?_
 refine r_appendE rfl Tryz.underlying33 ty_32 η (OwnE.nil (α := Vc.Item) _ w0.heap.size _) η η ha rfl (θ) (θ) ω ?_
 intro v1 w2 E2 hov1 hlv1
 have Q2 := E2.size
 replace hV := Z0 hV E2
 replace hb := hb0 _ hV
 refine Zo mvS ?_
 refine r_appendE rfl Tryz.underlying33 ty_32 η hov1 η η hb rfl (θ) (θ) ω ?_
 intro v3 w4 E4 hov3 hlv3
 have Q4 := E4.size
 replace hV := evo_stepo hV E4 (fun g hg => .inl (by first | exact (hov1.block hg).1 | (have := hov1.block hg; omega)))
 replace ha := ha0 _ hV
 replace hb := hb0 _ hV
 obtain ⟨ao5, g5, cp5, hv5, hr5, hg5⟩ := hov3.rowOf
 subst hv5
 refine Zr [.slice _ _ _] rfl η Tryz.func126 (rnormalize_calls hr5 (by first | assumption | exact hsm | exact small_ren (by assumption))) ?_
 rintro e w6 ⟨vn6, rfl, hE6, hon6⟩
 refine ⟨_, rfl, ?_⟩
 have Q6 := hE6.size
 replace hV := Z0 hV hE6
 refine Zn (run_asg (v := vn6) rfl η) ?_
 refine r_ret (res1 (v := vn6) rfl η) ?_
 exact ⟨_, rfl, hV, by have h9 := hon6; rw [List.nil_append] at h9; exact h9.base_le ω⟩
set_option maxHeartbeats 4000000 in
theorem fragment_calls {T bs : Nat} {ao : Option Addr} {b off cap : Nat} {l : List Int} {N : Nat} {n : Int} {tags nested : Bool} {w0 : World} (hb : Blk w0 bs T [.slice ao l.length cap, .int .i64 (N : Nat)]) (hl : ∀ w', Evo w0 w' [bs] → RowE w' ao b off cap l) (hN : N ≤ 100000) (hn0 : 0 ≤ n) (hn9 : n ≤ 100) :
    Calls Tryz.prog 41 #[.pointer (some ⟨bs, 0, none⟩), .int .i64 n, .bool tags, .bool nested] w0 fun e w' => ∃ v, ∃ f : List Vc.Item, ∃ N', e = .returned v ∧ (valGo [] f = 0 ∧ (f.length : Int) ≤ 2 * n ∧ (sizeL f : Int) ≤ 30 * n ∧ (nested = true → shapeL f = some ([], []))) ∧ (N ≤ N' ∧ N' ≤ N + 2000) ∧ Evo w0 w' [bs] ∧ Blk w' bs T [.slice ao l.length cap, .int .i64 (N' : Nat)] ∧ OwnE w' w0.heap.size 32 v f := by
 have hAs := hb.at; have hbslt := hb.lt
 refine calls_enter (n := 141) Tryz.func41 rfl Tryz.ntmps41 rfl ?_
 have hV : Evo w0 w0 [bs] := Evo.refl _ _
 have hl0 := hl
 replace hl := hl0 _ hV
 have hbd_hl := hl.bd
 refine Zs ?_
 refine Zn asS ?_
 refine Zs ?_
 refine Zo asS ?_
 refine Zn asS ?_
 refine Zs ?_
 refine Zn asI ?_
 refine r_seq ?_
 refine Zs ?_
 refine Zo mvP ?_
 refine Zo mvI ?_
 refine Zo (run_add rfl η η ω ω) ?_
 refine Zr [.pointer _, .int _ _] rfl η Tryz.func38 (inx_calls hb hl ω ω ω) ?_
 rintro e w1 ⟨nx1, rfl, hx1, hE1, hn1⟩
 refine ⟨_, rfl, ?_⟩
 have Q1 := hE1.size
 replace hV := Z1 hV hE1 (.inr (by simp))
 replace hl := hl0 _ hV
 replace hb := hn1
 clear hn1
 have hAs := hb.at
 refine Zn asI ?_
 refine r_block ?_
 refine r_loop (α := Nat) [9, 10, 11, 12, 13, 14, 20, 21, 22, 23, 24, 25, 26, 27, 28, 29, 30, 31, 32, 33, 34, 35, 36, 37, 38, 39, 40, 41, 42, 43, 44, 45, 46, 47, 48, 49, 50, 51, 52, 53, 54, 55, 56, 57, 58, 59, 60, 61, 62, 63, 64, 65, 66, 67, 68, 69, 70, 71, 72, 73, 74, 75, 76, 77, 78, 79, 80, 81, 82, 83, 84, 85, 86, 87, 88, 89, 90, 91, 92, 93, 94, 95, 96, 97, 98, 99, 100, 101, 102, 103, 104, 105, 106, 107, 108, 109, 110, 111, 112, 113, 114] (fun i g w => ∃ vf : Value, ∃ vo : Value, ∃ f : List Vc.Item, ∃ op : List Vc.Item, ∃ idn : Int, ∃ N1 : Nat, g 12 = .int .i64 (i : Nat) ∧ g 9 = vf ∧ g 10 = vo ∧ g 11 = .int .i64 idn ∧ OwnE w w0.heap.size 32 vf f ∧ OwnE w w0.heap.size 32 vo op ∧ Blk w bs T [.slice ao l.length cap, .int .i64 (N1 : Nat)] ∧ At w bs 0 [.slice ao l.length cap, .int .i64 (N1 : Nat)] ∧ FI f op idn ∧ NS nested f op ∧ (f.length + i ≤ nx1.toNat ∧ sizeL f + 18 * i ≤ 18 * nx1.toNat ∧ op.length + i ≤ nx1.toNat ∧ idn + i ≤ nx1.toNat ∧ N + 1 ≤ N1 ∧ N1 + 11 * i ≤ N + 1 + 11 * nx1.toNat) ∧ (∀ g, vf.ownBlock = some g → ∀ h, vo.ownBlock = some h → g ≠ h) ∧ (∀ o ∈ op, o.text.length ≤ 5) ∧ w1.heap.size ≤ w.heap.size ∧ Evo w0 w [bs]) (fun i => i) nx1.toNat ?_ ?_
 ·refine ⟨_, _, [], [], _, _, (congrArg (Value.int _) ω), rfl, rfl, rfl, (OwnE.nil _ _ _), (OwnE.nil _ _ _), hb, hb.at, FI.nil, (NS.nil _), (by first | (simp [sizeL]; done) | (simp [sizeL]; omega)), (fun g hg => by have h9 : (none : Option Nat) = some g := hg; cases h9), (by simp), δ, hV⟩
 rintro i g w3 ⟨vf, vo, f, op, idn, N1, hj4, hj5, hj6, hj7, hof, hop, hb, hAs, hFI, hNS, hsz, hsep, hopt, hzl2, hV⟩
 have hs_w3hV := hV.size
 have hlt8 := hb.lt
 replace hl := hl0 _ hV
 refine Zk 12 (v := .int .i64 (i : Nat)) (by exact hj4) ?_
 refine Zk 9 (v := vf) (by exact hj5) ?_
 refine Zk 10 (v := vo) (by exact hj6) ?_
 refine Zk 11 (v := .int .i64 idn) (by exact hj7) ?_
 refine r_seq ?_
 refine Zs ?_
 refine Zo mvI ?_
 refine Zn (run_gtr rfl η η) ?_
 refine r_cond η (fun hc9 => ?_) (fun hc9 => ?_)
 ·skip
  refine r_skip ?_
  refine r_seq ?_
  refine r_block ?_
  refine r_seq ?_
  have hpos := hFI.pos; have hobF := fun g hg => (hof.block (g := g) hg).2; have hobP := fun g hg => (hop.block (g := g) hg).2
  refine r_region ?_
  refine Zo mvP ?_
  refine Zr [.pointer _, .int _ _] rfl η Tryz.func74 (line_calls hb (fun w9 h9 => hl0 _ (Evo.trans hV h9 (fun x hx _ => hx))) ω ω ω ω) ?_
  rintro e w10 ⟨tl10, Nl10, rfl, htl10, hNl10, hE10, hn10⟩
  refine ⟨_, rfl, ?_⟩
  have Q10 := hE10.size
  replace hV := Z1 hV hE10 (.inr (by simp))
  replace hof := hof.evo hE10 (by intro g hg hm; simp at hm; subst hm; have := hof.block hg; omega)
  replace hop := hop.evo hE10 (by intro g hg hm; simp at hm; subst hm; have := hop.block hg; omega)
  replace hb := hn10
  clear hn10
  have hAs := hb.at
  refine Zo (run_bld (pv := [(0, .int _ _), (1, S _)]) (zs := [_, _, _]) (cells := [_, _, _]) rfl ty_32 η pl_32 η η) ?_
  have hob11 := fun g hg => (hof.block (g := g) hg).2
  have hob12 := fun g hg => (hop.block (g := g) hg).2
  refine r_var (zs := [_, _, _]) (vs := [_, _, _]) ty_32 η rfl η (fun _ => rfl) η rfl rfl η ?_
  intro b13 w14 J13 E14 B13 Y13
  have Q14 := E14.size
  replace hV := Z0 hV E14
  replace hl := hl0 _ hV
  replace hof := hof.evo0 E14
  replace hop := hop.evo0 E14
  replace hb := hb.evo0 E14
  replace hAs := hAs.evo0 E14
  have hAb13 := B13.at
  refine r_nil ?_
  refine r_seq ?_
  refine r_seq ?_
  have hofx : ∀ g, vf.ownBlock = some g → g ≠ b13 := fun g hg h => by have := hobF g hg; omega
  have hopx : ∀ g, vo.ownBlock = some g → g ≠ b13 := fun g hg h => by have := hobP g hg; omega
  refine r_region ?_
  refine Zo mvP ?_
  refine Zr [.pointer _, .int _ _] rfl η Tryz.func38 (inx_calls hb hl ω ω ω) ?_
  rintro e w15 ⟨nx15, rfl, hx15, hE15, hn15⟩
  refine ⟨_, rfl, ?_⟩
  have Q15 := hE15.size
  replace hV := Z1 hV hE15 (.inr (by simp))
  replace hl := hl0 _ hV
  replace hof := hof.evo hE15 (by intro g hg hm; simp at hm; subst hm; have := hof.block hg; omega)
  replace hop := hop.evo hE15 (by intro g hg hm; simp at hm; subst hm; have := hop.block hg; omega)
  replace B13 := B13.evo hE15 θ
  replace hAb13 := hAb13.evo hE15 θ
  replace hb := hn15
  clear hn15
  have hAs := hb.at
  refine r_nil ?_
  refine r_block ?_
  refine r_seq ?_
  refine Zs ?_
  refine Zo (run_eql rfl η η) ?_
  refine Zn asB ?_
  refine r_cond η (fun hc16 => ?_) (fun hc16 => ?_)
  ·skip
   refine r_skip ?_
   refine r_cut [10, 11, 14, 32, 33, 34, 35, 36, 37, 38, 39, 40, 41, 42, 43, 44, 45, 46, 47, 48, 49, 50, 51, 52, 53, 54, 55, 56, 57, 58, 59, 60, 61, 62, 63, 64, 65, 66, 67, 68, 69, 70, 71, 72, 73, 74, 75, 76, 77, 78, 79, 80, 81, 82, 83, 84, 85, 86, 87, 88, 89, 90, 91, 92, 93, 94, 95, 96, 97, 98, 99, 100, 101, 102, 103, 104, 105, 106, 107, 108, 109, 110] (fun g w => ∃ vo2 : Value, ∃ op2 : List Vc.Item, ∃ idn2 : Int, ∃ N2 : Nat, ∃ kx : Int, ∃ tx : Str, ∃ ix : Int, g 10 = vo2 ∧ g 11 = .int .i64 idn2 ∧ OwnE w w0.heap.size 32 vf f ∧ OwnE w w0.heap.size 32 vo2 op2 ∧ Blk w b13 32 [.int .i64 kx, S tx, .int .i64 ix] ∧ At w b13 0 [.int .i64 kx, S tx, .int .i64 ix] ∧ Blk w bs T [.slice ao l.length cap, .int .i64 (N2 : Nat)] ∧ At w bs 0 [.slice ao l.length cap, .int .i64 (N2 : Nat)] ∧ (FI (normStep f ⟨kx, tx, ix⟩) op2 idn2) ∧ (NS nested (normStep f ⟨kx, tx, ix⟩) op2) ∧ (tx.length ≤ 18 ∧ op2.length ≤ op.length + 1 ∧ idn2 ≤ idn + 1 ∧ N1 ≤ N2 ∧ N2 ≤ N1 + 11) ∧ (∀ o ∈ op2, o.text.length ≤ 5) ∧ w15.heap.size ≤ w.heap.size ∧ Evo w0 w [bs]) ?_ ?_
   ·skip
    refine r_condT η hc16 ?_
    refine r_region ?_
    refine r_bslice (pv := [(0, S _), (1, S _), (2, S _)]) (zs := [_]) (cs := [_, _, _]) Tryz.underlying77 ty_9 η rfl η rfl η ?_
    intro b18 w19 J18 E19 B18 Y18
    have Q19 := E19.size
    replace hV := Z0 hV E19
    replace hl := hl0 _ hV
    replace hof := hof.evo0 E19
    replace hop := hop.evo0 E19
    replace B13 := B13.evo0 E19
    replace hAb13 := hAb13.evo0 E19
    replace hb := hb.evo0 E19
    replace hAs := hAs.evo0 E19
    have hrb18 : RowE w19 (some ⟨b18, 0, none⟩) b18 0 3 slotW := rowLit slotW B18 rfl rfl
    refine Zo mvP ?_
    refine Zr [.pointer _, .int _ _] rfl η Tryz.func38 (inx_calls hb hl ω ω ω) ?_
    rintro e w20 ⟨nx20, rfl, hx20, hE20, hn20⟩
    refine ⟨_, rfl, ?_⟩
    have Q20 := hE20.size
    replace hV := Z1 hV hE20 (.inr (by simp))
    replace hof := hof.evo hE20 (by intro g hg hm; simp at hm; subst hm; have := hof.block hg; omega)
    replace hop := hop.evo hE20 (by intro g hg hm; simp at hm; subst hm; have := hop.block hg; omega)
    replace B13 := B13.evo hE20 θ
    replace hAb13 := hAb13.evo hE20 θ
    replace hrb18 := hrb18.evo hE20 θ
    replace hb := hn20
    clear hn20
    have hAs := hb.at
    refine Zo (run_ix (nx20.toNat) rfl Tryz.underlying77 ty_9 η η ω (by show _ < 3; omega) (hrb18.addr (i := nx20.toNat) (by show _ < 3; omega))) ?_
    have hA21 := hrb18.atD (nx20.toNat) (by show _ < 3; omega)
    refine Zo (run_ld1 rfl ag_9 η (hA21.cell 0 η)) ?_
    refine Zo (run_bld (pv := [(0, .int _ _), (1, S _)]) (zs := [_, _, _]) (cells := [_, _, _]) rfl ty_32 η pl_32 η η) ?_
    refine r_store (v := .agg _) (vs := [_, _, _]) (cs' := [_, _, _]) η η B13 ty_32 η rfl η rfl η ?_
    intro w22 E22 V22 hb_new
    have Q22 := E22.size
    replace hV := Z1 hV E22 ε
    replace hl := hl0 _ hV
    replace hof := hof.evo E22 (by intro g hg hm; simp at hm; subst hm; exact hofx _ hg rfl)
    replace hop := hop.evo E22 (by intro g hg hm; simp at hm; subst hm; exact hopx _ hg rfl)
    replace hb := hb.evo E22 θ
    replace B13 := hb_new
    have hAb13 := B13.at
    clear hb_new
    refine r_nil ?_
    refine r_cut_end ?_ ?_
    ·refine ⟨_, _, _, _, _, _, _, rfl, rfl, hof, (hop.base_le ω), B13, B13.at, hb, hb.at, (by first | exact hFI.text _ | exact hFI.slot (slotW_ok _ ω).1 | exact hFI.empty (emptyW_ok _ ω).1 ω | exact hFI.open_ (openW_ok _ ω).1 ω | exact hFI.close ω ω | exact hFI.closeNew (by decide) ω), (by first | exact hNS.otherB rfl rfl | exact hNS.open_ _ _ | exact hNS.close ω (fun h9 => by first | rfl | exact absurd h9 hc16) _ | exact NS.closeNew (hc16).2), ⟨by first | omega | exact Nat.le_trans (slotW_ok _ ω).2 (by decide) | exact Nat.le_trans (emptyW_ok _ ω).2 (by decide) | exact Nat.le_trans (openW_ok _ ω).2 (by decide) | exact Nat.le_trans (nameL_len _) (Nat.le_trans (text5 hopt _) (by decide)) | decide, by first | omega | (simp; done) | (simp; omega), by omega, by omega, by omega⟩, (by first | exact hopt | exact (fun o ho => (List.mem_append.1 ho).elim (hopt o) (fun h => by simp at h; subst h; exact (openW_ok _ ω).2)) | exact (fun o ho => (List.mem_append.1 ho).elim (fun h => hopt o (List.mem_of_mem_take h)) (fun h => hopt o (List.mem_of_mem_drop h)))), δ, hV⟩
    exact ψ
   rintro g w23 ⟨vo2, op2, idn2, N2, kx, tx, ix, hj24, hj25, hof, hop, B13, hAb13, hb, hAs, hFX, hNX, hsz2, hop2, hzl17, hV⟩
   have hs_w23hV := hV.size
   have hlt26 := B13.lt
   have hlt27 := hb.lt
   refine Zk 10 (v := vo2) (by exact hj24) ?_
   refine Zk 11 (v := .int .i64 idn2) (by exact hj25) ?_
   refine r_blk ?_
   have hobZ := fun g hg => (hop.block (g := g) hg).2
   have s32 : Small (f ++ [⟨kx, tx, ix⟩]) := ⟨by rw [List.length_append]; simp; omega, by rw [sizeL_append, sizeL_one]; simp; omega⟩
   refine r_region ?_
   refine Zo (run_mv (v := vf) rfl η) ?_
   refine Zo (run_ldN rfl ag_32 ty_32 η rfl hAb13) ?_
   refine r_bslice (pv := [(0, .agg _)]) (zs := [_, _, _]) (cs := [_, _, _]) Tryz.underlying33 ty_32 η rfl η rfl η ?_
   intro b28 w29 J28 E29 B28 Y28
   have Q29 := E29.size
   replace hV := Z0 hV E29
   replace hl := hl0 _ hV
   replace hof := hof.evo0 E29
   replace hop := hop.evo0 E29
   replace hb := hb.evo0 E29
   have hrb28 : RowE w29 (some ⟨b28, 0, none⟩) b28 0 1 ([⟨kx, tx, ix⟩] : List Vc.Item) := rowLit ([⟨kx, tx, ix⟩] : List Vc.Item) B28 rfl rfl
   obtain ⟨ao30, g30, cp30, hv30, hr30, hg30⟩ := hof.rowOf
   subst hv30
   refine Zr [.slice _ _ _, .slice (some ⟨b28, 0, none⟩) _ _] rfl η Tryz.func76 (rconcat_calls hr30 hrb28 (by assumption)) ?_
   rintro e w31 ⟨vn31, rfl, hE31, hon31⟩
   refine ⟨_, rfl, ?_⟩
   have Q31 := hE31.size
   replace hV := Z0 hV hE31
   replace hl := hl0 _ hV
   replace hof := hof.evo0 hE31
   replace hop := hop.evo0 hE31
   replace hb := hb.evo0 hE31
   replace hrb28 := hrb28.evo0 hE31
   replace hr30 := hr30.evo0 hE31
   refine Zn (run_asg (v := vn31) rfl η) ?_
   refine r_blk ?_
   refine r_region ?_
   refine Zo mvI ?_
   refine Zo (run_sub rfl η η ω ω) ?_
   refine Zn asI ?_
   refine r_again (i - 1) ?_ ?_ ?_
   ·first | omega | (dsimp only; omega)
   ·refine ⟨_, _, _, _, _, _, σ, rfl, rfl, rfl, (hon31.base_le ω), hop, hb, hb.at, (by rw [hFI.norm]; exact hFX), (by rw [hFI.norm]; exact hNX), (by have h1 := normL_len (f ++ [⟨kx, tx, ix⟩]); have h2 := normL_size (f ++ [⟨kx, tx, ix⟩]); rw [List.length_append] at h1; rw [sizeL_append, sizeL_one] at h2; simp at h1 h2; omega), (fun g hg h hh => by have h1 := (hon31).block (g := g) hg; have h2 := hobZ h hh; omega), hop2, δ, hV⟩
   exact ψ
  refine r_region ?_
  refine Zo (run_eql rfl η η) ?_
  refine Zn asB ?_
  refine r_cut [10, 11, 14, 32, 33, 34, 35, 36, 37, 38, 39, 40, 41, 42, 43, 44, 45, 46, 47, 48, 49, 50, 51, 52, 53, 54, 55, 56, 57, 58, 59, 60, 61, 62, 63, 64, 65, 66, 67, 68, 69, 70, 71, 72, 73, 74, 75, 76, 77, 78, 79, 80, 81, 82, 83, 84, 85, 86, 87, 88, 89, 90, 91, 92, 93, 94, 95, 96, 97, 98, 99, 100, 101, 102, 103, 104, 105, 106, 107, 108, 109, 110] (fun g w => ∃ vo2 : Value, ∃ op2 : List Vc.Item, ∃ idn2 : Int, ∃ N2 : Nat, ∃ kx : Int, ∃ tx : Str, ∃ ix : Int, g 10 = vo2 ∧ g 11 = .int .i64 idn2 ∧ OwnE w w0.heap.size 32 vf f ∧ OwnE w w0.heap.size 32 vo2 op2 ∧ Blk w b13 32 [.int .i64 kx, S tx, .int .i64 ix] ∧ At w b13 0 [.int .i64 kx, S tx, .int .i64 ix] ∧ Blk w bs T [.slice ao l.length cap, .int .i64 (N2 : Nat)] ∧ At w bs 0 [.slice ao l.length cap, .int .i64 (N2 : Nat)] ∧ (FI (normStep f ⟨kx, tx, ix⟩) op2 idn2) ∧ (NS nested (normStep f ⟨kx, tx, ix⟩) op2) ∧ (tx.length ≤ 18 ∧ op2.length ≤ op.length + 1 ∧ idn2 ≤ idn + 1 ∧ N1 ≤ N2 ∧ N2 ≤ N1 + 11) ∧ (∀ o ∈ op2, o.text.length ≤ 5) ∧ w15.heap.size ≤ w.heap.size ∧ Evo w0 w [bs]) ?_ ?_
  ·skip
   refine r_cond η (fun hc33 => ?_) (fun hc33 => ?_)
   ·skip
    refine r_region ?_
    refine r_bslice (pv := [(0, S _), (1, S _), (2, S _)]) (zs := [_]) (cs := [_, _, _]) Tryz.underlying77 ty_9 η rfl η rfl η ?_
    intro b34 w35 J34 E35 B34 Y34
    have Q35 := E35.size
    replace hV := Z0 hV E35
    replace hl := hl0 _ hV
    replace hof := hof.evo0 E35
    replace hop := hop.evo0 E35
    replace B13 := B13.evo0 E35
    replace hAb13 := hAb13.evo0 E35
    replace hb := hb.evo0 E35
    replace hAs := hAs.evo0 E35
    have hrb34 : RowE w35 (some ⟨b34, 0, none⟩) b34 0 3 slotW := rowLit slotW B34 rfl rfl
    refine Zo mvP ?_
    refine Zr [.pointer _, .int _ _] rfl η Tryz.func38 (inx_calls hb hl ω ω ω) ?_
    rintro e w36 ⟨nx36, rfl, hx36, hE36, hn36⟩
    refine ⟨_, rfl, ?_⟩
    have Q36 := hE36.size
    replace hV := Z1 hV hE36 (.inr (by simp))
    replace hof := hof.evo hE36 (by intro g hg hm; simp at hm; subst hm; have := hof.block hg; omega)
    replace hop := hop.evo hE36 (by intro g hg hm; simp at hm; subst hm; have := hop.block hg; omega)
    replace B13 := B13.evo hE36 θ
    replace hAb13 := hAb13.evo hE36 θ
    replace hrb34 := hrb34.evo hE36 θ
    replace hb := hn36
    clear hn36
    have hAs := hb.at
    refine Zo (run_ix (nx36.toNat) rfl Tryz.underlying77 ty_9 η η ω (by show _ < 3; omega) (hrb34.addr (i := nx36.toNat) (by show _ < 3; omega))) ?_
    have hA37 := hrb34.atD (nx36.toNat) (by show _ < 3; omega)
    refine Zo (run_ld1 rfl ag_9 η (hA37.cell 0 η)) ?_
    refine Zo (run_bld (pv := [(0, .int _ _), (1, S _)]) (zs := [_, _, _]) (cells := [_, _, _]) rfl ty_32 η pl_32 η η) ?_
    refine r_store (v := .agg _) (vs := [_, _, _]) (cs' := [_, _, _]) η η B13 ty_32 η rfl η rfl η ?_
    intro w38 E38 V38 hb_new
    have Q38 := E38.size
    replace hV := Z1 hV E38 ε
    replace hl := hl0 _ hV
    replace hof := hof.evo E38 (by intro g hg hm; simp at hm; subst hm; exact hofx _ hg rfl)
    replace hop := hop.evo E38 (by intro g hg hm; simp at hm; subst hm; exact hopx _ hg rfl)
    replace hb := hb.evo E38 θ
    replace B13 := hb_new
    have hAb13 := B13.at
    clear hb_new
    refine r_nil ?_
    refine r_cut_end ?_ ?_
    ·refine ⟨_, _, _, _, _, _, _, rfl, rfl, hof, (hop.base_le ω), B13, B13.at, hb, hb.at, (by first | exact hFI.text _ | exact hFI.slot (slotW_ok _ ω).1 | exact hFI.empty (emptyW_ok _ ω).1 ω | exact hFI.open_ (openW_ok _ ω).1 ω | exact hFI.close ω ω | exact hFI.closeNew (by decide) ω), (by first | exact hNS.otherB rfl rfl | exact hNS.open_ _ _ | exact hNS.close ω (fun h9 => by first | rfl | exact absurd h9 hc33) _ | exact NS.closeNew (hc33).2), ⟨by first | omega | exact Nat.le_trans (slotW_ok _ ω).2 (by decide) | exact Nat.le_trans (emptyW_ok _ ω).2 (by decide) | exact Nat.le_trans (openW_ok _ ω).2 (by decide) | exact Nat.le_trans (nameL_len _) (Nat.le_trans (text5 hopt _) (by decide)) | decide, by first | omega | (simp; done) | (simp; omega), by omega, by omega, by omega⟩, (by first | exact hopt | exact (fun o ho => (List.mem_append.1 ho).elim (hopt o) (fun h => by simp at h; subst h; exact (openW_ok _ ω).2)) | exact (fun o ho => (List.mem_append.1 ho).elim (fun h => hopt o (List.mem_of_mem_take h)) (fun h => hopt o (List.mem_of_mem_drop h)))), δ, hV⟩
    exact ψ
   refine Zs ?_
   refine Zo (run_eql rfl η η) ?_
   refine Zn asB ?_
   refine r_cond η (fun hc39 => ?_) (fun hc39 => ?_)
   ·skip
    refine Zs ?_
    refine Zn (run_mvb rfl η) ?_
    refine r_cond η (fun hc40 => ?_) (fun hc40 => ?_)
    ·skip
     refine Zs ?_
     refine Zo mvI ?_
     refine Zo (run_add rfl η η ω ω) ?_
     refine Zn asI ?_
     refine r_region ?_
     refine r_bslice (pv := [(0, S _), (1, S _)]) (zs := [_]) (cs := [_, _]) Tryz.underlying77 ty_9 η rfl η rfl η ?_
     intro b41 w42 J41 E42 B41 Y41
     have Q42 := E42.size
     replace hV := Z0 hV E42
     replace hl := hl0 _ hV
     replace hof := hof.evo0 E42
     replace hop := hop.evo0 E42
     replace B13 := B13.evo0 E42
     replace hAb13 := hAb13.evo0 E42
     replace hb := hb.evo0 E42
     replace hAs := hAs.evo0 E42
     have hrb41 : RowE w42 (some ⟨b41, 0, none⟩) b41 0 2 emptyW := rowLit emptyW B41 rfl rfl
     refine Zo mvP ?_
     refine Zr [.pointer _, .int _ _] rfl η Tryz.func38 (inx_calls hb hl ω ω ω) ?_
     rintro e w43 ⟨nx43, rfl, hx43, hE43, hn43⟩
     refine ⟨_, rfl, ?_⟩
     have Q43 := hE43.size
     replace hV := Z1 hV hE43 (.inr (by simp))
     replace hof := hof.evo hE43 (by intro g hg hm; simp at hm; subst hm; have := hof.block hg; omega)
     replace hop := hop.evo hE43 (by intro g hg hm; simp at hm; subst hm; have := hop.block hg; omega)
     replace B13 := B13.evo hE43 θ
     replace hAb13 := hAb13.evo hE43 θ
     replace hrb41 := hrb41.evo hE43 θ
     replace hb := hn43
     clear hn43
     have hAs := hb.at
     refine Zo (run_ix (nx43.toNat) rfl Tryz.underlying77 ty_9 η η ω (by show _ < 2; omega) (hrb41.addr (i := nx43.toNat) (by show _ < 2; omega))) ?_
     have hA44 := hrb41.atD (nx43.toNat) (by show _ < 2; omega)
     refine Zo (run_ld1 rfl ag_9 η (hA44.cell 0 η)) ?_
     refine Zo mvI ?_
     refine Zo (run_bld (pv := [(0, .int _ _), (1, S _), (2, .int _ _)]) (zs := [_, _, _]) (cells := [_, _, _]) rfl ty_32 η pl_32 η η) ?_
     refine r_store (v := .agg _) (vs := [_, _, _]) (cs' := [_, _, _]) η η B13 ty_32 η rfl η rfl η ?_
     intro w45 E45 V45 hb_new
     have Q45 := E45.size
     replace hV := Z1 hV E45 ε
     replace hl := hl0 _ hV
     replace hof := hof.evo E45 (by intro g hg hm; simp at hm; subst hm; exact hofx _ hg rfl)
     replace hop := hop.evo E45 (by intro g hg hm; simp at hm; subst hm; exact hopx _ hg rfl)
     replace hb := hb.evo E45 θ
     replace B13 := hb_new
     have hAb13 := B13.at
     clear hb_new
     refine r_nil ?_
     refine r_cut_end ?_ ?_
     ·refine ⟨_, _, _, _, _, _, _, rfl, rfl, hof, (hop.base_le ω), B13, B13.at, hb, hb.at, (by first | exact hFI.text _ | exact hFI.slot (slotW_ok _ ω).1 | exact hFI.empty (emptyW_ok _ ω).1 ω | exact hFI.open_ (openW_ok _ ω).1 ω | exact hFI.close ω ω | exact hFI.closeNew (by decide) ω), (by first | exact hNS.otherB rfl rfl | exact hNS.open_ _ _ | exact hNS.close ω (fun h9 => by first | rfl | exact absurd h9 hc40) _ | exact NS.closeNew (hc40).2), ⟨by first | omega | exact Nat.le_trans (slotW_ok _ ω).2 (by decide) | exact Nat.le_trans (emptyW_ok _ ω).2 (by decide) | exact Nat.le_trans (openW_ok _ ω).2 (by decide) | exact Nat.le_trans (nameL_len _) (Nat.le_trans (text5 hopt _) (by decide)) | decide, by first | omega | (simp; done) | (simp; omega), by omega, by omega, by omega⟩, (by first | exact hopt | exact (fun o ho => (List.mem_append.1 ho).elim (hopt o) (fun h => by simp at h; subst h; exact (openW_ok _ ω).2)) | exact (fun o ho => (List.mem_append.1 ho).elim (fun h => hopt o (List.mem_of_mem_take h)) (fun h => hopt o (List.mem_of_mem_drop h)))), δ, hV⟩
     exact ψ
    refine r_skip ?_
    refine r_cut_end ?_ ?_
    ·refine ⟨_, _, _, _, _, _, _, rfl, rfl, hof, (hop.base_le ω), B13, B13.at, hb, hb.at, (by first | exact hFI.text _ | exact hFI.slot (slotW_ok _ ω).1 | exact hFI.empty (emptyW_ok _ ω).1 ω | exact hFI.open_ (openW_ok _ ω).1 ω | exact hFI.close ω ω | exact hFI.closeNew (by decide) ω), (by first | exact hNS.otherB rfl rfl | exact hNS.open_ _ _ | exact hNS.close ω (fun h9 => by first | rfl | exact absurd h9 hc40) _ | exact NS.closeNew (hc40).2), ⟨by first | omega | exact Nat.le_trans (slotW_ok _ ω).2 (by decide) | exact Nat.le_trans (emptyW_ok _ ω).2 (by decide) | exact Nat.le_trans (openW_ok _ ω).2 (by decide) | exact Nat.le_trans (nameL_len _) (Nat.le_trans (text5 hopt _) (by decide)) | decide, by first | omega | (simp; done) | (simp; omega), by omega, by omega, by omega⟩, (by first | exact hopt | exact (fun o ho => (List.mem_append.1 ho).elim (hopt o) (fun h => by simp at h; subst h; exact (openW_ok _ ω).2)) | exact (fun o ho => (List.mem_append.1 ho).elim (fun h => hopt o (List.mem_of_mem_take h)) (fun h => hopt o (List.mem_of_mem_drop h)))), δ, hV⟩
    exact ψ
   refine r_seq ?_
   refine Zs ?_
   refine Zo (run_eql rfl η η) ?_
   refine Zn asB ?_
   refine r_cond η (fun hc46 => ?_) (fun hc46 => ?_)
   ·skip
    refine r_skip ?_
    refine r_condT η hc46 ?_
    refine Zs ?_
    refine Zn (run_mvb rfl η) ?_
    refine r_cond η (fun hc47 => ?_) (fun hc47 => ?_)
    ·skip
     refine Zs ?_
     refine Zo mvI ?_
     refine Zo (run_add rfl η η ω ω) ?_
     refine Zn asI ?_
     refine Zs ?_
     refine r_bslice (pv := [(0, S _), (1, S _), (2, S _)]) (zs := [_]) (cs := [_, _, _]) Tryz.underlying77 ty_9 η rfl η rfl η ?_
     intro b48 w49 J48 E49 B48 Y48
     have Q49 := E49.size
     replace hV := Z0 hV E49
     replace hl := hl0 _ hV
     replace hof := hof.evo0 E49
     replace hop := hop.evo0 E49
     replace B13 := B13.evo0 E49
     replace hAb13 := hAb13.evo0 E49
     replace hb := hb.evo0 E49
     replace hAs := hAs.evo0 E49
     have hrb48 : RowE w49 (some ⟨b48, 0, none⟩) b48 0 3 openW := rowLit openW B48 rfl rfl
     refine Zo mvP ?_
     refine Zr [.pointer _, .int _ _] rfl η Tryz.func38 (inx_calls hb hl ω ω ω) ?_
     rintro e w50 ⟨nx50, rfl, hx50, hE50, hn50⟩
     refine ⟨_, rfl, ?_⟩
     have Q50 := hE50.size
     replace hV := Z1 hV hE50 (.inr (by simp))
     replace hof := hof.evo hE50 (by intro g hg hm; simp at hm; subst hm; have := hof.block hg; omega)
     replace hop := hop.evo hE50 (by intro g hg hm; simp at hm; subst hm; have := hop.block hg; omega)
     replace B13 := B13.evo hE50 θ
     replace hAb13 := hAb13.evo hE50 θ
     replace hrb48 := hrb48.evo hE50 θ
     replace hb := hn50
     clear hn50
     have hAs := hb.at
     refine Zo (run_ix (nx50.toNat) rfl Tryz.underlying77 ty_9 η η ω (by show _ < 3; omega) (hrb48.addr (i := nx50.toNat) (by show _ < 3; omega))) ?_
     have hA51 := hrb48.atD (nx50.toNat) (by show _ < 3; omega)
     refine Zo (run_ld1 rfl ag_9 η (hA51.cell 0 η)) ?_
     refine Zo mvI ?_
     refine Zo (run_bld (pv := [(0, .int _ _), (1, S _), (2, .int _ _)]) (zs := [_, _, _]) (cells := [_, _, _]) rfl ty_32 η pl_32 η η) ?_
     refine r_store (v := .agg _) (vs := [_, _, _]) (cs' := [_, _, _]) η η B13 ty_32 η rfl η rfl η ?_
     intro w52 E52 V52 hb_new
     have Q52 := E52.size
     replace hV := Z1 hV E52 ε
     replace hof := hof.evo E52 (by intro g hg hm; simp at hm; subst hm; exact hofx _ hg rfl)
     replace hop := hop.evo E52 (by intro g hg hm; simp at hm; subst hm; exact hopx _ hg rfl)
     replace hb := hb.evo E52 θ
     replace B13 := hb_new
     have hAb13 := B13.at
     clear hb_new
     refine r_nil ?_
     refine r_region ?_
     refine Zo (run_mv (v := vo) rfl η) ?_
     refine Zo (run_ldN rfl ag_32 ty_32 η rfl hAb13) ?_
     refine r_append1E (u := .agg _) (y := ⟨_, _, _⟩) rfl rfl Tryz.underlying33 ty_32 η hop (fun _ => η) η (by first | exact rfl | (show _ = List.toArray [_, _, _]; first | (dsimp only; done) | exact rfl | (dsimp only; exact rfl))) ((by first | omega | (simp; omega))) ((by first | omega | (simp; omega))) ω ?_
     intro q_v53 v53 w54 E54 hov53 hlv53
     have Q54 := E54.size
     replace hV := evo_stepo hV E54 (fun g hg => .inl (by first | exact (hop.block hg).1 | (have := hop.block hg; omega)))
     replace hl := hl0 _ hV
     replace hof := hof.evo E54 (by intro g hg hm; exact hsep g hg _ (Option.mem_toList.1 hm) rfl)
     replace hb := hb.evo E54 (by intro hm; have hm2 := Option.mem_toList.1 hm; have := hop.block hm2; omega)
     replace B13 := B13.evo E54 (by intro hm; have hm2 := Option.mem_toList.1 hm; have := hob12 _ hm2; omega)
     replace hAb13 := hAb13.evo E54 (by intro hm; have hm2 := Option.mem_toList.1 hm; have := hob12 _ hm2; omega)
     refine Zn (run_asg (v := v53) rfl η) ?_
     refine r_cut_end ?_ ?_
     ·refine ⟨_, _, _, _, _, _, _, rfl, rfl, hof, (hov53.base_le ω), B13, B13.at, hb, hb.at, (by first | exact hFI.text _ | exact hFI.slot (slotW_ok _ ω).1 | exact hFI.empty (emptyW_ok _ ω).1 ω | exact hFI.open_ (openW_ok _ ω).1 ω | exact hFI.close ω ω | exact hFI.closeNew (by decide) ω), (by first | exact hNS.otherB rfl rfl | exact hNS.open_ _ _ | exact hNS.close ω (fun h9 => by first | rfl | exact absurd h9 hc47) _ | exact NS.closeNew (hc47).2), ⟨by first | omega | exact Nat.le_trans (slotW_ok _ ω).2 (by decide) | exact Nat.le_trans (emptyW_ok _ ω).2 (by decide) | exact Nat.le_trans (openW_ok _ ω).2 (by decide) | exact Nat.le_trans (nameL_len _) (Nat.le_trans (text5 hopt _) (by decide)) | decide, by first | omega | (simp; done) | (simp; omega), by omega, by omega, by omega⟩, (by first | exact hopt | exact (fun o ho => (List.mem_append.1 ho).elim (hopt o) (fun h => by simp at h; subst h; exact (openW_ok _ ω).2)) | exact (fun o ho => (List.mem_append.1 ho).elim (fun h => hopt o (List.mem_of_mem_take h)) (fun h => hopt o (List.mem_of_mem_drop h)))), δ, hV⟩
     exact ψ
    refine r_skip ?_
    refine r_cut_end ?_ ?_
    ·refine ⟨_, _, _, _, _, _, _, rfl, rfl, hof, (hop.base_le ω), B13, B13.at, hb, hb.at, (by first | exact hFI.text _ | exact hFI.slot (slotW_ok _ ω).1 | exact hFI.empty (emptyW_ok _ ω).1 ω | exact hFI.open_ (openW_ok _ ω).1 ω | exact hFI.close ω ω | exact hFI.closeNew (by decide) ω), (by first | exact hNS.otherB rfl rfl | exact hNS.open_ _ _ | exact hNS.close ω (fun h9 => by first | rfl | exact absurd h9 hc47) _ | exact NS.closeNew (hc47).2), ⟨by first | omega | exact Nat.le_trans (slotW_ok _ ω).2 (by decide) | exact Nat.le_trans (emptyW_ok _ ω).2 (by decide) | exact Nat.le_trans (openW_ok _ ω).2 (by decide) | exact Nat.le_trans (nameL_len _) (Nat.le_trans (text5 hopt _) (by decide)) | decide, by first | omega | (simp; done) | (simp; omega), by omega, by omega, by omega⟩, (by first | exact hopt | exact (fun o ho => (List.mem_append.1 ho).elim (hopt o) (fun h => by simp at h; subst h; exact (openW_ok _ ω).2)) | exact (fun o ho => (List.mem_append.1 ho).elim (fun h => hopt o (List.mem_of_mem_take h)) (fun h => hopt o (List.mem_of_mem_drop h)))), δ, hV⟩
    exact ψ
   refine r_region ?_
   refine Zo (run_eql rfl η η) ?_
   refine Zn asB ?_
   refine r_cond η (fun hc55 => ?_) (fun hc55 => ?_)
   ·skip
    refine Zs ?_
    refine Zn (run_mvb rfl η) ?_
    refine r_cond η (fun hc56 => ?_) (fun hc56 => ?_)
    ·skip
     refine Zs ?_
     refine Zo mvI ?_
     refine Zo (run_add rfl η η ω ω) ?_
     refine Zn asI ?_
     refine Zs ?_
     refine r_bslice (pv := [(0, S _), (1, S _), (2, S _)]) (zs := [_]) (cs := [_, _, _]) Tryz.underlying77 ty_9 η rfl η rfl η ?_
     intro b57 w58 J57 E58 B57 Y57
     have Q58 := E58.size
     replace hV := Z0 hV E58
     replace hl := hl0 _ hV
     replace hof := hof.evo0 E58
     replace hop := hop.evo0 E58
     replace B13 := B13.evo0 E58
     replace hAb13 := hAb13.evo0 E58
     replace hb := hb.evo0 E58
     replace hAs := hAs.evo0 E58
     have hrb57 : RowE w58 (some ⟨b57, 0, none⟩) b57 0 3 openW := rowLit openW B57 rfl rfl
     refine Zo mvP ?_
     refine Zr [.pointer _, .int _ _] rfl η Tryz.func38 (inx_calls hb hl ω ω ω) ?_
     rintro e w59 ⟨nx59, rfl, hx59, hE59, hn59⟩
     refine ⟨_, rfl, ?_⟩
     have Q59 := hE59.size
     replace hV := Z1 hV hE59 (.inr (by simp))
     replace hof := hof.evo hE59 (by intro g hg hm; simp at hm; subst hm; have := hof.block hg; omega)
     replace hop := hop.evo hE59 (by intro g hg hm; simp at hm; subst hm; have := hop.block hg; omega)
     replace B13 := B13.evo hE59 θ
     replace hAb13 := hAb13.evo hE59 θ
     replace hrb57 := hrb57.evo hE59 θ
     replace hb := hn59
     clear hn59
     have hAs := hb.at
     refine Zo (run_ix (nx59.toNat) rfl Tryz.underlying77 ty_9 η η ω (by show _ < 3; omega) (hrb57.addr (i := nx59.toNat) (by show _ < 3; omega))) ?_
     have hA60 := hrb57.atD (nx59.toNat) (by show _ < 3; omega)
     refine Zo (run_ld1 rfl ag_9 η (hA60.cell 0 η)) ?_
     refine Zo mvI ?_
     refine Zo (run_bld (pv := [(0, .int _ _), (1, S _), (2, .int _ _)]) (zs := [_, _, _]) (cells := [_, _, _]) rfl ty_32 η pl_32 η η) ?_
     refine r_store (v := .agg _) (vs := [_, _, _]) (cs' := [_, _, _]) η η B13 ty_32 η rfl η rfl η ?_
     intro w61 E61 V61 hb_new
     have Q61 := E61.size
     replace hV := Z1 hV E61 ε
     replace hof := hof.evo E61 (by intro g hg hm; simp at hm; subst hm; exact hofx _ hg rfl)
     replace hop := hop.evo E61 (by intro g hg hm; simp at hm; subst hm; exact hopx _ hg rfl)
     replace hb := hb.evo E61 θ
     replace B13 := hb_new
     have hAb13 := B13.at
     clear hb_new
     refine r_nil ?_
     refine r_region ?_
     refine Zo (run_mv (v := vo) rfl η) ?_
     refine Zo (run_ldN rfl ag_32 ty_32 η rfl hAb13) ?_
     refine r_append1E (u := .agg _) (y := ⟨_, _, _⟩) rfl rfl Tryz.underlying33 ty_32 η hop (fun _ => η) η (by first | exact rfl | (show _ = List.toArray [_, _, _]; first | (dsimp only; done) | exact rfl | (dsimp only; exact rfl))) ((by first | omega | (simp; omega))) ((by first | omega | (simp; omega))) ω ?_
     intro q_v62 v62 w63 E63 hov62 hlv62
     have Q63 := E63.size
     replace hV := evo_stepo hV E63 (fun g hg => .inl (by first | exact (hop.block hg).1 | (have := hop.block hg; omega)))
     replace hl := hl0 _ hV
     replace hof := hof.evo E63 (by intro g hg hm; exact hsep g hg _ (Option.mem_toList.1 hm) rfl)
     replace hb := hb.evo E63 (by intro hm; have hm2 := Option.mem_toList.1 hm; have := hop.block hm2; omega)
     replace B13 := B13.evo E63 (by intro hm; have hm2 := Option.mem_toList.1 hm; have := hob12 _ hm2; omega)
     replace hAb13 := hAb13.evo E63 (by intro hm; have hm2 := Option.mem_toList.1 hm; have := hob12 _ hm2; omega)
     refine Zn (run_asg (v := v62) rfl η) ?_
     refine r_cut_end ?_ ?_
     ·refine ⟨_, _, _, _, _, _, _, rfl, rfl, hof, (hov62.base_le ω), B13, B13.at, hb, hb.at, (by first | exact hFI.text _ | exact hFI.slot (slotW_ok _ ω).1 | exact hFI.empty (emptyW_ok _ ω).1 ω | exact hFI.open_ (openW_ok _ ω).1 ω | exact hFI.close ω ω | exact hFI.closeNew (by decide) ω), (by first | exact hNS.otherB rfl rfl | exact hNS.open_ _ _ | exact hNS.close ω (fun h9 => by first | rfl | exact absurd h9 hc56) _ | exact NS.closeNew (hc56).2), ⟨by first | omega | exact Nat.le_trans (slotW_ok _ ω).2 (by decide) | exact Nat.le_trans (emptyW_ok _ ω).2 (by decide) | exact Nat.le_trans (openW_ok _ ω).2 (by decide) | exact Nat.le_trans (nameL_len _) (Nat.le_trans (text5 hopt _) (by decide)) | decide, by first | omega | (simp; done) | (simp; omega), by omega, by omega, by omega⟩, (by first | exact hopt | exact (fun o ho => (List.mem_append.1 ho).elim (hopt o) (fun h => by simp at h; subst h; exact (openW_ok _ ω).2)) | exact (fun o ho => (List.mem_append.1 ho).elim (fun h => hopt o (List.mem_of_mem_take h)) (fun h => hopt o (List.mem_of_mem_drop h)))), δ, hV⟩
     exact ψ
    refine r_skip ?_
    refine r_cut_end ?_ ?_
    ·refine ⟨_, _, _, _, _, _, _, rfl, rfl, hof, (hop.base_le ω), B13, B13.at, hb, hb.at, (by first | exact hFI.text _ | exact hFI.slot (slotW_ok _ ω).1 | exact hFI.empty (emptyW_ok _ ω).1 ω | exact hFI.open_ (openW_ok _ ω).1 ω | exact hFI.close ω ω | exact hFI.closeNew (by decide) ω), (by first | exact hNS.otherB rfl rfl | exact hNS.open_ _ _ | exact hNS.close ω (fun h9 => by first | rfl | exact absurd h9 hc56) _ | exact NS.closeNew (hc56).2), ⟨by first | omega | exact Nat.le_trans (slotW_ok _ ω).2 (by decide) | exact Nat.le_trans (emptyW_ok _ ω).2 (by decide) | exact Nat.le_trans (openW_ok _ ω).2 (by decide) | exact Nat.le_trans (nameL_len _) (Nat.le_trans (text5 hopt _) (by decide)) | decide, by first | omega | (simp; done) | (simp; omega), by omega, by omega, by omega⟩, (by first | exact hopt | exact (fun o ho => (List.mem_append.1 ho).elim (hopt o) (fun h => by simp at h; subst h; exact (openW_ok _ ω).2)) | exact (fun o ho => (List.mem_append.1 ho).elim (fun h => hopt o (List.mem_of_mem_take h)) (fun h => hopt o (List.mem_of_mem_drop h)))), δ, hV⟩
    exact ψ
   refine r_seq ?_
   refine Zs ?_
   refine Zo (run_eql rfl η η) ?_
   refine Zn asB ?_
   refine r_cond η (fun hc64 => ?_) (fun hc64 => ?_)
   ·skip
    refine r_skip ?_
    refine r_condT η hc64 ?_
    refine Zs ?_
    refine Zo (run_mv (v := vo) rfl η) ?_
    refine Zo (run_lenOE rfl η Tryz.underlying33 hop) ?_
    refine Zo (run_sub rfl η η ω ω) ?_
    refine Zn asI ?_
    refine Zs ?_
    refine Zo mvI ?_
    refine Zn (run_geq rfl η η) ?_
    refine r_cond η (fun hc65 => ?_) (fun hc65 => ?_)
    ·skip
     refine r_seq ?_
     refine Zs ?_
     refine Zo (run_mvb rfl η) ?_
     refine Zn (run_not rfl η) ?_
     refine r_cond η (fun hc66 => ?_) (fun hc66 => ?_)
     ·skip
      refine r_region ?_
      refine Zo mvP ?_
      refine Zo mvI ?_
      refine Zo (run_add rfl η η ω ω) ?_
      refine Zr [.pointer _, .int _ _] rfl η Tryz.func38 (inx_calls hb hl ω ω ω) ?_
      rintro e w67 ⟨nx67, rfl, hx67, hE67, hn67⟩
      refine ⟨_, rfl, ?_⟩
      have Q67 := hE67.size
      replace hV := Z1 hV hE67 (.inr (by simp))
      replace hof := hof.evo hE67 (by intro g hg hm; simp at hm; subst hm; have := hof.block hg; omega)
      replace hop := hop.evo hE67 (by intro g hg hm; simp at hm; subst hm; have := hop.block hg; omega)
      replace B13 := B13.evo hE67 θ
      replace hAb13 := hAb13.evo hE67 θ
      replace hb := hn67
      clear hn67
      have hAs := hb.at
      refine Zn asI ?_
      refine r_seq ?_
      obtain ⟨ao68, g68, cp68, hv68, hr68, hg68⟩ := hop.rowOf
      subst hv68
      have hk5 := text5 hopt nx67.toNat
      have hbb13_q := B13
      have hAb13_q := hAb13
      have hr68_q := hr68
      have hV_q := hV
      refine h_region ([]) ζ ?_
      intro w69 hE70 hC71
      have Q69 := hE70.size
      replace hV := Z0 hV hE70
      replace hof := hof.evo0 hE70
      replace hop := hop.evo0 hE70
      replace B13 := B13.evo0 hE70
      replace hAb13 := hAb13.evo0 hE70
      replace hb := hb.evo0 hE70
      replace hr68 := hr68.evo0 hE70
      refine Zt (i := 0) η (fun w' hC => mvS) hC71 ?_
      refine Zt (i := 1) η (fun w' hC => mvI) hC71 ?_
      refine Zt (i := 2) η (fun w' hC => run_ix (nx67.toNat) rfl Tryz.underlying33 ty_32 η η ω ω (hr68.addr (i := nx67.toNat) ω)) hC71 ?_
      have hA72 := hr68.atD (nx67.toNat) ω
      have hA72_q := hr68_q.atD (nx67.toNat) ω
      refine Zt (i := 3) η (fun w' hC => run_fa rfl η fo_32_1) hC71 ?_
      refine Zt (i := 4) η (fun w' hC => run_ld1 rfl ag_9 η ((hA72_q.evo0 hC).cell 1 η)) hC71 ?_
      refine Zt (i := 6) η (fun w' hC => mvS) hC71 ?_
      refine Zt (i := 7) η (fun w' hC => mvI) hC71 ?_
      refine Zt (i := 8) η (fun w' hC => run_ix (nx67.toNat) rfl Tryz.underlying33 ty_32 η η ω ω (hr68.addr (i := nx67.toNat) ω)) hC71 ?_
      have hA73 := hr68.atD (nx67.toNat) ω
      have hA73_q := hr68_q.atD (nx67.toNat) ω
      refine Zt (i := 9) η (fun w' hC => run_fa rfl η fo_32_2) hC71 ?_
      refine Zt (i := 10) η (fun w' hC => run_ld1 rfl ag_3 η ((hA73_q.evo0 hC).cell 2 η)) hC71 ?_
      refine Zh (i := 5) ?_
      refine Zr [S _] rfl η Tryz.func75 (rname_calls ω) ?_
      rintro e w74 ⟨rfl, hE74⟩
      refine ⟨_, rfl, ?_⟩
      have Q74 := hE74.size
      replace hV := Z0 hV hE74
      replace hC71 := Z0 hC71 hE74
      replace hof := hof.evo0 hE74
      replace hop := hop.evo0 hE74
      replace B13 := B13.evo0 hE74
      replace hAb13 := hAb13.evo0 hE74
      replace hb := hb.evo0 hE74
      replace hr68 := hr68.evo0 hE74
      refine h_next hC71 ?_
      refine Zt (i := 11) η (fun w' hC => run_bld (pv := [(0, .int _ _), (1, S _), (2, .int _ _)]) (zs := [_, _, _]) (cells := [_, _, _]) rfl ty_32 η pl_32 η η) hC71 ?_
      refine Zh (i := 12) ?_
      refine r_store (v := .agg _) (vs := [_, _, _]) (cs' := [_, _, _]) η η B13 ty_32 η rfl η rfl η ?_
      intro w75 E75 V75 hb_new
      have Q75 := E75.size
      replace hV := Z1 hV E75 ε
      replace hof := hof.evo E75 (by intro g hg hm; simp at hm; subst hm; exact hofx _ hg rfl)
      replace hop := hop.evo E75 (by intro g hg hm; simp at hm; subst hm; exact hopx _ hg rfl)
      replace hb := hb.evo E75 θ
      replace B13 := hb_new
      have hAb13 := B13.at
      clear hb_new
      refine h_last ζ ?_
      refine h_done ζ ?_
      obtain ⟨ao76, g76, cp76, hv76, hr76, hg76⟩ := hop.rowOf
      injection hv76 with ha76 hx76 hc76
      subst ha76; subst hc76
      have hobQ := fun g hg => (hop.block (g := g) hg).2; have hobQF := fun g hg => (hof.block (g := g) hg).2
      have hbb13_q := B13
      have hAb13_q := hAb13
      have hr76_q := hr76
      have hV_q := hV
      refine h_region ([]) ζ ?_
      intro w77 hE78 hC79
      have Q77 := hE78.size
      replace hV := Z0 hV hE78
      replace hof := hof.evo0 hE78
      replace hop := hop.evo0 hE78
      replace hb := hb.evo0 hE78
      replace B13 := B13.evo0 hE78
      replace hAb13 := hAb13.evo0 hE78
      replace hr76 := hr76.evo0 hE78
      refine Zt (i := 0) η (fun w' hC => mvS) hC79 ?_
      refine Zt (i := 1) η (fun w' hC => mvI) hC79 ?_
      refine Zt (i := 2) η (fun w' hC => by exact run_slE (0) (nx67.toNat) rfl Tryz.underlying33 ty_32 η (hr76_q.evo0 hC) lo0 (at1 η ω) (by first | omega | (simp; omega)) (by first | omega | (simp; omega)) List.drop_zero) hC79 ?_
      have hS80 := (by have h9 := (hr76.take (nx67.toNat)).drop (0); rw [List.drop_zero] at h9; exact h9)
      have hbd_hS80 := hS80.bd
      refine Zt (i := 4) η (fun w' hC => mvS) hC79 ?_
      refine Zt (i := 5) η (fun w' hC => mvI) hC79 ?_
      refine Zt (i := 6) η (fun w' hC => run_add rfl η η ω ω) hC79 ?_
      refine Zt (i := 7) η (fun w' hC => by exact run_slE0 ((nx67.toNat + 1)) rfl Tryz.underlying33 ty_32 rfl η (hr76_q.evo0 hC) (at1 η ω) (by first | omega | (simp; omega))) hC79 ?_
      have hS81 := hr76.drop ((nx67.toNat + 1))
      have hbd_hS81 := hS81.bd
      refine Zh (i := 3) ?_
      refine r_appendE rfl Tryz.underlying33 ty_32 η (OwnE.nil (α := Vc.Item) _ w75.heap.size _) η η hS80 rfl ((by first | omega | (simp; omega))) ((by first | omega | (simp; omega))) ω ?_
      intro v82 w83 E83 hov82 hlv82
      have Q83 := E83.size
      replace hV := Z0 hV E83
      replace hC79 := Z0 hC79 E83
      replace hof := hof.evo0 E83
      replace hop := hop.evo0 E83
      replace hb := hb.evo0 E83
      replace B13 := B13.evo0 E83
      replace hAb13 := hAb13.evo0 E83
      replace hr76 := hr76.evo0 E83
      replace hS80 := hS80.evo0 E83
      replace hS81 := hS81.evo0 E83
      refine h_next hC79 ?_
      refine Zh (i := 8) ?_
      refine r_appendE rfl Tryz.underlying33 ty_32 η hov82 η η hS81 rfl ((by first | omega | (simp; omega))) ((by first | omega | (simp; omega))) ω ?_
      intro v84 w85 E85 hov84 hlv84
      have Q85 := E85.size
      replace hV := evo_stepo hV E85 (fun g hg => .inl (by first | exact (hov82.block hg).1 | (have := hov82.block hg; omega)))
      replace hl := hl0 _ hV
      replace hof := hof.evo E85 (by intro g hg hm; have hm2 := Option.mem_toList.1 hm; have h1 := hov82.block hm2; have h2 := hobQF g hg; omega)
      replace hop := hop.evo E85 (by intro g hg hm; have hm2 := Option.mem_toList.1 hm; have h1 := hov82.block hm2; have h2 := hobQ g hg; omega)
      replace hb := hb.evo E85 (by intro hm; have hm2 := Option.mem_toList.1 hm; have := hov82.block hm2; omega)
      replace B13 := B13.evo E85 (by intro hm; have hm2 := Option.mem_toList.1 hm; have := hov82.block hm2; omega)
      replace hAb13 := hAb13.evo E85 (by intro hm; have hm2 := Option.mem_toList.1 hm; have := hov82.block hm2; omega)
      refine h_last ζ ?_
      refine Zh (i := 9) ?_
      refine Zo (run_asg (v := v84) rfl η) ?_
      refine h_last ζ ?_
      refine h_done ζ ?_
      refine r_cut_end ?_ ?_
      ·refine ⟨_, _, _, _, _, _, _, rfl, rfl, hof, (hov84.base_le ω), B13, B13.at, hb, hb.at, (by first | exact hFI.text _ | exact hFI.slot (slotW_ok _ ω).1 | exact hFI.empty (emptyW_ok _ ω).1 ω | exact hFI.open_ (openW_ok _ ω).1 ω | exact hFI.close ω ω | exact hFI.closeNew (by decide) ω), (by first | exact hNS.otherB rfl rfl | exact hNS.open_ _ _ | exact hNS.close ω (fun h9 => by first | rfl | exact absurd h9 hc66) _ | exact NS.closeNew (hc66).2), ⟨by first | omega | exact Nat.le_trans (slotW_ok _ ω).2 (by decide) | exact Nat.le_trans (emptyW_ok _ ω).2 (by decide) | exact Nat.le_trans (openW_ok _ ω).2 (by decide) | exact Nat.le_trans (nameL_len _) (Nat.le_trans (text5 hopt _) (by decide)) | decide, by first | omega | (simp; done) | (simp; omega), by omega, by omega, by omega⟩, (by first | exact hopt | exact (fun o ho => (List.mem_append.1 ho).elim (hopt o) (fun h => by simp at h; subst h; exact (openW_ok _ ω).2)) | exact (fun o ho => (List.mem_append.1 ho).elim (fun h => hopt o (List.mem_of_mem_take h)) (fun h => hopt o (List.mem_of_mem_drop h)))), δ, hV⟩
      exact ψ
     refine r_skip ?_
     refine r_seq ?_
     obtain ⟨ao86, g86, cp86, hv86, hr86, hg86⟩ := hop.rowOf
     subst hv86
     have hk5 := text5 hopt (op.length - 1)
     have hbb13_q := B13
     have hAb13_q := hAb13
     have hr86_q := hr86
     have hV_q := hV
     refine h_region ([]) ζ ?_
     intro w87 hE88 hC89
     have Q87 := hE88.size
     replace hV := Z0 hV hE88
     replace hof := hof.evo0 hE88
     replace hop := hop.evo0 hE88
     replace B13 := B13.evo0 hE88
     replace hAb13 := hAb13.evo0 hE88
     replace hb := hb.evo0 hE88
     replace hr86 := hr86.evo0 hE88
     refine Zt (i := 0) η (fun w' hC => mvS) hC89 ?_
     refine Zt (i := 1) η (fun w' hC => mvI) hC89 ?_
     refine Zt (i := 2) η (fun w' hC => run_ix ((op.length - 1)) rfl Tryz.underlying33 ty_32 η η ω ω (hr86.addr (i := (op.length - 1)) ω)) hC89 ?_
     have hA90 := hr86.atD ((op.length - 1)) ω
     have hA90_q := hr86_q.atD ((op.length - 1)) ω
     refine Zt (i := 3) η (fun w' hC => run_fa rfl η fo_32_1) hC89 ?_
     refine Zt (i := 4) η (fun w' hC => run_ld1 rfl ag_9 η ((hA90_q.evo0 hC).cell 1 η)) hC89 ?_
     refine Zt (i := 6) η (fun w' hC => mvS) hC89 ?_
     refine Zt (i := 7) η (fun w' hC => mvI) hC89 ?_
     refine Zt (i := 8) η (fun w' hC => run_ix ((op.length - 1)) rfl Tryz.underlying33 ty_32 η η ω ω (hr86.addr (i := (op.length - 1)) ω)) hC89 ?_
     have hA91 := hr86.atD ((op.length - 1)) ω
     have hA91_q := hr86_q.atD ((op.length - 1)) ω
     refine Zt (i := 9) η (fun w' hC => run_fa rfl η fo_32_2) hC89 ?_
     refine Zt (i := 10) η (fun w' hC => run_ld1 rfl ag_3 η ((hA91_q.evo0 hC).cell 2 η)) hC89 ?_
     refine Zh (i := 5) ?_
     refine Zr [S _] rfl η Tryz.func75 (rname_calls ω) ?_
     rintro e w92 ⟨rfl, hE92⟩
     refine ⟨_, rfl, ?_⟩
     have Q92 := hE92.size
     replace hV := Z0 hV hE92
     replace hC89 := Z0 hC89 hE92
     replace hof := hof.evo0 hE92
     replace hop := hop.evo0 hE92
     replace B13 := B13.evo0 hE92
     replace hAb13 := hAb13.evo0 hE92
     replace hb := hb.evo0 hE92
     replace hr86 := hr86.evo0 hE92
     refine h_next hC89 ?_
     refine Zt (i := 11) η (fun w' hC => run_bld (pv := [(0, .int _ _), (1, S _), (2, .int _ _)]) (zs := [_, _, _]) (cells := [_, _, _]) rfl ty_32 η pl_32 η η) hC89 ?_
     refine Zh (i := 12) ?_
     refine r_store (v := .agg _) (vs := [_, _, _]) (cs' := [_, _, _]) η η B13 ty_32 η rfl η rfl η ?_
     intro w93 E93 V93 hb_new
     have Q93 := E93.size
     replace hV := Z1 hV E93 ε
     replace hof := hof.evo E93 (by intro g hg hm; simp at hm; subst hm; exact hofx _ hg rfl)
     replace hop := hop.evo E93 (by intro g hg hm; simp at hm; subst hm; exact hopx _ hg rfl)
     replace hb := hb.evo E93 θ
     replace B13 := hb_new
     have hAb13 := B13.at
     clear hb_new
     refine h_last ζ ?_
     refine h_done ζ ?_
     obtain ⟨ao94, g94, cp94, hv94, hr94, hg94⟩ := hop.rowOf
     injection hv94 with ha94 hx94 hc94
     subst ha94; subst hc94
     have hobQ := fun g hg => (hop.block (g := g) hg).2; have hobQF := fun g hg => (hof.block (g := g) hg).2
     have hbb13_q := B13
     have hAb13_q := hAb13
     have hr94_q := hr94
     have hV_q := hV
     refine h_region ([]) ζ ?_
     intro w95 hE96 hC97
     have Q95 := hE96.size
     replace hV := Z0 hV hE96
     replace hof := hof.evo0 hE96
     replace hop := hop.evo0 hE96
     replace hb := hb.evo0 hE96
     replace B13 := B13.evo0 hE96
     replace hAb13 := hAb13.evo0 hE96
     replace hr94 := hr94.evo0 hE96
     refine Zt (i := 0) η (fun w' hC => mvS) hC97 ?_
     refine Zt (i := 1) η (fun w' hC => mvI) hC97 ?_
     refine Zt (i := 2) η (fun w' hC => by exact run_slE (0) ((op.length - 1)) rfl Tryz.underlying33 ty_32 η (hr94_q.evo0 hC) lo0 (at1 η ω) (by first | omega | (simp; omega)) (by first | omega | (simp; omega)) List.drop_zero) hC97 ?_
     have hS98 := (by have h9 := (hr94.take ((op.length - 1))).drop (0); rw [List.drop_zero] at h9; exact h9)
     have hbd_hS98 := hS98.bd
     refine Zt (i := 4) η (fun w' hC => mvS) hC97 ?_
     refine Zt (i := 5) η (fun w' hC => mvI) hC97 ?_
     refine Zt (i := 6) η (fun w' hC => run_add rfl η η ω ω) hC97 ?_
     refine Zt (i := 7) η (fun w' hC => by exact run_slE0 (((op.length - 1) + 1)) rfl Tryz.underlying33 ty_32 rfl η (hr94_q.evo0 hC) (at1 η ω) (by first | omega | (simp; omega))) hC97 ?_
     have hS99 := hr94.drop (((op.length - 1) + 1))
     have hbd_hS99 := hS99.bd
     refine Zh (i := 3) ?_
     refine r_appendE rfl Tryz.underlying33 ty_32 η (OwnE.nil (α := Vc.Item) _ w93.heap.size _) η η hS98 rfl ((by first | omega | (simp; omega))) ((by first | omega | (simp; omega))) ω ?_
     intro v100 w101 E101 hov100 hlv100
     have Q101 := E101.size
     replace hV := Z0 hV E101
     replace hC97 := Z0 hC97 E101
     replace hof := hof.evo0 E101
     replace hop := hop.evo0 E101
     replace hb := hb.evo0 E101
     replace B13 := B13.evo0 E101
     replace hAb13 := hAb13.evo0 E101
     replace hr94 := hr94.evo0 E101
     replace hS98 := hS98.evo0 E101
     replace hS99 := hS99.evo0 E101
     refine h_next hC97 ?_
     refine Zh (i := 8) ?_
     refine r_appendE rfl Tryz.underlying33 ty_32 η hov100 η η hS99 rfl ((by first | omega | (simp; omega))) ((by first | omega | (simp; omega))) ω ?_
     intro v102 w103 E103 hov102 hlv102
     have Q103 := E103.size
     replace hV := evo_stepo hV E103 (fun g hg => .inl (by first | exact (hov100.block hg).1 | (have := hov100.block hg; omega)))
     replace hl := hl0 _ hV
     replace hof := hof.evo E103 (by intro g hg hm; have hm2 := Option.mem_toList.1 hm; have h1 := hov100.block hm2; have h2 := hobQF g hg; omega)
     replace hop := hop.evo E103 (by intro g hg hm; have hm2 := Option.mem_toList.1 hm; have h1 := hov100.block hm2; have h2 := hobQ g hg; omega)
     replace hb := hb.evo E103 (by intro hm; have hm2 := Option.mem_toList.1 hm; have := hov100.block hm2; omega)
     replace B13 := B13.evo E103 (by intro hm; have hm2 := Option.mem_toList.1 hm; have := hov100.block hm2; omega)
     replace hAb13 := hAb13.evo E103 (by intro hm; have hm2 := Option.mem_toList.1 hm; have := hov100.block hm2; omega)
     refine h_last ζ ?_
     refine Zh (i := 9) ?_
     refine Zo (run_asg (v := v102) rfl η) ?_
     refine h_last ζ ?_
     refine h_done ζ ?_
     refine r_cut_end ?_ ?_
     ·refine ⟨_, _, _, _, _, _, _, rfl, rfl, hof, (hov102.base_le ω), B13, B13.at, hb, hb.at, (by first | exact hFI.text _ | exact hFI.slot (slotW_ok _ ω).1 | exact hFI.empty (emptyW_ok _ ω).1 ω | exact hFI.open_ (openW_ok _ ω).1 ω | exact hFI.close ω ω | exact hFI.closeNew (by decide) ω), (by first | exact hNS.otherB rfl rfl | exact hNS.open_ _ _ | exact hNS.close ω (fun h9 => by first | rfl | exact absurd h9 hc66) _ | exact NS.closeNew (hc66).2), ⟨by first | omega | exact Nat.le_trans (slotW_ok _ ω).2 (by decide) | exact Nat.le_trans (emptyW_ok _ ω).2 (by decide) | exact Nat.le_trans (openW_ok _ ω).2 (by decide) | exact Nat.le_trans (nameL_len _) (Nat.le_trans (text5 hopt _) (by decide)) | decide, by first | omega | (simp; done) | (simp; omega), by omega, by omega, by omega⟩, (by first | exact hopt | exact (fun o ho => (List.mem_append.1 ho).elim (hopt o) (fun h => by simp at h; subst h; exact (openW_ok _ ω).2)) | exact (fun o ho => (List.mem_append.1 ho).elim (fun h => hopt o (List.mem_of_mem_take h)) (fun h => hopt o (List.mem_of_mem_drop h)))), δ, hV⟩
     exact ψ
    refine Zs ?_
    refine Zo (run_mvb rfl η) ?_
    refine Zo mvB ?_
    refine r_g rfl (wantT η) rfl (fun hg => run_mvb rfl η) ?_
    refine r_g rfl (wantT η) rfl (fun hg => run_not rfl (glv η (fun h => h) hg)) ?_
    refine Zn (run_pick_and rfl η (fun hq => glv η (fun h => h) hq) rfl) ?_
    refine r_cond η (fun hc104 => ?_) (fun hc104 => ?_)
    ·skip
     refine Zs ?_
     refine Zo mvI ?_
     refine Zo (run_add rfl η η ω ω) ?_
     refine Zn asI ?_
     refine r_region ?_
     refine Zo mvI ?_
     refine Zo (run_bld (pv := [(0, .int _ _), (1, S _), (2, .int _ _)]) (zs := [_, _, _]) (cells := [_, _, _]) rfl ty_32 η pl_32 η η) ?_
     refine r_store (v := .agg _) (vs := [_, _, _]) (cs' := [_, _, _]) η η B13 ty_32 η rfl η rfl η ?_
     intro w105 E105 V105 hb_new
     have Q105 := E105.size
     replace hV := Z1 hV E105 ε
     replace hl := hl0 _ hV
     replace hof := hof.evo E105 (by intro g hg hm; simp at hm; subst hm; exact hofx _ hg rfl)
     replace hop := hop.evo E105 (by intro g hg hm; simp at hm; subst hm; exact hopx _ hg rfl)
     replace hb := hb.evo E105 θ
     replace B13 := hb_new
     have hAb13 := B13.at
     clear hb_new
     refine r_nil ?_
     refine r_cut_end ?_ ?_
     ·refine ⟨_, _, _, _, _, _, _, rfl, rfl, hof, (hop.base_le ω), B13, B13.at, hb, hb.at, (by first | exact hFI.text _ | exact hFI.slot (slotW_ok _ ω).1 | exact hFI.empty (emptyW_ok _ ω).1 ω | exact hFI.open_ (openW_ok _ ω).1 ω | exact hFI.close ω ω | exact hFI.closeNew (by decide) ω), (by first | exact hNS.otherB rfl rfl | exact hNS.open_ _ _ | exact hNS.close ω (fun h9 => by first | rfl | exact absurd h9 hc104) _ | exact NS.closeNew (hc104).2), ⟨by first | omega | exact Nat.le_trans (slotW_ok _ ω).2 (by decide) | exact Nat.le_trans (emptyW_ok _ ω).2 (by decide) | exact Nat.le_trans (openW_ok _ ω).2 (by decide) | exact Nat.le_trans (nameL_len _) (Nat.le_trans (text5 hopt _) (by decide)) | decide, by first | omega | (simp; done) | (simp; omega), by omega, by omega, by omega⟩, (by first | exact hopt | exact (fun o ho => (List.mem_append.1 ho).elim (hopt o) (fun h => by simp at h; subst h; exact (openW_ok _ ω).2)) | exact (fun o ho => (List.mem_append.1 ho).elim (fun h => hopt o (List.mem_of_mem_take h)) (fun h => hopt o (List.mem_of_mem_drop h)))), δ, hV⟩
     exact ψ
    refine r_skip ?_
    refine r_cut_end ?_ ?_
    ·refine ⟨_, _, _, _, _, _, _, rfl, rfl, hof, (hop.base_le ω), B13, B13.at, hb, hb.at, (by first | exact hFI.text _ | exact hFI.slot (slotW_ok _ ω).1 | exact hFI.empty (emptyW_ok _ ω).1 ω | exact hFI.open_ (openW_ok _ ω).1 ω | exact hFI.close ω ω | exact hFI.closeNew (by decide) ω), (by first | exact hNS.otherB rfl rfl | exact hNS.open_ _ _ | exact hNS.close ω (fun h9 => by first | rfl | exact absurd h9 hc104) _ | exact NS.closeNew (hc104).2), ⟨by first | omega | exact Nat.le_trans (slotW_ok _ ω).2 (by decide) | exact Nat.le_trans (emptyW_ok _ ω).2 (by decide) | exact Nat.le_trans (openW_ok _ ω).2 (by decide) | exact Nat.le_trans (nameL_len _) (Nat.le_trans (text5 hopt _) (by decide)) | decide, by first | omega | (simp; done) | (simp; omega), by omega, by omega, by omega⟩, (by first | exact hopt | exact (fun o ho => (List.mem_append.1 ho).elim (hopt o) (fun h => by simp at h; subst h; exact (openW_ok _ ω).2)) | exact (fun o ho => (List.mem_append.1 ho).elim (fun h => hopt o (List.mem_of_mem_take h)) (fun h => hopt o (List.mem_of_mem_drop h)))), δ, hV⟩
    exact ψ
   refine r_region ?_
   refine Zo (run_eql rfl η η) ?_
   refine Zn asB ?_
   refine r_cond η (fun hc106 => ?_) (fun hc106 => ?_)
   ·skip
    refine Zs ?_
    refine Zo (run_mv (v := vo) rfl η) ?_
    refine Zo (run_lenOE rfl η Tryz.underlying33 hop) ?_
    refine Zo (run_sub rfl η η ω ω) ?_
    refine Zn asI ?_
    refine Zs ?_
    refine Zo mvI ?_
    refine Zn (run_geq rfl η η) ?_
    refine r_cond η (fun hc107 => ?_) (fun hc107 => ?_)
    ·skip
     refine r_seq ?_
     refine Zs ?_
     refine Zo (run_mvb rfl η) ?_
     refine Zn (run_not rfl η) ?_
     refine r_cond η (fun hc108 => ?_) (fun hc108 => ?_)
     ·skip
      refine r_region ?_
      refine Zo mvP ?_
      refine Zo mvI ?_
      refine Zo (run_add rfl η η ω ω) ?_
      refine Zr [.pointer _, .int _ _] rfl η Tryz.func38 (inx_calls hb hl ω ω ω) ?_
      rintro e w109 ⟨nx109, rfl, hx109, hE109, hn109⟩
      refine ⟨_, rfl, ?_⟩
      have Q109 := hE109.size
      replace hV := Z1 hV hE109 (.inr (by simp))
      replace hof := hof.evo hE109 (by intro g hg hm; simp at hm; subst hm; have := hof.block hg; omega)
      replace hop := hop.evo hE109 (by intro g hg hm; simp at hm; subst hm; have := hop.block hg; omega)
      replace B13 := B13.evo hE109 θ
      replace hAb13 := hAb13.evo hE109 θ
      replace hb := hn109
      clear hn109
      have hAs := hb.at
      refine Zn asI ?_
      refine r_seq ?_
      obtain ⟨ao110, g110, cp110, hv110, hr110, hg110⟩ := hop.rowOf
      subst hv110
      have hk5 := text5 hopt nx109.toNat
      have hbb13_q := B13
      have hAb13_q := hAb13
      have hr110_q := hr110
      have hV_q := hV
      refine h_region ([]) ζ ?_
      intro w111 hE112 hC113
      have Q111 := hE112.size
      replace hV := Z0 hV hE112
      replace hof := hof.evo0 hE112
      replace hop := hop.evo0 hE112
      replace B13 := B13.evo0 hE112
      replace hAb13 := hAb13.evo0 hE112
      replace hb := hb.evo0 hE112
      replace hr110 := hr110.evo0 hE112
      refine Zt (i := 0) η (fun w' hC => mvS) hC113 ?_
      refine Zt (i := 1) η (fun w' hC => mvI) hC113 ?_
      refine Zt (i := 2) η (fun w' hC => run_ix (nx109.toNat) rfl Tryz.underlying33 ty_32 η η ω ω (hr110.addr (i := nx109.toNat) ω)) hC113 ?_
      have hA114 := hr110.atD (nx109.toNat) ω
      have hA114_q := hr110_q.atD (nx109.toNat) ω
      refine Zt (i := 3) η (fun w' hC => run_fa rfl η fo_32_1) hC113 ?_
      refine Zt (i := 4) η (fun w' hC => run_ld1 rfl ag_9 η ((hA114_q.evo0 hC).cell 1 η)) hC113 ?_
      refine Zt (i := 6) η (fun w' hC => mvS) hC113 ?_
      refine Zt (i := 7) η (fun w' hC => mvI) hC113 ?_
      refine Zt (i := 8) η (fun w' hC => run_ix (nx109.toNat) rfl Tryz.underlying33 ty_32 η η ω ω (hr110.addr (i := nx109.toNat) ω)) hC113 ?_
      have hA115 := hr110.atD (nx109.toNat) ω
      have hA115_q := hr110_q.atD (nx109.toNat) ω
      refine Zt (i := 9) η (fun w' hC => run_fa rfl η fo_32_2) hC113 ?_
      refine Zt (i := 10) η (fun w' hC => run_ld1 rfl ag_3 η ((hA115_q.evo0 hC).cell 2 η)) hC113 ?_
      refine Zh (i := 5) ?_
      refine Zr [S _] rfl η Tryz.func75 (rname_calls ω) ?_
      rintro e w116 ⟨rfl, hE116⟩
      refine ⟨_, rfl, ?_⟩
      have Q116 := hE116.size
      replace hV := Z0 hV hE116
      replace hC113 := Z0 hC113 hE116
      replace hof := hof.evo0 hE116
      replace hop := hop.evo0 hE116
      replace B13 := B13.evo0 hE116
      replace hAb13 := hAb13.evo0 hE116
      replace hb := hb.evo0 hE116
      replace hr110 := hr110.evo0 hE116
      refine h_next hC113 ?_
      refine Zt (i := 11) η (fun w' hC => run_bld (pv := [(0, .int _ _), (1, S _), (2, .int _ _)]) (zs := [_, _, _]) (cells := [_, _, _]) rfl ty_32 η pl_32 η η) hC113 ?_
      refine Zh (i := 12) ?_
      refine r_store (v := .agg _) (vs := [_, _, _]) (cs' := [_, _, _]) η η B13 ty_32 η rfl η rfl η ?_
      intro w117 E117 V117 hb_new
      have Q117 := E117.size
      replace hV := Z1 hV E117 ε
      replace hof := hof.evo E117 (by intro g hg hm; simp at hm; subst hm; exact hofx _ hg rfl)
      replace hop := hop.evo E117 (by intro g hg hm; simp at hm; subst hm; exact hopx _ hg rfl)
      replace hb := hb.evo E117 θ
      replace B13 := hb_new
      have hAb13 := B13.at
      clear hb_new
      refine h_last ζ ?_
      refine h_done ζ ?_
      obtain ⟨ao118, g118, cp118, hv118, hr118, hg118⟩ := hop.rowOf
      injection hv118 with ha118 hx118 hc118
      subst ha118; subst hc118
      have hobQ := fun g hg => (hop.block (g := g) hg).2; have hobQF := fun g hg => (hof.block (g := g) hg).2
      have hbb13_q := B13
      have hAb13_q := hAb13
      have hr118_q := hr118
      have hV_q := hV
      refine h_region ([]) ζ ?_
      intro w119 hE120 hC121
      have Q119 := hE120.size
      replace hV := Z0 hV hE120
      replace hof := hof.evo0 hE120
      replace hop := hop.evo0 hE120
      replace hb := hb.evo0 hE120
      replace B13 := B13.evo0 hE120
      replace hAb13 := hAb13.evo0 hE120
      replace hr118 := hr118.evo0 hE120
      refine Zt (i := 0) η (fun w' hC => mvS) hC121 ?_
      refine Zt (i := 1) η (fun w' hC => mvI) hC121 ?_
      refine Zt (i := 2) η (fun w' hC => by exact run_slE (0) (nx109.toNat) rfl Tryz.underlying33 ty_32 η (hr118_q.evo0 hC) lo0 (at1 η ω) (by first | omega | (simp; omega)) (by first | omega | (simp; omega)) List.drop_zero) hC121 ?_
      have hS122 := (by have h9 := (hr118.take (nx109.toNat)).drop (0); rw [List.drop_zero] at h9; exact h9)
      have hbd_hS122 := hS122.bd
      refine Zt (i := 4) η (fun w' hC => mvS) hC121 ?_
      refine Zt (i := 5) η (fun w' hC => mvI) hC121 ?_
      refine Zt (i := 6) η (fun w' hC => run_add rfl η η ω ω) hC121 ?_
      refine Zt (i := 7) η (fun w' hC => by exact run_slE0 ((nx109.toNat + 1)) rfl Tryz.underlying33 ty_32 rfl η (hr118_q.evo0 hC) (at1 η ω) (by first | omega | (simp; omega))) hC121 ?_
      have hS123 := hr118.drop ((nx109.toNat + 1))
      have hbd_hS123 := hS123.bd
      refine Zh (i := 3) ?_
      refine r_appendE rfl Tryz.underlying33 ty_32 η (OwnE.nil (α := Vc.Item) _ w117.heap.size _) η η hS122 rfl ((by first | omega | (simp; omega))) ((by first | omega | (simp; omega))) ω ?_
      intro v124 w125 E125 hov124 hlv124
      have Q125 := E125.size
      replace hV := Z0 hV E125
      replace hC121 := Z0 hC121 E125
      replace hof := hof.evo0 E125
      replace hop := hop.evo0 E125
      replace hb := hb.evo0 E125
      replace B13 := B13.evo0 E125
      replace hAb13 := hAb13.evo0 E125
      replace hr118 := hr118.evo0 E125
      replace hS122 := hS122.evo0 E125
      replace hS123 := hS123.evo0 E125
      refine h_next hC121 ?_
      refine Zh (i := 8) ?_
      refine r_appendE rfl Tryz.underlying33 ty_32 η hov124 η η hS123 rfl ((by first | omega | (simp; omega))) ((by first | omega | (simp; omega))) ω ?_
      intro v126 w127 E127 hov126 hlv126
      have Q127 := E127.size
      replace hV := evo_stepo hV E127 (fun g hg => .inl (by first | exact (hov124.block hg).1 | (have := hov124.block hg; omega)))
      replace hl := hl0 _ hV
      replace hof := hof.evo E127 (by intro g hg hm; have hm2 := Option.mem_toList.1 hm; have h1 := hov124.block hm2; have h2 := hobQF g hg; omega)
      replace hop := hop.evo E127 (by intro g hg hm; have hm2 := Option.mem_toList.1 hm; have h1 := hov124.block hm2; have h2 := hobQ g hg; omega)
      replace hb := hb.evo E127 (by intro hm; have hm2 := Option.mem_toList.1 hm; have := hov124.block hm2; omega)
      replace B13 := B13.evo E127 (by intro hm; have hm2 := Option.mem_toList.1 hm; have := hov124.block hm2; omega)
      replace hAb13 := hAb13.evo E127 (by intro hm; have hm2 := Option.mem_toList.1 hm; have := hov124.block hm2; omega)
      refine h_last ζ ?_
      refine Zh (i := 9) ?_
      refine Zo (run_asg (v := v126) rfl η) ?_
      refine h_last ζ ?_
      refine h_done ζ ?_
      refine r_cut_end ?_ ?_
      ·refine ⟨_, _, _, _, _, _, _, rfl, rfl, hof, (hov126.base_le ω), B13, B13.at, hb, hb.at, (by first | exact hFI.text _ | exact hFI.slot (slotW_ok _ ω).1 | exact hFI.empty (emptyW_ok _ ω).1 ω | exact hFI.open_ (openW_ok _ ω).1 ω | exact hFI.close ω ω | exact hFI.closeNew (by decide) ω), (by first | exact hNS.otherB rfl rfl | exact hNS.open_ _ _ | exact hNS.close ω (fun h9 => by first | rfl | exact absurd h9 hc108) _ | exact NS.closeNew (hc108).2), ⟨by first | omega | exact Nat.le_trans (slotW_ok _ ω).2 (by decide) | exact Nat.le_trans (emptyW_ok _ ω).2 (by decide) | exact Nat.le_trans (openW_ok _ ω).2 (by decide) | exact Nat.le_trans (nameL_len _) (Nat.le_trans (text5 hopt _) (by decide)) | decide, by first | omega | (simp; done) | (simp; omega), by omega, by omega, by omega⟩, (by first | exact hopt | exact (fun o ho => (List.mem_append.1 ho).elim (hopt o) (fun h => by simp at h; subst h; exact (openW_ok _ ω).2)) | exact (fun o ho => (List.mem_append.1 ho).elim (fun h => hopt o (List.mem_of_mem_take h)) (fun h => hopt o (List.mem_of_mem_drop h)))), δ, hV⟩
      exact ψ
     refine r_skip ?_
     refine r_seq ?_
     obtain ⟨ao128, g128, cp128, hv128, hr128, hg128⟩ := hop.rowOf
     subst hv128
     have hk5 := text5 hopt (op.length - 1)
     have hbb13_q := B13
     have hAb13_q := hAb13
     have hr128_q := hr128
     have hV_q := hV
     refine h_region ([]) ζ ?_
     intro w129 hE130 hC131
     have Q129 := hE130.size
     replace hV := Z0 hV hE130
     replace hof := hof.evo0 hE130
     replace hop := hop.evo0 hE130
     replace B13 := B13.evo0 hE130
     replace hAb13 := hAb13.evo0 hE130
     replace hb := hb.evo0 hE130
     replace hr128 := hr128.evo0 hE130
     refine Zt (i := 0) η (fun w' hC => mvS) hC131 ?_
     refine Zt (i := 1) η (fun w' hC => mvI) hC131 ?_
     refine Zt (i := 2) η (fun w' hC => run_ix ((op.length - 1)) rfl Tryz.underlying33 ty_32 η η ω ω (hr128.addr (i := (op.length - 1)) ω)) hC131 ?_
     have hA132 := hr128.atD ((op.length - 1)) ω
     have hA132_q := hr128_q.atD ((op.length - 1)) ω
     refine Zt (i := 3) η (fun w' hC => run_fa rfl η fo_32_1) hC131 ?_
     refine Zt (i := 4) η (fun w' hC => run_ld1 rfl ag_9 η ((hA132_q.evo0 hC).cell 1 η)) hC131 ?_
     refine Zt (i := 6) η (fun w' hC => mvS) hC131 ?_
     refine Zt (i := 7) η (fun w' hC => mvI) hC131 ?_
     refine Zt (i := 8) η (fun w' hC => run_ix ((op.length - 1)) rfl Tryz.underlying33 ty_32 η η ω ω (hr128.addr (i := (op.length - 1)) ω)) hC131 ?_
     have hA133 := hr128.atD ((op.length - 1)) ω
     have hA133_q := hr128_q.atD ((op.length - 1)) ω
     refine Zt (i := 9) η (fun w' hC => run_fa rfl η fo_32_2) hC131 ?_
     refine Zt (i := 10) η (fun w' hC => run_ld1 rfl ag_3 η ((hA133_q.evo0 hC).cell 2 η)) hC131 ?_
     refine Zh (i := 5) ?_
     refine Zr [S _] rfl η Tryz.func75 (rname_calls ω) ?_
     rintro e w134 ⟨rfl, hE134⟩
     refine ⟨_, rfl, ?_⟩
     have Q134 := hE134.size
     replace hV := Z0 hV hE134
     replace hC131 := Z0 hC131 hE134
     replace hof := hof.evo0 hE134
     replace hop := hop.evo0 hE134
     replace B13 := B13.evo0 hE134
     replace hAb13 := hAb13.evo0 hE134
     replace hb := hb.evo0 hE134
     replace hr128 := hr128.evo0 hE134
     refine h_next hC131 ?_
     refine Zt (i := 11) η (fun w' hC => run_bld (pv := [(0, .int _ _), (1, S _), (2, .int _ _)]) (zs := [_, _, _]) (cells := [_, _, _]) rfl ty_32 η pl_32 η η) hC131 ?_
     refine Zh (i := 12) ?_
     refine r_store (v := .agg _) (vs := [_, _, _]) (cs' := [_, _, _]) η η B13 ty_32 η rfl η rfl η ?_
     intro w135 E135 V135 hb_new
     have Q135 := E135.size
     replace hV := Z1 hV E135 ε
     replace hof := hof.evo E135 (by intro g hg hm; simp at hm; subst hm; exact hofx _ hg rfl)
     replace hop := hop.evo E135 (by intro g hg hm; simp at hm; subst hm; exact hopx _ hg rfl)
     replace hb := hb.evo E135 θ
     replace B13 := hb_new
     have hAb13 := B13.at
     clear hb_new
     refine h_last ζ ?_
     refine h_done ζ ?_
     obtain ⟨ao136, g136, cp136, hv136, hr136, hg136⟩ := hop.rowOf
     injection hv136 with ha136 hx136 hc136
     subst ha136; subst hc136
     have hobQ := fun g hg => (hop.block (g := g) hg).2; have hobQF := fun g hg => (hof.block (g := g) hg).2
     have hbb13_q := B13
     have hAb13_q := hAb13
     have hr136_q := hr136
     have hV_q := hV
     refine h_region ([]) ζ ?_
     intro w137 hE138 hC139
     have Q137 := hE138.size
     replace hV := Z0 hV hE138
     replace hof := hof.evo0 hE138
     replace hop := hop.evo0 hE138
     replace hb := hb.evo0 hE138
     replace B13 := B13.evo0 hE138
     replace hAb13 := hAb13.evo0 hE138
     replace hr136 := hr136.evo0 hE138
     refine Zt (i := 0) η (fun w' hC => mvS) hC139 ?_
     refine Zt (i := 1) η (fun w' hC => mvI) hC139 ?_
     refine Zt (i := 2) η (fun w' hC => by exact run_slE (0) ((op.length - 1)) rfl Tryz.underlying33 ty_32 η (hr136_q.evo0 hC) lo0 (at1 η ω) (by first | omega | (simp; omega)) (by first | omega | (simp; omega)) List.drop_zero) hC139 ?_
     have hS140 := (by have h9 := (hr136.take ((op.length - 1))).drop (0); rw [List.drop_zero] at h9; exact h9)
     have hbd_hS140 := hS140.bd
     refine Zt (i := 4) η (fun w' hC => mvS) hC139 ?_
     refine Zt (i := 5) η (fun w' hC => mvI) hC139 ?_
     refine Zt (i := 6) η (fun w' hC => run_add rfl η η ω ω) hC139 ?_
     refine Zt (i := 7) η (fun w' hC => by exact run_slE0 (((op.length - 1) + 1)) rfl Tryz.underlying33 ty_32 rfl η (hr136_q.evo0 hC) (at1 η ω) (by first | omega | (simp; omega))) hC139 ?_
     have hS141 := hr136.drop (((op.length - 1) + 1))
     have hbd_hS141 := hS141.bd
     refine Zh (i := 3) ?_
     refine r_appendE rfl Tryz.underlying33 ty_32 η (OwnE.nil (α := Vc.Item) _ w135.heap.size _) η η hS140 rfl ((by first | omega | (simp; omega))) ((by first | omega | (simp; omega))) ω ?_
     intro v142 w143 E143 hov142 hlv142
     have Q143 := E143.size
     replace hV := Z0 hV E143
     replace hC139 := Z0 hC139 E143
     replace hof := hof.evo0 E143
     replace hop := hop.evo0 E143
     replace hb := hb.evo0 E143
     replace B13 := B13.evo0 E143
     replace hAb13 := hAb13.evo0 E143
     replace hr136 := hr136.evo0 E143
     replace hS140 := hS140.evo0 E143
     replace hS141 := hS141.evo0 E143
     refine h_next hC139 ?_
     refine Zh (i := 8) ?_
     refine r_appendE rfl Tryz.underlying33 ty_32 η hov142 η η hS141 rfl ((by first | omega | (simp; omega))) ((by first | omega | (simp; omega))) ω ?_
     intro v144 w145 E145 hov144 hlv144
     have Q145 := E145.size
     replace hV := evo_stepo hV E145 (fun g hg => .inl (by first | exact (hov142.block hg).1 | (have := hov142.block hg; omega)))
     replace hl := hl0 _ hV
     replace hof := hof.evo E145 (by intro g hg hm; have hm2 := Option.mem_toList.1 hm; have h1 := hov142.block hm2; have h2 := hobQF g hg; omega)
     replace hop := hop.evo E145 (by intro g hg hm; have hm2 := Option.mem_toList.1 hm; have h1 := hov142.block hm2; have h2 := hobQ g hg; omega)
     replace hb := hb.evo E145 (by intro hm; have hm2 := Option.mem_toList.1 hm; have := hov142.block hm2; omega)
     replace B13 := B13.evo E145 (by intro hm; have hm2 := Option.mem_toList.1 hm; have := hov142.block hm2; omega)
     replace hAb13 := hAb13.evo E145 (by intro hm; have hm2 := Option.mem_toList.1 hm; have := hov142.block hm2; omega)
     refine h_last ζ ?_
     refine Zh (i := 9) ?_
     refine Zo (run_asg (v := v144) rfl η) ?_
     refine h_last ζ ?_
     refine h_done ζ ?_
     refine r_cut_end ?_ ?_
     ·refine ⟨_, _, _, _, _, _, _, rfl, rfl, hof, (hov144.base_le ω), B13, B13.at, hb, hb.at, (by first | exact hFI.text _ | exact hFI.slot (slotW_ok _ ω).1 | exact hFI.empty (emptyW_ok _ ω).1 ω | exact hFI.open_ (openW_ok _ ω).1 ω | exact hFI.close ω ω | exact hFI.closeNew (by decide) ω), (by first | exact hNS.otherB rfl rfl | exact hNS.open_ _ _ | exact hNS.close ω (fun h9 => by first | rfl | exact absurd h9 hc108) _ | exact NS.closeNew (hc108).2), ⟨by first | omega | exact Nat.le_trans (slotW_ok _ ω).2 (by decide) | exact Nat.le_trans (emptyW_ok _ ω).2 (by decide) | exact Nat.le_trans (openW_ok _ ω).2 (by decide) | exact Nat.le_trans (nameL_len _) (Nat.le_trans (text5 hopt _) (by decide)) | decide, by first | omega | (simp; done) | (simp; omega), by omega, by omega, by omega⟩, (by first | exact hopt | exact (fun o ho => (List.mem_append.1 ho).elim (hopt o) (fun h => by simp at h; subst h; exact (openW_ok _ ω).2)) | exact (fun o ho => (List.mem_append.1 ho).elim (fun h => hopt o (List.mem_of_mem_take h)) (fun h => hopt o (List.mem_of_mem_drop h)))), δ, hV⟩
     exact ψ
    refine Zs ?_
    refine Zo (run_mvb rfl η) ?_
    refine Zo mvB ?_
    refine r_g rfl (wantT η) rfl (fun hg => run_mvb rfl η) ?_
    refine r_g rfl (wantT η) rfl (fun hg => run_not rfl (glv η (fun h => h) hg)) ?_
    refine Zn (run_pick_and rfl η (fun hq => glv η (fun h => h) hq) rfl) ?_
    refine r_cond η (fun hc146 => ?_) (fun hc146 => ?_)
    ·skip
     refine Zs ?_
     refine Zo mvI ?_
     refine Zo (run_add rfl η η ω ω) ?_
     refine Zn asI ?_
     refine r_region ?_
     refine Zo mvI ?_
     refine Zo (run_bld (pv := [(0, .int _ _), (1, S _), (2, .int _ _)]) (zs := [_, _, _]) (cells := [_, _, _]) rfl ty_32 η pl_32 η η) ?_
     refine r_store (v := .agg _) (vs := [_, _, _]) (cs' := [_, _, _]) η η B13 ty_32 η rfl η rfl η ?_
     intro w147 E147 V147 hb_new
     have Q147 := E147.size
     replace hV := Z1 hV E147 ε
     replace hl := hl0 _ hV
     replace hof := hof.evo E147 (by intro g hg hm; simp at hm; subst hm; exact hofx _ hg rfl)
     replace hop := hop.evo E147 (by intro g hg hm; simp at hm; subst hm; exact hopx _ hg rfl)
     replace hb := hb.evo E147 θ
     replace B13 := hb_new
     have hAb13 := B13.at
     clear hb_new
     refine r_nil ?_
     refine r_cut_end ?_ ?_
     ·refine ⟨_, _, _, _, _, _, _, rfl, rfl, hof, (hop.base_le ω), B13, B13.at, hb, hb.at, (by first | exact hFI.text _ | exact hFI.slot (slotW_ok _ ω).1 | exact hFI.empty (emptyW_ok _ ω).1 ω | exact hFI.open_ (openW_ok _ ω).1 ω | exact hFI.close ω ω | exact hFI.closeNew (by decide) ω), (by first | exact hNS.otherB rfl rfl | exact hNS.open_ _ _ | exact hNS.close ω (fun h9 => by first | rfl | exact absurd h9 hc146) _ | exact NS.closeNew (hc146).2), ⟨by first | omega | exact Nat.le_trans (slotW_ok _ ω).2 (by decide) | exact Nat.le_trans (emptyW_ok _ ω).2 (by decide) | exact Nat.le_trans (openW_ok _ ω).2 (by decide) | exact Nat.le_trans (nameL_len _) (Nat.le_trans (text5 hopt _) (by decide)) | decide, by first | omega | (simp; done) | (simp; omega), by omega, by omega, by omega⟩, (by first | exact hopt | exact (fun o ho => (List.mem_append.1 ho).elim (hopt o) (fun h => by simp at h; subst h; exact (openW_ok _ ω).2)) | exact (fun o ho => (List.mem_append.1 ho).elim (fun h => hopt o (List.mem_of_mem_take h)) (fun h => hopt o (List.mem_of_mem_drop h)))), δ, hV⟩
     exact ψ
    refine r_skip ?_
    refine r_cut_end ?_ ?_
    ·refine ⟨_, _, _, _, _, _, _, rfl, rfl, hof, (hop.base_le ω), B13, B13.at, hb, hb.at, (by first | exact hFI.text _ | exact hFI.slot (slotW_ok _ ω).1 | exact hFI.empty (emptyW_ok _ ω).1 ω | exact hFI.open_ (openW_ok _ ω).1 ω | exact hFI.close ω ω | exact hFI.closeNew (by decide) ω), (by first | exact hNS.otherB rfl rfl | exact hNS.open_ _ _ | exact hNS.close ω (fun h9 => by first | rfl | exact absurd h9 hc146) _ | exact NS.closeNew (hc146).2), ⟨by first | omega | exact Nat.le_trans (slotW_ok _ ω).2 (by decide) | exact Nat.le_trans (emptyW_ok _ ω).2 (by decide) | exact Nat.le_trans (openW_ok _ ω).2 (by decide) | exact Nat.le_trans (nameL_len _) (Nat.le_trans (text5 hopt _) (by decide)) | decide, by first | omega | (simp; done) | (simp; omega), by omega, by omega, by omega⟩, (by first | exact hopt | exact (fun o ho => (List.mem_append.1 ho).elim (hopt o) (fun h => by simp at h; subst h; exact (openW_ok _ ω).2)) | exact (fun o ho => (List.mem_append.1 ho).elim (fun h => hopt o (List.mem_of_mem_take h)) (fun h => hopt o (List.mem_of_mem_drop h)))), δ, hV⟩
    exact ψ
   refine r_skip ?_
   refine r_cut_end ?_ ?_
   ·refine ⟨_, _, _, _, _, _, _, rfl, rfl, hof, (hop.base_le ω), B13, B13.at, hb, hb.at, (by first | exact hFI.text _ | exact hFI.slot (slotW_ok _ ω).1 | exact hFI.empty (emptyW_ok _ ω).1 ω | exact hFI.open_ (openW_ok _ ω).1 ω | exact hFI.close ω ω | exact hFI.closeNew (by decide) ω), (by first | exact hNS.otherB rfl rfl | exact hNS.open_ _ _ | exact hNS.close ω (fun h9 => by first | rfl | exact absurd h9 hc106) _ | exact NS.closeNew (hc106).2), ⟨by first | omega | exact Nat.le_trans (slotW_ok _ ω).2 (by decide) | exact Nat.le_trans (emptyW_ok _ ω).2 (by decide) | exact Nat.le_trans (openW_ok _ ω).2 (by decide) | exact Nat.le_trans (nameL_len _) (Nat.le_trans (text5 hopt _) (by decide)) | decide, by first | omega | (simp; done) | (simp; omega), by omega, by omega, by omega⟩, (by first | exact hopt | exact (fun o ho => (List.mem_append.1 ho).elim (hopt o) (fun h => by simp at h; subst h; exact (openW_ok _ ω).2)) | exact (fun o ho => (List.mem_append.1 ho).elim (fun h => hopt o (List.mem_of_mem_take h)) (fun h => hopt o (List.mem_of_mem_drop h)))), δ, hV⟩
   exact ψ
  rintro g w148 ⟨vo2, op2, idn2, N2, kx, tx, ix, hj149, hj150, hof, hop, B13, hAb13, hb, hAs, hFX, hNX, hsz2, hop2, hzl32, hV⟩
  have hs_w148hV := hV.size
  have hlt151 := B13.lt
  have hlt152 := hb.lt
  refine Zk 10 (v := vo2) (by exact hj149) ?_
  refine Zk 11 (v := .int .i64 idn2) (by exact hj150) ?_
  refine r_blk ?_
  have hobZ := fun g hg => (hop.block (g := g) hg).2
  have s32 : Small (f ++ [⟨kx, tx, ix⟩]) := ⟨by rw [List.length_append]; simp; omega, by rw [sizeL_append, sizeL_one]; simp; omega⟩
  refine r_region ?_
  refine Zo (run_mv (v := vf) rfl η) ?_
  refine Zo (run_ldN rfl ag_32 ty_32 η rfl hAb13) ?_
  refine r_bslice (pv := [(0, .agg _)]) (zs := [_, _, _]) (cs := [_, _, _]) Tryz.underlying33 ty_32 η rfl η rfl η ?_
  intro b153 w154 J153 E154 B153 Y153
  have Q154 := E154.size
  replace hV := Z0 hV E154
  replace hl := hl0 _ hV
  replace hof := hof.evo0 E154
  replace hop := hop.evo0 E154
  replace hb := hb.evo0 E154
  have hrb153 : RowE w154 (some ⟨b153, 0, none⟩) b153 0 1 ([⟨kx, tx, ix⟩] : List Vc.Item) := rowLit ([⟨kx, tx, ix⟩] : List Vc.Item) B153 rfl rfl
  obtain ⟨ao155, g155, cp155, hv155, hr155, hg155⟩ := hof.rowOf
  subst hv155
  refine Zr [.slice _ _ _, .slice (some ⟨b153, 0, none⟩) _ _] rfl η Tryz.func76 (rconcat_calls hr155 hrb153 (by assumption)) ?_
  rintro e w156 ⟨vn156, rfl, hE156, hon156⟩
  refine ⟨_, rfl, ?_⟩
  have Q156 := hE156.size
  replace hV := Z0 hV hE156
  replace hl := hl0 _ hV
  replace hof := hof.evo0 hE156
  replace hop := hop.evo0 hE156
  replace hb := hb.evo0 hE156
  replace hrb153 := hrb153.evo0 hE156
  replace hr155 := hr155.evo0 hE156
  refine Zn (run_asg (v := vn156) rfl η) ?_
  refine r_blk ?_
  refine r_region ?_
  refine Zo mvI ?_
  refine Zo (run_sub rfl η η ω ω) ?_
  refine Zn asI ?_
  refine r_again (i - 1) ?_ ?_ ?_
  ·first | omega | (dsimp only; omega)
  ·refine ⟨_, _, _, _, _, _, σ, rfl, rfl, rfl, (hon156.base_le ω), hop, hb, hb.at, (by rw [hFI.norm]; exact hFX), (by rw [hFI.norm]; exact hNX), (by have h1 := normL_len (f ++ [⟨kx, tx, ix⟩]); have h2 := normL_size (f ++ [⟨kx, tx, ix⟩]); rw [List.length_append] at h1; rw [sizeL_append, sizeL_one] at h2; simp at h1 h2; omega), (fun g hg h hh => by have h1 := (hon156).block (g := g) hg; have h2 := hobZ h hh; omega), hop2, δ, hV⟩
  exact ψ
 refine r_exit rfl ?_
 refine r_seq ?_
 refine Zs ?_
 refine Zo (run_mv (v := vo) rfl η) ?_
 refine Zo (run_lenOE rfl η Tryz.underlying33 hop) ?_
 refine Zo (run_sub rfl η η ω ω) ?_
 refine Zn asI ?_
 refine r_block ?_
 obtain ⟨ao157, g157, cp157, hv157, hr157, hg157⟩ := hop.rowOf
 subst hv157
 refine r_loop (α := Nat) [9, 15, 118, 119, 120, 121, 122, 123, 124, 125, 126, 127, 128, 129, 130, 131, 132, 133, 134, 135, 136, 137, 138, 139] (fun j g w => ∃ vf2 : Value, ∃ f2 : List Vc.Item, g 15 = .int .i64 ((j : Nat) - 1) ∧ g 9 = vf2 ∧ OwnE w w0.heap.size 32 vf2 f2 ∧ RowE w ao157 g157 0 cp157 op ∧ Blk w bs T [.slice ao l.length cap, .int .i64 (N1 : Nat)] ∧ At w bs 0 [.slice ao l.length cap, .int .i64 (N1 : Nat)] ∧ FI f2 (op.take j) idn ∧ NS nested f2 (op.take j) ∧ (f2.length + j ≤ f.length + op.length ∧ sizeL f2 + 5 * j ≤ sizeL f + 5 * op.length ∧ j ≤ op.length) ∧ (op ≠ [] → ∀ g, vf2.ownBlock = some g → g ≠ g157) ∧ (op ≠ [] → g157 < w.heap.size) ∧ w3.heap.size ≤ w.heap.size ∧ Evo w0 w [bs]) (fun j => j) op.length ?_ ?_
 ·refine ⟨_, _, rfl, rfl, hof, hr157, hb, hb.at, (by rw [List.take_of_length_le (Nat.le_refl _)]; exact hFI), (by rw [List.take_of_length_le (Nat.le_refl _)]; exact hNS), δ, (fun hne g hg => hsep g hg _ (hg157 hne).1), (fun hne => (hg157 hne).2.2), δ, hV⟩
 rintro j g w159 ⟨vf2, f2, hj160, hj161, hof2, hro, hb, hAs, hFI2, hNS2, hsz3, hsep2, hgo, hzl158, hV⟩
 have hs_w159hV := hV.size
 have hlt162 := hb.lt
 refine Zk 15 (v := .int .i64 ((j : Nat) - 1)) (by exact hj160) ?_
 refine Zk 9 (v := vf2) (by exact hj161) ?_
 refine r_seq ?_
 refine Zs ?_
 refine Zo mvI ?_
 refine Zo (run_geq rfl η η) ?_
 refine Zo mvB ?_
 refine r_g rfl (wantT η) rfl (fun hg => run_mvb rfl η) ?_
 refine Zn (run_pick_and rfl η (fun hq => glv η (fun h => h) hq) rfl) ?_
 refine r_cond η (fun hc163 => ?_) (fun hc163 => ?_)
 ·skip
  refine r_skip ?_
  refine r_seq ?_
  refine r_block ?_
  have hk5 := text5 hopt (j - 1)
  have hV_q := hV
  refine h_region ([]) ζ ?_
  intro w164 hE165 hC166
  have Q164 := hE165.size
  replace hV := Z0 hV hE165
  replace hof2 := hof2.evo0 hE165
  replace hro := hro.evo0 hE165
  replace hb := hb.evo0 hE165
  refine Zt (i := 0) η (fun w' hC => run_mv (v := vf2) rfl η) hC166 ?_
  refine Zt (i := 1) η (fun w' hC => mvS) hC166 ?_
  refine Zt (i := 2) η (fun w' hC => mvI) hC166 ?_
  refine Zt (i := 3) η (fun w' hC => run_ix ((j - 1)) rfl Tryz.underlying33 ty_32 η η ω ω (hro.addr (i := (j - 1)) ω)) hC166 ?_
  have hA167 := hro.atD ((j - 1)) ω
  refine Zt (i := 4) η (fun w' hC => run_fa rfl η fo_32_1) hC166 ?_
  refine Zt (i := 7) η (fun w' hC => mvS) hC166 ?_
  refine Zt (i := 8) η (fun w' hC => mvI) hC166 ?_
  refine Zt (i := 9) η (fun w' hC => run_ix ((j - 1)) rfl Tryz.underlying33 ty_32 η η ω ω (hro.addr (i := (j - 1)) ω)) hC166 ?_
  have hA168 := hro.atD ((j - 1)) ω
  refine Zt (i := 10) η (fun w' hC => run_fa rfl η fo_32_2) hC166 ?_
  refine h_two (i := 5) (j := 11) ζ ?_ ?_
  ·skip
   refine h_do η ?_
   refine Zo (run_ld1 rfl ag_9 η (hA167.cell 1 η)) ?_
   refine h_next hC166 ?_
   refine h_two (i := 6) (j := 11) ζ ?_ ?_
   ·skip
    refine h_do η ?_
    refine Zr [S _] rfl η Tryz.func75 (rname_calls ω) ?_
    rintro e w169 ⟨rfl, hE169⟩
    refine ⟨_, rfl, ?_⟩
    have Q169 := hE169.size
    replace hV := Z0 hV hE169
    replace hC166 := Z0 hC166 hE169
    replace hof2 := hof2.evo0 hE169
    replace hro := hro.evo0 hE169
    replace hb := hb.evo0 hE169
    replace hA168 := hA168.evo0 hE169
    refine h_next hC166 ?_
    refine Zh (i := 11) ?_
    refine Zo (run_ld1 rfl ag_3 η (hA168.cell 2 η)) ?_
    refine h_next hC166 ?_
    refine Zt (i := 12) η (fun w' hC => run_bld (pv := [(0, .int _ _), (1, S _), (2, .int _ _)]) (zs := [_, _, _]) (cells := [_, _, _]) rfl ty_32 η pl_32 η η) hC166 ?_
    refine Zh (i := 13) ?_
    refine r_bslice (pv := [(0, .agg _)]) (zs := [_, _, _]) (cs := [_, _, _]) Tryz.underlying33 ty_32 η rfl η rfl η ?_
    intro b170 w171 J170 E171 B170 Y170
    have Q171 := E171.size
    replace hV := Z0 hV E171
    replace hC166 := Z0 hC166 E171
    replace hof2 := hof2.evo0 E171
    replace hro := hro.evo0 E171
    replace hb := hb.evo0 E171
    have hrb170 := rowLit (α := Vc.Item) [⟨_, _, _⟩] B170 (by show [_, _, _] = [_, _, _]; first | (dsimp only; done) | exact rfl | (dsimp only; exact rfl)) rfl
    refine h_next hC166 ?_
    refine Zh (i := 14) ?_
    refine r_appendE rfl Tryz.underlying33 ty_32 η hof2 η η hrb170 rfl ((by first | omega | (simp; omega))) ((by first | omega | (simp; omega))) ω ?_
    intro v172 w173 E173 hov172 hlv172
    have Q173 := E173.size
    replace hV := evo_stepo hV E173 (fun g hg => .inl (by first | exact (hof2.block hg).1 | (have := hof2.block hg; omega)))
    replace hl := hl0 _ hV
    replace hro := row_keep hro E173 (fun hne hm => hsep2 hne _ (Option.mem_toList.1 hm) rfl)
    replace hb := hb.evo E173 (by intro hm; have hm2 := Option.mem_toList.1 hm; have := hof2.block hm2; omega)
    refine h_last ζ ?_
    refine Zh (i := 15) ?_
    refine Zo (run_asg (v := v172) rfl η) ?_
    refine h_last ζ ?_
    refine h_done ζ ?_
    refine r_blk ?_
    refine r_region ?_
    refine Zo mvI ?_
    refine Zo (run_sub rfl η η ω ω) ?_
    refine Zn asI ?_
    refine r_again (j - 1) ?_ ?_ ?_
    ·first | omega | (dsimp only; omega)
    ·refine ⟨_, _, σ, rfl, hov172, hro, hb, hb.at, (hFI2.closeLast ω ω ω), (hNS2.closeLast ω ω _), (by rw [List.length_append, sizeL_append, sizeL_one]; have h1 := nameL_len (op.getD (j - 1) default).text; have h2 := text5 hopt (j - 1); simp only [List.length_cons, List.length_nil]; omega), (fun hne g hg => hlv172.elim (fun h => hsep2 hne g (h.symm.trans hg)) (fun h => by have h7 := hgo hne; have h8 := Option.some.inj (h.symm.trans hg); omega)), (fun hne => by have h7 := hgo hne; omega), δ, hV⟩
    exact ψ
   refine h_do η ?_
   refine Zo (run_ld1 rfl ag_3 η (hA168.cell 2 η)) ?_
   refine h_next hC166 ?_
   refine Zh (i := 6) ?_
   refine Zr [S _] rfl η Tryz.func75 (rname_calls ω) ?_
   rintro e w174 ⟨rfl, hE174⟩
   refine ⟨_, rfl, ?_⟩
   have Q174 := hE174.size
   replace hV := Z0 hV hE174
   replace hC166 := Z0 hC166 hE174
   replace hof2 := hof2.evo0 hE174
   replace hro := hro.evo0 hE174
   replace hb := hb.evo0 hE174
   refine h_next hC166 ?_
   refine Zt (i := 12) η (fun w' hC => run_bld (pv := [(0, .int _ _), (1, S _), (2, .int _ _)]) (zs := [_, _, _]) (cells := [_, _, _]) rfl ty_32 η pl_32 η η) hC166 ?_
   refine Zh (i := 13) ?_
   refine r_bslice (pv := [(0, .agg _)]) (zs := [_, _, _]) (cs := [_, _, _]) Tryz.underlying33 ty_32 η rfl η rfl η ?_
   intro b175 w176 J175 E176 B175 Y175
   have Q176 := E176.size
   replace hV := Z0 hV E176
   replace hC166 := Z0 hC166 E176
   replace hof2 := hof2.evo0 E176
   replace hro := hro.evo0 E176
   replace hb := hb.evo0 E176
   have hrb175 := rowLit (α := Vc.Item) [⟨_, _, _⟩] B175 (by show [_, _, _] = [_, _, _]; first | (dsimp only; done) | exact rfl | (dsimp only; exact rfl)) rfl
   refine h_next hC166 ?_
   refine Zh (i := 14) ?_
   refine r_appendE rfl Tryz.underlying33 ty_32 η hof2 η η hrb175 rfl ((by first | omega | (simp; omega))) ((by first | omega | (simp; omega))) ω ?_
   intro v177 w178 E178 hov177 hlv177
   have Q178 := E178.size
   replace hV := evo_stepo hV E178 (fun g hg => .inl (by first | exact (hof2.block hg).1 | (have := hof2.block hg; omega)))
   replace hl := hl0 _ hV
   replace hro := row_keep hro E178 (fun hne hm => hsep2 hne _ (Option.mem_toList.1 hm) rfl)
   replace hb := hb.evo E178 (by intro hm; have hm2 := Option.mem_toList.1 hm; have := hof2.block hm2; omega)
   refine h_last ζ ?_
   refine Zh (i := 15) ?_
   refine Zo (run_asg (v := v177) rfl η) ?_
   refine h_last ζ ?_
   refine h_done ζ ?_
   refine r_blk ?_
   refine r_region ?_
   refine Zo mvI ?_
   refine Zo (run_sub rfl η η ω ω) ?_
   refine Zn asI ?_
   refine r_again (j - 1) ?_ ?_ ?_
   ·first | omega | (dsimp only; omega)
   ·refine ⟨_, _, σ, rfl, hov177, hro, hb, hb.at, (hFI2.closeLast ω ω ω), (hNS2.closeLast ω ω _), (by rw [List.length_append, sizeL_append, sizeL_one]; have h1 := nameL_len (op.getD (j - 1) default).text; have h2 := text5 hopt (j - 1); simp only [List.length_cons, List.length_nil]; omega), (fun hne g hg => hlv177.elim (fun h => hsep2 hne g (h.symm.trans hg)) (fun h => by have h7 := hgo hne; have h8 := Option.some.inj (h.symm.trans hg); omega)), (fun hne => by have h7 := hgo hne; omega), δ, hV⟩
   exact ψ
  refine h_do η ?_
  refine Zo (run_ld1 rfl ag_3 η (hA168.cell 2 η)) ?_
  refine h_next hC166 ?_
  refine Zh (i := 5) ?_
  refine Zo (run_ld1 rfl ag_9 η (hA167.cell 1 η)) ?_
  refine h_next hC166 ?_
  refine Zh (i := 6) ?_
  refine Zr [S _] rfl η Tryz.func75 (rname_calls ω) ?_
  rintro e w179 ⟨rfl, hE179⟩
  refine ⟨_, rfl, ?_⟩
  have Q179 := hE179.size
  replace hV := Z0 hV hE179
  replace hC166 := Z0 hC166 hE179
  replace hof2 := hof2.evo0 hE179
  replace hro := hro.evo0 hE179
  replace hb := hb.evo0 hE179
  refine h_next hC166 ?_
  refine Zt (i := 12) η (fun w' hC => run_bld (pv := [(0, .int _ _), (1, S _), (2, .int _ _)]) (zs := [_, _, _]) (cells := [_, _, _]) rfl ty_32 η pl_32 η η) hC166 ?_
  refine Zh (i := 13) ?_
  refine r_bslice (pv := [(0, .agg _)]) (zs := [_, _, _]) (cs := [_, _, _]) Tryz.underlying33 ty_32 η rfl η rfl η ?_
  intro b180 w181 J180 E181 B180 Y180
  have Q181 := E181.size
  replace hV := Z0 hV E181
  replace hC166 := Z0 hC166 E181
  replace hof2 := hof2.evo0 E181
  replace hro := hro.evo0 E181
  replace hb := hb.evo0 E181
  have hrb180 := rowLit (α := Vc.Item) [⟨_, _, _⟩] B180 (by show [_, _, _] = [_, _, _]; first | (dsimp only; done) | exact rfl | (dsimp only; exact rfl)) rfl
  refine h_next hC166 ?_
  refine Zh (i := 14) ?_
  refine r_appendE rfl Tryz.underlying33 ty_32 η hof2 η η hrb180 rfl ((by first | omega | (simp; omega))) ((by first | omega | (simp; omega))) ω ?_
  intro v182 w183 E183 hov182 hlv182
  have Q183 := E183.size
  replace hV := evo_stepo hV E183 (fun g hg => .inl (by first | exact (hof2.block hg).1 | (have := hof2.block hg; omega)))
  replace hl := hl0 _ hV
  replace hro := row_keep hro E183 (fun hne hm => hsep2 hne _ (Option.mem_toList.1 hm) rfl)
  replace hb := hb.evo E183 (by intro hm; have hm2 := Option.mem_toList.1 hm; have := hof2.block hm2; omega)
  refine h_last ζ ?_
  refine Zh (i := 15) ?_
  refine Zo (run_asg (v := v182) rfl η) ?_
  refine h_last ζ ?_
  refine h_done ζ ?_
  refine r_blk ?_
  refine r_region ?_
  refine Zo mvI ?_
  refine Zo (run_sub rfl η η ω ω) ?_
  refine Zn asI ?_
  refine r_again (j - 1) ?_ ?_ ?_
  ·first | omega | (dsimp only; omega)
  ·refine ⟨_, _, σ, rfl, hov182, hro, hb, hb.at, (hFI2.closeLast ω ω ω), (hNS2.closeLast ω ω _), (by rw [List.length_append, sizeL_append, sizeL_one]; have h1 := nameL_len (op.getD (j - 1) default).text; have h2 := text5 hopt (j - 1); simp only [List.length_cons, List.length_nil]; omega), (fun hne g hg => hlv182.elim (fun h => hsep2 hne g (h.symm.trans hg)) (fun h => by have h7 := hgo hne; have h8 := Option.some.inj (h.symm.trans hg); omega)), (fun hne => by have h7 := hgo hne; omega), δ, hV⟩
  exact ψ
 refine r_exit rfl ?_
 refine Zs ?_
 refine Zo (run_mv (v := vf2) rfl η) ?_
 refine Zn (run_asg (v := vf2) rfl η) ?_
 refine r_ret (res1 (v := vf2) rfl η) ?_
 exact ⟨_, _, N1, rfl, ⟨hFI2.val, by omega, by omega, hNS2.done hc163⟩, by omega, hV, hb, hof2⟩
def isW (x : Vc.Item) : Prop := x.kind = 6 ∨ x.kind = 7
instance (x : Vc.Item) : Decidable (isW x) := by unfold isW; infer_instance
def gapW (x : Vc.Item) : Prop := x.kind = 8 ∨ x.kind = 2 ∨ x.kind = 3 ∨ x.kind = 4
instance (x : Vc.Item) : Decidable (gapW x) := by unfold gapW; infer_instance
def nextR : List Vc.Item → Nat → Int
  | [], _ => -1
  | x :: r, k => if isW x then (k : Int) else if gapW x then nextR r (k + 1) else -1
def nextT (l : List Vc.Item) (i : Nat) : Int := nextR (l.drop (i + 1)) (i + 1)
theorem drop_consT {l : List Vc.Item} {k : Nat} (h : k < l.length) : l.drop k = l.getD k default :: l.drop (k + 1) := by
  have e : l.getD k default = l[k] := by simp [List.getD, h]
  rw [e]; exact (List.drop_eq_getElem_cons h)
theorem next_hit {l : List Vc.Item} {k : Nat} (h : k < l.length) (h2 : isW (l.getD k default)) : nextR (l.drop k) k = (k : Int) := by rw [drop_consT h]; exact if_pos h2
theorem next_gap {l : List Vc.Item} {k : Nat} (h : k < l.length) (h2 : ¬ isW (l.getD k default)) (h3 : gapW (l.getD k default)) : nextR (l.drop k) k = nextR (l.drop (k + 1)) (k + 1) := by
  rw [drop_consT h]
  conv => lhs; unfold nextR
  rw [if_neg h2, if_pos h3]
theorem next_stop {l : List Vc.Item} {k : Nat} (h : k < l.length) (h2 : ¬ isW (l.getD k default)) (h3 : ¬ gapW (l.getD k default)) : nextR (l.drop k) k = -1 := by
  rw [drop_consT h]; unfold nextR; rw [if_neg h2, if_neg h3]
theorem next_end {l : List Vc.Item} {k : Nat} (h : l.length ≤ k) : nextR (l.drop k) k = -1 := by rw [List.drop_of_length_le h]; rfl
theorem nextR_bd (l : List Vc.Item) : ∀ (n k : Nat), l.length - k = n → k ≤ l.length → nextR (l.drop k) k = -1 ∨ ((k : Int) ≤ nextR (l.drop k) k ∧ nextR (l.drop k) k < (l.length : Int) ∧ isW (l.getD (nextR (l.drop k) k).toNat default))
  | 0, k, h, _ => .inl (next_end ω)
  | n + 1, k, h, _ => by
    have hk : k < l.length := by omega
    by_cases h2 : isW (l.getD k default)
    · rw [next_hit hk h2]; exact .inr ⟨by omega, by omega, by simpa using h2⟩
    · by_cases h3 : gapW (l.getD k default)
      · rw [next_gap hk h2 h3]
        rcases nextR_bd l n (k + 1) ω ω with h4 | ⟨h4, h5, h6⟩
        · exact .inl h4
        · exact .inr ⟨by omega, h5, h6⟩
      · exact .inl (next_stop hk h2 h3)
theorem nextT_bd {l : List Vc.Item} {i : Nat} (h : i < l.length) : nextT l i = -1 ∨ ((i : Int) + 1 ≤ nextT l i ∧ nextT l i < (l.length : Int) ∧ isW (l.getD (nextT l i).toNat default)) := by
  rcases nextR_bd l _ (i + 1) rfl ω with h1 | ⟨h1, h2, h3⟩
  · exact .inl h1
  · exact .inr ⟨by have : ((i + 1 : Nat) : Int) ≤ nextT l i := h1
                   omega, h2, h3⟩
def chainF (l : List Vc.Item) : Int → Int → List (List Str) → Int
  | _, e, [] => e
  | i, _, s :: r => if i < 0 then -1 else if lowS (l.getD i.toNat default).text ∈ s then chainF l (nextT l i.toNat) (i + 1) r else -1
theorem chain_neg {l : List Vc.Item} {i e : Int} {s : List Str} {r : List (List Str)} (h : i < 0) : chainF l i e (s :: r) = -1 := if_pos h
theorem chain_no {l : List Vc.Item} {i e : Int} {s : List Str} {r : List (List Str)} (h : ¬ i < 0) (h2 : ¬ lowS (l.getD i.toNat default).text ∈ s) : chainF l i e (s :: r) = -1 := by unfold chainF; rw [if_neg h, if_neg h2]
theorem chain_go {l : List Vc.Item} {i e : Int} {s : List Str} {r : List (List Str)} (h : ¬ i < 0) (h2 : lowS (l.getD i.toNat default).text ∈ s) : chainF l i e (s :: r) = chainF l (nextT l i.toNat) (i + 1) r := by
  conv => lhs; unfold chainF
  rw [if_neg h, if_pos h2]
end Go.Proofs.YtlfjocbnbceceaaGreatDoor
namespace Go.Vc
open Go Go.RowKit Go.IntWalk Go.Deep
structure TermL where
  words : List Ende
  req : List Str
  forb : List Str
deriving Inhabited
instance : Rep TermL where
  n := 3
  rep w cs x := (∃ ao b off cap ao1 b1 off1 cap1 ao2 b2 off2 cap2, cs = [.slice ao x.words.length cap, .slice ao1 x.req.length cap1, .slice ao2 x.forb.length cap2] ∧ RowE w ao b off cap x.words ∧ RowE w ao1 b1 off1 cap1 x.req ∧ RowE w ao2 b2 off2 cap2 x.forb) ∧ (x.words.length ≤ 4398046510976 ∧ ∀ y ∈ x.words, BdE y)
  len := fun ⟨⟨_, _, _, _, _, _, _, _, _, _, _, _, h, _⟩, _⟩ => by rw [h]; rfl
  evo0 := fun ⟨⟨ao, b, off, cap, ao1, b1, off1, cap1, ao2, b2, off2, cap2, h, h1, h2, h3⟩, hb⟩ he => ⟨⟨ao, b, off, cap, ao1, b1, off1, cap1, ao2, b2, off2, cap2, h, h1.evo0 he, h2.evo0 he, h3.evo0 he⟩, hb⟩
  pos := by decide
theorem term_at {w : World} {ao : Option Addr} {b off cap : Nat} {l : List TermL} (h : RowR w ao b off cap l) (k : Nat) (hk : k < l.length) :
    ∃ aoW bW offW capW aoQ bQ offQ capQ aoF bF offF capF, At w b (off + k * 3) [.slice aoW (l.getD k default).words.length capW, .slice aoQ (l.getD k default).req.length capQ, .slice aoF (l.getD k default).forb.length capF] ∧ RowE w aoW bW offW capW (l.getD k default).words ∧ RowE w aoQ bQ offQ capQ (l.getD k default).req ∧ RowE w aoF bF offF capF (l.getD k default).forb := by
  obtain ⟨cs, h1, ⟨ao, b, off, cap, ao1, b1, off1, cap1, ao2, b2, off2, cap2, h2, h3, h4, h5⟩, _⟩ := h.atD k hk
  exact ⟨_, _, _, _, _, _, _, _, _, _, _, _, h2 ▸ h1, h3, h4, h5⟩
theorem term_atK {w : World} {E : List Nat} {ao : Option Addr} {b off cap : Nat} {l : List TermL} (h : RowRK w E ao b off cap l) (k : Nat) (hk : k < l.length) :
    ∃ aoW bW offW capW aoQ bQ offQ capQ aoF bF offF capF, ∀ w', Evo w w' E → At w' b (off + k * 3) [.slice aoW (l.getD k default).words.length capW, .slice aoQ (l.getD k default).req.length capQ, .slice aoF (l.getD k default).forb.length capF] ∧ RowE w' aoW bW offW capW (l.getD k default).words ∧ RowE w' aoQ bQ offQ capQ (l.getD k default).req ∧ RowE w' aoF bF offF capF (l.getD k default).forb := by
  obtain ⟨cs, h1⟩ := h.atD k hk
  obtain ⟨ao, b, off, cap, ao1, b1, off1, cap1, ao2, b2, off2, cap2, h2, h3, h4, h5⟩ := (h1 w (Evo.refl _ _)).2.1
  refine ⟨ao, b, off, cap, ao1, b1, off1, cap1, ao2, b2, off2, cap2, fun w' he => ⟨h2 ▸ (h1 w' he).1, ?_⟩⟩
  obtain ⟨ao', b', off', cap', ao1', b1', off1', cap1', ao2', b2', off2', cap2', h2', h3', h4', h5'⟩ := (h1 w' he).2.1
  rw [h2] at h2'
  simp only [List.cons.injEq, Value.slice.injEq, and_true, true_and] at h2'
  obtain ⟨⟨rfl, rfl⟩, ⟨rfl, rfl⟩, rfl, rfl⟩ := h2'
  exact ⟨rowE_same h3' h3, rowE_same h4' h4, rowE_same h5' h5⟩
theorem term_bd {w : World} {ao : Option Addr} {b off cap : Nat} {l : List TermL} (h : RowR w ao b off cap l) : ∀ x ∈ l, x.words.length ≤ 4398046510976 ∧ ∀ y ∈ x.words, BdE y := fun x hx => by
  obtain ⟨css, _, hl, hr⟩ := h
  obtain ⟨i, hi⟩ := List.getElem?_of_mem hx
  have hi2 : i < l.length := (List.getElem?_eq_some_iff.1 hi).1
  exact (hr i (css[i]'ω) x (by simp [hl, hi2]) hi).2
structure SetS where
  ks : List Str
deriving Inhabited
def eU : Unit → Value := fun _ => Value.agg #[]
def SetIs (w : World) (b : Nat) (ks : List Str) : Prop := ∃ m : List (Str × Unit), MapIs w b S eU m ∧ ∀ s, (getM m s).isSome = true ↔ s ∈ ks
theorem SetIs.evo {w w' : World} {b : Nat} {ks : List Str} {E : List Nat} (h : SetIs w b ks) (he : Evo w w' E) (hn : b ∉ E) : SetIs w' b ks := by
  obtain ⟨m, h1, h2⟩ := h; exact ⟨m, h1.evo he hn, h2⟩
theorem SetIs.evo0 {w w' : World} {b : Nat} {ks : List Str} (h : SetIs w b ks) (he : Evo w w' []) : SetIs w' b ks := h.evo he (by simp)
theorem SetIs.lt {w : World} {b : Nat} {ks : List Str} (h : SetIs w b ks) : b < w.heap.size := by obtain ⟨m, h1, _⟩ := h; exact h1.lt
theorem SetIs.bd {w : World} {b : Nat} {ks : List Str} (_ : SetIs w b ks) : True := trivial
instance : Rep SetS where
  n := 1
  rep w cs x := ∃ b, cs = [.map (some b)] ∧ SetIs w b x.ks
  len := fun ⟨_, h, _⟩ => by rw [h]; rfl
  evo0 := fun ⟨b, h, hm⟩ he => ⟨b, h, hm.evo0 he⟩
  pos := by decide
theorem set_atK {w : World} {E : List Nat} {ao : Option Addr} {b off cap : Nat} {l : List SetS} (h : RowRK w E ao b off cap l) (k : Nat) (hk : k < l.length) :
    ∃ bM, ∀ w', Evo w w' E → At w' b (off + k * 1) [.map (some bM)] ∧ SetIs w' bM (l.getD k default).ks := by
  obtain ⟨cs, h1⟩ := h.atD k hk
  obtain ⟨bM, h2, _⟩ := (h1 w (Evo.refl _ _)).2
  refine ⟨bM, fun w' he => ⟨h2 ▸ (h1 w' he).1, ?_⟩⟩
  obtain ⟨b', h4, h5⟩ := (h1 w' he).2
  rw [h2] at h4
  simp only [List.cons.injEq, Value.map.injEq, Option.some.injEq, and_true] at h4
  rw [h4]; exact h5
end Go.Vc
namespace Go.Proofs.YtlfjocbnbceceaaGreatDoor
open Go.RowKit Go.Vc
theorem ag_96 : aggP Tryz.prog 96 = some true := by kernel_rfl
theorem fo_96_0 : fieldP Tryz.prog 96 0 = some 0 := by kernel_rfl
theorem tisword_calls {x : Vc.Item} {w0 : World}  :
    Calls Tryz.prog 191 #[.agg (Enc.enc x).toArray] w0 fun e w' => e = .returned (.bool (decide (isW x))) ∧ Evo w0 w' [] := by
 refine calls_enter (n := 11) Tryz.func191 rfl Tryz.ntmps191 rfl ?_
 have hV : Evo w0 w0 [] := Evo.refl _ _
 refine Zs ?_
 refine r_box (vs := [_, _, _]) η η rfl ?_
 intro b1 w2 J1 E2 B1 Y1
 have Q2 := E2.size
 replace hV := Z0 hV E2
 refine Zn asB ?_
 refine Zs ?_
 refine Zo (run_fa rfl η fo_96_0) ?_
 refine Zo (run_ld1 rfl ag_3 η (B1.at.cell 0 η)) ?_
 refine Zo (run_eql rfl η η) ?_
 refine Zo mvB ?_
 refine r_g rfl (wantF η) rfl (fun hg => run_fa rfl η fo_96_0) ?_
 refine r_g rfl (wantF η) rfl (fun hg => run_ld1 rfl ag_3 (glv η (fun h => h) hg) (B1.at.cell 0 η)) ?_
 refine r_g rfl (wantF η) rfl (fun hg => run_eql rfl (glv η (fun h => h) hg) η) ?_
 refine Zo (run_pick_or rfl η rfl (fun hq => glv η (fun h => h) hq)) ?_
 refine Zn asB ?_
 refine r_ret (res1 (v := .bool _) rfl η) ?_
 exact ⟨ret_bool (decide_eq_decide.2 (by unfold isW; omega)), hV⟩
theorem ttnext_calls {ao : Option Addr} {b off cap : Nat} {l : List Vc.Item} {i : Int} {w0 : World} (hl : RowE w0 ao b off cap l) (h0 : 0 ≤ i) (h1 : i < l.length) :
    Calls Tryz.prog 212 #[.slice ao l.length cap, .int .i64 i] w0 fun e w' => e = .returned (.int .i64 (nextT l i.toNat)) ∧ Evo w0 w' [] := by
 refine calls_enter (n := 28) Tryz.func212 rfl Tryz.ntmps212 rfl ?_
 have hV : Evo w0 w0 [] := Evo.refl _ _
 have hl0 := keepE hl
 have hbd_hl := hl.bd
 refine Zs ?_
 refine Zn asI ?_
 refine r_seq ?_
 refine Zs ?_
 refine Zo mvI ?_
 refine Zo (run_add rfl η η ω ω) ?_
 refine Zn asI ?_
 refine r_block ?_
 refine r_loop (α := Nat) [4, 5, 8, 9, 10, 11, 12, 13, 14, 15, 16, 17, 18, 19, 20, 21, 22, 23, 24, 25, 26, 27] (fun k g w => g 5 = .int .i64 (k : Nat) ∧ k ≤ l.length ∧ nextR (l.drop k) k = nextT l i.toNat ∧ w0.heap.size ≤ w.heap.size ∧ Evo w0 w []) (fun k => l.length - k) (i.toNat + 1) ?_ ?_
 ·refine ⟨(congrArg (Value.int _) ω), δ, rfl, δ, hV⟩
 rintro k g w2 ⟨hj3, hk, hnx, hzl1, hV⟩
 have hs_w2hV := hV.size
 replace hl := hl0 _ hV
 refine Zk 5 (v := .int .i64 (k : Nat)) (by exact hj3) ?_
 refine r_seq ?_
 refine Zs ?_
 refine Zo mvI ?_
 refine Zo mvS ?_
 refine Zo (run_lenSl rfl η Tryz.underlying94) ?_
 refine Zn (run_lss rfl η η) ?_
 refine r_cond η (fun hc4 => ?_) (fun hc4 => ?_)
 ·skip
  refine r_skip ?_
  refine r_seq ?_
  refine r_block ?_
  refine Zs ?_
  refine Zo mvS ?_
  refine Zo mvI ?_
  refine Zo (run_ix (k) rfl Tryz.underlying94 ty_96 η η (by first | exact rfl | omega) ω (hl.addr (i := k) ω)) ?_
  have hA50 := fun (w' : World) (h : Evo w0 w' []) => (hl0 w' h).atD (k) ω
  have hA5 := hA50 _ hV
  refine Zo (run_fa rfl η fo_96_0) ?_
  refine Zn (run_ld1 rfl ag_3 η (hA5.cell 0 η)) ?_
  refine r_block ?_
  refine r_seq ?_
  refine Zs ?_
  refine Zo (run_eql rfl η η) ?_
  refine Zn asB ?_
  refine r_cond η (fun hc6 => ?_) (fun hc6 => ?_)
  ·skip
   refine r_skip ?_
   refine r_condT η hc6 ?_
   refine Zs ?_
   refine Zo mvI ?_
   refine Zn asI ?_
   refine r_ret (res1 (v := .int _ _) rfl η) ?_
   first | exact ⟨ret_int (by rw [← hnx, next_hit (l := l) (k := k) ω (by first | assumption | (unfold isW; omega))]), hV⟩ | exact ⟨ret_int (by rw [← hnx, next_stop (l := l) (k := k) ω (by first | assumption | (unfold isW; omega)) (by unfold gapW; omega)]), hV⟩ | exact ⟨ret_int (by rw [← hnx, next_end (l := l) (k := k) ω]), hV⟩
  refine r_region ?_
  refine Zo (run_eql rfl η η) ?_
  refine Zn asB ?_
  refine r_cond η (fun hc7 => ?_) (fun hc7 => ?_)
  ·skip
   refine Zs ?_
   refine Zo mvI ?_
   refine Zn asI ?_
   refine r_ret (res1 (v := .int _ _) rfl η) ?_
   first | exact ⟨ret_int (by rw [← hnx, next_hit (l := l) (k := k) ω (by first | assumption | (unfold isW; omega))]), hV⟩ | exact ⟨ret_int (by rw [← hnx, next_stop (l := l) (k := k) ω (by first | assumption | (unfold isW; omega)) (by unfold gapW; omega)]), hV⟩ | exact ⟨ret_int (by rw [← hnx, next_end (l := l) (k := k) ω]), hV⟩
  refine r_seq ?_
  refine Zs ?_
  refine Zo (run_eql rfl η η) ?_
  refine Zn asB ?_
  refine r_cond η (fun hc8 => ?_) (fun hc8 => ?_)
  ·skip
   refine r_skip ?_
   refine r_condT η hc8 ?_
   refine r_skip ?_
   refine r_blk ?_
   refine r_blk ?_
   refine r_region ?_
   refine Zo mvI ?_
   refine Zo (run_add rfl η η ω ω) ?_
   refine Zn asI ?_
   refine r_again (k + 1) ?_ ?_ ?_
   ·first | omega | (dsimp only; omega)
   ·refine ⟨(congrArg (Value.int _) ω), δ, (by rw [← hnx, next_gap (l := l) (k := k) ω (by first | assumption | (unfold isW; omega)) (by unfold gapW; omega)]), δ, hV⟩
   exact ψ
  refine Zs ?_
  refine Zo (run_eql rfl η η) ?_
  refine Zn asB ?_
  refine r_cond η (fun hc9 => ?_) (fun hc9 => ?_)
  ·skip
   refine r_skip ?_
   refine r_condT η hc9 ?_
   refine r_skip ?_
   refine r_blk ?_
   refine r_blk ?_
   refine r_region ?_
   refine Zo mvI ?_
   refine Zo (run_add rfl η η ω ω) ?_
   refine Zn asI ?_
   refine r_again (k + 1) ?_ ?_ ?_
   ·first | omega | (dsimp only; omega)
   ·refine ⟨(congrArg (Value.int _) ω), δ, (by rw [← hnx, next_gap (l := l) (k := k) ω (by first | assumption | (unfold isW; omega)) (by unfold gapW; omega)]), δ, hV⟩
   exact ψ
  refine Zs ?_
  refine Zo (run_eql rfl η η) ?_
  refine Zn asB ?_
  refine r_cond η (fun hc10 => ?_) (fun hc10 => ?_)
  ·skip
   refine r_skip ?_
   refine r_condT η hc10 ?_
   refine r_skip ?_
   refine r_blk ?_
   refine r_blk ?_
   refine r_region ?_
   refine Zo mvI ?_
   refine Zo (run_add rfl η η ω ω) ?_
   refine Zn asI ?_
   refine r_again (k + 1) ?_ ?_ ?_
   ·first | omega | (dsimp only; omega)
   ·refine ⟨(congrArg (Value.int _) ω), δ, (by rw [← hnx, next_gap (l := l) (k := k) ω (by first | assumption | (unfold isW; omega)) (by unfold gapW; omega)]), δ, hV⟩
   exact ψ
  refine r_region ?_
  refine Zo (run_eql rfl η η) ?_
  refine Zn asB ?_
  refine r_cond η (fun hc11 => ?_) (fun hc11 => ?_)
  ·skip
   refine r_skip ?_
   refine r_blk ?_
   refine r_blk ?_
   refine r_region ?_
   refine Zo mvI ?_
   refine Zo (run_add rfl η η ω ω) ?_
   refine Zn asI ?_
   refine r_again (k + 1) ?_ ?_ ?_
   ·first | omega | (dsimp only; omega)
   ·refine ⟨(congrArg (Value.int _) ω), δ, (by rw [← hnx, next_gap (l := l) (k := k) ω (by first | assumption | (unfold isW; omega)) (by unfold gapW; omega)]), δ, hV⟩
   exact ψ
  refine Zs ?_
  refine Zn asI ?_
  refine r_ret (res1 (v := .int _ _) rfl η) ?_
  first | exact ⟨ret_int (by rw [← hnx, next_hit (l := l) (k := k) ω (by first | assumption | (unfold isW; omega))]), hV⟩ | exact ⟨ret_int (by rw [← hnx, next_stop (l := l) (k := k) ω (by first | assumption | (unfold isW; omega)) (by unfold gapW; omega)]), hV⟩ | exact ⟨ret_int (by rw [← hnx, next_end (l := l) (k := k) ω]), hV⟩
 refine r_exit rfl ?_
 refine Zs ?_
 refine Zn asI ?_
 refine r_ret (res1 (v := .int _ _) rfl η) ?_
 first | exact ⟨ret_int (by rw [← hnx, next_hit (l := l) (k := k) ω (by first | assumption | (unfold isW; omega))]), hV⟩ | exact ⟨ret_int (by rw [← hnx, next_stop (l := l) (k := k) ω (by first | assumption | (unfold isW; omega)) (by unfold gapW; omega)]), hV⟩ | exact ⟨ret_int (by rw [← hnx, next_end (l := l) (k := k) ω]), hV⟩
theorem ag_171 : aggP Tryz.prog 171 = some false := by kernel_rfl
theorem ag_77 : aggP Tryz.prog 77 = some false := by kernel_rfl
theorem fo_96_1 : fieldP Tryz.prog 96 1 = some 1 := by kernel_rfl
theorem ty_171 : tyP Tryz.prog 171 = some (1, 8, some (.map none)) := by kernel_rfl
theorem ty_77 : tyP Tryz.prog 77 = some (1, 24, some (.slice none 0 0)) := by kernel_rfl
theorem getM_isSome_mem {m : List (Str × Unit)} {x : Str} : (getM m x).isSome = true ↔ x ∈ m.map (·.1) := by
  unfold getM
  rw [Option.isSome_map, List.find?_isSome]
  simp only [decide_eq_true_eq, List.mem_map]
theorem KeyIs.some {m : List (Str × Unit)} {l : List Str} (h : KeyIs m l) (s : Str) : (getM m s).isSome = true ↔ s ∈ l := by
  rw [getM_isSome_mem]; exact h.2 s
def nth (ss : List SetS) : List (List Str) := ss.map (·.ks)
theorem nth_drop {ss : List SetS} {k : Nat} (h : k < ss.length) : nth (ss.drop k) = (ss.getD k default).ks :: nth (ss.drop (k + 1)) := by
  have e : ss.getD k default = ss[k] := by simp [List.getD, h]
  rw [e, List.drop_eq_getElem_cons h]; rfl
def atOk (l : List Vc.Item) (i : Int) : Prop := i = -1 ∨ (0 ≤ i ∧ i < (l.length : Int))
theorem atOk_next {l : List Vc.Item} {i : Int} (h : 0 ≤ i) (h2 : i < (l.length : Int)) : atOk l (nextT l i.toNat) := by
  rcases nextT_bd (l := l) (i := i.toNat) ω with h3 | ⟨h3, h4, _⟩
  · exact .inl h3
  · exact .inr ⟨by omega, h4⟩
theorem tchain_calls {ao : Option Addr} {b off cap : Nat} {l : List Vc.Item} {i : Int} {aos : Option Addr} {bs offs caps : Nat} {ss : List SetS} {w0 : World} (hl : RowE w0 ao b off cap l) (hs : RowR w0 aos bs offs caps ss) (hq : ∀ x ∈ l, x.text.length ≤ 140737488355328) (h0 : 0 ≤ i) (h1 : i < l.length) :
    Calls Tryz.prog 192 #[.slice ao l.length cap, .int .i64 i, .slice aos ss.length caps] w0 fun e w' => e = .returned (.int .i64 (chainF l i (-1) (nth ss))) ∧ Evo w0 w' [] := by
 refine calls_enter (n := 40) Tryz.func192 rfl Tryz.ntmps192 rfl ?_
 have hV : Evo w0 w0 [] := Evo.refl _ _
 have hl0 := keepE hl
 have hbd_hl := hl.bd
 have hs0 := hs.keep
 have hbd_hs := hs.bd
 refine Zs ?_
 refine Zn asI ?_
 refine Zs ?_
 refine Zn asI ?_
 refine r_seq ?_
 refine Zs ?_
 refine Zo mvS ?_
 refine Zo (run_lenSl rfl η Tryz.underlying200) ?_
 refine Zn mvI ?_
 refine r_block ?_
 refine r_loop (α := Nat) [1, 6, 7, 9, 10, 11, 14, 15, 16, 17, 18, 19, 20, 21, 22, 23, 24, 25, 26, 27, 28, 29, 30, 31, 32, 33, 34, 35, 36, 37, 38] (fun k g w => ∃ at1 : Int, ∃ en : Int, g 14 = .int .i64 (k : Nat) ∧ g 1 = .int .i64 at1 ∧ g 7 = .int .i64 en ∧ k ≤ ss.length ∧ atOk l at1 ∧ chainF l at1 en (nth (ss.drop k)) = chainF l i (-1) (nth ss) ∧ w0.heap.size ≤ w.heap.size ∧ Evo w0 w []) (fun k => ss.length - k) 0 ?_ ?_
 ·refine ⟨i, (-1), σ, rfl, rfl, δ, (.inr ⟨h0, h1⟩), rfl, δ, hV⟩
 rintro k g w2 ⟨at1, en, hj3, hj4, hj5, hk_k, hat, hch, hzl1, hV⟩
 have hs_w2hV := hV.size
 replace hl := hl0 _ hV
 replace hs := hs0.now hV
 refine Zk 14 (v := .int .i64 (k : Nat)) (by exact hj3) ?_
 refine Zk 1 (v := .int .i64 at1) (by exact hj4) ?_
 refine Zk 7 (v := .int .i64 en) (by exact hj5) ?_
 refine Zs ?_
 refine Zn (run_lss rfl η η) ?_
 refine r_seq ?_
 refine r_cond η (fun hc6 => ?_) (fun hc6 => ?_)
 ·skip
  refine r_skip ?_
  refine r_seq ?_
  refine r_block ?_
  refine Zs ?_
  refine Zo (run_ix (k) rfl Tryz.underlying200 ty_171 η η (by first | exact rfl | omega) ω (hs.addr (i := k) ω)) ?_
  obtain ⟨bM7, hX⟩ := set_atK hs0 (k) ω
  have hA70 := fun (w' : World) (h : Evo w0 w' []) => (hX w' h).1
  have hA7 := hA70 _ hV
  have hM70 := fun (w' : World) (h : Evo w0 w' []) => (hX w' h).2
  have hM7 := hM70 _ hV
  clear hX
  refine Zo (run_ld1 rfl ag_171 η (hA7.cell 0 η)) ?_
  refine Zn asM ?_
  refine r_seq ?_
  refine Zs ?_
  refine Zo mvI ?_
  refine Zn (run_lss rfl η η) ?_
  refine r_cond η (fun hc8 => ?_) (fun hc8 => ?_)
  ·skip
   refine Zs ?_
   refine Zn asI ?_
   refine r_ret (res1 (v := .int _ _) rfl η) ?_
   first | exact ⟨ret_int (by rw [← hch, nth_drop (ss := ss) (k := k) ω, chain_neg ω]), hV⟩ | exact ⟨ret_int (by rw [← hch, nth_drop (ss := ss) (k := k) ω, chain_no ω (fun q => by have h9 := (hKS _).2 q; simp_all)]), hV⟩ | exact ⟨ret_int (by rw [← hch, List.drop_of_length_le ω]; rfl), hV⟩
  refine r_skip ?_
  refine r_seq ?_
  refine r_seq ?_
  have hai : 0 ≤ at1 ∧ at1 < l.length := by rcases hat with h9 | h9 <;> omega
  have hqi := hq _ (getD_in (show at1.toNat < l.length by omega))
  refine r_region ?_
  refine Zo mvM ?_
  refine Zo mvS ?_
  refine Zo mvI ?_
  refine Zo (run_ix (at1.toNat) rfl Tryz.underlying94 ty_96 η η ω ω (hl.addr (i := at1.toNat) ω)) ?_
  have hA90 := fun (w' : World) (h : Evo w0 w' []) => (hl0 w' h).atD (at1.toNat) ω
  have hA9 := hA90 _ hV
  refine Zo (run_fa rfl η fo_96_1) ?_
  refine Zo (run_ld1 rfl ag_9 η (hA9.cell 1 η)) ?_
  refine Zr [S _] rfl η Tryz.func183 (lower_calls (by first | omega | (simp; omega))) ?_
  rintro e w10 ⟨rfl, hE10⟩
  refine ⟨_, rfl, ?_⟩
  have Q10 := hE10.size
  replace hV := Z0 hV hE10
  replace hM7 := hM70 _ hV
  obtain ⟨mS, hMS, hKS⟩ := hM7
  refine Zo (run_lookup2 (a := (lowS (l.getD at1.toNat default).text)) (z := ()) (v := .agg _) (key_str Tryz.underlying9) rfl Tryz.underlying171 ty_172 η η hMS rfl) ?_
  refine Zo mvU ?_
  refine Zo (run_extract (v := .agg _) rfl η η) ?_
  refine Zo (run_extract (v := .bool _) rfl η η) ?_
  refine r_var (zs := []) (vs := []) ty_172 η rfl η (fun _ => rfl) η rfl rfl η ?_
  intro b11 w12 J11 E12 B11 Y11
  have Q12 := E12.size
  replace hV := Z0 hV E12
  replace hl := hl0 _ hV
  replace hs := hs0.now hV
  replace hMS := hMS.evo0 E12
  refine Zn asB ?_
  refine Zs ?_
  refine Zo (run_mvb rfl η) ?_
  refine Zn (run_not rfl η) ?_
  refine r_cond η (fun hc13 => ?_) (fun hc13 => ?_)
  ·skip
   refine Zs ?_
   refine Zn asI ?_
   refine r_ret (res1 (v := .int _ _) rfl η) ?_
   first | exact ⟨ret_int (by rw [← hch, nth_drop (ss := ss) (k := k) ω, chain_neg ω]), hV⟩ | exact ⟨ret_int (by rw [← hch, nth_drop (ss := ss) (k := k) ω, chain_no ω (fun q => by have h9 := (hKS _).2 q; simp_all)]), hV⟩ | exact ⟨ret_int (by rw [← hch, List.drop_of_length_le ω]; rfl), hV⟩
  refine r_skip ?_
  refine Zs ?_
  refine Zo mvI ?_
  refine Zo (run_add rfl η η ω ω) ?_
  refine Zn asI ?_
  refine r_region ?_
  refine Zo mvS ?_
  refine Zo mvI ?_
  refine Zr [.slice _ _ _, .int _ _] rfl η Tryz.func212 (ttnext_calls hl (i := at1) ω ω) ?_
  rintro e w14 ⟨rfl, hE14⟩
  refine ⟨_, rfl, ?_⟩
  have Q14 := hE14.size
  replace hV := Z0 hV hE14
  replace hl := hl0 _ hV
  replace hs := hs0.now hV
  replace hMS := hMS.evo0 hE14
  refine Zn asI ?_
  refine r_blk ?_
  refine r_region ?_
  refine Zo (run_add rfl η η ω ω) ?_
  refine Zn mvI ?_
  refine r_again (k + 1) ?_ ?_ ?_
  ·first | omega | (dsimp only; omega)
  ·refine ⟨_, _, σ, rfl, rfl, δ, (atOk_next ω (by rcases hat with h9 | h9 <;> omega)), (by rw [← hch, nth_drop (ss := ss) (k := k) ω, chain_go ω ((hKS _).1 (by first | exact hc13 | exact Classical.not_not.1 hc13 | simpa [Option.isSome_iff_ne_none] using hc13))]), δ, hV⟩
  exact ψ
 refine r_exit rfl ?_
 refine Zs ?_
 refine Zo mvI ?_
 refine Zn asI ?_
 refine r_ret (res1 (v := .int _ _) rfl η) ?_
 first | exact ⟨ret_int (by rw [← hch, nth_drop (ss := ss) (k := k) ω, chain_neg ω]), hV⟩ | exact ⟨ret_int (by rw [← hch, nth_drop (ss := ss) (k := k) ω, chain_no ω (fun q => by have h9 := (hKS _).2 q; simp_all)]), hV⟩ | exact ⟨ret_int (by rw [← hch, List.drop_of_length_le ω]; rfl), hV⟩
def chainG (l : List Vc.Item) : Int → Int → List (List Str) → Int
  | _, e, [] => e
  | i, _, s :: r => if (i < 0 ∨ ¬ isW (l.getD i.toNat default)) ∨ ¬ lowS (l.getD i.toNat default).text ∈ s then -1 else chainG l (nextT l i.toNat) (i + 1) r
theorem chainG_no {l : List Vc.Item} {i e : Int} {s : List Str} {r : List (List Str)} (h : (i < 0 ∨ ¬ isW (l.getD i.toNat default)) ∨ ¬ lowS (l.getD i.toNat default).text ∈ s) : chainG l i e (s :: r) = -1 := if_pos h
theorem chainG_go {l : List Vc.Item} {i e : Int} {s : List Str} {r : List (List Str)} (h : ¬ ((i < 0 ∨ ¬ isW (l.getD i.toNat default)) ∨ ¬ lowS (l.getD i.toNat default).text ∈ s)) : chainG l i e (s :: r) = chainG l (nextT l i.toNat) (i + 1) r := by
  conv => lhs; unfold chainG
  rw [if_neg h]
end Go.Proofs.YtlfjocbnbceceaaGreatDoor
namespace Go.Vc
open Go Go.RowKit Go.IntWalk
theorem ownE_lit {α : Type} [Enc α] {w : World} {b base : Nat} {E : TypeId} {cs : List Value} (L : List α) (h : Blk w b E cs) (hc : cs = (L.map Enc.enc).flatten) (hb : base ≤ b) (hl : L.length ≤ 10000) : OwnE w base E (.slice (some ⟨b, 0, none⟩) L.length L.length) L := by
  subst hc
  have hall : ∀ cs ∈ L.map (Enc.enc : α → List Value), cs.length = Enc.n α := fun cs hcs => by
    obtain ⟨x, _, rfl⟩ := List.mem_map.1 hcs; exact Enc.len x
  have hfl := flatten_length _ _ hall
  refine ⟨⟨hfl, .inr ⟨b, L.length, _, by rw [List.length_map], hb, h, by simp, by unfold maxLen; omega, ?_, ?_⟩⟩, hall, by rw [List.length_map]; omega⟩
  · rw [List.length_map] at hfl; simpa using hfl
  · show List.take _ ((L.map Enc.enc).flatten.toArray).toList = _
    rw [← hfl]; exact List.take_length
end Go.Vc
namespace Go.Proofs.YtlfjocbnbceceaaGreatDoor
open Go.RowKit Go.Vc
theorem oforms_calls {ao : Option Addr} {b off cap : Nat} {c : List Clas} {p q : Str} {w0 : World} (hc : RowR w0 ao b off cap c) (hen : (endsL c q).length ≤ 4398046510976) (hbe : ∀ k, BdE ((endsL c q).getD k default)) (hp : p.length ≤ 140737488355328) (hq : q.length ≤ 140737488355328) :
    Calls Tryz.prog 208 #[.slice ao c.length cap, (.agg #[S p, S q])] w0 fun e w' => ∃ v, e = .returned v ∧ Evo w0 w' [] ∧ OwnE w' w0.heap.size 9 v (formsC c p q) := by
 refine calls_enter (n := 53) Tryz.func208 rfl Tryz.ntmps208 rfl ?_
 have hV : Evo w0 w0 [] := Evo.refl _ _
 have hc0 := hc.keep
 have hbd_hc := hc.bd
 refine Zs ?_
 refine r_box (vs := [_, _]) η η rfl ?_
 intro b1 w2 J1 E2 B1 Y1
 have Q2 := E2.size
 replace hV := Z0 hV E2
 refine Zn asS ?_
 refine Zs ?_
 refine Zo (run_fa rfl η fo_88_0) ?_
 refine Zo (run_ld1 rfl ag_9 η (B1.at.cell 0 η)) ?_
 refine Zr [S _] rfl η Tryz.func183 (lower_calls (by first | omega | (simp; omega))) ?_
 rintro e w3 ⟨rfl, hE3⟩
 refine ⟨_, rfl, ?_⟩
 have Q3 := hE3.size
 replace hV := Z0 hV hE3
 replace B1 := B1.evo0 hE3
 refine Zn asT ?_
 refine r_seq ?_
 refine Zs ?_
 refine Zo mvT ?_
 refine Zn (run_seql rfl η η) ?_
 refine r_cond η (fun hc4 => ?_) (fun hc4 => ?_)
 ·skip
  refine Zs ?_
  refine Zn asS ?_
  refine r_ret (res1 (v := .slice _ _ _) rfl η) ?_
  exact ⟨_, rfl, hV, by rw [forms_nil hc4]; exact OwnE.nil _ _ _⟩
 refine r_skip ?_
 refine Zs ?_
 refine r_makeMap (α := Str) (β := Unit) S (fun _ : Unit => Value.agg #[]) rfl ?_
 intro b5 w6 J5 E6 hmb5 Y5
 have Q6 := E6.size
 replace hV := Z0 hV E6
 replace B1 := B1.evo0 E6
 refine Zo mvT ?_
 refine Zo (run_bld (pv := []) (zs := []) (cells := []) rfl ty_172 η pl_172 η η) ?_
 refine r_mapins (a := _) (v := ()) (key_str Tryz.underlying9) Tryz.underlying171 η η η hmb5 ?_
 intro w7 E7 V7 hm_new
 have Q7 := E7.size
 replace hV := Z1 hV E7 ε
 replace B1 := B1.evo E7 θ
 replace hmb5 := hm_new
 clear hm_new
 refine Zo mvM ?_
 refine Zn asM ?_
 refine r_seq ?_
 refine Zs ?_
 refine Zo mvS ?_
 refine Zo (run_fa rfl η fo_88_1) ?_
 refine Zo (run_ld1 rfl ag_9 η (B1.at.cell 1 η)) ?_
 refine Zr [.slice _ _ _, S _] rfl η Tryz.func225 (ends_calls hc0 hV) ?_
 rintro e w8 ⟨ao8, b8, off8, cap8, rfl, hE8, hr80⟩
 refine ⟨_, rfl, ?_⟩
 have Q8 := hE8.size
 replace hV := Z0 hV hE8
 replace hc := hc0.now hV
 replace hmb5 := hmb5.evo0 hE8
 have hr8 := hr80 _ hV
 have hbd_hr8 := hr8.bd
 refine Zo (run_lenSl rfl η Tryz.underlying108) ?_
 refine Zn mvI ?_
 refine r_block ?_
 refine r_loop (α := Nat) [8, 9, 10, 25, 26, 27, 28, 29, 30, 31, 32, 33, 34, 35, 36, 37, 38, 39, 40, 41, 42, 43, 44, 45, 46, 47, 48, 49, 50] (fun k g w => ∃ m : List (Str × Unit), g 25 = .int .i64 (k : Nat) ∧ k ≤ (if q = [] then ([] : List Ende) else endsL c q).length ∧ MapIs w b5 S (fun _ : Unit => Value.agg #[]) m ∧ KeyIs m (foldF (fun _ => true) (lowS p) fwd ((if q = [] then ([] : List Ende) else endsL c q).take k)) ∧ w8.heap.size ≤ w.heap.size ∧ Evo w0 w []) (fun k => (if q = [] then ([] : List Ende) else endsL c q).length - k) 0 ?_ ?_
 ·refine ⟨_, σ, δ, hmb5, (KeyIs.one _), δ, hV⟩
 rintro k g w10 ⟨m, hj11, hk_k, hmb5, hks, hzl9, hV⟩
 have hs_w10hV := hV.size
 have hlt12 := hmb5.lt
 replace hr8 := hr80 _ hV
 refine Zk 25 (v := .int .i64 (k : Nat)) (by exact hj11) ?_
 have hbk := ends_ifbd hbe k
 have hb1 := hbk.1
 have hb2 := hbk.2
 refine Zs ?_
 refine Zn (run_lss rfl η η) ?_
 refine r_seq ?_
 refine r_cond η (fun hc13 => ?_) (fun hc13 => ?_)
 ·skip
  refine r_skip ?_
  refine r_seq ?_
  refine r_block ?_
  refine Zs ?_
  refine Zo (run_ix (k) rfl Tryz.underlying108 ty_112 η η (by first | exact rfl | omega) ω (hr8.addr (i := k) ω)) ?_
  have hA140 := fun (w' : World) (h : Evo w0 w' []) => (hr80 w' h).atD (k) ω
  have hA14 := hA140 _ hV
  refine Zo (run_ldN rfl ag_112 ty_112 η rfl hA14) ?_
  refine r_var (zs := [_, _]) (vs := [_, _]) ty_112 η rfl η (fun _ => rfl) η rfl rfl η ?_
  intro b15 w16 J15 E16 B15 Y15
  have Q16 := E16.size
  replace hV := Z0 hV E16
  replace hmb5 := hmb5.evo0 E16
  refine r_nil ?_
  refine Zs ?_
  refine Zo mvT ?_
  refine Zo (run_fa rfl η fo_112_0) ?_
  refine Zo (run_ld1 rfl ag_9 η (B15.at.cell 0 η)) ?_
  refine Zr [S _, S _] rfl η Tryz.func226 (s_cs_calls (by first | omega | (simp; omega)) (by first | omega | (simp; omega))) ?_
  rintro e w17 ⟨rfl, hE17⟩
  refine ⟨_, rfl, ?_⟩
  have Q17 := hE17.size
  replace hV := Z0 hV hE17
  replace hc := hc0.now hV
  replace hmb5 := hmb5.evo0 hE17
  replace B15 := B15.evo0 hE17
  refine Zo mvU ?_
  refine Zo (run_extract (v := S _) rfl η η) ?_
  refine Zo (run_extract (v := .bool _) rfl η η) ?_
  refine Zo asT ?_
  refine Zn asB ?_
  refine r_seq ?_
  have hcl := cut_len (lowS p) ((if q = [] then ([] : List Ende) else endsL c q).getD k default).strip; have hlw := lowS_len p
  refine r_region ?_
  refine Zo (run_mvb rfl η) ?_
  refine Zo mvB ?_
  refine r_g rfl (wantT η) rfl (fun hg => mvT) ?_
  refine r_g rfl (wantT η) rfl (fun hg => run_fa rfl η fo_112_1) ?_
  refine r_g rfl (wantT η) rfl (fun hg => run_ld1 rfl ag_9 (glv η (fun h => h) hg) (B15.at.cell 1 η)) ?_
  refine r_g rfl (wantT η) rfl (fun hg => run_sadd rfl (glv η (fun h => h) hg) (glv η (fun h => h) hg) (by first | omega | (simp; done) | (simp; omega))) ?_
  refine r_g rfl (wantT η) rfl (fun hg => run_sneq rfl (glv η (fun h => h) hg) η) ?_
  refine Zn (run_pick_and rfl η (fun hq => glv η (fun h => h) hq) rfl) ?_
  refine r_cond η (fun hc18 => ?_) (fun hc18 => ?_)
  ·skip
   refine r_region ?_
   refine Zo mvM ?_
   refine Zo mvT ?_
   refine Zo (run_fa rfl η fo_112_1) ?_
   refine Zo (run_ld1 rfl ag_9 η (B15.at.cell 1 η)) ?_
   refine Zo (run_sadd rfl η η (by first | omega | (simp; done) | (simp; omega))) ?_
   refine Zo (run_bld (pv := []) (zs := []) (cells := []) rfl ty_172 η pl_172 η η) ?_
   refine r_mapset (a := _) (v := ()) (key_str Tryz.underlying9) Tryz.underlying171 η η η hmb5 ?_
   intro w19 E19 V19 hm_new
   have Q19 := E19.size
   replace hV := Z1 hV E19 ε
   replace hc := hc0.now hV
   replace hmb5 := hm_new
   clear hm_new
   refine r_nil ?_
   refine r_blk ?_
   refine r_region ?_
   refine Zo (run_add rfl η η ω ω) ?_
   refine Zn mvI ?_
   refine r_again (k + 1) ?_ ?_ ?_
   ·first | omega | (dsimp only; omega)
   ·refine ⟨_, σ, δ, hmb5, (by first | exact cut_yes hks ω hc18 | exact cut_no hks ω hc18), δ, hV⟩
   exact ψ
  refine r_skip ?_
  refine r_blk ?_
  refine r_region ?_
  refine Zo (run_add rfl η η ω ω) ?_
  refine Zn mvI ?_
  refine r_again (k + 1) ?_ ?_ ?_
  ·first | omega | (dsimp only; omega)
  ·refine ⟨_, σ, δ, hmb5, (by first | exact cut_yes hks ω hc18 | exact cut_no hks ω hc18), δ, hV⟩
  exact ψ
 refine r_exit rfl ?_
 refine Zs ?_
 refine Zo mvM ?_
 refine Zr [.map _] rfl η Tryz.func227 (sorted_calls hmb5 (key_len hks (fun k => ends_ifbd hbe k) (by rw [lowS_len]; omega)) (by have h9 := key_cnt hks (foldF_sorted _ _ _ _); have h8 := foldF_len (fun _ => true) (lowS p) fwd ((if q = [] then ([] : List Ende) else endsL c q).take k); have h7 : ((if q = [] then ([] : List Ende) else endsL c q).take k).length ≤ (if q = [] then ([] : List Ende) else endsL c q).length := List.length_take_le' _ _; have h6 := ends_iflen hen; omega)) ?_
 rintro e w20 ⟨vs20, rfl, hE20, hsr20⟩
 refine ⟨_, rfl, ?_⟩
 have Q20 := hE20.size
 replace hV := Z0 hV hE20
 replace hc := hc0.now hV
 replace hmb5 := hmb5.evo0 hE20
 refine Zn (run_asg (v := vs20) rfl η) ?_
 refine r_ret (res1 (v := vs20) rfl η) ?_
 have e9 : sortS (m.map (·.1)) = formsC c p q := by rw [hks.sorted (foldF_sorted _ _ _ _), forms_if (by assumption), List.take_of_length_le ω]
 exact ⟨_, rfl, hV, by have h9 := hsr20; rw [e9] at h9; exact h9.base_le ω⟩
theorem set_step {m : List (Str × Unit)} {l : List Str} {k : Nat} (hk : k < l.length) (h : ∀ s, (getM m s).isSome = true ↔ s ∈ l.take k) (s : Str) : (getM (setM m (l.getD k default) ()) s).isSome = true ↔ s ∈ l.take (k + 1) := by
  rw [take_succD l k hk, List.mem_append, List.mem_singleton, getM_setM]
  by_cases e : s = l.getD k default
  · simp [e]
  · rw [if_neg (by first | exact e | exact fun q => e q.symm), h s]
    exact ⟨.inl, fun q => q.elim id (fun q => absurd q e)⟩
theorem set_calls {ao : Option Addr} {b off cap : Nat} {l : List Str} {w0 : World} (hl : RowE w0 ao b off cap l) :
    Calls Tryz.prog 190 #[.slice ao l.length cap] w0 fun e w' => ∃ bm, e = .returned (.map (some bm)) ∧ Evo w0 w' [] ∧ SetIs w' bm l ∧ w0.heap.size ≤ bm := by
 refine calls_enter (n := 18) Tryz.func190 rfl Tryz.ntmps190 rfl ?_
 have hV : Evo w0 w0 [] := Evo.refl _ _
 have hl0 := keepE hl
 have hbd_hl := hl.bd
 refine Zs ?_
 refine Zn asM ?_
 refine Zs ?_
 refine r_makeMap (α := Str) (β := Unit) S eU rfl ?_
 intro b1 w2 J1 E2 hmb1 Y1
 have Q2 := E2.size
 replace hV := Z0 hV E2
 replace hl := hl0 _ hV
 refine Zn asM ?_
 refine r_seq ?_
 refine Zs ?_
 refine Zo mvS ?_
 refine Zo (run_lenSl rfl η Tryz.underlying77) ?_
 refine Zn mvI ?_
 refine r_block ?_
 refine r_loop (α := Nat) [5, 9, 10, 11, 12, 13, 14, 15, 16] (fun k g w => ∃ m : List (Str × Unit), g 9 = .int .i64 (k : Nat) ∧ k ≤ l.length ∧ MapIs w b1 S eU m ∧ (∀ s, (getM m s).isSome = true ↔ s ∈ l.take k) ∧ w2.heap.size ≤ w.heap.size ∧ Evo w0 w []) (fun k => l.length - k) 0 ?_ ?_
 ·refine ⟨_, σ, δ, hmb1, (fun s => by simp [getM]), δ, hV⟩
 rintro k g w4 ⟨m, hj5, hk_k, hmb1, hms, hzl3, hV⟩
 have hs_w4hV := hV.size
 have hlt6 := hmb1.lt
 replace hl := hl0 _ hV
 refine Zk 9 (v := .int .i64 (k : Nat)) (by exact hj5) ?_
 refine Zs ?_
 refine Zn (run_lss rfl η η) ?_
 refine r_seq ?_
 refine r_cond η (fun hc7 => ?_) (fun hc7 => ?_)
 ·skip
  refine r_skip ?_
  refine r_seq ?_
  refine r_block ?_
  refine Zs ?_
  refine Zo (run_ix (k) rfl Tryz.underlying77 ty_9 η η (by first | exact rfl | omega) ω (hl.addr (i := k) ω)) ?_
  have hA80 := fun (w' : World) (h : Evo w0 w' []) => (hl0 w' h).atD (k) ω
  have hA8 := hA80 _ hV
  refine Zo (run_ld1 rfl ag_9 η (hA8.cell 0 η)) ?_
  refine Zn asT ?_
  refine r_region ?_
  refine Zo mvM ?_
  refine Zo mvT ?_
  refine Zo (run_bld (pv := []) (zs := []) (cells := []) rfl ty_172 η pl_172 η η) ?_
  refine r_mapset (a := _) (v := ()) (key_str Tryz.underlying9) Tryz.underlying171 η η η hmb1 ?_
  intro w9 E9 V9 hm_new
  have Q9 := E9.size
  replace hV := Z1 hV E9 ε
  replace hl := hl0 _ hV
  replace hmb1 := hm_new
  clear hm_new
  refine r_nil ?_
  refine r_blk ?_
  refine r_region ?_
  refine Zo (run_add rfl η η ω ω) ?_
  refine Zn mvI ?_
  refine r_again (k + 1) ?_ ?_ ?_
  ·first | omega | (dsimp only; omega)
  ·refine ⟨_, σ, δ, hmb1, (set_step ω hms), δ, hV⟩
  exact ψ
 refine r_exit rfl ?_
 refine Zs ?_
 refine Zo mvM ?_
 refine Zn asM ?_
 refine r_ret (res1 (v := .map _) rfl η) ?_
 exact ⟨_, rfl, hV, ⟨m, hmb1, fun s => by rw [hms s, List.take_of_length_le ω]⟩, by omega⟩
theorem ag_83 : aggP Tryz.prog 83 = some false := by kernel_rfl
theorem ag_88 : aggP Tryz.prog 88 = some true := by kernel_rfl
theorem fo_85_0 : fieldP Tryz.prog 85 0 = some 0 := by kernel_rfl
theorem ty_88 : tyP Tryz.prog 88 = some (2, 32, some (.agg #[(.string ⟨#[]⟩), (.string ⟨#[]⟩)])) := by kernel_rfl
def formsT (c : List Clas) (ws : List Ende) : List (List Str) := ws.map (fun y => formsC c y.strip y.add)
theorem formsT_succ {c : List Clas} {ws : List Ende} {k : Nat} (hk : k < ws.length) : formsT c (ws.take (k + 1)) = formsT c (ws.take k) ++ [formsC c (ws.getD k default).strip (ws.getD k default).add] := by
  unfold formsT; rw [take_succD ws k hk, List.map_append]; rfl
theorem formsT_len (c : List Clas) (ws : List Ende) : (formsT c ws).length = ws.length := by unfold formsT; rw [List.length_map]
theorem ende_getD {ws : List Ende} (h : ∀ y ∈ ws, BdE y) (k : Nat) : BdE (ws.getD k default) := by
  rcases Nat.lt_or_ge k ws.length with h1 | h1
  · exact h _ (getD_in h1)
  · rw [List.getD_eq_getElem?_getD, List.getElem?_eq_none h1]; exact ⟨Nat.zero_le _, Nat.zero_le _⟩
end Go.Proofs.YtlfjocbnbceceaaGreatDoor
namespace Go.Proofs.YtlfjocbnbceceaaGreatDoor
open Go Go.RowKit Go.Vc
structure Spt where
  t : Int
  fr : Int
  to : Int
deriving DecidableEq, Inhabited
instance : Enc Spt := ⟨3, fun x => [.int .i64 x.t, .int .i64 x.fr, .int .i64 x.to], fun _ => rfl, fun _ => rfl, by decide⟩
section
variable (l : List Vc.Item)
theorem chainFG : ∀ (ss : List (List Str)) (i e : Int), i < l.length → (i < 0 ∨ isW (l.getD i.toNat default)) → chainF l i e ss = chainG l i e ss
  | [], _, _, _, _ => rfl
  | s :: r, i, e, hl, h => by
    by_cases h0 : i < 0
    · rw [chain_neg h0, chainG_no (.inl (.inl h0))]
    · have hw : isW (l.getD i.toNat default) := h.resolve_left h0
      by_cases h2 : lowS (l.getD i.toNat default).text ∈ s
      · rw [chain_go h0 h2, chainG_go (by rintro ((q | q) | q); exact h0 q; exact q hw; exact q h2)]
        rcases nextT_bd (l := l) (i := i.toNat) ω with h3 | ⟨h3, h4, h5⟩
        · exact chainFG r _ _ ω (.inl ω)
        · exact chainFG r _ _ h4 (.inr h5)
      · rw [chain_no h0 h2, chainG_no (.inr h2)]
theorem chainG_bd : ∀ (ss : List (List Str)) (i e : Int), i < l.length → chainG l i e ss = -1 ∨ chainG l i e ss = e ∨ (i + 1 ≤ chainG l i e ss ∧ chainG l i e ss ≤ l.length)
  | [], _, _, _ => .inr (.inl rfl)
  | s :: r, i, e, hl => by
    by_cases h : (i < 0 ∨ ¬ isW (l.getD i.toNat default)) ∨ ¬ lowS (l.getD i.toNat default).text ∈ s
    · exact .inl (chainG_no h)
    · rw [chainG_go h]
      have h0 : ¬ i < 0 := fun q => h (.inl (.inl q))
      rcases nextT_bd (l := l) (i := i.toNat) ω with h3 | ⟨h3, h4, h5⟩
      · rcases chainG_bd r (nextT l i.toNat) (i + 1) ω with h6 | h6 | ⟨h6, h7⟩
        · exact .inl h6
        · exact .inr (.inr ⟨by omega, by omega⟩)
        · cases r with
          | nil => exact .inr (.inr ⟨by show i + 1 ≤ i + 1; omega, by show i + 1 ≤ _; omega⟩)
          | cons s2 r2 => exact .inl (chainG_no (.inl (.inl ω)))
      · rcases chainG_bd r (nextT l i.toNat) (i + 1) h4 with h6 | h6 | ⟨h6, h7⟩
        · exact .inl h6
        · exact .inr (.inr ⟨by omega, by omega⟩)
        · exact .inr (.inr ⟨by omega, h7⟩)
def cT (i : Nat) (ss : List (List Str)) : Int := chainG l i (-1) ss
theorem cT_no {i : Nat} (h : ¬ isW (l.getD i default)) (ss : List (List Str)) : cT l i ss = -1 := by
  unfold cT
  cases ss with
  | nil => rfl
  | cons s r => exact chainG_no (.inl (.inr (by simpa using h)))
theorem cT_bd {i : Nat} (hi : i < l.length) (ss : List (List Str)) : cT l i ss = -1 ∨ ((i : Int) + 1 ≤ cT l i ss ∧ cT l i ss ≤ l.length) := by
  rcases chainG_bd l ss i (-1) ω with h | h | h
  · exact .inl h
  · exact .inl h
  · exact .inr h
variable (fs : List (List (List Str)))
def longer (o : Option (Nat × Int)) (k : Nat) : Bool := o.all fun q => decide ((fs.getD q.1 default).length < (fs.getD k default).length)
def bestK (i : Nat) : Nat → Option (Nat × Int)
  | 0 => none
  | k + 1 => if 0 ≤ cT l i (fs.getD k default) ∧ longer fs (bestK i k) k = true then some (k, cT l i (fs.getD k default)) else bestK i k
theorem best_yes {i k : Nat} (h : 0 ≤ cT l i (fs.getD k default) ∧ longer fs (bestK l fs i k) k = true) : bestK l fs i (k + 1) = some (k, cT l i (fs.getD k default)) := if_pos h
theorem best_no {i k : Nat} (h : ¬ (0 ≤ cT l i (fs.getD k default) ∧ longer fs (bestK l fs i k) k = true)) : bestK l fs i (k + 1) = bestK l fs i k := if_neg h
theorem best_none {i : Nat} (h : ¬ isW (l.getD i default)) : ∀ k, bestK l fs i k = none
  | 0 => rfl
  | k + 1 => by rw [best_no l fs (by rw [cT_no l h]; omega)]; exact best_none h k
theorem best_bd {i : Nat} (hi : i < l.length) : ∀ (k : Nat) (q : Nat × Int), bestK l fs i k = some q → q.1 < k ∧ (i : Int) + 1 ≤ q.2 ∧ q.2 ≤ l.length ∧ q.2 = cT l i (fs.getD q.1 default)
  | 0, q, h => by cases h
  | k + 1, q, h => by
    by_cases h1 : 0 ≤ cT l i (fs.getD k default) ∧ longer fs (bestK l fs i k) k = true
    · rw [best_yes l fs h1] at h
      cases h
      rcases cT_bd l hi (fs.getD k default) with h2 | h2
      · omega
      · exact ⟨Nat.lt_succ_self _, h2.1, h2.2, rfl⟩
    · rw [best_no l fs h1] at h
      have := best_bd hi k q h
      exact ⟨by omega, this.2⟩
def bestI (o : Option (Nat × Int)) : Int × Int := match o with | none => (-1, -1) | some q => ((q.1 : Int), q.2)
def bestF (i : Nat) (o : Option (Nat × Int)) : Int := match o with | none => 0 | some _ => (i : Int)
def bestE (o : Option (Nat × Int)) : Int := match o with | none => 0 | some q => q.2
theorem longer_iff (o : Option (Nat × Int)) (k : Nat) : longer fs o k = true ↔ ((bestI o).1 < 0 ∨ (fs.getD (bestI o).1.toNat default).length < (fs.getD k default).length) := by
  cases o with
  | none => simp [longer, bestI]
  | some q =>
    have h : ¬ ((q.1 : Nat) : Int) < 0 := by omega
    simp only [longer, bestI, Option.all_some, decide_eq_true_eq, h, false_or, Int.toNat_natCast]
def spotsG : Nat → Nat → List Spt
  | 0, _ => []
  | n + 1, i => match bestK l fs i fs.length with
    | none => spotsG n (i + 1)
    | some q => ⟨(q.1 : Int), i, q.2⟩ :: spotsG n q.2.toNat
def spotsF (i : Nat) : List Spt := spotsG l fs (l.length - i) i
theorem spotsG_out : ∀ (n i : Nat), l.length ≤ i → spotsG l fs n i = []
  | 0, _, _ => rfl
  | n + 1, i, h => by
    have hb := best_none l fs (i := i) (by rw [List.getD_eq_getElem?_getD, List.getElem?_eq_none h]; decide) fs.length
    unfold spotsG
    rw [hb]
    exact spotsG_out n (i + 1) ω
theorem spotsG_more : ∀ (n m i : Nat), l.length - i ≤ n → l.length - i ≤ m → spotsG l fs n i = spotsG l fs m i
  | 0, m, i, h1, h2 => by rw [spotsG_out l fs 0 i ω, spotsG_out l fs m i ω]
  | n + 1, 0, i, h1, h2 => by rw [spotsG_out l fs _ i ω, spotsG_out l fs _ i ω]
  | n + 1, m + 1, i, h1, h2 => by
    rcases Nat.lt_or_ge i l.length with hi | hi
    · unfold spotsG
      cases hb : bestK l fs i fs.length with
      | none => exact spotsG_more n m (i + 1) ω ω
      | some q =>
        have h3 := best_bd l fs hi _ _ hb
        exact congrArg _ (spotsG_more n m q.2.toNat ω ω)
    · rw [spotsG_out l fs _ i hi, spotsG_out l fs _ i hi]
theorem spots_none {i : Nat} (hi : i < l.length) (h : bestK l fs i fs.length = none) : spotsF l fs i = spotsF l fs (i + 1) := by
  unfold spotsF
  obtain ⟨n, hn⟩ : ∃ n, l.length - i = n + 1 := ⟨l.length - i - 1, by omega⟩
  rw [hn]
  conv => lhs; unfold spotsG
  rw [h]
  exact spotsG_more l fs _ _ _ ω ω
theorem spots_some {i : Nat} (hi : i < l.length) {q : Nat × Int} (h : bestK l fs i fs.length = some q) : spotsF l fs i = ⟨(q.1 : Int), i, q.2⟩ :: spotsF l fs q.2.toNat := by
  have h3 := best_bd l fs hi _ _ h
  unfold spotsF
  obtain ⟨n, hn⟩ : ∃ n, l.length - i = n + 1 := ⟨l.length - i - 1, by omega⟩
  rw [hn]
  conv => lhs; unfold spotsG
  rw [h]
  exact congrArg _ (spotsG_more l fs _ _ _ ω ω)
theorem spots_end {i : Nat} (h : l.length ≤ i) : spotsF l fs i = [] := spotsG_out l fs _ i h
end
theorem bestI_none {o : Option (Nat × Int)} (h : (bestI o).1 < 0) : o = none := by
  cases o with
  | none => rfl
  | some q => exact absurd h (by show ¬ ((q.1 : Nat) : Int) < 0; omega)
theorem ag_85 : aggP Tryz.prog 85 = some true := by kernel_rfl
theorem pl_187 : placesP Tryz.prog 187 = some [(0, 1), (1, 1), (2, 1)] := by kernel_rfl
theorem ty_187 : tyP Tryz.prog 187 = some (3, 24, some (.agg #[(.int .i64 0), (.int .i64 0), (.int .i64 0)])) := by kernel_rfl
theorem ty_85 : tyP Tryz.prog 85 = some (3, 72, some (.agg #[(.slice none 0 0), (.slice none 0 0), (.slice none 0 0)])) := by kernel_rfl
def fsT (c : List Clas) (ts : List TermL) : List (List (List Str)) := ts.map (fun t => formsT c t.words)
theorem fsT_len (c : List Clas) (ts : List TermL) : (fsT c ts).length = ts.length := by unfold fsT; rw [List.length_map]
theorem fsT_get {c : List Clas} {ts : List TermL} {k : Nat} (h : k < ts.length) : (fsT c ts).getD k default = formsT c (ts.getD k default).words := by
  unfold fsT; simp [List.getD, h]
theorem fsT_glen {c : List Clas} {ts : List TermL} {k : Nat} (h : k < ts.length) : ((fsT c ts).getD k default).length = (ts.getD k default).words.length := by rw [fsT_get h, formsT_len]
theorem termD_bd {ts : List TermL} (h : ∀ x ∈ ts, x.words.length ≤ 4398046510976 ∧ ∀ y ∈ x.words, BdE y) (k : Nat) : (ts.getD k default).words.length ≤ 4398046510976 ∧ ∀ y ∈ (ts.getD k default).words, BdE y := by
  rcases Nat.lt_or_ge k ts.length with h1 | h1
  · exact h _ (getD_in h1)
  · rw [List.getD_eq_getElem?_getD, List.getElem?_eq_none h1]; exact ⟨Nat.zero_le _, fun y hy => by cases hy⟩
theorem bestI_lt {l : List Vc.Item} {fs : List (List (List Str))} {i k n : Nat} (hi : i < l.length) (hk : k ≤ n) (hn : 0 < n) : (bestI (bestK l fs i k)).1.toNat < n := by
  cases h : bestK l fs i k with
  | none => exact hn
  | some q => have := (best_bd l fs hi k q h).1; show ((q.1 : Nat) : Int).toNat < n; omega
theorem bestI_bd {l : List Vc.Item} {fs : List (List (List Str))} {i k : Nat} (hi : i < l.length) : -1 ≤ (bestI (bestK l fs i k)).1 ∧ (bestI (bestK l fs i k)).1 < (k : Int) + 0 ∨ (bestI (bestK l fs i k)).1 = -1 := by
  cases h : bestK l fs i k with
  | none => exact .inr rfl
  | some q => have := (best_bd l fs hi k q h).1; exact .inl ⟨by show -1 ≤ ((q.1 : Nat) : Int); omega, by show ((q.1 : Nat) : Int) < _; omega⟩
end Go.Proofs.YtlfjocbnbceceaaGreatDoor
namespace Go.Vc
open Go Go.RowKit Go.IntWalk
def FRow (w : World) (bt : Nat) (v : Value) (l : List (List Str)) : Prop := ∀ w', Evo w w' [bt] → ∃ ao b off cap, v = .slice ao (l.map SetS.mk).length cap ∧ RowR w' ao b off cap (l.map SetS.mk)
theorem FRow.evo {w w' : World} {bt : Nat} {v : Value} {l : List (List Str)} (h : FRow w bt v l) (he : Evo w w' [bt]) : FRow w' bt v l := fun w2 h2 => h w2 (Evo.trans he h2 (fun x hx _ => hx))
theorem FRow.of {w : World} {base E bt : Nat} {v : Value} {l : List (List Str)} (h : OwnR w base E [bt] v (l.map SetS.mk)) (hb : bt < base) : FRow w bt v l := fun w' he => by
  obtain ⟨ao, g, cap, hv, hr⟩ := (h.evoY he (fun y hy => by have e : y = bt := (by simpa using hy); omega)).rowOf
  exact ⟨ao, g, 0, cap, hv, hr⟩
theorem nth_mk (l : List (List Str)) : (l.map SetS.mk).map (·.ks) = l := by rw [List.map_map]; exact List.map_id' l
section
variable {P : Program} {n : Nat} {f : Fr} {w : World}
theorem Kx_goto {B : Exit → Act → World → Prop} (hB : ∀ i a w, ¬ B (.goto i) a w) {i : Nat} {a : Act} {w : World} : ∀ k : List Kont, ¬ Kx P B k (.goto i) a w
  | [], h => hB i a w h
  | .code _ :: k, h => Kx_goto hB k h
  | .blk _ :: k, h => Kx_goto hB k h
  | .stop _ :: k, h => Kx_goto hB k h
theorem r_scope {fn : Func} {R : Ending → World → Prop} {c : Code} {k : List Kont} (h : KF P (bodyPost P fn R) n (.code c :: k) f w) : KF P (bodyPost P fn R) n (.code (.scope c) :: k) f w := by
  intro a ha
  show (Code.scope c).wp P (Kx P (bodyPost P fn R) k) a w
  refine wp_scope_straight (wp_mono (h a ha) fun e a w hq => ?_)
  cases e with
  | goto i => exact (Kx_goto (P := P) (fun _ _ _ h => h) k hq).elim
  | normal => exact hq
  | exit i => exact hq
  | ret => exact hq
  | panic c => exact hq
  | outgrown => exact hq
theorem r_label {B : Exit → Act → World → Prop} {l : Nat} {k : List Kont} (h : KF P B n k f w) : KF P B n (.code (.label l) :: k) f w := fun a ha => wp_label (h a ha)
end
theorem rowLitRK {α : Type} [Rep α] {w : World} {b : Nat} {T : TypeId} {cs : List Value} {x : α} (E : List Nat) (h : Blk w b T cs) (hb : b ∉ E) (hr : ∀ w', Evo w w' E → Rep.rep w' cs x) : RowRK w E (some ⟨b, 0, none⟩) b 0 1 [x] := by
  refine ⟨[cs], fun w' he => ⟨⟨by simp, fun _ => rfl, fun i c hi => ?_⟩, RepL.one (hr w' he)⟩⟩
  cases i with
  | zero =>
    simp at hi; subst hi
    refine ⟨Rep.len (hr w' he), ?_⟩
    have := (h.evo he hb).at
    simpa using this
  | succ i => simp at hi
section
variable {P : Program} {B : Exit → Act → World → Prop} {n : Nat} {k : List Kont} {f : Fr} {w : World} {ops : Array Oper} {rest : List Oper}
theorem r_makeB {T E d m bb len : Nat} {t : TypeId} {pos : String} {aft : Array Edge} {x y : Operand} {z : Value} {zs : List Value} {κ κ' : IntKind} {i j : Int}
    (hu : P.underlying T = some (.slice E)) (ht : tyP P E = some (m, bb, some z)) (hz : z.cells = zs.toArray) (hm : (Nat.beq zs.length m && Nat.ble 1 m) = true) (hd : Nat.blt d n = true)
    (hx : opv f x = .int κ i) (hy : opv f y = .int κ' j) (hi : i = (len : Int)) (hj : j = (len : Int)) (hlen : len ≤ 140737488355328) (hb : bb * len ≤ 281474976710656)
    (h : ∀ b w', b = w.heap.size → Evo w w' [] → FB w' b E m len (fun _ => zs) → w'.heap.size = b + 1 → KL P B n ops k rest (upd f d (.slice (some ⟨b, 0, none⟩) len len)) w') :
    KL P B n ops k (⟨some d, .makeSlice T x y, t, pos, aft, none⟩ :: rest) f w := by
  simp only [Bool.and_eq_true, Nat.ble_eq] at hm
  have hzl := Nat.eq_of_beq_eq_true hm.1
  obtain ⟨it, hit, h1, h2, h3⟩ := info_of ht
  have hll : len ≤ len * m := Nat.le_mul_of_pos_right len ω
  have hbb : (bb : Int) * (len : Int) = ((bb * len : Nat) : Int) := by simp
  have hrun := run_make (P := P) w T E it z hu hit h3 κ κ' (len : Int) (len : Int) ω (Int.le_refl _) (by rw [h2, hbb]; omega) ω
  simp only [Int.toNat_natCast, h1] at hrun
  rw [madeCells_flat hz hzl ω len] at hrun
  refine r_op (v := .slice (some ⟨w.heap.size, 0, none⟩) len len) (w' := w.alloc (.cells (flat len (fun _ => zs)).toArray E)) rfl rfl hd ?_ (h _ _ rfl (Evo.alloc _ _ _) ⟨heap_alloc_new w _, fun _ => hzl⟩ (by simp))
  subst hi
  subst hj
  simp [execOp, hx, hy, hrun]
end
end Go.Vc
namespace Go.Proofs.YtlfjocbnbceceaaGreatDoor
open Go.RowKit Go.Vc
theorem ag_187 : aggP Tryz.prog 187 = some true := by kernel_rfl
theorem ag_200 : aggP Tryz.prog 200 = some false := by kernel_rfl
theorem fo_187_0 : fieldP Tryz.prog 187 0 = some 0 := by kernel_rfl
theorem fo_187_2 : fieldP Tryz.prog 187 2 = some 2 := by kernel_rfl
theorem ty_200 : tyP Tryz.prog 200 = some (1, 24, some (.slice none 0 0)) := by kernel_rfl
theorem ps_cond {l : List Vc.Item} {c : List Clas} {ts : List TermL} {i k : Nat} (hi : i < l.length) (hk : k < ts.length) {e : Int} (he : e = cT l i ((fsT c ts).getD k default)) : (0 ≤ e ∧ ((bestI (bestK l (fsT c ts) i k)).1 < 0 ∨ (((ts.getD (bestI (bestK l (fsT c ts) i k)).1.toNat default).words.length : Nat) : Int) < ((((formsT c (ts.getD k default).words).map SetS.mk).length : Nat) : Int))) ↔ (0 ≤ cT l i ((fsT c ts).getD k default) ∧ longer (fsT c ts) (bestK l (fsT c ts) i k) k = true) := by
  have hb := bestI_lt (l := l) (fs := fsT c ts) (i := i) (k := k) (n := ts.length) hi ω ω
  rw [longer_iff, fsT_glen hb, fsT_glen hk, List.length_map, formsT_len, he]
  omega
theorem set_one (w : World) (cs : List Value) (x : SetS) (h : Rep.rep w cs x) : oneCells cs = true := by obtain ⟨b, rfl, _⟩ := h; rfl
section
variable {l : List Vc.Item} {fs : List (List (List Str))} {i to9 : Nat}
theorem spots_skip (hi : i < l.length) (h : (i : Int) < (to9 : Int) ∨ ¬ isW (l.getD i default)) : spotsF l fs (max i to9) = spotsF l fs (max (i + 1) to9) := by
  by_cases h1 : i < to9
  · rw [show max i to9 = max (i + 1) to9 by omega]
  · have h2 : ¬ isW (l.getD i default) := h.resolve_left ω
    rw [show max i to9 = i by omega, show max (i + 1) to9 = i + 1 by omega]
    exact spots_none l fs hi (best_none l fs h2 _)
theorem spots_nob (hi : i < l.length) (h : ¬ ((i : Int) < (to9 : Int) ∨ ¬ isW (l.getD i default))) (hb : bestK l fs i fs.length = none) : spotsF l fs (max i to9) = spotsF l fs (max (i + 1) to9) := by
  have h1 : ¬ (i : Int) < (to9 : Int) := fun q => h (.inl q)
  rw [show max i to9 = i by omega, show max (i + 1) to9 = i + 1 by omega]
  exact spots_none l fs hi hb
theorem spots_yes (hi : i < l.length) (h : ¬ ((i : Int) < (to9 : Int) ∨ ¬ isW (l.getD i default))) {q : Nat × Int} (hb : bestK l fs i fs.length = some q) : spotsF l fs (max i to9) = ⟨(q.1 : Int), (i : Int), q.2⟩ :: spotsF l fs (max (i + 1) q.2.toNat) := by
  have h1 : ¬ (i : Int) < (to9 : Int) := fun q => h (.inl q)
  have h3 := best_bd l fs hi _ _ hb
  rw [show max i to9 = i by omega, show max (i + 1) q.2.toNat = q.2.toNat by omega]
  exact spots_some l fs hi hb
theorem bestC_some {o : Option (Nat × Int)} (h : ¬ (bestI o).1 < 0) : ∃ q, o = some q ∧ (bestI o).1 = (q.1 : Int) ∧ bestF i o = (i : Int) ∧ bestE o = q.2 := by
  cases o with
  | none => exact absurd (show (-1 : Int) < 0 by decide) h
  | some q => exact ⟨q, rfl, rfl, rfl, rfl⟩
end
set_option maxHeartbeats 1000000 in
theorem spots_calls {aot : Option Addr} {btt offt capt : Nat} {ts : List TermL} {ao : Option Addr} {b off cap : Nat} {c : List Clas} {aol : Option Addr} {bl offl capl : Nat} {l : List Vc.Item} {w0 : World} (ht : RowR w0 aot btt offt capt ts) (hc : RowR w0 ao b off cap c) (hl : RowE w0 aol bl offl capl l) (hq : ∀ x ∈ l, x.text.length ≤ 140737488355328) (hzl : l.length ≤ 4398046510976) (hzt : ts.length ≤ 1954687338760) :
    Calls Tryz.prog 187 #[.slice aot ts.length capt, .slice ao c.length cap, .slice aol l.length capl] w0 fun e w' => ∃ v, e = .returned v ∧ Evo w0 w' [] ∧ OwnE w' w0.heap.size 187 v (spotsF l (fsT c ts) 0) := by
 have hcb := clas_bd hc; have htb := term_bd ht
 refine calls_enter (n := 114) Tryz.func187 rfl Tryz.ntmps187 rfl ?_
 have hV : Evo w0 w0 [] := Evo.refl _ _
 have ht0 := ht.keep
 have hbd_ht := ht.bd
 have hc0 := hc.keep
 have hbd_hc := hc.bd
 have hl0 := keepE hl
 have hbd_hl := hl.bd
 refine Zs ?_
 refine Zn asS ?_
 refine r_scope ?_
 refine Zs ?_
 refine Zo mvS ?_
 refine Zo (run_lenSl rfl η Tryz.underlying25) ?_
 refine r_makeB (len := ts.length) (zs := [_]) Tryz.underlying213 ty_200 η rfl rfl η η ω ω ω ω ?_
 intro bt w1 hebt E1 hout hzbt
 have Q1 := E1.size
 replace hV := Z0 hV E1
 replace ht := ht0.now hV
 replace hc := hc0.now hV
 replace hl := hl0 _ hV
 refine Zn (run_asg (v := .slice (some ⟨bt, 0, none⟩) _ _) rfl η) ?_
 refine r_seq ?_
 refine Zs ?_
 refine Zo mvS ?_
 refine Zo (run_lenSl rfl η Tryz.underlying25) ?_
 refine Zn mvI ?_
 refine r_block ?_
 refine r_loop (α := Nat) [8, 9, 11, 24, 25, 26, 27, 28, 29, 30, 31, 32, 33, 34, 35, 36, 37, 38, 39, 40, 41, 42, 43, 44, 45, 46, 47, 48, 49, 50] (fun k g w => ∃ vs : Nat → Value, g 24 = .int .i64 (k : Nat) ∧ k ≤ ts.length ∧ FB w bt 200 1 ts.length (fun x => [vs x]) ∧ (∀ x, x < k → FRow w bt (vs x) (formsT c (ts.getD x default).words)) ∧ (∀ x, k ≤ x → vs x = .slice none 0 0) ∧ w1.heap.size ≤ w.heap.size ∧ Evo w0 w []) (fun k => ts.length - k) 0 ?_ ?_
 ·refine ⟨(fun _ => .slice none 0 0), σ, δ, hout, (fun x hx => absurd hx ω), (fun x hx => rfl), δ, hV⟩
 rintro k g w3 ⟨vs, hj4, hk_k, hfb, hrw, hnl, hzl2, hV⟩
 have hs_w3hV := hV.size
 have hlt5 := hfb.lt
 replace ht := ht0.now hV
 replace hc := hc0.now hV
 replace hl := hl0 _ hV
 refine Zk 24 (v := .int .i64 (k : Nat)) (by exact hj4) ?_
 refine Zs ?_
 refine Zn (run_lss rfl η η) ?_
 refine r_seq ?_
 refine r_cond η (fun hc6 => ?_) (fun hc6 => ?_)
 ·skip
  refine r_skip ?_
  refine r_seq ?_
  refine r_block ?_
  refine r_seq ?_
  have hB : Evo w3 w3 [bt] := Evo.refl _ _
  refine r_region ?_
  refine Zo mvI ?_
  refine Zo (run_ix (k) rfl Tryz.underlying25 ty_85 η η (by first | exact rfl | omega) ω (ht.addr (i := k) ω)) ?_
  obtain ⟨aoW7, bW7, offW7, capW7, aoQ7, bQ7, offQ7, capQ7, aoF7, bF7, offF7, capF7, hX⟩ := term_atK ht0 (k) ω
  have hA70 := fun (w' : World) (h : Evo w0 w' []) => (hX w' h).1
  have hA7 := hA70 _ hV
  have hW70 := fun (w' : World) (h : Evo w0 w' []) => (hX w' h).2.1
  have hW7 := hW70 _ hV
  have hQ70 := fun (w' : World) (h : Evo w0 w' []) => (hX w' h).2.2.1
  have hQ7 := hQ70 _ hV
  have hF70 := fun (w' : World) (h : Evo w0 w' []) => (hX w' h).2.2.2
  have hF7 := hF70 _ hV
  clear hX
  have hbd_hW7 := hW7.bd
  have hbd_hQ7 := hQ7.bd
  have hbd_hF7 := hF7.bd
  refine Zo (run_ldN rfl ag_85 ty_85 η rfl hA7) ?_
  refine r_alloc (zs := [_, _, _]) ty_85 η rfl ?_
  intro b8 w9 J8 E9 B8 Y8
  have Q9 := E9.size
  replace hV := Z0 hV E9
  replace hB := Z0 hB E9
  replace hfb := hfb.evo0 E9
  replace hA7 := hA70 _ hV
  refine Zo asI ?_
  refine r_store (v := .agg _) (vs := [_, _, _]) (cs' := [_, _, _]) η η B8 ty_85 η rfl η rfl η ?_
  intro w10 E10 V10 hb_new
  have Q10 := E10.size
  replace hV := Z1 hV E10 ε
  replace hB := Z1 hB E10 ε
  replace ht := ht0.now hV
  replace hc := hc0.now hV
  replace hl := hl0 _ hV
  replace hfb := hfb.evo E10 θ
  replace hW7 := hW70 _ hV
  replace hQ7 := hQ70 _ hV
  replace hF7 := hF70 _ hV
  replace B8 := hb_new
  clear hb_new
  refine r_nil ?_
  refine r_seq ?_
  have htk := termD_bd htb k
  refine r_region ?_
  refine Zo (run_fa rfl η fo_85_0) ?_
  refine Zo (run_ld1 rfl ag_83 η (B8.at.cell 0 η)) ?_
  refine Zo (run_lenSl rfl η Tryz.underlying83) ?_
  refine Zn mvI ?_
  refine r_block ?_
  refine r_loop (α := Nat) [11, 32, 33, 34, 35, 36, 37, 38, 39, 40, 41, 42, 43, 44, 45, 46, 47, 48, 49] (fun j g w => ∃ vc : Value, g 32 = .int .i64 (j : Nat) ∧ j ≤ (ts.getD k default).words.length ∧ OwnR w w10.heap.size 171 [bt] vc ((formsT c ((ts.getD k default).words.take j)).map SetS.mk) ∧ FB w bt 200 1 ts.length (fun x => if x = k then [vc] else [vs x]) ∧ w10.heap.size ≤ w.heap.size ∧ Evo w0 w [] ∧ Evo w3 w [bt]) (fun j => (ts.getD k default).words.length - j) 0 ?_ ?_
  ·refine ⟨(.slice none 0 0), σ, δ, (OwnR.nil _ _ _ _), (hfb.congr (fun x => by by_cases e9 : x = k; (subst e9; rw [if_pos rfl, hnl x (Nat.le_refl _)]); rw [if_neg e9])), δ, hV, hB⟩
  rintro j g w12 ⟨vc, hj13, hk_j, hoC, hfb, hzl11, hV, hB⟩
  have hs_w12hV := hV.size
  have hs_w12hB := hB.size
  have hlt14 := hfb.lt
  replace ht := ht0.now hV
  replace hc := hc0.now hV
  replace hl := hl0 _ hV
  replace hA7 := hA70 _ hV
  replace hW7 := hW70 _ hV
  replace hQ7 := hQ70 _ hV
  replace hF7 := hF70 _ hV
  refine Zk 32 (v := .int .i64 (j : Nat)) (by exact hj13) ?_
  refine Zs ?_
  refine Zn (run_lss rfl η η) ?_
  refine r_seq ?_
  refine r_cond η (fun hc15 => ?_) (fun hc15 => ?_)
  ·skip
   refine r_skip ?_
   refine r_seq ?_
   refine r_block ?_
   refine r_seq ?_
   have hoC_own := fun {g : Nat} (hg : vc.ownBlock = some g) => hoC.block (g := g) hg
   refine r_region ?_
   refine Zo (run_ix (j) rfl Tryz.underlying83 ty_88 η η (by first | exact rfl | omega) ω (hW7.addr (i := j) ω)) ?_
   have hA160 := fun (w' : World) (h : Evo w0 w' []) => (hW70 w' h).atD (j) ω
   have hA16 := hA160 _ hV
   refine Zo (run_ldN rfl ag_88 ty_88 η rfl hA16) ?_
   have hob17 := fun g hg => (hoC.block (g := g) hg).2
   refine r_var (zs := [_, _]) (vs := [_, _]) ty_88 η rfl η (fun _ => rfl) η rfl rfl η ?_
   intro b18 w19 J18 E19 B18 Y18
   have Q19 := E19.size
   replace hV := Z0 hV E19
   replace hB := Z0 hB E19
   replace hoC := hoC.evo0 E19
   replace hfb := hfb.evo0 E19
   refine r_nil ?_
   have hobC := fun g hg => (hoC.block (g := g) hg); have hbk := ende_getD htk.2 j; have hfl := formsT_len c ((ts.getD k default).words.take j); have hft := List.length_take_le j (ts.getD k default).words
   have hbtl := hfb.lt
   have hnb : bt ∉ vc.ownBlock.toList := fun hm => by have h9 := hobC _ (Option.mem_toList.1 hm); omega
   have hfb_q := hfb
   have hbb18_q := B18
   have hAb18_q := B18.at
   have hV_q := hV
   have hB_q := hB
   refine h_region (vc.ownBlock.toList) ζ ?_
   intro w20 hE21 hC8x
   have Q20 := hE21.size
   replace hV := Z0 hV hE21
   replace hB := Z0 hB hE21
   replace hc := hc0.now hV
   replace hoC := hoC.evo0 hE21
   replace hfb := hfb.evo0 hE21
   replace B18 := B18.evo0 hE21
   refine Zt (i := 0) η (fun w' hC => run_mv (v := .slice (some ⟨bt, 0, none⟩) _ _) rfl η) hC8x ?_
   refine Zt (i := 1) η (fun w' hC => mvI) hC8x ?_
   refine Zt (i := 2) η (fun w' hC => run_mv (v := .slice (some ⟨bt, 0, none⟩) _ _) rfl η) hC8x ?_
   refine Zt (i := 3) η (fun w' hC => mvI) hC8x ?_
   refine Zt (i := 4) η (fun w' hC => run_ix (k) rfl Tryz.underlying213 ty_200 η η (by first | exact rfl | omega) ω rfl) hC8x ?_
   refine Zt (i := 5) η (fun w' hC => run_ld1 rfl ag_200 η ((hfb_q.evo hC hnb).cell0 (x := k) ω (v := vc) (r := []) (if_pos rfl))) hC8x ?_
   refine Zt (i := 6) η (fun w' hC => mvS) hC8x ?_
   refine Zt (i := 7) η (fun w' hC => run_ldN rfl ag_88 ty_88 η rfl (hAb18_q.evo hC (fun hg => by have h8 := hoC_own (Option.mem_toList.1 hg); omega))) hC8x ?_
   refine Zh (i := 8) ?_
   refine Zr [.slice _ _ _, .agg _] rfl η Tryz.func208 (oforms_calls hc (p := ((ts.getD k default).words.getD j default).strip) (q := ((ts.getD k default).words.getD j default).add) (ends_len hcb _) (ends_bd hcb _) (by have := hbk.1; omega) (by have := hbk.2; omega)) ?_
   rintro e w22 ⟨vf22, rfl, hE22, hof22⟩
   refine ⟨_, rfl, ?_⟩
   have Q22 := hE22.size
   replace hV := Z0 hV hE22
   replace hB := Z0 hB hE22
   replace hC8x := Z0 hC8x hE22
   replace hoC := hoC.evo0 hE22
   replace hfb := hfb.evo0 hE22
   refine h_next hC8x ?_
   refine Zh (i := 9) ?_
   obtain ⟨ao23, g23, cp23, hv23, hr23, hg23⟩ := hof22.rowOf
   subst hv23
   refine Zr [.slice _ _ _] rfl η Tryz.func190 (set_calls hr23) ?_
   rintro e w24 ⟨bm24, rfl, hE24, hsm24, hsb24⟩
   refine ⟨_, rfl, ?_⟩
   have Q24 := hE24.size
   replace hV := Z0 hV hE24
   replace hB := Z0 hB hE24
   replace hC8x := Z0 hC8x hE24
   replace hoC := hoC.evo0 hE24
   replace hfb := hfb.evo0 hE24
   replace hof22 := hof22.evo0 hE24
   replace hr23 := hr23.evo0 hE24
   refine h_next hC8x ?_
   refine Zh (i := 10) ?_
   refine r_bslice (pv := [(0, .map (some bm24))]) (zs := [_]) (cs := [_]) Tryz.underlying200 ty_171 η rfl η rfl η ?_
   intro b25 w26 J25 E26 B25 Y25
   have Q26 := E26.size
   replace hV := Z0 hV E26
   replace hB := Z0 hB E26
   replace hC8x := Z0 hC8x E26
   replace hoC := hoC.evo0 E26
   replace hfb := hfb.evo0 E26
   replace hof22 := hof22.evo0 E26
   replace hr23 := hr23.evo0 E26
   replace hsm24 := hsm24.evo0 E26
   have hKb25 : Evo w26 w26 ([bt] ++ vc.ownBlock.toList) := Evo.refl _ _
   have hrb250 := rowLitRK ([bt] ++ vc.ownBlock.toList) B25 (by intro hm; simp only [List.singleton_append, List.mem_cons] at hm; rcases hm with hm | hm; omega; have h8 := hobC _ (Option.mem_toList.1 hm); omega) (fun w9 h9 => ⟨bm24, rfl, hsm24.evo h9 (by intro hm; simp only [List.singleton_append, List.mem_cons] at hm; rcases hm with hm | hm; omega; have h8 := hobC _ (Option.mem_toList.1 hm); omega)⟩) (x := (⟨formsC c ((ts.getD k default).words.getD j default).strip ((ts.getD k default).words.getD j default).add⟩ : SetS))
   have hrb25 := hrb250.now hKb25
   have hbd_hrb25 := hrb25.bd
   refine h_next hC8x ?_
   refine Zh (i := 11) ?_
   refine r_appendR (w1 := w26) (E' := [bt] ++ vc.ownBlock.toList) rfl Tryz.underlying200 ty_171 η set_one hoC η η hrb250 ((fun w9 h9 => Evo.trans hKb25 h9 (fun x hx _ => hx))) rfl ((by simp only [List.length_map, List.length_cons, List.length_nil]; omega)) ((by simp only [List.length_map, List.length_cons, List.length_nil]; omega)) ω ?_
   intro v27 w28 E28 hov27 hlv27
   have Q28 := E28.size
   replace hV := evo_stepo hV E28 (fun g hg => .inl (by first | exact (hoC.block hg).1 | (have := hoC.block hg; omega)))
   replace hB := evo_stepo hB E28 (fun g hg => .inl (by first | exact (hoC.block hg).1 | (have := hoC.block hg; omega)))
   replace hC8x := evo_stepo hC8x E28 (fun g hg => .inr (Option.mem_toList.2 hg))
   replace hKb25 := evo_stepo hKb25 E28 (fun g hg => .inr (List.mem_append.2 (.inr (Option.mem_toList.2 hg))))
   replace hfb := hfb.evo E28 (by intro hm; have hm2 := Option.mem_toList.1 hm; first | (have := hoC.block hm2; omega) | (simp [Value.ownBlock] at hm2; omega))
   obtain ⟨aoZ, cpZ, hvZ⟩ := hov27.shape
   subst hvZ
   refine h_next hC8x ?_
   refine Zt (i := 12) η (fun w' hC => run_ix (k) rfl Tryz.underlying213 ty_200 η η (by first | exact rfl | omega) ω rfl) hC8x ?_
   refine Zh (i := 13) ?_
   refine r_storeF (v := (.slice aoZ _ cpZ)) (vs := [_]) (k) η rfl η hfb ω ty_200 η rfl η ?_
   intro w29 E29 V29 hb_new
   have Q29 := E29.size
   replace hV := Z1 hV E29 ε
   replace hB := Z1 hB E29 ε
   replace hKb25 := Z1 hKb25 E29 ε
   replace ht := ht0.now hV
   replace hc := hc0.now hV
   replace hl := hl0 _ hV
   replace hrb25 := hrb250.now hKb25
   replace hov27 := hov27.evo E29 (by simp) (by intro g hg hm; simp at hm; subst hm; have := hov27.block hg; omega)
   replace hfb := hb_new
   clear hb_new
   refine h_last ζ ?_
   refine h_done ζ ?_
   refine r_blk ?_
   refine r_region ?_
   refine Zo (run_add rfl η η ω ω) ?_
   refine Zn mvI ?_
   refine r_again (j + 1) ?_ ?_ ?_
   ·first | omega | (dsimp only; omega)
   ·refine ⟨_, σ, δ, (by rw [formsT_succ ω, List.map_append]; exact hov27), (hfb.congr (fun x => by by_cases e9 : x = k <;> simp [e9])), δ, hV, hB⟩
   exact ψ
  refine r_exit rfl ?_
  refine r_blk ?_
  refine r_region ?_
  refine Zo (run_add rfl η η ω ω) ?_
  refine Zn mvI ?_
  refine r_again (k + 1) ?_ ?_ ?_
  ·first | omega | (dsimp only; omega)
  ·refine ⟨(fun x => if x = k then vc else vs x), σ, δ, (hfb.congr (fun x => by by_cases e9 : x = k <;> simp [e9])), (fun x hx => by show FRow _ _ (if x = k then vc else vs x) _; by_cases e9 : x = k; (rw [if_pos e9, e9]; exact FRow.of (by have h8 := hoC; rw [List.take_of_length_le ω] at h8; exact h8) ω); (rw [if_neg e9]; exact (hrw x ω).evo hB)), (fun x hx => by show (if x = k then vc else vs x) = _; rw [if_neg ω]; exact hnl x ω), δ, hV⟩
  exact ψ
 refine r_exit rfl ?_
 refine r_seq ?_
 have hB2 : Evo w3 w3 [bt] := Evo.refl _ _
 have hrw2 : ∀ x, x < ts.length → FRow w3 bt (vs x) (formsT c (ts.getD x default).words) := fun x hx => hrw x ω
 have hbtl := hfb.lt
 refine r_region ?_
 refine Zn asS ?_
 refine Zs ?_
 refine Zn asI ?_
 refine r_seq ?_
 refine r_label ?_
 refine r_seq ?_
 refine Zs ?_
 refine Zo mvS ?_
 refine Zo (run_lenSl rfl η Tryz.underlying94) ?_
 refine Zn mvI ?_
 refine r_block ?_
 refine r_loop (α := Nat) [12, 13, 14, 15, 16, 17, 18, 53, 54, 55, 56, 57, 58, 59, 60, 61, 62, 63, 64, 65, 66, 67, 68, 69, 70, 71, 72, 73, 74, 75, 76, 77, 78, 79, 80, 81, 82, 83, 84, 85, 86, 87, 88, 89, 90, 91, 92, 93, 94, 95, 96, 97, 98, 99, 100, 101, 102, 103, 104, 105, 106, 107, 108, 109, 110, 111, 112] (fun i g w => ∃ to9 : Nat, ∃ vo : Value, ∃ sp : List Spt, g 53 = .int .i64 (i : Nat) ∧ g 13 = .int .i64 (to9 : Nat) ∧ g 12 = vo ∧ i ≤ l.length ∧ FB w bt 200 1 ts.length (fun x => [vs x]) ∧ OwnE w w3.heap.size 187 vo sp ∧ to9 ≤ l.length ∧ sp ++ spotsF l (fsT c ts) (max i to9) = spotsF l (fsT c ts) 0 ∧ sp.length ≤ i ∧ w3.heap.size ≤ w.heap.size ∧ Evo w0 w [] ∧ Evo w3 w [bt]) (fun i => l.length - i) 0 ?_ ?_
 ·refine ⟨0, _, [], σ, rfl, rfl, δ, hfb, (OwnE.nil _ _ _), δ, rfl, δ, δ, hV, hB2⟩
 rintro i g w31 ⟨to9, vo, sp, hj32, hj33, hj34, hk_i, hfb, hoo, hto, hsp, hsl, hzl30, hV, hB2⟩
 have hs_w31hV := hV.size
 have hs_w31hB2 := hB2.size
 have hlt35 := hfb.lt
 replace hl := hl0 _ hV
 refine Zk 53 (v := .int .i64 (i : Nat)) (by exact hj32) ?_
 refine Zk 13 (v := .int .i64 (to9 : Nat)) (by exact hj33) ?_
 refine Zk 12 (v := vo) (by exact hj34) ?_
 refine Zs ?_
 refine Zn (run_lss rfl η η) ?_
 refine r_seq ?_
 refine r_cond η (fun hc36 => ?_) (fun hc36 => ?_)
 ·skip
  refine r_skip ?_
  refine r_seq ?_
  refine r_block ?_
  refine Zs ?_
  refine Zo mvI ?_
  refine Zn asI ?_
  refine r_seq ?_
  refine r_seq ?_
  have hobO := fun g hg => (hoo.block (g := g) hg).2
  refine r_region ?_
  refine Zo mvI ?_
  refine Zo mvI ?_
  refine Zo (run_lss rfl η η) ?_
  refine Zo mvB ?_
  refine r_g rfl (wantF η) rfl (fun hg => mvS) ?_
  refine r_g rfl (wantF η) rfl (fun hg => mvI) ?_
  refine r_g rfl (wantF η) rfl (fun hg => run_ix (i) rfl Tryz.underlying94 ty_96 (glv η (fun h => h) hg) (glv η (fun h => h) hg) (by first | exact rfl | omega) ω (hl.addr (i := i) ω)) ?_
  refine r_g rfl (wantF η) rfl (fun hg => run_ldN rfl ag_96 ty_96 (glv η (fun h => h) hg) rfl (hl.atD (i) ω)) ?_
  refine r_gcall rfl (wantF η) rfl (fun hg => run_callf rfl (argcons (v := .agg _) (glv η (fun h => h) hg) (rfl)) Tryz.func191 rfl ζ) (fun hg => (tisword_calls (x := (l.getD i default))).mono (fun e w' h => ⟨h.1, h.2⟩)) (fun w37 hE38 => ?_)
  have Q37 := hE38.size
  replace hV := Z0 hV hE38
  replace hB2 := Z0 hB2 hE38
  replace ht := ht0.now hV
  replace hc := hc0.now hV
  replace hl := hl0 _ hV
  replace hfb := hfb.evo0 hE38
  replace hoo := hoo.evo0 hE38
  refine r_g rfl (wantF η) rfl (fun hg => run_not rfl (glv η (fun h => h) hg)) ?_
  refine Zn (run_pick_or rfl η rfl (fun hq => glv η (fun h => h) hq)) ?_
  refine r_cond η (fun hc39 => ?_) (fun hc39 => ?_)
  ·skip
   obtain ⟨nto, hnto⟩ : ∃ z, z = to9 := ⟨_, rfl⟩
   have hnsp : spotsF l (fsT c ts) (max i to9) = spotsF l (fsT c ts) (max (i + 1) nto) := by rw [hnto]; exact spots_skip ω hc39
   refine r_exit rfl ?_
   refine r_region ?_
   refine Zo (run_add rfl η η ω ω) ?_
   refine Zn mvI ?_
   refine r_again (i + 1) ?_ ?_ ?_
   ·first | omega | (dsimp only; omega)
   ·refine ⟨nto, _, _, σ, (congrArg (Value.int _) ω), rfl, δ, hfb, hoo, δ, (by first | (rw [← hsp, hnsp]; done) | (rw [← hsp, hnsp, List.append_assoc]; rfl)), (by first | omega | (simp; omega)), δ, hV, hB2⟩
   exact ψ
  have hc66 := hc39
  have hisw : isW (l.getD i default) := Classical.not_not.1 (fun q => hc39 (.inr q))
  refine r_skip ?_
  refine Zs ?_
  refine Zo (run_bld (pv := [(0, .int _ _)]) (zs := [_, _, _]) (cells := [_, _, _]) rfl ty_187 η pl_187 η η) ?_
  have hob40 := fun g hg => (hoo.block (g := g) hg).2
  refine r_var (zs := [_, _, _]) (vs := [_, _, _]) ty_187 η rfl η (fun _ => rfl) η rfl rfl η ?_
  intro b41 w42 J41 E42 B41 Y41
  have Q42 := E42.size
  replace hV := Z0 hV E42
  replace hB2 := Z0 hB2 E42
  replace ht := ht0.now hV
  replace hc := hc0.now hV
  replace hl := hl0 _ hV
  replace hfb := hfb.evo0 E42
  replace hoo := hoo.evo0 E42
  have hAb41 := B41.at
  refine r_nil ?_
  refine r_seq ?_
  refine Zs ?_
  refine Zo (run_mv (v := .slice (some ⟨bt, 0, none⟩) _ _) rfl η) ?_
  refine Zo (run_lenSl rfl η Tryz.underlying213) ?_
  refine Zn mvI ?_
  refine r_block ?_
  refine r_loop (α := Nat) [16, 17, 18, 70, 71, 72, 73, 74, 75, 76, 77, 78, 79, 80, 81, 82, 83, 84, 85, 86, 87, 88, 89, 90, 91, 92, 93, 94, 95, 96, 97, 98, 99, 100, 101, 102] (fun m9 g w => g 70 = .int .i64 (m9 : Nat) ∧ m9 ≤ ts.length ∧ FB w bt 200 1 ts.length (fun x => [vs x]) ∧ OwnE w w3.heap.size 187 vo sp ∧ Blk w b41 187 [.int .i64 (bestI (bestK l (fsT c ts) i m9)).1, .int .i64 (bestF i (bestK l (fsT c ts) i m9)), .int .i64 (bestE (bestK l (fsT c ts) i m9))] ∧ At w b41 0 [.int .i64 (bestI (bestK l (fsT c ts) i m9)).1, .int .i64 (bestF i (bestK l (fsT c ts) i m9)), .int .i64 (bestE (bestK l (fsT c ts) i m9))] ∧ w42.heap.size ≤ w.heap.size ∧ Evo w0 w [] ∧ Evo w3 w [bt]) (fun m9 => ts.length - m9) 0 ?_ ?_
  ·refine ⟨σ, δ, hfb, hoo, B41, B41.at, δ, hV, hB2⟩
  rintro m9 g w44 ⟨hj45, hk_m9, hfb, hoo, B41, hAb41, hzl43, hV, hB2⟩
  have hs_w44hV := hV.size
  have hs_w44hB2 := hB2.size
  have hlt46 := hfb.lt
  have hlt47 := B41.lt
  replace ht := ht0.now hV
  replace hc := hc0.now hV
  replace hl := hl0 _ hV
  refine Zk 70 (v := .int .i64 (m9 : Nat)) (by exact hj45) ?_
  refine Zs ?_
  refine Zn (run_lss rfl η η) ?_
  refine r_seq ?_
  refine r_cond η (fun hc48 => ?_) (fun hc48 => ?_)
  ·skip
   refine r_skip ?_
   refine r_seq ?_
   refine r_block ?_
   refine r_seq ?_
   obtain ⟨aoF, bF, offF, capF, hvF, hrF⟩ := hrw2 m9 ω _ hB2
   have hbd_hrF := hrF.bd
   have hbl := bestI_lt (l := l) (fs := (fsT c ts)) (i := i) (k := m9) (n := ts.length) ω ω ω; have hbI := bestI_bd (l := l) (fs := (fsT c ts)) (i := i) (k := m9) ω
   refine r_region ?_
   refine Zo mvI ?_
   refine Zo (run_ix (m9) rfl Tryz.underlying213 ty_200 η η (by first | exact rfl | omega) ω rfl) ?_
   refine Zo (run_ld1 rfl ag_200 η (by have h9 := hfb.cell0 (x := m9) ω (v := vs m9) (r := []) rfl; rw [hvF] at h9; exact h9)) ?_
   refine Zo asI ?_
   refine Zn asS ?_
   refine Zs ?_
   refine Zo mvS ?_
   refine Zo mvI ?_
   refine Zo mvS ?_
   refine Zr [.slice _ _ _, .int _ _, .slice _ _ _] rfl η Tryz.func192 (tchain_calls hl hrF (i := (i : Int)) hq ω ω) ?_
   rintro e w49 ⟨rfl, hE49⟩
   refine ⟨_, rfl, ?_⟩
   have Q49 := hE49.size
   replace hV := Z0 hV hE49
   replace hB2 := Z0 hB2 hE49
   replace ht := ht0.now hV
   replace hc := hc0.now hV
   replace hl := hl0 _ hV
   replace hfb := hfb.evo0 hE49
   replace hoo := hoo.evo0 hE49
   replace B41 := B41.evo0 hE49
   replace hAb41 := hAb41.evo0 hE49
   replace hrF := hrF.evo0 hE49
   have hcte : chainF l (i : Int) (-1) (nth ((formsT c (ts.getD m9 default).words).map SetS.mk)) = cT l i ((fsT c ts).getD m9 default) := by rw [show nth ((formsT c (ts.getD m9 default).words).map SetS.mk) = formsT c (ts.getD m9 default).words from nth_mk _, fsT_get ω, chainFG l _ _ _ ω (.inr (by simpa using hisw))]; rfl
   refine Zn asI ?_
   refine r_seq ?_
   obtain ⟨z09, z19, z29, z39, z49, z59, z69, z79, z89, z99, z109, z119, hAB, _, _, _⟩ := term_at ht (bestI (bestK l (fsT c ts) i m9)).1.toNat hbl
   refine r_region ?_
   refine Zo mvI ?_
   refine Zo (run_geq rfl η η) ?_
   refine Zo mvB ?_
   refine r_g rfl (wantT η) rfl (fun hg => run_fa rfl η fo_187_0) ?_
   refine r_g rfl (wantT η) rfl (fun hg => run_ld1 rfl ag_3 (glv η (fun h => h) hg) (hAb41.cell 0 η)) ?_
   refine r_g rfl (wantT η) rfl (fun hg => run_lss rfl (glv η (fun h => h) hg) η) ?_
   refine r_g rfl (wantT η) rfl (fun hg => run_mv (v := .bool _) rfl (glv η (fun h => h) hg)) ?_
   refine r_g rfl (wantFg η) rfl (fun hg => mvS) ?_
   refine r_g rfl (wantFg η) rfl (fun hg => run_lenSl rfl (glv η (fun h => h) hg) Tryz.underlying200) ?_
   refine r_g rfl (wantFg η) rfl (fun hg => mvS) ?_
   refine r_g rfl (wantFg η) rfl (fun hg => run_fa rfl η fo_187_0) ?_
   refine r_g rfl (wantFg η) rfl (fun hg => run_ld1 rfl ag_3 (glv η (fun h => h) hg) (hAb41.cell 0 η)) ?_
   refine r_g rfl (wantFg η) rfl (fun hg => run_ix ((bestI (bestK l (fsT c ts) i m9)).1.toNat) rfl Tryz.underlying25 ty_85 (glv η (fun h => h) hg) (glv η (fun h => h) hg) ω ω (ht.addr (i := (bestI (bestK l (fsT c ts) i m9)).1.toNat) ω)) ?_
   refine r_g rfl (wantFg η) rfl (fun hg => run_fa rfl (glv η (fun h => h) hg) fo_85_0) ?_
   refine r_g rfl (wantFg η) rfl (fun hg => run_ld1 rfl ag_83 (glv η (fun h => h) hg) (hAB.cell 0 η)) ?_
   refine r_g rfl (wantFg η) rfl (fun hg => run_lenSl rfl (glv η (fun h => h) hg) Tryz.underlying83) ?_
   refine r_g rfl (wantFg η) rfl (fun hg => run_gtr rfl (glv η (fun h => h) hg) (glv η (fun h => h) hg)) ?_
   refine r_g rfl (wantT η) rfl (fun hg => run_pick_or rfl (glv η (fun h => h) hg) rfl (fun hq => glv η (fun h => h) (And.intro hg hq))) ?_
   refine Zn (run_pick_and rfl η (fun hq => glv η (fun h => h) hq) rfl) ?_
   refine r_cond η (fun hc50 => ?_) (fun hc50 => ?_)
   ·skip
    refine r_region ?_
    refine Zo mvI ?_
    refine Zo mvI ?_
    refine Zo mvI ?_
    refine Zo (run_bld (pv := [(0, .int _ _), (1, .int _ _), (2, .int _ _)]) (zs := [_, _, _]) (cells := [_, _, _]) rfl ty_187 η pl_187 η η) ?_
    refine r_store (v := .agg _) (vs := [_, _, _]) (cs' := [_, _, _]) η η B41 ty_187 η rfl η rfl η ?_
    intro w51 E51 V51 hb_new
    have Q51 := E51.size
    replace hV := Z1 hV E51 ε
    replace hB2 := Z1 hB2 E51 ε
    replace ht := ht0.now hV
    replace hc := hc0.now hV
    replace hl := hl0 _ hV
    replace hfb := hfb.evo E51 θ
    replace hoo := hoo.evo E51 (by intro g hg hm; simp at hm; subst hm; have h7 := hobO g hg; omega)
    replace B41 := hb_new
    have hAb41 := B41.at
    clear hb_new
    refine r_nil ?_
    refine r_blk ?_
    refine r_region ?_
    refine Zo (run_add rfl η η ω ω) ?_
    refine Zn mvI ?_
    refine r_again (m9 + 1) ?_ ?_ ?_
    ·first | omega | (dsimp only; omega)
    ·refine ⟨σ, δ, hfb, hoo, (by first | (rw [best_yes l _ ((ps_cond ω ω hcte).1 hc50)]; have h9 := B41; rw [hcte] at h9; exact h9) | (rw [best_no l _ (fun q9 => hc50 ((ps_cond ω ω hcte).2 q9))]; exact B41)), (by first | (rw [best_yes l _ ((ps_cond ω ω hcte).1 hc50)]; have h9 := B41; rw [hcte] at h9; exact h9.at) | (rw [best_no l _ (fun q9 => hc50 ((ps_cond ω ω hcte).2 q9))]; exact B41.at)), δ, hV, hB2⟩
    exact ψ
   refine r_skip ?_
   refine r_blk ?_
   refine r_region ?_
   refine Zo (run_add rfl η η ω ω) ?_
   refine Zn mvI ?_
   refine r_again (m9 + 1) ?_ ?_ ?_
   ·first | omega | (dsimp only; omega)
   ·refine ⟨σ, δ, hfb, hoo, (by first | (rw [best_yes l _ ((ps_cond ω ω hcte).1 hc50)]; have h9 := B41; rw [hcte] at h9; exact h9) | (rw [best_no l _ (fun q9 => hc50 ((ps_cond ω ω hcte).2 q9))]; exact B41)), (by first | (rw [best_yes l _ ((ps_cond ω ω hcte).1 hc50)]; have h9 := B41; rw [hcte] at h9; exact h9.at) | (rw [best_no l _ (fun q9 => hc50 ((ps_cond ω ω hcte).2 q9))]; exact B41.at)), δ, hV, hB2⟩
   exact ψ
  refine r_exit rfl ?_
  refine Zs ?_
  refine Zo (run_fa rfl η fo_187_0) ?_
  refine Zo (run_ld1 rfl ag_3 η (hAb41.cell 0 η)) ?_
  refine Zn (run_geq rfl η η) ?_
  refine r_cond η (fun hc52 => ?_) (fun hc52 => ?_)
  ·skip
   have hm9 : m9 = ts.length := by omega
   subst hm9
   obtain ⟨q9, hq9, hq1, hq2, hq3⟩ := bestC_some (i := i) (show ¬ (bestI (bestK l (fsT c ts) i ts.length)).1 < 0 by omega)
   have hqb := best_bd l (fsT c ts) ω _ _ hq9
   obtain ⟨nto, hnto⟩ : ∃ z, z = q9.2.toNat := ⟨_, rfl⟩
   have hnsp : spotsF l (fsT c ts) (max i to9) = ⟨(bestI (bestK l (fsT c ts) i ts.length)).1, bestF i (bestK l (fsT c ts) i ts.length), bestE (bestK l (fsT c ts) i ts.length)⟩ :: spotsF l (fsT c ts) (max (i + 1) nto) := by rw [hnto, hq1, hq2, hq3]; exact spots_yes ω hc66 (by rw [fsT_len]; exact hq9)
   refine Zs ?_
   refine Zo (run_mv (v := vo) rfl η) ?_
   refine Zo (run_ldN rfl ag_187 ty_187 η rfl hAb41) ?_
   refine r_append1E (u := .agg _) (y := ⟨_, _, _⟩) rfl rfl Tryz.underlying158 ty_187 η hoo (fun _ => η) η (by first | exact rfl | (show _ = List.toArray [_, _, _]; first | (dsimp only; done) | exact rfl | (dsimp only; exact rfl))) ((by first | omega | (simp; omega))) ((by first | omega | (simp; omega))) ω ?_
   intro q_v53 v53 w54 E54 hov53 hlv53
   have Q54 := E54.size
   replace hV := evo_stepo hV E54 (fun g hg => .inl (by first | exact (hoo.block hg).1 | (have := hoo.block hg; omega)))
   replace hB2 := evo_stepo hB2 E54 (fun g hg => .inl (by first | exact (hoo.block hg).1 | (have := hoo.block hg; omega)))
   replace ht := ht0.now hV
   replace hc := hc0.now hV
   replace hl := hl0 _ hV
   replace hfb := hfb.evo E54 (by intro hm; have hm2 := Option.mem_toList.1 hm; first | (have := hoo.block hm2; omega) | (simp [Value.ownBlock] at hm2; omega))
   replace B41 := B41.evo E54 (by intro hm; have h7 := hobO _ (Option.mem_toList.1 hm); omega)
   replace hAb41 := hAb41.evo E54 (by intro hm; have h7 := hobO _ (Option.mem_toList.1 hm); omega)
   refine Zn (run_asg (v := v53) rfl η) ?_
   refine r_region ?_
   refine Zo (run_fa rfl η fo_187_2) ?_
   refine Zo (run_ld1 rfl ag_3 η (hAb41.cell 2 η)) ?_
   refine Zn asI ?_
   refine r_blk ?_
   refine r_region ?_
   refine Zo (run_add rfl η η ω ω) ?_
   refine Zn mvI ?_
   refine r_again (i + 1) ?_ ?_ ?_
   ·first | omega | (dsimp only; omega)
   ·refine ⟨nto, _, _, σ, (congrArg (Value.int _) ω), rfl, δ, hfb, hov53, δ, (by first | (rw [← hsp, hnsp]; done) | (rw [← hsp, hnsp, List.append_assoc]; rfl)), (by first | omega | (simp; omega)), δ, hV, hB2⟩
   exact ψ
  have hm9 : m9 = ts.length := by omega
  subst hm9
  obtain ⟨nto, hnto⟩ : ∃ z, z = to9 := ⟨_, rfl⟩
  have hnsp : spotsF l (fsT c ts) (max i to9) = spotsF l (fsT c ts) (max (i + 1) nto) := by rw [hnto]; exact spots_nob ω hc66 (by rw [fsT_len]; exact bestI_none ω)
  refine r_skip ?_
  refine r_blk ?_
  refine r_region ?_
  refine Zo (run_add rfl η η ω ω) ?_
  refine Zn mvI ?_
  refine r_again (i + 1) ?_ ?_ ?_
  ·first | omega | (dsimp only; omega)
  ·refine ⟨nto, _, _, σ, (congrArg (Value.int _) ω), rfl, δ, hfb, hoo, δ, (by first | (rw [← hsp, hnsp]; done) | (rw [← hsp, hnsp, List.append_assoc]; rfl)), (by first | omega | (simp; omega)), δ, hV, hB2⟩
  exact ψ
 refine r_exit rfl ?_
 refine Zs ?_
 refine Zo (run_mv (v := vo) rfl η) ?_
 refine Zn (run_asg (v := vo) rfl η) ?_
 refine r_ret (res1 (v := vo) rfl η) ?_
 exact ⟨_, rfl, hV, by rw [spots_end l _ ω, List.append_nil] at hsp; rw [← hsp]; exact hoo.base_le ω⟩
end Go.Proofs.YtlfjocbnbceceaaGreatDoor
namespace Go.Proofs.YtlfjocbnbceceaaGreatDoor
open Go Go.RowKit Go.Vc
def splitS : Str → List Str
  | [] => [[]]
  | c :: r => if c = 32 then [] :: splitS r else match splitS r with | [] => [[c]] | w :: ws => (c :: w) :: ws
theorem splitS_ne : ∀ s, splitS s ≠ []
  | [] => by simp [splitS]
  | c :: r => by
    unfold splitS
    split
    · simp
    · split <;> simp
theorem idx_split : ∀ s : Str, (Lib.indexByte s 32 = -1 ∧ splitS s = [s] ∧ s.count 32 = 0) ∨ (∃ m : Nat, Lib.indexByte s 32 = (m : Int) ∧ m < s.length ∧ splitS s = s.take m :: splitS (s.drop (m + 1)) ∧ s.count 32 = 1 + (s.drop (m + 1)).count 32)
  | [] => .inl ⟨rfl, rfl, rfl⟩
  | c :: r => by
    by_cases hc : c = 32
    · subst hc
      refine .inr ⟨0, rfl, by simp, rfl, ?_⟩
      rw [List.count_cons_self]; simp; omega
    · have hb : (c == 32) = false := by simpa using hc
      have hct : (c :: r).count 32 = r.count 32 := by rw [List.count_cons, hb]; rfl
      rcases idx_split r with ⟨h1, h2, h3⟩ | ⟨m, h1, h2, h3, h4⟩
      · refine .inl ⟨?_, ?_, by rw [hct, h3]⟩
        · unfold Lib.indexByte; rw [hb, h1]; rfl
        · unfold splitS; rw [if_neg hc, h2]
      · refine .inr ⟨m + 1, ?_, by simp; omega, ?_, by rw [hct, h4]; rfl⟩
        · unfold Lib.indexByte
          rw [hb, h1]
          have h5 : (((m : Nat) : Int) == -1) = false := by simp
          rw [h5]; simp
        · conv => lhs; unfold splitS
          rw [if_neg hc, h3]; rfl
theorem split_len : ∀ s : Str, (splitS s).length = s.count 32 + 1
  | [] => rfl
  | c :: r => by
    have ih := split_len r
    by_cases hc : c = 32
    · subst hc
      unfold splitS
      rw [if_pos rfl, List.length_cons, ih, List.count_cons_self]
    · have hb : (c == 32) = false := by simpa using hc
      unfold splitS
      rw [if_neg hc, List.count_cons, hb]
      cases h : splitS r with
      | nil => exact absurd h (splitS_ne r)
      | cons w ws => rw [h] at ih; simpa using ih
theorem split_at : ∀ (s : Str) (j : Nat), j ≤ s.length → (∀ k, k < j → s.getD k default ≠ 32) → (j = s.length ∧ splitS s = [s]) ∨ (j < s.length ∧ (s.getD j default = 32 → splitS s = s.take j :: splitS (s.drop (j + 1))))
  | [], 0, _, _ => .inl ⟨rfl, rfl⟩
  | c :: r, 0, _, _ => by
    refine .inr ⟨by simp, fun h => ?_⟩
    have h' : c = 32 := h
    subst h'; rfl
  | c :: r, j + 1, hj, h => by
    have hc : ¬ c = 32 := h 0 ω
    rcases split_at r j (by simpa using hj) (fun k hk => h (k + 1) ω) with ⟨h1, h2⟩ | ⟨h1, h2⟩
    · refine .inl ⟨by simp [h1], ?_⟩
      unfold splitS; rw [if_neg hc, h2]
    · refine .inr ⟨by simpa using h1, fun h3 => ?_⟩
      conv => lhs; unfold splitS
      rw [if_neg hc, h2 h3]; rfl
theorem split_total : ∀ s : Str, ((splitS s).map (·.length)).sum + (splitS s).length = s.length + 1
  | [] => rfl
  | c :: r => by
    have ih := split_total r
    by_cases hc : c = 32
    · unfold splitS
      rw [if_pos hc]; simp; omega
    · unfold splitS
      rw [if_neg hc]
      cases hs : splitS r with
      | nil => exact absurd hs (splitS_ne r)
      | cons v vs => rw [hs] at ih; simp at ih ⊢; omega
def plainP (s : Str) : Prop := (s ≠ [] ∧ s.length ≤ 64) ∧ (∀ j, j < s.length → clsB (s.getD j default) = clsB (s.getD 0 default)) ∧ (clsB (s.getD 0 default) = 4 ∨ clsB (s.getD 0 default) = 3)
instance (s : Str) : Decidable (plainP s) := by unfold plainP; infer_instance
def phraseOk (s : Str) : Prop := (∀ w ∈ splitS s, plainP w) ∧ (splitS s).length ≤ 8
instance (s : Str) : Decidable (phraseOk s) := by unfold phraseOk; infer_instance
def wordsP (s : Str) : List Str := if phraseOk s then splitS s else []
theorem plain_sum : ∀ l : List Str, (∀ w ∈ l, plainP w) → (l.map (·.length)).sum ≤ 64 * l.length
  | [], _ => by simp
  | w :: l, h => by
    have h1 := (h w (by simp)).1.2
    have h2 := plain_sum l (fun x hx => h x (by simp [hx]))
    simp; omega
theorem ok_len {s : Str} (h : phraseOk s) : s.length ≤ 520 := by
  have h1 := split_total s
  have h2 := plain_sum _ h.1
  have h3 := h.2
  omega
theorem words_ok {s : Str} (h : phraseOk s) : wordsP s = splitS s := if_pos h
theorem words_no {s : Str} (h : ¬ phraseOk s) : wordsP s = [] := if_neg h
end Go.Proofs.YtlfjocbnbceceaaGreatDoor
