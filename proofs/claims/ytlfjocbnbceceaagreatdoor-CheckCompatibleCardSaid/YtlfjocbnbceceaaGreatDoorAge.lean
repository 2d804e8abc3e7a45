/-
  Library, plain laws and walks that the statements reach (joined by a program out of smaller texts).
-/
import Derived.Test.YtlfjocbnbceceaaGreatDoorAgd
import Derived.Test.YtlfjocbnbceceaaGreatDoorAgc
import Derived.Test.YtlfjocbnbceceaaGreatDoorAgb
import Derived.Test.YtlfjocbnbceceaaGreatDoorAga
import Derived.ArgAppend
import Derived.Laws.Slices
import Derived.MapKept
set_option linter.unusedVariables false
set_option linter.unusedSimpArgs false
namespace Go.Proofs.YtlfjocbnbceceaaGreatDoor
open Go.RowKit Go.Vc
theorem pl_128 : placesP Tryz.prog 128 = some [(0, 1), (1, 1)] := by kernel_rfl
theorem ty_128 : tyP Tryz.prog 128 = some (2, 48, some (.agg #[(.slice none 0 0), (.slice none 0 0)])) := by kernel_rfl
set_option maxHeartbeats 1000000 in
theorem checked_calls {aox : Option Addr} {bx offx capx : Nat} {aoq : Option Addr} {bq offq capq : Nat} {aof : Option Addr} {bf offf capf : Nat} {x : TermL} {ao : Option Addr} {b off cap : Nat} {c : List Clas} {w0 : World} (hw : RowE w0 aox bx offx capx x.words) (hq : RowE w0 aoq bq offq capq x.req) (hf : RowE w0 aof bf offf capf x.forb) (hc : RowR w0 ao b off cap c) :
    Calls Tryz.prog 54 #[.agg #[.slice aox x.words.length capx, .slice aoq x.req.length capq, .slice aof x.forb.length capf], .slice ao c.length cap] w0 fun e w' => e = .returned (.int .i64 (termE c x)) ∧ Evo w0 w' [] := by
 refine calls_enter (n := 75) Tryz.func54 rfl Tryz.ntmps54 rfl ?_
 have hV : Evo w0 w0 [] := Evo.refl _ _
 have hw0 := keepE hw
 have hbd_hw := hw.bd
 have hq0 := keepE hq
 have hbd_hq := hq.bd
 have hf0 := keepE hf
 have hbd_hf := hf.bd
 have hc0 := hc.keep
 have hbd_hc := hc.bd
 refine Zs ?_
 refine r_box (vs := [_, _, _]) η η rfl ?_
 intro b1 w2 J1 E2 B1 Y1
 have Q2 := E2.size
 replace hV := Z0 hV E2
 replace hw := hw0 _ hV
 replace hq := hq0 _ hV
 replace hf := hf0 _ hV
 replace hc := hc0.now hV
 have hAb1 := B1.at
 refine Zn asI ?_
 refine r_seq ?_
 refine Zs ?_
 refine Zo (run_fa rfl η fo_85_0) ?_
 refine Zo (run_ld1 rfl ag_83 η (hAb1.cell 0 η)) ?_
 refine Zo (run_lenSl rfl η Tryz.underlying83) ?_
 refine Zo (run_eql rfl η η) ?_
 refine Zo mvB ?_
 refine r_g rfl (wantF η) rfl (fun hg => run_fa rfl η fo_85_0) ?_
 refine r_g rfl (wantF η) rfl (fun hg => run_ld1 rfl ag_83 (glv η (fun h => h) hg) (hAb1.cell 0 η)) ?_
 refine r_g rfl (wantF η) rfl (fun hg => run_lenSl rfl (glv η (fun h => h) hg) Tryz.underlying83) ?_
 refine r_g rfl (wantF η) rfl (fun hg => run_gtr rfl (glv η (fun h => h) hg) η) ?_
 refine Zo (run_pick_or rfl η rfl (fun hq => glv η (fun h => h) hq)) ?_
 refine Zo mvB ?_
 refine r_g rfl (wantF η) rfl (fun hg => run_fa rfl η fo_85_1) ?_
 refine r_g rfl (wantF η) rfl (fun hg => run_ld1 rfl ag_77 (glv η (fun h => h) hg) (hAb1.cell 1 η)) ?_
 refine r_g rfl (wantF η) rfl (fun hg => run_lenSl rfl (glv η (fun h => h) hg) Tryz.underlying77) ?_
 refine r_g rfl (wantF η) rfl (fun hg => run_gtr rfl (glv η (fun h => h) hg) η) ?_
 refine Zo (run_pick_or rfl η rfl (fun hq => glv η (fun h => h) hq)) ?_
 refine Zo mvB ?_
 refine r_g rfl (wantF η) rfl (fun hg => run_fa rfl η fo_85_2) ?_
 refine r_g rfl (wantF η) rfl (fun hg => run_ld1 rfl ag_77 (glv η (fun h => h) hg) (hAb1.cell 2 η)) ?_
 refine r_g rfl (wantF η) rfl (fun hg => run_lenSl rfl (glv η (fun h => h) hg) Tryz.underlying77) ?_
 refine r_g rfl (wantF η) rfl (fun hg => run_gtr rfl (glv η (fun h => h) hg) η) ?_
 refine Zn (run_pick_or rfl η rfl (fun hq => glv η (fun h => h) hq)) ?_
 refine r_cond η (fun hc3 => ?_) (fun hc3 => ?_)
 ·skip
  refine Zs ?_
  refine Zn asI ?_
  refine r_ret (res1 (v := .int _ _) rfl η) ?_
  exact ⟨ret_int (termE_lim (limT_z hc3)).symm, hV⟩
 refine r_skip ?_
 refine r_seq ?_
 refine Zs ?_
 refine Zo (run_fa rfl η fo_85_0) ?_
 refine Zo (run_ld1 rfl ag_83 η (hAb1.cell 0 η)) ?_
 refine Zo (run_lenSl rfl η Tryz.underlying83) ?_
 refine Zn mvI ?_
 refine r_block ?_
 have hnl : ¬ limT x := limT_n hc3
 refine r_loop (α := Nat) [4, 6, 36, 37, 38, 39, 40, 41, 42, 43, 44, 45, 46, 47, 48, 49, 50, 51, 52, 53, 54] (fun k g w => g 36 = .int .i64 (k : Nat) ∧ k ≤ x.words.length ∧ Blk w b1 85 [.slice aox x.words.length capx, .slice aoq x.req.length capq, .slice aof x.forb.length capf] ∧ At w b1 0 [.slice aox x.words.length capx, .slice aoq x.req.length capq, .slice aof x.forb.length capf] ∧ (∀ j, j < k → wordE c (x.words.getD j default) = 0) ∧ w2.heap.size ≤ w.heap.size ∧ Evo w0 w []) (fun k => x.words.length - k) 0 ?_ ?_
 ·refine ⟨σ, δ, B1, B1.at, (fun j h => by omega), δ, hV⟩
 rintro k g w5 ⟨hj6, hk_k, B1, hAb1, hnw, hzl4, hV⟩
 have hs_w5hV := hV.size
 have hlt7 := B1.lt
 replace hw := hw0 _ hV
 replace hq := hq0 _ hV
 replace hf := hf0 _ hV
 replace hc := hc0.now hV
 refine Zk 36 (v := .int .i64 (k : Nat)) (by exact hj6) ?_
 refine Zs ?_
 refine Zn (run_lss rfl η η) ?_
 refine r_seq ?_
 refine r_cond η (fun hc8 => ?_) (fun hc8 => ?_)
 ·skip
  refine r_skip ?_
  refine r_seq ?_
  refine r_block ?_
  refine Zs ?_
  refine Zo (run_ix (k) rfl Tryz.underlying83 ty_88 η η (by first | exact rfl | omega) ω (hw.addr (i := k) ω)) ?_
  have hA90 := fun (w' : World) (h : Evo w0 w' []) => (hw0 w' h).atD (k) ω
  have hA9 := hA90 _ hV
  refine Zo (run_ldN rfl ag_88 ty_88 η rfl hA9) ?_
  refine r_var (zs := [_, _]) (vs := [_, _]) ty_88 η rfl η (fun _ => rfl) η rfl rfl η ?_
  intro b10 w11 J10 E11 B10 Y10
  have Q11 := E11.size
  replace hV := Z0 hV E11
  replace B1 := B1.evo0 E11
  replace hAb1 := hAb1.evo0 E11
  refine r_nil ?_
  refine r_seq ?_
  refine Zs ?_
  refine Zo (run_fa rfl η fo_88_0) ?_
  refine Zo (run_ld1 rfl ag_9 η (B10.at.cell 0 η)) ?_
  refine Zr [S _] rfl η Tryz.func96 (tplain_calls ) ?_
  rintro e w12 ⟨rfl, hE12⟩
  refine ⟨_, rfl, ?_⟩
  have Q12 := hE12.size
  replace hV := Z0 hV hE12
  replace hc := hc0.now hV
  replace B1 := B1.evo0 hE12
  replace hAb1 := hAb1.evo0 hE12
  replace B10 := B10.evo0 hE12
  refine Zn (run_not rfl η) ?_
  refine r_cond η (fun hc13 => ?_) (fun hc13 => ?_)
  ·skip
   refine Zs ?_
   refine Zn asI ?_
   refine r_ret (res1 (v := .int _ _) rfl η) ?_
   exact ⟨ret_int (termE_word hnl ω hnw (wordE_1 (by have h9 := hc13; simpa using h9)) (by decide)).symm, hV⟩
  refine r_skip ?_
  refine r_seq ?_
  have hpl : plainP (x.words.getD k default).strip := by have h9 := hc13; simpa using h9
  refine r_region ?_
  refine Zo (run_fa rfl η fo_88_1) ?_
  refine Zo (run_ld1 rfl ag_9 η (B10.at.cell 1 η)) ?_
  refine Zo (run_sneq rfl η η) ?_
  refine Zo mvB ?_
  refine r_g rfl (wantT η) rfl (fun hg => mvS) ?_
  refine r_g rfl (wantT η) rfl (fun hg => run_fa rfl η fo_88_1) ?_
  refine r_g rfl (wantT η) rfl (fun hg => run_ld1 rfl ag_9 (glv η (fun h => h) hg) (B10.at.cell 1 η)) ?_
  refine r_gcall rfl (wantT η) rfl (fun hg => run_callf rfl (argcons (v := .slice _ _ _) (glv η (fun h => h) hg) (argcons (v := S _) (glv η (fun h => h) hg) (rfl))) Tryz.func97 rfl ζ) (fun hg => (find_calls hc).mono (fun e w' h => ⟨h.1, h.2⟩)) (fun w14 hE15 => ?_)
  have Q14 := hE15.size
  replace hV := Z0 hV hE15
  replace hw := hw0 _ hV
  replace hq := hq0 _ hV
  replace hf := hf0 _ hV
  replace hc := hc0.now hV
  replace B1 := B1.evo0 hE15
  replace hAb1 := hAb1.evo0 hE15
  refine r_g rfl (wantT η) rfl (fun hg => run_lss rfl (glv η (fun h => h) hg) η) ?_
  refine Zn (run_pick_and rfl η (fun hq => glv η (fun h => h) hq) rfl) ?_
  refine r_cond η (fun hc16 => ?_) (fun hc16 => ?_)
  ·skip
   refine Zs ?_
   refine Zn asI ?_
   refine r_ret (res1 (v := .int _ _) rfl η) ?_
   exact ⟨ret_int (termE_word hnl ω hnw (wordE_4 hpl hc16) (by decide)).symm, hV⟩
  refine r_skip ?_
  refine r_blk ?_
  refine r_region ?_
  refine Zo (run_add rfl η η ω ω) ?_
  refine Zn mvI ?_
  refine r_again (k + 1) ?_ ?_ ?_
  ·first | omega | (dsimp only; omega)
  ·refine ⟨σ, δ, B1, B1.at, (upto0 hnw (wordE_0 hpl hc16)), δ, hV⟩
  exact ψ
 refine r_exit rfl ?_
 refine r_seq ?_
 refine Zs ?_
 refine Zo (run_fa rfl η fo_85_1) ?_
 refine Zo (run_ld1 rfl ag_77 η (hAb1.cell 1 η)) ?_
 refine Zo (run_fa rfl η fo_85_2) ?_
 refine Zo (run_ld1 rfl ag_77 η (hAb1.cell 2 η)) ?_
 refine Zo (run_bld (pv := [(0, .slice aoq x.req.length capq), (1, .slice aof x.forb.length capf)]) (zs := [_, _]) (cells := [_, _]) rfl ty_128 η pl_128 η η) ?_
 refine Zn mvI ?_
 refine r_block ?_
 have hnw2 : ∀ j, j < x.words.length → wordE c (x.words.getD j default) = 0 := fun j hj => hnw j ω
 refine r_loop (α := Nat) [4, 8, 10, 60, 61, 62, 63, 64, 65, 66, 67, 68, 69, 70, 71, 72, 73, 74] (fun i g w => g 60 = .int .i64 (i : Nat) ∧ i ≤ 2 ∧ (∀ j, j < i → firstM phrE (([x.req, x.forb] : List (List Str)).getD j default) = 0) ∧ w5.heap.size ≤ w.heap.size ∧ Evo w0 w []) (fun i => 2 - i) 0 ?_ ?_
 ·refine ⟨σ, δ, (fun j h => by omega), δ, hV⟩
 rintro i g w18 ⟨hj19, hk_i, hno, hzl17, hV⟩
 have hs_w18hV := hV.size
 replace hw := hw0 _ hV
 replace hq := hq0 _ hV
 replace hf := hf0 _ hV
 replace hc := hc0.now hV
 refine Zk 60 (v := .int .i64 (i : Nat)) (by exact hj19) ?_
 refine Zs ?_
 refine Zn (run_lss rfl η η) ?_
 refine r_seq ?_
 refine r_cond η (fun hc20 => ?_) (fun hc20 => ?_)
 ·skip
  refine r_skip ?_
  refine r_seq ?_
  refine r_block ?_
  refine r_seq ?_
  obtain ⟨aoL, bL, offL, capL, hvL, hL0⟩ : ∃ ao9 b9 off9 cap9, ([.slice aoq x.req.length capq, .slice aof x.forb.length capf] : List Value)[i]? = some (.slice ao9 (([x.req, x.forb] : List (List Str)).getD i default).length cap9) ∧ ∀ w9, Evo w0 w9 [] → RowE w9 ao9 b9 off9 cap9 (([x.req, x.forb] : List (List Str)).getD i default) := by
    rcases (show i = 0 ∨ i = 1 by omega) with rfl | rfl
    · exact ⟨_, _, _, _, rfl, hq0⟩
    · exact ⟨_, _, _, _, rfl, hf0⟩
  have hL := hL0 _ hV; have hbd_hL := hL.bd
  refine r_region ?_
  refine Zo (run_ixA1 (v := .slice aoL (([x.req, x.forb] : List (List Str)).getD i default).length capL) (i) rfl Tryz.underlying128 ty_77 ag_77 η η (by first | exact rfl | omega) ω (by exact hvL)) ?_
  refine Zn (run_asg (v := .slice aoL (([x.req, x.forb] : List (List Str)).getD i default).length capL) rfl η) ?_
  refine Zs ?_
  refine Zo (run_mv (v := .slice aoL (([x.req, x.forb] : List (List Str)).getD i default).length capL) rfl η) ?_
  refine Zo (run_lenSl rfl η Tryz.underlying77) ?_
  refine Zn mvI ?_
  refine r_block ?_
  refine r_loop (α := Nat) [4, 10, 65, 66, 67, 68, 69, 70, 71, 72, 73] (fun k g w => g 65 = .int .i64 (k : Nat) ∧ k ≤ (([x.req, x.forb] : List (List Str)).getD i default).length ∧ (∀ j, j < k → phrE ((([x.req, x.forb] : List (List Str)).getD i default).getD j default) = 0) ∧ w18.heap.size ≤ w.heap.size ∧ Evo w0 w []) (fun k => (([x.req, x.forb] : List (List Str)).getD i default).length - k) 0 ?_ ?_
  ·refine ⟨σ, δ, (fun j h => by omega), δ, hV⟩
  rintro k g w22 ⟨hj23, hk_k, hnp, hzl21, hV⟩
  have hs_w22hV := hV.size
  replace hw := hw0 _ hV
  replace hq := hq0 _ hV
  replace hf := hf0 _ hV
  replace hc := hc0.now hV
  replace hL := hL0 _ hV
  refine Zk 65 (v := .int .i64 (k : Nat)) (by exact hj23) ?_
  refine Zs ?_
  refine Zn (run_lss rfl η η) ?_
  refine r_seq ?_
  refine r_cond η (fun hc24 => ?_) (fun hc24 => ?_)
  ·skip
   refine r_skip ?_
   refine r_seq ?_
   refine r_block ?_
   refine Zs ?_
   refine Zo (run_ix (k) rfl Tryz.underlying77 ty_9 η η (by first | exact rfl | omega) ω (hL.addr (i := k) ω)) ?_
   have hA250 := fun (w' : World) (h : Evo w0 w' []) => (hL0 w' h).atD (k) ω
   have hA25 := hA250 _ hV
   refine Zo (run_ld1 rfl ag_9 η (hA25.cell 0 η)) ?_
   refine Zn asT ?_
   refine Zs ?_
   refine Zo mvT ?_
   refine Zr [S _] rfl η Tryz.func98 twords_calls ?_
   rintro e w26 ⟨ao26, bs26, off26, cap26, rfl, hE26, hr26⟩
   refine ⟨_, rfl, ?_⟩
   have Q26 := hE26.size
   replace hV := Z0 hV hE26
   replace hw := hw0 _ hV
   replace hq := hq0 _ hV
   replace hf := hf0 _ hV
   replace hc := hc0.now hV
   replace hL := hL0 _ hV
   refine Zo (run_lenSl rfl η Tryz.underlying77) ?_
   refine Zn (run_eql rfl η η) ?_
   refine r_cond η (fun hc27 => ?_) (fun hc27 => ?_)
   ·skip
    refine Zs ?_
    refine Zn asI ?_
    refine r_ret (res1 (v := .int _ _) rfl η) ?_
    exact ⟨ret_int (termE_phr hnl hnw2 ω hno ω hnp (words_zero.1 hc27)).symm, hV⟩
   refine r_skip ?_
   refine r_blk ?_
   refine r_region ?_
   refine Zo (run_add rfl η η ω ω) ?_
   refine Zn mvI ?_
   refine r_again (k + 1) ?_ ?_ ?_
   ·first | omega | (dsimp only; omega)
   ·refine ⟨σ, δ, (upto0 hnp (phrE_0 (Classical.not_not.1 (fun q => hc27 (words_zero.2 q))))), δ, hV⟩
   exact ψ
  refine r_exit rfl ?_
  refine r_blk ?_
  refine r_region ?_
  refine Zo (run_add rfl η η ω ω) ?_
  refine Zn mvI ?_
  refine r_again (i + 1) ?_ ?_ ?_
  ·first | omega | (dsimp only; omega)
  ·refine ⟨σ, δ, (upto0 hno (firstM_ok (fun j hj => hnp j ω))), δ, hV⟩
  exact ψ
 refine r_exit rfl ?_
 refine Zs ?_
 refine Zn asI ?_
 refine r_ret (res1 (v := .int _ _) rfl η) ?_
 exact ⟨ret_int (termE_ok hnl hnw2 (fun j hj => hno j ω)).symm, hV⟩
set_option maxHeartbeats 1000000 in
theorem tvalidate_calls {aot : Option Addr} {btt offt capt : Nat} {ts : List TermL} {ao : Option Addr} {b off cap : Nat} {c : List Clas} {w0 : World} (ht : RowR w0 aot btt offt capt ts) (hc : RowR w0 ao b off cap c) :
    Calls Tryz.prog 29 #[.slice aot ts.length capt, .slice ao c.length cap] w0 fun e w' => e = .returned (.int .i64 (validT ts c)) ∧ Evo w0 w' [] := by
 refine calls_enter (n := 30) Tryz.func29 rfl Tryz.ntmps29 rfl ?_
 have hV : Evo w0 w0 [] := Evo.refl _ _
 have ht0 := ht.keep
 have hbd_ht := ht.bd
 have hc0 := hc.keep
 have hbd_hc := hc.bd
 refine Zs ?_
 refine Zn asI ?_
 refine r_seq ?_
 refine Zs ?_
 refine Zo mvS ?_
 refine Zr [.slice _ _ _] rfl η Tryz.func53 (validate_calls hc) ?_
 rintro e w1 ⟨rfl, hE1⟩
 refine ⟨_, rfl, ?_⟩
 have Q1 := hE1.size
 replace hV := Z0 hV hE1
 replace ht := ht0.now hV
 replace hc := hc0.now hV
 refine Zn asI ?_
 refine Zs ?_
 refine Zo mvI ?_
 refine Zn (run_neq rfl η η) ?_
 refine r_cond η (fun hc2 => ?_) (fun hc2 => ?_)
 ·skip
  refine Zs ?_
  refine Zo mvI ?_
  refine Zn asI ?_
  refine r_ret (res1 (v := .int _ _) rfl η) ?_
  exact ⟨ret_int (validT_c hc2).symm, hV⟩
 refine r_skip ?_
 refine r_seq ?_
 refine r_seq ?_
 have hvc := hc2
 refine r_region ?_
 refine Zo mvS ?_
 refine Zo (run_lenSl rfl η Tryz.underlying25) ?_
 refine Zn (run_gtr rfl η η) ?_
 refine r_cond η (fun hc3 => ?_) (fun hc3 => ?_)
 ·skip
  refine Zs ?_
  refine Zn asI ?_
  refine r_ret (res1 (v := .int _ _) rfl η) ?_
  exact ⟨ret_int (validT_lim (Classical.not_not.1 hvc) ω).symm, hV⟩
 refine r_skip ?_
 refine r_seq ?_
 refine Zs ?_
 refine Zo mvS ?_
 refine Zo (run_lenSl rfl η Tryz.underlying25) ?_
 refine Zn mvI ?_
 refine r_block ?_
 refine r_loop (α := Nat) [4, 7, 8, 19, 20, 21, 22, 23, 24, 25, 26, 27, 28, 29] (fun k g w => g 19 = .int .i64 (k : Nat) ∧ k ≤ ts.length ∧ (∀ j, j < k → termE c (ts.getD j default) = 0) ∧ w1.heap.size ≤ w.heap.size ∧ Evo w0 w []) (fun k => ts.length - k) 0 ?_ ?_
 ·refine ⟨σ, δ, (fun j h => by omega), δ, hV⟩
 rintro k g w5 ⟨hj6, hk_k, hno, hzl4, hV⟩
 have hs_w5hV := hV.size
 replace ht := ht0.now hV
 refine Zk 19 (v := .int .i64 (k : Nat)) (by exact hj6) ?_
 refine Zs ?_
 refine Zn (run_lss rfl η η) ?_
 refine r_seq ?_
 refine r_cond η (fun hc7 => ?_) (fun hc7 => ?_)
 ·skip
  refine r_skip ?_
  refine r_seq ?_
  refine r_block ?_
  refine Zs ?_
  refine Zo (run_ix (k) rfl Tryz.underlying25 ty_85 η η (by first | exact rfl | omega) ω (ht.addr (i := k) ω)) ?_
  obtain ⟨aoW8, bW8, offW8, capW8, aoQ8, bQ8, offQ8, capQ8, aoF8, bF8, offF8, capF8, hX⟩ := term_atK ht0 (k) ω
  have hA80 := fun (w' : World) (h : Evo w0 w' []) => (hX w' h).1
  have hA8 := hA80 _ hV
  have hW80 := fun (w' : World) (h : Evo w0 w' []) => (hX w' h).2.1
  have hW8 := hW80 _ hV
  have hQ80 := fun (w' : World) (h : Evo w0 w' []) => (hX w' h).2.2.1
  have hQ8 := hQ80 _ hV
  have hF80 := fun (w' : World) (h : Evo w0 w' []) => (hX w' h).2.2.2
  have hF8 := hF80 _ hV
  clear hX
  have hbd_hW8 := hW8.bd
  have hbd_hQ8 := hQ8.bd
  have hbd_hF8 := hF8.bd
  refine Zo (run_ldN rfl ag_85 ty_85 η rfl hA8) ?_
  refine r_var (zs := [_, _, _]) (vs := [_, _, _]) ty_85 η rfl η (fun _ => rfl) η rfl rfl η ?_
  intro b9 w10 J9 E10 B9 Y9
  have Q10 := E10.size
  replace hV := Z0 hV E10
  replace hc := hc0.now hV
  replace hW8 := hW80 _ hV
  replace hQ8 := hQ80 _ hV
  replace hF8 := hF80 _ hV
  refine r_nil ?_
  refine Zs ?_
  refine Zo (run_ldN rfl ag_85 ty_85 η rfl B9.at) ?_
  refine Zo mvS ?_
  refine Zr [.agg _, .slice _ _ _] rfl η Tryz.func54 (checked_calls hW8 hQ8 hF8 hc) ?_
  rintro e w11 ⟨rfl, hE11⟩
  refine ⟨_, rfl, ?_⟩
  have Q11 := hE11.size
  replace hV := Z0 hV hE11
  replace ht := ht0.now hV
  replace hc := hc0.now hV
  refine Zn asI ?_
  refine Zs ?_
  refine Zo mvI ?_
  refine Zn (run_neq rfl η η) ?_
  refine r_cond η (fun hc12 => ?_) (fun hc12 => ?_)
  ·skip
   refine Zs ?_
   refine Zo mvI ?_
   refine Zn asI ?_
   refine r_ret (res1 (v := .int _ _) rfl η) ?_
   exact ⟨ret_int (validT_at (k := k) (Classical.not_not.1 hvc) ω ω hno rfl hc12).symm, hV⟩
  refine r_skip ?_
  refine r_blk ?_
  refine r_region ?_
  refine Zo (run_add rfl η η ω ω) ?_
  refine Zn mvI ?_
  refine r_again (k + 1) ?_ ?_ ?_
  ·first | omega | (dsimp only; omega)
  ·refine ⟨σ, δ, (upto0 hno (Classical.not_not.1 hc12)), δ, hV⟩
  exact ψ
 refine r_exit rfl ?_
 refine Zs ?_
 refine Zn asI ?_
 refine r_ret (res1 (v := .int _ _) rfl η) ?_
 exact ⟨ret_int (validT_ok (Classical.not_not.1 hvc) ω (fun j hj => hno j ω)).symm, hV⟩
end Go.Proofs.YtlfjocbnbceceaaGreatDoor
namespace Go.Vc
open Go Go.RowKit Go.IntWalk Go.Deep
structure TmsL where
  ts : List TermL
deriving Inhabited
instance : Rep TmsL where
  n := 1
  rep w cs x := ∃ ao b off cap, cs = [.slice ao x.ts.length cap] ∧ RowR w ao b off cap x.ts
  len := fun ⟨_, _, _, _, h, _⟩ => by rw [h]; rfl
  evo0 := fun ⟨ao, b, off, cap, h, h1⟩ he => ⟨ao, b, off, cap, h, h1.evo0 he⟩
  pos := by decide
section
variable {P : Program} {B : Exit → Act → World → Prop} {n : Nat} {k : List Kont} {f : Fr} {w : World} {ops : Array Oper} {S : World → Prop} {fuel : Nat} {d : List Nat}
theorem h_know {i : Nat} {v : Value} (hv : f i = v) (h : HA P B n k S ops fuel d (upd f i v) w) : HA P B n k S ops fuel d f w := fun a ha => h a (ha.know hv)
end
end Go.Vc
namespace Go.Proofs.YtlfjocbnbceceaaGreatDoor
open Go.RowKit Go.Vc
structure MF (nested : Bool) (f : List Vc.Item) : Prop where
  val : valGo [] f = 0
  len : f.length ≤ 16
  size : sizeL f ≤ 240
  shp : nested = true → shapeL f = some ([], [])
theorem MF.small {n : Bool} {f : List Vc.Item} (h : MF n f) : Small f := ⟨by have := h.len; omega, by have := h.size; omega⟩
def shC (f : List Vc.Item) : List Int := ((shapeL f).getD ([], [])).1
def shO (f : List Vc.Item) : List Int := ((shapeL f).getD ([], [])).2
theorem shape_mono {f : List Vc.Item} {k : Nat} (hk : k ≤ f.length) (h : shapeL (f.take k) = none) : shapeL f = none := by
  have e : ∀ l : List Vc.Item, l.foldl shapeStep none = none := fun l => by
    induction l with
    | nil => rfl
    | cons x l ih => rw [List.foldl_cons]; exact ih
  have h1 : shapeL f = (f.drop k).foldl shapeStep (shapeL (f.take k)) := by
    unfold shapeL; rw [← List.foldl_append, List.take_append_drop]
  rw [h1, h, e]
theorem shape_no {f : List Vc.Item} {k : Nat} {c s : List Int} (hk : k < f.length) (ho : shapeL (f.take k) = some (c, s)) (h : (f.getD k default).kind = 3) (hs : ¬ s.length = 0) (he : ¬ s.getD (s.length - 1) default = (f.getD k default).id) : shapeL f = none :=
  shape_mono (k := k + 1) ω (by rw [shape_succ f k hk, shape_cross ho h hs he])
theorem sh_some {f : List Vc.Item} {c s : List Int} (h : shapeL f = some (c, s)) : (shapeL f).isSome = true ∧ shC f = c ∧ shO f = s := by unfold shC shO; rw [h]; exact ⟨rfl, rfl, rfl⟩
theorem sh_none {f : List Vc.Item} (h : shapeL f = none) : (shapeL f).isSome = false ∧ shC f = [] ∧ shO f = [] := by unfold shC shO; rw [h]; exact ⟨rfl, rfl, rfl⟩
theorem shape_calls {ao : Option Addr} {b off cap : Nat} {f : List Vc.Item} {w0 : World} (hf : RowE w0 ao b off cap f) (hsm : Small f) :
    Calls Tryz.prog 23 #[.slice ao f.length cap] w0 fun e w' => ∃ v u, e = .returned (.tuple #[v, u, .bool (shapeL f).isSome]) ∧ Evo w0 w' [] ∧ OwnE w' w0.heap.size 3 v (shC f) ∧ OwnE w' w0.heap.size 3 u (shO f) := by
 have hs1 := hsm.1
 refine calls_enter (n := 63) Tryz.func23 rfl Tryz.ntmps23 rfl ?_
 have hV : Evo w0 w0 [] := Evo.refl _ _
 have hf0 := keepE hf
 have hbd_hf := hf.bd
 refine Zs ?_
 refine Zo asS ?_
 refine Zo asS ?_
 refine Zn asB ?_
 refine r_seq ?_
 refine Zs ?_
 refine Zo mvS ?_
 refine Zo (run_lenSl rfl η Tryz.underlying33) ?_
 refine Zn mvI ?_
 refine r_block ?_
 refine r_loop (α := Nat) [2, 3, 4, 6, 9, 10, 11, 12, 13, 14, 15, 16, 17, 18, 19, 20, 21, 22, 23, 24, 25, 26, 27, 28, 29, 30, 31, 32, 33, 34, 35, 36, 37, 38, 39, 40, 41, 42, 43, 44, 45, 46, 47, 48, 49, 50, 51, 52, 53, 54, 55, 56, 57, 58, 59, 60] (fun k g w => ∃ vc : Value, ∃ vo : Value, ∃ cl : List Int, ∃ op : List Int, g 9 = .int .i64 (k : Nat) ∧ g 2 = vc ∧ g 3 = vo ∧ k ≤ f.length ∧ OwnE w w0.heap.size 3 vc cl ∧ OwnE w w0.heap.size 3 vo op ∧ Sep vc vo ∧ shapeL (f.take k) = some (cl, op) ∧ (cl.length ≤ k ∧ op.length ≤ k) ∧ w0.heap.size ≤ w.heap.size ∧ Evo w0 w []) (fun k => f.length - k) 0 ?_ ?_
 ·refine ⟨_, _, [], [], σ, rfl, rfl, δ, (OwnE.nil _ _ _), (OwnE.nil _ _ _), (Sep.nil_l _), rfl, (by simp), δ, hV⟩
 rintro k g w2 ⟨vc, vo, cl, op, hj3, hj4, hj5, hk_k, hoc, hoo, hsep, hsh, hlen, hzl1, hV⟩
 have hs_w2hV := hV.size
 replace hf := hf0 _ hV
 refine Zk 9 (v := .int .i64 (k : Nat)) (by exact hj3) ?_
 refine Zk 2 (v := vc) (by exact hj4) ?_
 refine Zk 3 (v := vo) (by exact hj5) ?_
 refine Zs ?_
 refine Zn (run_lss rfl η η) ?_
 refine r_seq ?_
 refine r_cond η (fun hc6 => ?_) (fun hc6 => ?_)
 ·skip
  refine r_skip ?_
  refine r_seq ?_
  refine r_block ?_
  refine r_seq ?_
  have hobC := fun g hg => (hoc.block (g := g) hg).2; have hobO := fun g hg => (hoo.block (g := g) hg).2
  refine r_region ?_
  refine Zo (run_ix (k) rfl Tryz.underlying33 ty_32 η η (by first | exact rfl | omega) ω (hf.addr (i := k) ω)) ?_
  have hA70 := fun (w' : World) (h : Evo w0 w' []) => (hf0 w' h).atD (k) ω
  have hA7 := hA70 _ hV
  refine Zo (run_ldN rfl ag_32 ty_32 η rfl hA7) ?_
  have hob8 := fun g hg => (hoc.block (g := g) hg).2
  have hob9 := fun g hg => (hoo.block (g := g) hg).2
  refine r_var (zs := [_, _, _]) (vs := [_, _, _]) ty_32 η rfl η (fun _ => rfl) η rfl rfl η ?_
  intro b10 w11 J10 E11 B10 Y10
  have Q11 := E11.size
  replace hV := Z0 hV E11
  replace hoc := hoc.evo0 E11
  replace hoo := hoo.evo0 E11
  refine r_nil ?_
  refine r_block ?_
  refine Zs ?_
  refine Zo (run_fa rfl η fo_32_0) ?_
  refine Zo (run_ld1 rfl ag_3 η (B10.at.cell 0 η)) ?_
  refine Zo (run_eql rfl η η) ?_
  refine Zn asB ?_
  refine r_cond η (fun hc12 => ?_) (fun hc12 => ?_)
  ·skip
   refine r_region ?_
   refine Zo (run_mv (v := vo) rfl η) ?_
   refine Zo (run_fa rfl η fo_32_2) ?_
   refine Zo (run_ld1 rfl ag_3 η (B10.at.cell 2 η)) ?_
   refine r_append1E (u := .int _ _) (y := _) rfl rfl Tryz.underlying22 ty_3 η hoo (fun _ => η) η (by first | exact rfl | (show _ = List.toArray [_]; first | (dsimp only; done) | exact rfl | (dsimp only; exact rfl))) (ω) (ω) ω ?_
   intro q_v13 v13 w14 E14 hov13 hlv13
   have Q14 := E14.size
   replace hV := evo_stepo hV E14 (fun g hg => .inl (by first | exact (hoo.block hg).1 | (have := hoo.block hg; omega)))
   replace hf := hf0 _ hV
   replace hoc := hoc.evo E14 (by intro g hg hm; exact hsep _ hg _ (Option.mem_toList.1 hm) rfl)
   refine Zn (run_asg (v := v13) rfl η) ?_
   refine r_blk ?_
   refine r_blk ?_
   refine r_region ?_
   refine Zo (run_add rfl η η ω ω) ?_
   refine Zn mvI ?_
   refine r_again (k + 1) ?_ ?_ ?_
   ·first | omega | (dsimp only; omega)
   ·refine ⟨_, _, _, _, σ, rfl, rfl, δ, hoc, hov13, (by first | exact hsep | exact (hsep.symm.grow hlv13 hobC ω).symm | exact hsep.grow hlvc hobO ω | exact (hsep.symm.same hlv13).symm), (by first | exact (shape_succ f k ω).trans (shape_open hsh (by assumption)) | exact (shape_succ f k ω).trans (shape_free hsh (by first | assumption | exact hc12.1) (by first | omega | (have := hc12; omega))) | exact (shape_succ f k ω).trans (shape_match hsh (by first | assumption | exact hc12.1) ω (by first | exact hc12 | exact hc12.2)) | exact (shape_succ f k ω).trans ((shape_other ω ω).trans hsh)), (by first | omega | (simp only [List.length_append, List.length_cons, List.length_nil, List.length_take]; omega)), δ, hV⟩
   exact ψ
  refine Zs ?_
  refine Zo (run_fa rfl η fo_32_0) ?_
  refine Zo (run_ld1 rfl ag_3 η (B10.at.cell 0 η)) ?_
  refine Zo (run_eql rfl η η) ?_
  refine Zo mvB ?_
  refine r_g rfl (wantT η) rfl (fun hg => run_mv (v := vo) rfl η) ?_
  refine r_g rfl (wantT η) rfl (fun hg => run_lenOE rfl (glv η (fun h => h) hg) Tryz.underlying22 hoo) ?_
  refine r_g rfl (wantT η) rfl (fun hg => run_eql rfl (glv η (fun h => h) hg) η) ?_
  refine Zo (run_pick_and rfl η (fun hq => glv η (fun h => h) hq) rfl) ?_
  refine Zn asB ?_
  refine r_cond η (fun hc15 => ?_) (fun hc15 => ?_)
  ·skip
   refine r_region ?_
   refine Zo (run_mv (v := vc) rfl η) ?_
   refine Zo (run_fa rfl η fo_32_2) ?_
   refine Zo (run_ld1 rfl ag_3 η (B10.at.cell 2 η)) ?_
   refine r_append1E (u := .int _ _) (y := _) rfl rfl Tryz.underlying22 ty_3 η hoc (fun _ => η) η (by first | exact rfl | (show _ = List.toArray [_]; first | (dsimp only; done) | exact rfl | (dsimp only; exact rfl))) (ω) (ω) ω ?_
   intro q_v16 v16 w17 E17 hov16 hlv16
   have Q17 := E17.size
   replace hV := evo_stepo hV E17 (fun g hg => .inl (by first | exact (hoc.block hg).1 | (have := hoc.block hg; omega)))
   replace hf := hf0 _ hV
   replace hoo := hoo.evo E17 (by intro g hg hm; exact hsep.symm _ hg _ (Option.mem_toList.1 hm) rfl)
   refine Zn (run_asg (v := v16) rfl η) ?_
   refine r_blk ?_
   refine r_blk ?_
   refine r_region ?_
   refine Zo (run_add rfl η η ω ω) ?_
   refine Zn mvI ?_
   refine r_again (k + 1) ?_ ?_ ?_
   ·first | omega | (dsimp only; omega)
   ·refine ⟨_, _, _, _, σ, rfl, rfl, δ, hov16, hoo, (by first | exact hsep | exact (hsep.symm.grow hlvo hobC ω).symm | exact hsep.grow hlv16 hobO ω | exact (hsep.symm.same hlvo).symm), (by first | exact (shape_succ f k ω).trans (shape_open hsh (by assumption)) | exact (shape_succ f k ω).trans (shape_free hsh (by first | assumption | exact hc15.1) (by first | omega | (have := hc15; omega))) | exact (shape_succ f k ω).trans (shape_match hsh (by first | assumption | exact hc15.1) ω (by first | exact hc15 | exact hc15.2)) | exact (shape_succ f k ω).trans ((shape_other ω ω).trans hsh)), (by first | omega | (simp only [List.length_append, List.length_cons, List.length_nil, List.length_take]; omega)), δ, hV⟩
   exact ψ
  refine r_seq ?_
  obtain ⟨ao18, g18, cp18, hv18, hr18, hg18⟩ := hoo.rowOf
  subst hv18
  refine r_qregion ζ ζ ?_
  refine Zq (fun w' hC => run_fa rfl η fo_32_0) ?_
  refine Zq (fun w' hC => run_ld1 rfl ag_3 η ((B10.at.evo0 hC).cell 0 η)) ?_
  refine Zq (fun w' hC => run_eql rfl η η) ?_
  refine Zq (fun w' hC => mvB) ?_
  refine q_g rfl (wantT η) rfl (fun hg w' hC => mvS) ?_
  refine q_g rfl (wantT η) rfl (fun hg w' hC => mvS) ?_
  refine q_g rfl (wantT η) rfl (fun hg w' hC => run_lenSl rfl (glv η (fun h => h) hg) Tryz.underlying22) ?_
  refine q_g rfl (wantT η) rfl (fun hg w' hC => run_sub rfl (glv η (fun h => h) hg) η ω ω) ?_
  refine q_g rfl (wantT η) rfl (fun hg w' hC => run_ix ((op.length - 1)) rfl Tryz.underlying22 ty_3 (glv η (fun h => h) hg) (glv η (fun h => h) hg) ω ω (hr18.addr (i := (op.length - 1)) ω)) ?_
  refine q_g rfl (wantT η) rfl (fun hg w' hC => run_ld1 rfl ag_3 (glv η (fun h => h) hg) (((hr18.atD ((op.length - 1)) ω).evo0 hC).cell 0 η)) ?_
  refine q_g rfl (wantT η) rfl (fun hg w' hC => run_fa rfl η fo_32_2) ?_
  refine q_g rfl (wantT η) rfl (fun hg w' hC => run_ld1 rfl ag_3 (glv η (fun h => h) hg) ((B10.at.evo0 hC).cell 2 η)) ?_
  refine q_g rfl (wantT η) rfl (fun hg w' hC => run_eql rfl (glv η (fun h => h) hg) (glv η (fun h => h) hg)) ?_
  refine Zq (fun w' hC => run_pick_and rfl η (fun hq => glv η (fun h => h) hq) rfl) ?_
  refine Zq (fun w' hC => asB) ?_
  refine q_nil (fun w19 hE20 => ?_)
  have Q19 := hE20.size
  replace hV := Z0 hV hE20
  replace hf := hf0 _ hV
  replace hoc := hoc.evo0 hE20
  replace hoo := hoo.evo0 hE20
  replace B10 := B10.evo0 hE20
  replace hr18 := hr18.evo0 hE20
  refine r_cond η (fun hc21 => ?_) (fun hc21 => ?_)
  ·skip
   refine r_region ?_
   refine Zo mvS ?_
   refine Zo mvS ?_
   refine Zo (run_lenSl rfl η Tryz.underlying22) ?_
   refine Zo (run_sub rfl η η ω ω) ?_
   refine r_cutOwn ((op.length - 1)) rfl Tryz.underlying22 ty_3 hoo η (hi1 η ω) ω ω ?_
   intro v22 hov22 hlv22
   refine Zn (run_asg (v := v22) rfl η) ?_
   refine r_blk ?_
   refine r_blk ?_
   refine r_region ?_
   refine Zo (run_add rfl η η ω ω) ?_
   refine Zn mvI ?_
   refine r_again (k + 1) ?_ ?_ ?_
   ·first | omega | (dsimp only; omega)
   ·refine ⟨_, _, _, _, σ, rfl, rfl, δ, hoc, hov22, (by first | exact hsep | exact (hsep.symm.grow hlv22 hobC ω).symm | exact hsep.grow hlvc hobO ω | exact (hsep.symm.same hlv22).symm), (by first | exact (shape_succ f k ω).trans (shape_open hsh (by assumption)) | exact (shape_succ f k ω).trans (shape_free hsh (by first | assumption | exact hc21.1) (by first | omega | (have := hc21; omega))) | exact (shape_succ f k ω).trans (shape_match hsh (by first | assumption | exact hc21.1) ω (by first | exact hc21 | exact hc21.2)) | exact (shape_succ f k ω).trans ((shape_other ω ω).trans hsh)), (by first | omega | (simp only [List.length_append, List.length_cons, List.length_nil, List.length_take]; omega)), δ, hV⟩
   exact ψ
  refine Zs ?_
  refine Zo (run_fa rfl η fo_32_0) ?_
  refine Zo (run_ld1 rfl ag_3 η (B10.at.cell 0 η)) ?_
  refine Zo (run_eql rfl η η) ?_
  refine Zn asB ?_
  refine r_cond η (fun hc23 => ?_) (fun hc23 => ?_)
  ·skip
   refine r_seq ?_
   have hno : shapeL f = none := shape_no ω hsh (by assumption) ω ω
   refine r_region ?_
   refine Zo asS ?_
   refine Zo asS ?_
   refine Zn asB ?_
   refine r_ret (res3 (v := .slice _ _ _) (u := .slice _ _ _) (x := .bool _) rfl η η η) ?_
   exact ⟨_, _, by rw [(sh_none hno).1], hV, by rw [(sh_none hno).2.1]; exact OwnE.nil _ _ _, by rw [(sh_none hno).2.2]; exact OwnE.nil _ _ _⟩
  refine r_skip ?_
  refine r_blk ?_
  refine r_blk ?_
  refine r_region ?_
  refine Zo (run_add rfl η η ω ω) ?_
  refine Zn mvI ?_
  refine r_again (k + 1) ?_ ?_ ?_
  ·first | omega | (dsimp only; omega)
  ·refine ⟨_, _, _, _, σ, rfl, rfl, δ, hoc, hoo, (by first | exact hsep | exact (hsep.symm.grow hl.slice _ _ _ hobC ω).symm | exact hsep.grow hlvc hobO ω | exact (hsep.symm.same hl.slice _ _ _).symm), (by first | exact (shape_succ f k ω).trans (shape_open hsh (by assumption)) | exact (shape_succ f k ω).trans (shape_free hsh (by first | assumption | exact hc23.1) (by first | omega | (have := hc23; omega))) | exact (shape_succ f k ω).trans (shape_match hsh (by first | assumption | exact hc23.1) ω (by first | exact hc23 | exact hc23.2)) | exact (shape_succ f k ω).trans ((shape_other ω ω).trans hsh)), (by first | omega | (simp only [List.length_append, List.length_cons, List.length_nil, List.length_take]; omega)), δ, hV⟩
  exact ψ
 refine r_exit rfl ?_
 refine r_seq ?_
 rw [List.take_of_length_le ω] at hsh
 refine r_region ?_
 refine Zo (run_mv (v := vc) rfl η) ?_
 refine Zo (run_mv (v := vo) rfl η) ?_
 refine Zo (run_asg (v := vc) rfl η) ?_
 refine Zo (run_asg (v := vo) rfl η) ?_
 refine Zn asB ?_
 refine r_ret (res3 (v := vc) (u := vo) (x := .bool _) rfl η η η) ?_
 exact ⟨_, _, by rw [(sh_some hsh).1], hV, by rw [(sh_some hsh).2.1]; exact hoc, by rw [(sh_some hsh).2.2]; exact hoo⟩
theorem kitem : KeyLaw Tryz.prog 32 (fun x : Vc.Item => Value.agg (Enc.enc x).toArray) := key_item Tryz.underlying32 (by decide) (by decide) (by decide) rfl rfl rfl Tryz.underlying3 Tryz.underlying9 Tryz.underlying3 ag_3 ag_9 ag_3 ei_32
theorem tags_noB {f : List Vc.Item} {k : Nat} (h : k < f.length) (ht : isTag (f.getD k default) = false) : tagsL (f.take (k + 1)) = tagsL (f.take k) := tags_no h (by rw [ht]; simp)
theorem ssort_calls {w : World} {base : Nat} {v : Value} {l : List Str} (h : OwnE w base 9 v l) : Calls Tryz.prog 91 #[v] w fun e w' => e = .returned (.tuple #[]) ∧ Evo w w' v.ownBlock.toList ∧ OwnE w' base 9 v (sortS l) :=
  ssort_of Tryz.slices_Sort_string (Tryz.slices_Sort_string_none none 0) h
theorem tags_calls {ao : Option Addr} {b off cap : Nat} {f : List Vc.Item} {w0 : World} (hf : RowE w0 ao b off cap f) (hsm : Small f) :
    Calls Tryz.prog 46 #[.slice ao f.length cap] w0 fun e w' => ∃ v, e = .returned v ∧ Evo w0 w' [] ∧ OwnE w' w0.heap.size 32 v (tagsL f) := by
 have hs1 := hsm.1
 refine calls_enter (n := 20) Tryz.func46 rfl Tryz.ntmps46 rfl ?_
 have hV : Evo w0 w0 [] := Evo.refl _ _
 have hf0 := keepE hf
 have hbd_hf := hf.bd
 refine Zs ?_
 refine Zn asS ?_
 refine Zs ?_
 refine Zn asS ?_
 refine r_seq ?_
 refine Zs ?_
 refine Zo mvS ?_
 refine Zo (run_lenSl rfl η Tryz.underlying33) ?_
 refine Zn mvI ?_
 refine r_block ?_
 refine r_loop (α := Nat) [3, 5, 8, 9, 10, 11, 12, 13, 14, 15, 16, 17, 18] (fun k g w => ∃ vo : Value, g 8 = .int .i64 (k : Nat) ∧ g 3 = vo ∧ k ≤ f.length ∧ OwnE w w0.heap.size 32 vo (tagsL (f.take k)) ∧ w0.heap.size ≤ w.heap.size ∧ Evo w0 w []) (fun k => f.length - k) 0 ?_ ?_
 ·refine ⟨_, σ, rfl, δ, (OwnE.nil _ _ _), δ, hV⟩
 rintro k g w2 ⟨vo, hj3, hj4, hk_k, hoo, hzl1, hV⟩
 have hs_w2hV := hV.size
 replace hf := hf0 _ hV
 refine Zk 8 (v := .int .i64 (k : Nat)) (by exact hj3) ?_
 refine Zk 3 (v := vo) (by exact hj4) ?_
 refine Zs ?_
 refine Zn (run_lss rfl η η) ?_
 refine r_seq ?_
 refine r_cond η (fun hc5 => ?_) (fun hc5 => ?_)
 ·skip
  refine r_skip ?_
  refine r_seq ?_
  refine r_block ?_
  refine r_seq ?_
  have hobO := fun g hg => (hoo.block (g := g) hg).2
  have ht1 := tagsL_len (f.take k); have ht2 : (f.take k).length ≤ k := List.length_take_le _ _
  refine r_region ?_
  refine Zo (run_ix (k) rfl Tryz.underlying33 ty_32 η η (by first | exact rfl | omega) ω (hf.addr (i := k) ω)) ?_
  have hA60 := fun (w' : World) (h : Evo w0 w' []) => (hf0 w' h).atD (k) ω
  have hA6 := hA60 _ hV
  refine Zo (run_ldN rfl ag_32 ty_32 η rfl hA6) ?_
  have hob7 := fun g hg => (hoo.block (g := g) hg).2
  refine r_var (zs := [_, _, _]) (vs := [_, _, _]) ty_32 η rfl η (fun _ => rfl) η rfl rfl η ?_
  intro b8 w9 J8 E9 B8 Y8
  have Q9 := E9.size
  replace hV := Z0 hV E9
  replace hoo := hoo.evo0 E9
  refine r_nil ?_
  refine Zs ?_
  refine Zo (run_ldN rfl ag_32 ty_32 η rfl B8.at) ?_
  refine Zr [.agg _] rfl η Tryz.func90 istag_calls ?_
  rintro e w10 ⟨rfl, hE10⟩
  refine ⟨_, rfl, ?_⟩
  have Q10 := hE10.size
  replace hV := Z0 hV hE10
  replace hf := hf0 _ hV
  replace hoo := hoo.evo0 hE10
  replace B8 := B8.evo0 hE10
  refine r_nil ?_
  refine r_condb η (fun hc11 => ?_) (fun hc11 => ?_)
  ·skip
   refine r_region ?_
   refine Zo (run_mv (v := vo) rfl η) ?_
   refine Zo (run_ldN rfl ag_32 ty_32 η rfl B8.at) ?_
   refine r_append1E (u := .agg _) (y := ⟨_, _, _⟩) rfl rfl Tryz.underlying33 ty_32 η hoo (fun _ => η) η (by first | exact rfl | (show _ = List.toArray [_, _, _]; first | (dsimp only; done) | exact rfl | (dsimp only; exact rfl))) ((by first | omega | (simp; omega))) ((by first | omega | (simp; omega))) ω ?_
   intro q_v12 v12 w13 E13 hov12 hlv12
   have Q13 := E13.size
   replace hV := evo_stepo hV E13 (fun g hg => .inl (by first | exact (hoo.block hg).1 | (have := hoo.block hg; omega)))
   replace hf := hf0 _ hV
   refine Zn (run_asg (v := v12) rfl η) ?_
   refine r_blk ?_
   refine r_region ?_
   refine Zo (run_add rfl η η ω ω) ?_
   refine Zn mvI ?_
   refine r_again (k + 1) ?_ ?_ ?_
   ·first | omega | (dsimp only; omega)
   ·refine ⟨_, σ, rfl, δ, (by first | (rw [tags_yes ω hc11]; exact hov12) | (rw [tags_noB ω hc11]; exact hov12)), δ, hV⟩
   exact ψ
  refine r_skip ?_
  refine r_blk ?_
  refine r_region ?_
  refine Zo (run_add rfl η η ω ω) ?_
  refine Zn mvI ?_
  refine r_again (k + 1) ?_ ?_ ?_
  ·first | omega | (dsimp only; omega)
  ·refine ⟨_, σ, rfl, δ, (by first | (rw [tags_yes ω hc11]; exact hoo) | (rw [tags_noB ω hc11]; exact hoo)), δ, hV⟩
  exact ψ
 refine r_exit rfl ?_
 refine Zs ?_
 refine Zo (run_mv (v := vo) rfl η) ?_
 refine Zn (run_asg (v := vo) rfl η) ?_
 refine r_ret (res1 (v := vo) rfl η) ?_
 exact ⟨_, rfl, hV, by rw [List.take_of_length_le ω] at hoo; exact hoo⟩
theorem slots_calls {ao : Option Addr} {b off cap : Nat} {f : List Vc.Item} {w0 : World} (hf : RowE w0 ao b off cap f) (hsm : Small f) :
    Calls Tryz.prog 48 #[.slice ao f.length cap] w0 fun e w' => ∃ v, e = .returned v ∧ Evo w0 w' [] ∧ OwnE w' w0.heap.size 9 v (sortS (slotsL f)) := by
 have hs1 := hsm.1
 refine calls_enter (n := 24) Tryz.func48 rfl Tryz.ntmps48 rfl ?_
 have hV : Evo w0 w0 [] := Evo.refl _ _
 have hf0 := keepE hf
 have hbd_hf := hf.bd
 refine Zs ?_
 refine Zn asS ?_
 refine Zs ?_
 refine Zn asS ?_
 refine r_seq ?_
 refine Zs ?_
 refine Zo mvS ?_
 refine Zo (run_lenSl rfl η Tryz.underlying33) ?_
 refine Zn mvI ?_
 refine r_block ?_
 refine r_loop (α := Nat) [3, 5, 8, 9, 10, 11, 12, 13, 14, 15, 16, 17, 18, 19, 20] (fun k g w => ∃ vo : Value, g 8 = .int .i64 (k : Nat) ∧ g 3 = vo ∧ k ≤ f.length ∧ OwnE w w0.heap.size 9 vo (slotsL (f.take k)) ∧ w0.heap.size ≤ w.heap.size ∧ Evo w0 w []) (fun k => f.length - k) 0 ?_ ?_
 ·refine ⟨_, σ, rfl, δ, (OwnE.nil _ _ _), δ, hV⟩
 rintro k g w2 ⟨vo, hj3, hj4, hk_k, hoo, hzl1, hV⟩
 have hs_w2hV := hV.size
 replace hf := hf0 _ hV
 refine Zk 8 (v := .int .i64 (k : Nat)) (by exact hj3) ?_
 refine Zk 3 (v := vo) (by exact hj4) ?_
 refine Zs ?_
 refine Zn (run_lss rfl η η) ?_
 refine r_seq ?_
 refine r_cond η (fun hc5 => ?_) (fun hc5 => ?_)
 ·skip
  refine r_skip ?_
  refine r_seq ?_
  refine r_block ?_
  refine r_seq ?_
  have hobO := fun g hg => (hoo.block (g := g) hg).2
  have ht1 := slotsL_len (f.take k); have ht2 : (f.take k).length ≤ k := List.length_take_le _ _; have ht3 := fold_ins_len (slotsL (f.take k))
  refine r_region ?_
  refine Zo (run_ix (k) rfl Tryz.underlying33 ty_32 η η (by first | exact rfl | omega) ω (hf.addr (i := k) ω)) ?_
  have hA60 := fun (w' : World) (h : Evo w0 w' []) => (hf0 w' h).atD (k) ω
  have hA6 := hA60 _ hV
  refine Zo (run_ldN rfl ag_32 ty_32 η rfl hA6) ?_
  have hob7 := fun g hg => (hoo.block (g := g) hg).2
  refine r_var (zs := [_, _, _]) (vs := [_, _, _]) ty_32 η rfl η (fun _ => rfl) η rfl rfl η ?_
  intro b8 w9 J8 E9 B8 Y8
  have Q9 := E9.size
  replace hV := Z0 hV E9
  replace hf := hf0 _ hV
  replace hoo := hoo.evo0 E9
  refine r_nil ?_
  refine Zs ?_
  refine Zo (run_fa rfl η fo_32_0) ?_
  refine Zo (run_ld1 rfl ag_3 η (B8.at.cell 0 η)) ?_
  refine Zn (run_eql rfl η η) ?_
  refine r_cond η (fun hc10 => ?_) (fun hc10 => ?_)
  ·skip
   refine r_region ?_
   refine Zo (run_mv (v := vo) rfl η) ?_
   refine Zo (run_fa rfl η fo_32_1) ?_
   refine Zo (run_ld1 rfl ag_9 η (B8.at.cell 1 η)) ?_
   refine r_append1E (u := S _) (y := _) rfl rfl Tryz.underlying77 ty_9 η hoo (fun _ => η) η (by first | exact rfl | (show _ = List.toArray [_]; first | (dsimp only; done) | exact rfl | (dsimp only; exact rfl))) ((by first | omega | (simp; omega))) ((by first | omega | (simp; omega))) ω ?_
   intro q_v11 v11 w12 E12 hov11 hlv11
   have Q12 := E12.size
   replace hV := evo_stepo hV E12 (fun g hg => .inl (by first | exact (hoo.block hg).1 | (have := hoo.block hg; omega)))
   replace hf := hf0 _ hV
   refine Zn (run_asg (v := v11) rfl η) ?_
   refine r_blk ?_
   refine r_region ?_
   refine Zo (run_add rfl η η ω ω) ?_
   refine Zn mvI ?_
   refine r_again (k + 1) ?_ ?_ ?_
   ·first | omega | (dsimp only; omega)
   ·refine ⟨_, σ, rfl, δ, (by first | (rw [slots_yes ω hc10]; exact hov11) | (rw [slots_no ω hc10]; exact hov11)), δ, hV⟩
   exact ψ
  refine r_skip ?_
  refine r_blk ?_
  refine r_region ?_
  refine Zo (run_add rfl η η ω ω) ?_
  refine Zn mvI ?_
  refine r_again (k + 1) ?_ ?_ ?_
  ·first | omega | (dsimp only; omega)
  ·refine ⟨_, σ, rfl, δ, (by first | (rw [slots_yes ω hc10]; exact hoo) | (rw [slots_no ω hc10]; exact hoo)), δ, hV⟩
  exact ψ
 refine r_exit rfl ?_
 refine r_seq ?_
 rw [List.take_of_length_le ω] at hoo
 refine r_region ?_
 refine Zo (run_mv (v := vo) rfl η) ?_
 refine Zr [vo] rfl η Tryz.func91 (ssort_calls hoo) ?_
 rintro e w13 ⟨rfl, hE13, hs13⟩
 refine ⟨_, rfl, ?_⟩
 have Q13 := hE13.size
 replace hV := evo_stepo hV hE13 (fun g hg => .inl (by first | exact (hoo.block hg).1 | (have := hoo.block hg; omega)))
 replace hoo := hs13
 refine r_nil ?_
 refine Zs ?_
 refine Zo (run_mv (v := vo) rfl η) ?_
 refine Zn (run_asg (v := vo) rfl η) ?_
 refine r_ret (res1 (v := vo) rfl η) ?_
 exact ⟨_, rfl, hV, hoo⟩
theorem sleqs_calls {aoa aob : Option Addr} {ba offa capa bb offb capb : Nat} {a b : List Str} {w0 : World} (ha : RowE w0 aoa ba offa capa a) (hb : RowE w0 aob bb offb capb b) :
    Calls Tryz.prog 47 #[.slice aoa a.length capa, .slice aob b.length capb] w0 fun e w' => e = .returned (.bool (decide (a = b))) ∧ Evo w0 w' [] := by
 refine calls_enter (n := 26) Tryz.func47 rfl Tryz.ntmps47 rfl ?_
 have hV : Evo w0 w0 [] := Evo.refl _ _
 have ha0 := keepE ha
 have hbd_ha := ha.bd
 have hb0 := keepE hb
 have hbd_hb := hb.bd
 refine Zs ?_
 refine Zn asB ?_
 refine r_seq ?_
 refine Zs ?_
 refine Zo mvS ?_
 refine Zo (run_lenSl rfl η Tryz.underlying77) ?_
 refine Zo mvS ?_
 refine Zo (run_lenSl rfl η Tryz.underlying77) ?_
 refine Zn (run_neq rfl η η) ?_
 refine r_cond η (fun hc1 => ?_) (fun hc1 => ?_)
 ·skip
  refine Zs ?_
  refine Zn asB ?_
  refine r_ret (res1 (v := .bool _) rfl η) ?_
  exact ⟨by rw [decide_eq_false (fun h => by subst h; omega)], hV⟩
 refine r_skip ?_
 refine r_seq ?_
 refine Zs ?_
 refine Zo mvS ?_
 refine Zo (run_lenSl rfl η Tryz.underlying77) ?_
 refine Zn mvI ?_
 refine r_block ?_
 refine r_loop (α := Nat) [4, 5, 13, 14, 15, 16, 17, 18, 19, 20, 21, 22, 23, 24, 25] (fun k g w => g 13 = .int .i64 (k : Nat) ∧ k ≤ a.length ∧ a.take k = b.take k ∧ w0.heap.size ≤ w.heap.size ∧ Evo w0 w []) (fun k => a.length - k) 0 ?_ ?_
 ·refine ⟨σ, δ, (by simp), δ, hV⟩
 rintro k g w3 ⟨hj4, hk_k, hpre, hzl2, hV⟩
 have hs_w3hV := hV.size
 replace ha := ha0 _ hV
 replace hb := hb0 _ hV
 refine Zk 13 (v := .int .i64 (k : Nat)) (by exact hj4) ?_
 refine Zs ?_
 refine Zn (run_lss rfl η η) ?_
 refine r_seq ?_
 refine r_cond η (fun hc5 => ?_) (fun hc5 => ?_)
 ·skip
  refine r_skip ?_
  refine r_seq ?_
  refine r_block ?_
  refine Zs ?_
  refine Zo mvI ?_
  refine Zn asI ?_
  refine r_seq ?_
  refine r_qregion ζ ζ ?_
  refine Zq (fun w' hC => mvS) ?_
  refine Zq (fun w' hC => mvI) ?_
  refine Zq (fun w' hC => run_ix (k) rfl Tryz.underlying77 ty_9 η η (by first | exact rfl | omega) ω (ha.addr (i := k) ω)) ?_
  have hA60 := fun (w' : World) (h : Evo w0 w' []) => (ha0 w' h).atD (k) ω
  have hA6 := hA60 _ hV
  refine Zq (fun w' hC => run_ld1 rfl ag_9 η ((hA6.evo0 hC).cell 0 η)) ?_
  refine Zq (fun w' hC => mvS) ?_
  refine Zq (fun w' hC => mvI) ?_
  refine Zq (fun w' hC => run_ix (k) rfl Tryz.underlying77 ty_9 η η (by first | exact rfl | omega) ω (hb.addr (i := k) ω)) ?_
  have hA70 := fun (w' : World) (h : Evo w0 w' []) => (hb0 w' h).atD (k) ω
  have hA7 := hA70 _ hV
  refine Zq (fun w' hC => run_ld1 rfl ag_9 η ((hA7.evo0 hC).cell 0 η)) ?_
  refine Zq (fun w' hC => run_sneq rfl η η) ?_
  refine q_nil (fun w8 hE9 => ?_)
  have Q8 := hE9.size
  replace hV := Z0 hV hE9
  replace ha := ha0 _ hV
  replace hb := hb0 _ hV
  refine r_cond η (fun hc10 => ?_) (fun hc10 => ?_)
  ·skip
   refine Zs ?_
   refine Zn asB ?_
   refine r_ret (res1 (v := .bool _) rfl η) ?_
   exact ⟨by rw [decide_eq_false (fun h => by subst h; exact hc10 rfl)], hV⟩
  refine r_skip ?_
  refine r_blk ?_
  refine r_region ?_
  refine Zo (run_add rfl η η ω ω) ?_
  refine Zn mvI ?_
  refine r_again (k + 1) ?_ ?_ ?_
  ·first | omega | (dsimp only; omega)
  ·refine ⟨σ, δ, (itake_bothI hpre ω ω (Classical.not_not.1 hc10)), δ, hV⟩
  exact ψ
 refine r_exit rfl ?_
 refine Zs ?_
 refine Zn asB ?_
 refine r_ret (res1 (v := .bool _) rfl η) ?_
 exact ⟨by rw [decide_eq_true (by rw [List.take_of_length_le ω, List.take_of_length_le ω] at hpre; exact hpre)], hV⟩
theorem sleqi_calls {aoa aob : Option Addr} {ba offa capa bb offb capb : Nat} {a b : List Int} {w0 : World} (ha : RowE w0 aoa ba offa capa a) (hb : RowE w0 aob bb offb capb b) :
    Calls Tryz.prog 45 #[.slice aoa a.length capa, .slice aob b.length capb] w0 fun e w' => e = .returned (.bool (decide (a = b))) ∧ Evo w0 w' [] := by
 refine calls_enter (n := 26) Tryz.func45 rfl Tryz.ntmps45 rfl ?_
 have hV : Evo w0 w0 [] := Evo.refl _ _
 have ha0 := keepE ha
 have hbd_ha := ha.bd
 have hb0 := keepE hb
 have hbd_hb := hb.bd
 refine Zs ?_
 refine Zn asB ?_
 refine r_seq ?_
 refine Zs ?_
 refine Zo mvS ?_
 refine Zo (run_lenSl rfl η Tryz.underlying22) ?_
 refine Zo mvS ?_
 refine Zo (run_lenSl rfl η Tryz.underlying22) ?_
 refine Zn (run_neq rfl η η) ?_
 refine r_cond η (fun hc1 => ?_) (fun hc1 => ?_)
 ·skip
  refine Zs ?_
  refine Zn asB ?_
  refine r_ret (res1 (v := .bool _) rfl η) ?_
  exact ⟨by rw [decide_eq_false (fun h => by subst h; omega)], hV⟩
 refine r_skip ?_
 refine r_seq ?_
 refine Zs ?_
 refine Zo mvS ?_
 refine Zo (run_lenSl rfl η Tryz.underlying22) ?_
 refine Zn mvI ?_
 refine r_block ?_
 refine r_loop (α := Nat) [4, 5, 13, 14, 15, 16, 17, 18, 19, 20, 21, 22, 23, 24, 25] (fun k g w => g 13 = .int .i64 (k : Nat) ∧ k ≤ a.length ∧ a.take k = b.take k ∧ w0.heap.size ≤ w.heap.size ∧ Evo w0 w []) (fun k => a.length - k) 0 ?_ ?_
 ·refine ⟨σ, δ, (by simp), δ, hV⟩
 rintro k g w3 ⟨hj4, hk_k, hpre, hzl2, hV⟩
 have hs_w3hV := hV.size
 replace ha := ha0 _ hV
 replace hb := hb0 _ hV
 refine Zk 13 (v := .int .i64 (k : Nat)) (by exact hj4) ?_
 refine Zs ?_
 refine Zn (run_lss rfl η η) ?_
 refine r_seq ?_
 refine r_cond η (fun hc5 => ?_) (fun hc5 => ?_)
 ·skip
  refine r_skip ?_
  refine r_seq ?_
  refine r_block ?_
  refine Zs ?_
  refine Zo mvI ?_
  refine Zn asI ?_
  refine r_seq ?_
  refine r_qregion ζ ζ ?_
  refine Zq (fun w' hC => mvS) ?_
  refine Zq (fun w' hC => mvI) ?_
  refine Zq (fun w' hC => run_ix (k) rfl Tryz.underlying22 ty_3 η η (by first | exact rfl | omega) ω (ha.addr (i := k) ω)) ?_
  have hA60 := fun (w' : World) (h : Evo w0 w' []) => (ha0 w' h).atD (k) ω
  have hA6 := hA60 _ hV
  refine Zq (fun w' hC => run_ld1 rfl ag_3 η ((hA6.evo0 hC).cell 0 η)) ?_
  refine Zq (fun w' hC => mvS) ?_
  refine Zq (fun w' hC => mvI) ?_
  refine Zq (fun w' hC => run_ix (k) rfl Tryz.underlying22 ty_3 η η (by first | exact rfl | omega) ω (hb.addr (i := k) ω)) ?_
  have hA70 := fun (w' : World) (h : Evo w0 w' []) => (hb0 w' h).atD (k) ω
  have hA7 := hA70 _ hV
  refine Zq (fun w' hC => run_ld1 rfl ag_3 η ((hA7.evo0 hC).cell 0 η)) ?_
  refine Zq (fun w' hC => run_neq rfl η η) ?_
  refine q_nil (fun w8 hE9 => ?_)
  have Q8 := hE9.size
  replace hV := Z0 hV hE9
  replace ha := ha0 _ hV
  replace hb := hb0 _ hV
  refine r_cond η (fun hc10 => ?_) (fun hc10 => ?_)
  ·skip
   refine Zs ?_
   refine Zn asB ?_
   refine r_ret (res1 (v := .bool _) rfl η) ?_
   exact ⟨by rw [decide_eq_false (fun h => by subst h; exact hc10 rfl)], hV⟩
  refine r_skip ?_
  refine r_blk ?_
  refine r_region ?_
  refine Zo (run_add rfl η η ω ω) ?_
  refine Zn mvI ?_
  refine r_again (k + 1) ?_ ?_ ?_
  ·first | omega | (dsimp only; omega)
  ·refine ⟨σ, δ, (itake_bothI hpre ω ω (Classical.not_not.1 hc10)), δ, hV⟩
  exact ψ
 refine r_exit rfl ?_
 refine Zs ?_
 refine Zn asB ?_
 refine r_ret (res1 (v := .bool _) rfl η) ?_
 exact ⟨by rw [decide_eq_true (by rw [List.take_of_length_le ω, List.take_of_length_le ω] at hpre; exact hpre)], hV⟩
theorem sleqt_calls {aoa aob : Option Addr} {ba offa capa bb offb capb : Nat} {a b : List Vc.Item} {w0 : World} (ha : RowE w0 aoa ba offa capa a) (hb : RowE w0 aob bb offb capb b) :
    Calls Tryz.prog 103 #[.slice aoa a.length capa, .slice aob b.length capb] w0 fun e w' => e = .returned (.bool (decide (a = b))) ∧ Evo w0 w' [] := by
 refine calls_enter (n := 26) Tryz.func103 rfl Tryz.ntmps103 rfl ?_
 have hV : Evo w0 w0 [] := Evo.refl _ _
 have ha0 := keepE ha
 have hbd_ha := ha.bd
 have hb0 := keepE hb
 have hbd_hb := hb.bd
 refine Zs ?_
 refine Zn asB ?_
 refine r_seq ?_
 refine Zs ?_
 refine Zo mvS ?_
 refine Zo (run_lenSl rfl η Tryz.underlying33) ?_
 refine Zo mvS ?_
 refine Zo (run_lenSl rfl η Tryz.underlying33) ?_
 refine Zn (run_neq rfl η η) ?_
 refine r_cond η (fun hc1 => ?_) (fun hc1 => ?_)
 ·skip
  refine Zs ?_
  refine Zn asB ?_
  refine r_ret (res1 (v := .bool _) rfl η) ?_
  exact ⟨by rw [decide_eq_false (fun h => by subst h; omega)], hV⟩
 refine r_skip ?_
 refine r_seq ?_
 refine Zs ?_
 refine Zo mvS ?_
 refine Zo (run_lenSl rfl η Tryz.underlying33) ?_
 refine Zn mvI ?_
 refine r_block ?_
 refine r_loop (α := Nat) [4, 5, 13, 14, 15, 16, 17, 18, 19, 20, 21, 22, 23, 24, 25] (fun k g w => g 13 = .int .i64 (k : Nat) ∧ k ≤ a.length ∧ a.take k = b.take k ∧ w0.heap.size ≤ w.heap.size ∧ Evo w0 w []) (fun k => a.length - k) 0 ?_ ?_
 ·refine ⟨σ, δ, (by simp), δ, hV⟩
 rintro k g w3 ⟨hj4, hk_k, hpre, hzl2, hV⟩
 have hs_w3hV := hV.size
 replace ha := ha0 _ hV
 replace hb := hb0 _ hV
 refine Zk 13 (v := .int .i64 (k : Nat)) (by exact hj4) ?_
 refine Zs ?_
 refine Zn (run_lss rfl η η) ?_
 refine r_seq ?_
 refine r_cond η (fun hc5 => ?_) (fun hc5 => ?_)
 ·skip
  refine r_skip ?_
  refine r_seq ?_
  refine r_block ?_
  refine Zs ?_
  refine Zo mvI ?_
  refine Zn asI ?_
  refine r_seq ?_
  refine r_qregion ζ ζ ?_
  refine Zq (fun w' hC => mvS) ?_
  refine Zq (fun w' hC => mvI) ?_
  refine Zq (fun w' hC => run_ix (k) rfl Tryz.underlying33 ty_32 η η (by first | exact rfl | omega) ω (ha.addr (i := k) ω)) ?_
  have hA60 := fun (w' : World) (h : Evo w0 w' []) => (ha0 w' h).atD (k) ω
  have hA6 := hA60 _ hV
  refine Zq (fun w' hC => run_ldN rfl ag_32 ty_32 η rfl (hA6.evo0 hC)) ?_
  refine Zq (fun w' hC => mvS) ?_
  refine Zq (fun w' hC => mvI) ?_
  refine Zq (fun w' hC => run_ix (k) rfl Tryz.underlying33 ty_32 η η (by first | exact rfl | omega) ω (hb.addr (i := k) ω)) ?_
  have hA70 := fun (w' : World) (h : Evo w0 w' []) => (hb0 w' h).atD (k) ω
  have hA7 := hA70 _ hV
  refine Zq (fun w' hC => run_ldN rfl ag_32 ty_32 η rfl (hA7.evo0 hC)) ?_
  refine Zq (fun w' hC => run_neqI _ _ rfl Tryz.eqGuardType32 ei_32 η η) ?_
  refine q_nil (fun w8 hE9 => ?_)
  have Q8 := hE9.size
  replace hV := Z0 hV hE9
  replace ha := ha0 _ hV
  replace hb := hb0 _ hV
  refine r_cond η (fun hc10 => ?_) (fun hc10 => ?_)
  ·skip
   refine Zs ?_
   refine Zn asB ?_
   refine r_ret (res1 (v := .bool _) rfl η) ?_
   exact ⟨by rw [decide_eq_false (fun h => by subst h; exact hc10 rfl)], hV⟩
  refine r_skip ?_
  refine r_blk ?_
  refine r_region ?_
  refine Zo (run_add rfl η η ω ω) ?_
  refine Zn mvI ?_
  refine r_again (k + 1) ?_ ?_ ?_
  ·first | omega | (dsimp only; omega)
  ·refine ⟨σ, δ, (itake_bothI hpre ω ω (Classical.not_not.1 hc10)), δ, hV⟩
  exact ψ
 refine r_exit rfl ?_
 refine Zs ?_
 refine Zn asB ?_
 refine r_ret (res1 (v := .bool _) rfl η) ?_
 exact ⟨by rw [decide_eq_true (by rw [List.take_of_length_le ω, List.take_of_length_le ω] at hpre; exact hpre)], hV⟩
theorem isame_calls {aoa aob : Option Addr} {ba offa capa bb offb capb : Nat} {a b : List Vc.Item} {w0 : World} (ha : RowE w0 aoa ba offa capa a) (hb : RowE w0 aob bb offb capb b) :
    Calls Tryz.prog 61 #[.slice aoa a.length capa, .slice aob b.length capb] w0 fun e w' => e = .returned (.bool (decide (a = b))) ∧ Evo w0 w' [] := by
 refine calls_enter (n := 8) Tryz.func61 rfl Tryz.ntmps61 rfl ?_
 have hV : Evo w0 w0 [] := Evo.refl _ _
 have ha0 := keepE ha
 have hbd_ha := ha.bd
 have hb0 := keepE hb
 have hbd_hb := hb.bd
 refine Zs ?_
 refine Zn asB ?_
 refine Zs ?_
 refine Zo mvS ?_
 refine Zo mvS ?_
 refine Zr [.slice _ _ _, .slice _ _ _] rfl η Tryz.func103 (sleqt_calls ha hb) ?_
 rintro e w1 ⟨rfl, hE1⟩
 refine ⟨_, rfl, ?_⟩
 have Q1 := hE1.size
 replace hV := Z0 hV hE1
 refine Zn asB ?_
 refine r_ret (res1 (v := .bool _) rfl η) ?_
 exact ⟨rfl, hV⟩
theorem pl_39 : placesP Tryz.prog 39 = some [(0, 1), (1, 1), (2, 1)] := by kernel_rfl
theorem fo_28_1 : fieldP Tryz.prog 28 1 = some 13 := by kernel_rfl
theorem fo_28_2 : fieldP Tryz.prog 28 2 = some 14 := by kernel_rfl
theorem if1_len {p : Prop} [Decidable p] {x : Vc.Item} : (if p then [x] else []).length ≤ 1 := by split <;> simp
theorem hlo_bd {lo : Int} {n : Nat} (h : lo = 0 ∨ (100 ≤ lo ∧ lo ≤ 10000)) (hn : n ≤ 101000) : 0 ≤ lo * (n : Int) ∧ lo * (n : Int) ≤ 1010000000 := mul_bd ω ω ω ω
end Go.Proofs.YtlfjocbnbceceaaGreatDoor
namespace Go.Proofs.YtlfjocbnbceceaaGreatDoor
open Go Go.RowKit Go.Vc
theorem lev_at {l : List Int} {rest : List Value} {k : Nat} (hk : k < l.length) : (l.map (Value.int .i64) ++ rest)[k]? = some (.int .i64 (l.getD k default)) := by
  rw [List.getElem?_append_left (by simpa using hk), List.getElem?_map, List.getElem?_eq_getElem hk, List.getD_eq_getElem?_getD, List.getElem?_eq_getElem hk]; rfl
theorem chk_lev {c : Chk} {k : Nat} (hk : k < c.lev.length) (h : c.lev.getD k default < 0 ∨ 2 < c.lev.getD k default) : validK c = 1 := if_pos (.inl ⟨_, getD_in hk, h⟩)
theorem chk_num {c : Chk} (h : ((¬ c.lev.getD 0 default = 0 ∨ c.short < 0) ∨ 100 < c.short) ∨ (¬ c.long = 0 ∧ (c.long < 100 ∨ 10000 < c.long))) : validK c = 1 := if_pos (.inr h)
theorem lev_ok {c : Chk} {n : Nat} (hn : c.lev.length = n) (hno : ∀ j, j < n → ¬ (c.lev.getD j default < 0 ∨ 2 < c.lev.getD j default)) : ¬ ∃ x ∈ c.lev, x < 0 ∨ 2 < x := fun ⟨x, hx, h⟩ => by
  obtain ⟨j, hj, rfl⟩ := List.mem_iff_getElem.1 hx
  exact hno j ω (by rwa [List.getD_eq_getElem?_getD, List.getElem?_eq_getElem hj])
theorem chk_ok {c : Chk} {n : Nat} (hn : c.lev.length = n) (hno : ∀ j, j < n → ¬ (c.lev.getD j default < 0 ∨ 2 < c.lev.getD j default)) (h : ¬ (((¬ c.lev.getD 0 default = 0 ∨ c.short < 0) ∨ 100 < c.short) ∨ (¬ c.long = 0 ∧ (c.long < 100 ∨ 10000 < c.long)))) : validK c = validT c.ts c.cls :=
  if_neg (fun q => q.elim (lev_ok hn hno) h)
theorem valid_nums {c : Chk} (h : validK c = 0) : (0 ≤ c.short ∧ c.short ≤ 100) ∧ (c.long = 0 ∨ (100 ≤ c.long ∧ c.long ≤ 10000)) := by
  have h1 : ¬ chkBad c := fun q => by unfold validK at h; rw [if_pos q] at h; exact absurd h (by decide)
  unfold chkBad at h1; omega
theorem missT_req {tg : List Vc.Item} {x : TermL} (h : missT tg x = true) : 0 < x.req.length := by
  unfold missT at h
  rcases hx : x.req with _ | ⟨a, b⟩
  · rw [hx] at h; simp at h
  · simp
theorem missN_in {tg : List Vc.Item} {ts : List TermL} {n : Nat} {sp : List Spt} {k : Nat} (hk : k < (missN tg ts (foundN n sp)).length) : (missN tg ts (foundN n sp)).getD k default < n ∧ 0 < (ts.getD ((missN tg ts (foundN n sp)).getD k default) default).req.length := by
  have h1 := List.mem_filter.1 (getD_in hk)
  exact ⟨List.mem_range.1 (List.mem_filter.1 h1.1).1, missT_req h1.2⟩
theorem wrong_len {tg : List Vc.Item} {ts : List TermL} {sp : List Spt} (h : ∀ x ∈ ts, x.forb.length ≤ 1048576) (h2 : ts.length ≤ 40) : (wrongK tg ts [] (foundN ts.length sp)).length ≤ 41943040 := by
  have h1 := wrongK_len tg ts (B := 1048576) (fun k => by
    rcases Nat.lt_or_ge k ts.length with h3 | h3
    · exact h _ (getD_in h3)
    · rw [List.getD_eq_getElem?_getD, List.getElem?_eq_none h3]; exact Nat.zero_le _) (foundN ts.length sp) []
  have h3 := foundN_len ts.length sp
  rw [List.length_nil, Nat.zero_add] at h1
  exact Nat.le_trans h1 (Nat.le_trans (Nat.mul_le_mul_right _ (show (foundN ts.length sp).length ≤ 40 by omega)) (by decide))
theorem map_step {α β : Type} [Inhabited α] {l : List α} {k : Nat} (hk : k < l.length) (f : α → β) : (l.take (k + 1)).map f = (l.take k).map f ++ [f (l.getD k default)] := by rw [take_succD l k hk, List.map_append]; rfl
theorem filt_yes {α : Type} [Inhabited α] {l : List α} {p : α → Bool} {k : Nat} (hk : k < l.length) (h : p (l.getD k default) = true) : (l.take (k + 1)).filter p = (l.take k).filter p ++ [l.getD k default] := by
  rw [take_succD l k hk, List.filter_append, List.filter_cons_of_pos h]; rfl
theorem filt_no {α : Type} [Inhabited α] {l : List α} {p : α → Bool} {k : Nat} (hk : k < l.length) (h : ¬ p (l.getD k default) = true) : (l.take (k + 1)).filter p = (l.take k).filter p := by
  rw [take_succD l k hk, List.filter_append, List.filter_cons_of_neg h]; simp
theorem plainF_len (c : Chk) (s t : Str) : (plainF c s t).length ≤ 6 := by
  have h : ∀ {p : Prop} [Decidable p] {x : Vc.Item}, (if p then [x] else []).length ≤ 1 := by intro p _ x; split <;> simp
  unfold plainF edgeA edgeB dblF signF longF shortF
  simp only [List.length_append]
  have h1 := @h (¬ leadS s = leadS t) _ ⟨7, begW, 0⟩
  have h2 := @h (¬ trailS s = trailS t) _ ⟨7, endW, 0⟩
  have h3 := @h (0 < dblN t) _ ⟨8, [], (dblN t : Nat)⟩
  have h4 := @h (¬ signL s = signL t) _ ⟨9, signL t, 0⟩
  have h5 := @h (¬ c.long = 0 ∧ c.long * (s.length : Nat) < 100 * (t.length : Nat)) _ ⟨12, longW, 0⟩
  have h6 := @h (¬ c.short = 0 ∧ 100 * (t.length : Nat) < c.short * (s.length : Nat)) _ ⟨12, shortW, 0⟩
  omega
structure FLens (c : Chk) (f g : List Vc.Item) : Prop where
  same : (sameF f g).length ≤ 1
  slot : (slotF f g).length ≤ 2000
  tag : (tagF f g).length ≤ 2000
  shape : (shapeF f g).length ≤ 1
  num : (numF f g).length ≤ 202000
  plain : (plainF c (plainL f) (plainL g)).length ≤ 6
theorem fLens {c : Chk} {f g : List Vc.Item} (hf : Tiny f) (hg : Tiny g) : FLens c f g where
  same := by unfold sameF; split <;> simp
  slot := by
    have h := difS_len 3 (sortS (slotsL f)) (sortS (slotsL g))
    rw [sortS_len, sortS_len] at h
    have h1 := slotsL_len f; have h2 := slotsL_len g; have h3 := hf.1; have h4 := hg.1
    unfold slotF; omega
  tag := by
    have h : (difT (tagsL f) (tagsL g)).length ≤ (dist (tagsL f ++ tagsL g)).length := difs_len _ _ _ _
    have h0 := dist_len (tagsL f ++ tagsL g)
    rw [List.length_append] at h0
    have h1 := tagsL_len f; have h2 := tagsL_len g; have h3 := hf.1; have h4 := hg.1
    unfold tagF; omega
  shape := by unfold shapeF; split <;> simp
  num := by
    have h := difS_len 6 (numT (toks f)) (numT (toks g))
    have h1 := numT_len (toks f); have h2 := numT_len (toks g); have h3 := hf.tlen; have h4 := hg.tlen
    unfold numF; omega
  plain := plainF_len _ _ _
theorem findA_len {c : Chk} {f g : List Vc.Item} (hf : Tiny f) (hg : Tiny g) (hz : c.ts.length ≤ 40) (hj : ∀ x ∈ c.ts, x.forb.length ≤ 1048576) : (findA c f g).length ≤ 50000000 := by
  have h := fLens (c := c) hf hg
  have h1 := h.same; have h2 := h.slot; have h3 := h.tag; have h4 := h.shape; have h5 := h.num; have h6 := h.plain
  have h7 := wrong_len (tg := toks g) (sp := spotsF (toks f) (fsT c.cls c.ts) 0) hj hz
  have h8 := missN_len (toks g) c.ts (foundN c.ts.length (spotsF (toks f) (fsT c.cls c.ts) 0))
  have h9 := foundN_len c.ts.length (spotsF (toks f) (fsT c.cls c.ts) 0)
  unfold findA termF missF wrongF fndK
  simp only [List.length_append, List.length_map]
  omega
theorem findL_len {c : Chk} {f g : List Vc.Item} (hf : Tiny f) (hg : Tiny g) (hz : c.ts.length ≤ 40) (hj : ∀ x ∈ c.ts, x.forb.length ≤ 1048576) : (findL c f g).length ≤ 50000000 := by
  unfold findL; split
  · simp
  · exact findA_len hf hg hz hj
theorem runF_ok {c : Chk} {f g : List Vc.Item} (h : ¬ ¬ validK c = 0) : runF c f g = (sortF (findL c f g)).filter (levF c) := if_pos (Classical.not_not.1 h)
theorem runF_bad {c : Chk} {f g : List Vc.Item} (h : ¬ validK c = 0) : runF c f g = [] := if_neg h
theorem levF_yes {c : Chk} {x : Vc.Item} (h : ¬ c.lev.getD x.kind.toNat default = 0) : levF c x = true := decide_eq_true h
theorem levF_no {c : Chk} {x : Vc.Item} (h : ¬ ¬ c.lev.getD x.kind.toNat default = 0) : ¬ levF c x = true := fun q => h (of_decide_eq_true q)
theorem ag_24 : aggP Tryz.prog 24 = some true := by kernel_rfl
theorem ag_25 : aggP Tryz.prog 25 = some false := by kernel_rfl
theorem ag_26 : aggP Tryz.prog 26 = some false := by kernel_rfl
theorem ag_28 : aggP Tryz.prog 28 = some true := by kernel_rfl
theorem fo_28_0 : fieldP Tryz.prog 28 0 = some 0 := by kernel_rfl
theorem fo_28_3 : fieldP Tryz.prog 28 3 = some 15 := by kernel_rfl
theorem fo_28_4 : fieldP Tryz.prog 28 4 = some 16 := by kernel_rfl
theorem ty_24 : tyP Tryz.prog 24 = some (13, 104, some (.agg #[(.int .i64 0), (.int .i64 0), (.int .i64 0), (.int .i64 0), (.int .i64 0), (.int .i64 0), (.int .i64 0), (.int .i64 0), (.int .i64 0), (.int .i64 0), (.int .i64 0), (.int .i64 0), (.int .i64 0)])) := by kernel_rfl
theorem ty_28 : tyP Tryz.prog 28 = some (17, 168, some (.agg #[(.int .i64 0), (.int .i64 0), (.int .i64 0), (.int .i64 0), (.int .i64 0), (.int .i64 0), (.int .i64 0), (.int .i64 0), (.int .i64 0), (.int .i64 0), (.int .i64 0), (.int .i64 0), (.int .i64 0), (.int .i64 0), (.int .i64 0), (.slice none 0 0), (.slice none 0 0)])) := by kernel_rfl
theorem ei_39 : ∀ (w : World) (x y : Vc.Item), (Op.equalIn 10000 39 (.agg (Enc.enc x).toArray) (.agg (Enc.enc y).toArray)).run Tryz.prog w = .ok (decide (x = y)) w := fun w x y => equalIn_item 9998 Tryz.underlying39 Tryz.stoodInHeld39 (by decide) (by decide) (by decide) rfl rfl rfl Tryz.underlying3 Tryz.underlying9 Tryz.underlying3 ag_3 ag_9 ag_3 x y
set_option maxHeartbeats 1000000 in
theorem kvalidate_calls {l0 l1 l2 l3 l4 l5 l6 l7 l8 l9 l10 l11 l12 sh lo : Int} {aot : Option Addr} {bt ot capt : Nat} {ts : List TermL} {aoc : Option Addr} {bc oc capc : Nat} {cl : List Clas} {w0 : World} (hts : RowR w0 aot bt ot capt ts) (hcl : RowR w0 aoc bc oc capc cl) :
    Calls Tryz.prog 12 #[.agg #[.int .i64 l0, .int .i64 l1, .int .i64 l2, .int .i64 l3, .int .i64 l4, .int .i64 l5, .int .i64 l6, .int .i64 l7, .int .i64 l8, .int .i64 l9, .int .i64 l10, .int .i64 l11, .int .i64 l12, .int .i64 sh, .int .i64 lo, .slice aot ts.length capt, .slice aoc cl.length capc]] w0 fun e w' => e = .returned (.int .i64 (validK (⟨[l0, l1, l2, l3, l4, l5, l6, l7, l8, l9, l10, l11, l12], sh, lo, ts, cl⟩ : Chk))) ∧ Evo w0 w' [] := by
 refine calls_enter (n := 51) Tryz.func12 rfl Tryz.ntmps12 rfl ?_
 have hV : Evo w0 w0 [] := Evo.refl _ _
 have hts0 := hts.keep
 have hbd_hts := hts.bd
 have hcl0 := hcl.keep
 have hbd_hcl := hcl.bd
 refine Zs ?_
 refine r_box (vs := [_, _, _, _, _, _, _, _, _, _, _, _, _, _, _, _, _]) η η rfl ?_
 intro b1 w2 J1 E2 B1 Y1
 have Q2 := E2.size
 replace hV := Z0 hV E2
 replace hts := hts0.now hV
 replace hcl := hcl0.now hV
 have hAb1 := B1.at
 refine Zn asI ?_
 refine r_seq ?_
 refine Zs ?_
 refine Zo (run_fa rfl η fo_28_0) ?_
 refine Zo (run_ldN rfl ag_24 ty_24 η rfl (hAb1.part 0 13 (ds := [_, _, _, _, _, _, _, _, _, _, _, _, _]) η)) ?_
 refine Zn mvI ?_
 refine r_block ?_
 refine r_loop (α := Nat) [2, 4, 7, 8, 9, 10, 11, 12, 13, 14, 15, 16] (fun k g w => g 7 = .int .i64 (k : Nat) ∧ Blk w b1 28 [.int .i64 l0, .int .i64 l1, .int .i64 l2, .int .i64 l3, .int .i64 l4, .int .i64 l5, .int .i64 l6, .int .i64 l7, .int .i64 l8, .int .i64 l9, .int .i64 l10, .int .i64 l11, .int .i64 l12, .int .i64 sh, .int .i64 lo, .slice aot ts.length capt, .slice aoc cl.length capc] ∧ At w b1 0 [.int .i64 l0, .int .i64 l1, .int .i64 l2, .int .i64 l3, .int .i64 l4, .int .i64 l5, .int .i64 l6, .int .i64 l7, .int .i64 l8, .int .i64 l9, .int .i64 l10, .int .i64 l11, .int .i64 l12, .int .i64 sh, .int .i64 lo, .slice aot ts.length capt, .slice aoc cl.length capc] ∧ k ≤ 13 ∧ (∀ j, j < k → ¬ (([l0, l1, l2, l3, l4, l5, l6, l7, l8, l9, l10, l11, l12] : List Int).getD j default < 0 ∨ 2 < ([l0, l1, l2, l3, l4, l5, l6, l7, l8, l9, l10, l11, l12] : List Int).getD j default)) ∧ w2.heap.size ≤ w.heap.size ∧ Evo w0 w []) (fun k => 13 - k) 0 ?_ ?_
 ·refine ⟨rfl, B1, B1.at, δ, (fun j h => by omega), δ, hV⟩
 rintro k g w4 ⟨hj5, B1, hAb1, hk, hno, hzl3, hV⟩
 have hs_w4hV := hV.size
 have hlt6 := B1.lt
 replace hts := hts0.now hV
 replace hcl := hcl0.now hV
 refine Zk 7 (v := .int .i64 (k : Nat)) (by exact hj5) ?_
 refine Zs ?_
 refine Zn (run_lss rfl η η) ?_
 refine r_seq ?_
 refine r_cond η (fun hc7 => ?_) (fun hc7 => ?_)
 ·skip
  refine r_skip ?_
  refine r_seq ?_
  refine r_block ?_
  refine Zs ?_
  refine Zo (run_ixA1 (v := .int .i64 (([l0, l1, l2, l3, l4, l5, l6, l7, l8, l9, l10, l11, l12] : List Int).getD k default)) (k) rfl Tryz.underlying24 ty_3 ag_3 η η (by first | exact rfl | omega) ω (by exact lev_at (l := ([l0, l1, l2, l3, l4, l5, l6, l7, l8, l9, l10, l11, l12] : List Int)) (rest := []) (show k < 13 by omega))) ?_
  refine Zn asI ?_
  refine Zs ?_
  refine Zo mvI ?_
  refine Zo (run_lss rfl η η) ?_
  refine Zo mvB ?_
  refine r_g rfl (wantF η) rfl (fun hg => mvI) ?_
  refine r_g rfl (wantF η) rfl (fun hg => run_gtr rfl (glv η (fun h => h) hg) η) ?_
  refine Zn (run_pick_or rfl η rfl (fun hq => glv η (fun h => h) hq)) ?_
  refine r_cond η (fun hc8 => ?_) (fun hc8 => ?_)
  ·skip
   refine Zs ?_
   refine Zn asI ?_
   refine r_ret (res1 (v := .int _ _) rfl η) ?_
   exact ⟨ret_int (chk_lev (c := (⟨[l0, l1, l2, l3, l4, l5, l6, l7, l8, l9, l10, l11, l12], sh, lo, ts, cl⟩ : Chk)) (k := k) (show k < 13 by omega) hc8).symm, hV⟩
  refine r_skip ?_
  refine r_blk ?_
  refine r_region ?_
  refine Zo (run_add rfl η η ω ω) ?_
  refine Zn mvI ?_
  refine r_again (k + 1) ?_ ?_ ?_
  ·first | omega | (dsimp only; omega)
  ·refine ⟨(congrArg (Value.int _) ω), B1, B1.at, δ, (upto0 hno hc8), δ, hV⟩
  exact ψ
 refine r_exit rfl ?_
 refine r_seq ?_
 refine Zs ?_
 refine Zo (run_fa rfl η fo_28_0) ?_
 refine Zo (run_ixP (0) rfl Tryz.underlying24 ty_3 η η η ω) ?_
 refine Zo (run_ld1 rfl ag_3 η (hAb1.cell 0 η)) ?_
 refine Zo (run_neq rfl η η) ?_
 refine Zo mvB ?_
 refine r_g rfl (wantF η) rfl (fun hg => run_fa rfl η fo_28_1) ?_
 refine r_g rfl (wantF η) rfl (fun hg => run_ld1 rfl ag_3 (glv η (fun h => h) hg) (hAb1.cell 13 η)) ?_
 refine r_g rfl (wantF η) rfl (fun hg => run_lss rfl (glv η (fun h => h) hg) η) ?_
 refine Zo (run_pick_or rfl η rfl (fun hq => glv η (fun h => h) hq)) ?_
 refine Zo mvB ?_
 refine r_g rfl (wantF η) rfl (fun hg => run_fa rfl η fo_28_1) ?_
 refine r_g rfl (wantF η) rfl (fun hg => run_ld1 rfl ag_3 (glv η (fun h => h) hg) (hAb1.cell 13 η)) ?_
 refine r_g rfl (wantF η) rfl (fun hg => run_gtr rfl (glv η (fun h => h) hg) η) ?_
 refine Zo (run_pick_or rfl η rfl (fun hq => glv η (fun h => h) hq)) ?_
 refine Zo mvB ?_
 refine r_g rfl (wantF η) rfl (fun hg => run_fa rfl η fo_28_2) ?_
 refine r_g rfl (wantF η) rfl (fun hg => run_ld1 rfl ag_3 (glv η (fun h => h) hg) (hAb1.cell 14 η)) ?_
 refine r_g rfl (wantF η) rfl (fun hg => run_neq rfl (glv η (fun h => h) hg) η) ?_
 refine r_g rfl (wantF η) rfl (fun hg => run_mv (v := .bool _) rfl (glv η (fun h => h) hg)) ?_
 refine r_g rfl (wantTg η) rfl (fun hg => run_fa rfl η fo_28_2) ?_
 refine r_g rfl (wantTg η) rfl (fun hg => run_ld1 rfl ag_3 (glv η (fun h => h) hg) (hAb1.cell 14 η)) ?_
 refine r_g rfl (wantTg η) rfl (fun hg => run_lss rfl (glv η (fun h => h) hg) η) ?_
 refine r_g rfl (wantTg η) rfl (fun hg => run_mv (v := .bool _) rfl (glv η (fun h => h) hg)) ?_
 refine r_g rfl (wantFg η) rfl (fun hg => run_fa rfl η fo_28_2) ?_
 refine r_g rfl (wantFg η) rfl (fun hg => run_ld1 rfl ag_3 (glv η (fun h => h) hg) (hAb1.cell 14 η)) ?_
 refine r_g rfl (wantFg η) rfl (fun hg => run_gtr rfl (glv η (fun h => h) hg) η) ?_
 refine r_g rfl (wantTg η) rfl (fun hg => run_pick_or rfl (glv η (fun h => h) hg) rfl (fun hq => glv η (fun h => h) (And.intro hg hq))) ?_
 refine r_g rfl (wantF η) rfl (fun hg => run_pick_and rfl (glv η (fun h => h) hg) (fun hq => glv η (fun h => h) (And.intro hg hq)) rfl) ?_
 refine Zn (run_pick_or rfl η rfl (fun hq => glv η (fun h => h) hq)) ?_
 refine r_cond η (fun hc9 => ?_) (fun hc9 => ?_)
 ·skip
  refine Zs ?_
  refine Zn asI ?_
  refine r_ret (res1 (v := .int _ _) rfl η) ?_
  exact ⟨ret_int (chk_num (c := (⟨[l0, l1, l2, l3, l4, l5, l6, l7, l8, l9, l10, l11, l12], sh, lo, ts, cl⟩ : Chk)) hc9).symm, hV⟩
 refine r_skip ?_
 refine Zs ?_
 refine Zo (run_fa rfl η fo_28_3) ?_
 refine Zo (run_ld1 rfl ag_25 η (hAb1.cell 15 η)) ?_
 refine Zo (run_fa rfl η fo_28_4) ?_
 refine Zo (run_ld1 rfl ag_26 η (hAb1.cell 16 η)) ?_
 refine Zr [.slice aot ts.length capt, .slice aoc cl.length capc] rfl η Tryz.func29 (tvalidate_calls hts hcl) ?_
 rintro e w10 ⟨rfl, hE10⟩
 refine ⟨_, rfl, ?_⟩
 have Q10 := hE10.size
 replace hV := Z0 hV hE10
 refine Zn asI ?_
 refine r_ret (res1 (v := .int _ _) rfl η) ?_
 exact ⟨ret_int (chk_ok (c := (⟨[l0, l1, l2, l3, l4, l5, l6, l7, l8, l9, l10, l11, l12], sh, lo, ts, cl⟩ : Chk)) (n := 13) rfl (fun j hj => hno j ω) hc9).symm, hV⟩
theorem ksame_calls {aoa aob : Option Addr} {ba offa capa bb offb capb : Nat} {a b : List Vc.Item} {w0 : World} (ha : RowE w0 aoa ba offa capa a) (hb : RowE w0 aob bb offb capb b) :
    Calls Tryz.prog 16 #[.slice aoa a.length capa, .slice aob b.length capb] w0 fun e w' => e = .returned (.bool (decide (a = b))) ∧ Evo w0 w' [] := by
 refine calls_enter (n := 26) Tryz.func16 rfl Tryz.ntmps16 rfl ?_
 have hV : Evo w0 w0 [] := Evo.refl _ _
 have ha0 := keepE ha
 have hbd_ha := ha.bd
 have hb0 := keepE hb
 have hbd_hb := hb.bd
 refine Zs ?_
 refine Zn asB ?_
 refine r_seq ?_
 refine Zs ?_
 refine Zo mvS ?_
 refine Zo (run_lenSl rfl η Tryz.underlying34) ?_
 refine Zo mvS ?_
 refine Zo (run_lenSl rfl η Tryz.underlying34) ?_
 refine Zn (run_neq rfl η η) ?_
 refine r_cond η (fun hc1 => ?_) (fun hc1 => ?_)
 ·skip
  refine Zs ?_
  refine Zn asB ?_
  refine r_ret (res1 (v := .bool _) rfl η) ?_
  exact ⟨by rw [decide_eq_false (fun h => by subst h; omega)], hV⟩
 refine r_skip ?_
 refine r_seq ?_
 refine Zs ?_
 refine Zo mvS ?_
 refine Zo (run_lenSl rfl η Tryz.underlying34) ?_
 refine Zn mvI ?_
 refine r_block ?_
 refine r_loop (α := Nat) [4, 5, 13, 14, 15, 16, 17, 18, 19, 20, 21, 22, 23, 24, 25] (fun k g w => g 13 = .int .i64 (k : Nat) ∧ k ≤ a.length ∧ a.take k = b.take k ∧ w0.heap.size ≤ w.heap.size ∧ Evo w0 w []) (fun k => a.length - k) 0 ?_ ?_
 ·refine ⟨σ, δ, (by simp), δ, hV⟩
 rintro k g w3 ⟨hj4, hk_k, hpre, hzl2, hV⟩
 have hs_w3hV := hV.size
 replace ha := ha0 _ hV
 replace hb := hb0 _ hV
 refine Zk 13 (v := .int .i64 (k : Nat)) (by exact hj4) ?_
 refine Zs ?_
 refine Zn (run_lss rfl η η) ?_
 refine r_seq ?_
 refine r_cond η (fun hc5 => ?_) (fun hc5 => ?_)
 ·skip
  refine r_skip ?_
  refine r_seq ?_
  refine r_block ?_
  refine Zs ?_
  refine Zo mvI ?_
  refine Zn asI ?_
  refine r_seq ?_
  refine r_qregion ζ ζ ?_
  refine Zq (fun w' hC => mvS) ?_
  refine Zq (fun w' hC => mvI) ?_
  refine Zq (fun w' hC => run_ix (k) rfl Tryz.underlying34 ty_39 η η (by first | exact rfl | omega) ω (ha.addr (i := k) ω)) ?_
  have hA60 := fun (w' : World) (h : Evo w0 w' []) => (ha0 w' h).atD (k) ω
  have hA6 := hA60 _ hV
  refine Zq (fun w' hC => run_ldN rfl ag_39 ty_39 η rfl (hA6.evo0 hC)) ?_
  refine Zq (fun w' hC => mvS) ?_
  refine Zq (fun w' hC => mvI) ?_
  refine Zq (fun w' hC => run_ix (k) rfl Tryz.underlying34 ty_39 η η (by first | exact rfl | omega) ω (hb.addr (i := k) ω)) ?_
  have hA70 := fun (w' : World) (h : Evo w0 w' []) => (hb0 w' h).atD (k) ω
  have hA7 := hA70 _ hV
  refine Zq (fun w' hC => run_ldN rfl ag_39 ty_39 η rfl (hA7.evo0 hC)) ?_
  refine Zq (fun w' hC => run_neqI _ _ rfl Tryz.eqGuardType39 ei_39 η η) ?_
  refine q_nil (fun w8 hE9 => ?_)
  have Q8 := hE9.size
  replace hV := Z0 hV hE9
  replace ha := ha0 _ hV
  replace hb := hb0 _ hV
  refine r_cond η (fun hc10 => ?_) (fun hc10 => ?_)
  ·skip
   refine Zs ?_
   refine Zn asB ?_
   refine r_ret (res1 (v := .bool _) rfl η) ?_
   exact ⟨by rw [decide_eq_false (fun h => by subst h; exact hc10 rfl)], hV⟩
  refine r_skip ?_
  refine r_blk ?_
  refine r_region ?_
  refine Zo (run_add rfl η η ω ω) ?_
  refine Zn mvI ?_
  refine r_again (k + 1) ?_ ?_ ?_
  ·first | omega | (dsimp only; omega)
  ·refine ⟨σ, δ, (take_bothI hpre ω ω (Classical.not_not.1 hc10)), δ, hV⟩
  exact ψ
 refine r_exit rfl ?_
 refine Zs ?_
 refine Zn asB ?_
 refine r_ret (res1 (v := .bool _) rfl η) ?_
 exact ⟨by rw [decide_eq_true (by rw [List.take_of_length_le ω, List.take_of_length_le ω] at hpre; exact hpre)], hV⟩
theorem cell_at {w : World} {b off j o : Nat} {cs : List Value} {v : Value} (h : At w b off cs) (hj : cs[j]? = some v) (ho : o = off + j) : w.cell? ⟨b, o, none⟩ = some v := by subst ho; exact h.cell j hj
end Go.Proofs.YtlfjocbnbceceaaGreatDoor
namespace Go.Vc
open Go Go.RowKit Go.IntWalk
theorem bump1 {α : Type} [DecidableEq α] {m : List (α × Int)} {a : α} {v d : Int} (hv : v = (getM m a).getD 0 + d) : Bump m (setM m a v) a d := fun x => by
  rw [getM_setM, hv]
  by_cases h : x = a
  · rw [if_pos h, if_pos h.symm]
  · rw [if_neg h, if_neg (Ne.symm h)]
theorem mdone {α β : Type} {dn l1 l2 m : List (α × β)} {p : α × β} (h : (dn ++ (l1 ++ p :: l2)).Perm m) : ((dn ++ [p]) ++ (l1 ++ l2)).Perm m := by
  refine List.Perm.trans ?_ h
  rw [List.append_assoc]
  refine List.Perm.append_left _ ?_
  show (p :: (l1 ++ l2)).Perm _
  exact (List.perm_middle (a := p) (l₁ := l1) (l₂ := l2)).symm
theorem own_anch {v v2 : Value} {n s : Nat} {X : List Nat} (h : v2.ownBlock = v.ownBlock ∨ ∃ g, v2.ownBlock = some g ∧ s ≤ g) (ha : ∀ g, v.ownBlock = some g → n ≤ g ∨ g ∈ X) (hs : n ≤ s) : ∀ g, v2.ownBlock = some g → n ≤ g ∨ g ∈ X := fun g hg =>
  h.elim (fun h => ha g (h ▸ hg)) (fun ⟨q, h, h2⟩ => .inl (by rw [h] at hg; injection hg with hg; omega))
theorem own_ne {v v2 : Value} {s b : Nat} (h : v2.ownBlock = v.ownBlock ∨ ∃ g, v2.ownBlock = some g ∧ s ≤ g) (ha : ∀ g, v.ownBlock = some g → g ≠ b) (hb : b < s) : ∀ g, v2.ownBlock = some g → g ≠ b := fun g hg =>
  h.elim (fun h => ha g (h ▸ hg)) (fun ⟨q, h, h2⟩ => by rw [h] at hg; injection hg with hg; omega)
theorem own_apart {v v2 : Value} {s r b : Nat} (h : v2.ownBlock = v.ownBlock ∨ ∃ g, v2.ownBlock = some g ∧ s ≤ g) (ha : ∀ g, v.ownBlock = some g → g ≠ r ∧ g ≠ b) (hr : r < s) (hb : b < s) : ∀ g, v2.ownBlock = some g → g ≠ r ∧ g ≠ b := fun g hg =>
  h.elim (fun h => ha g (h ▸ hg)) (fun ⟨q, h, h2⟩ => by rw [h] at hg; injection hg with hg; omega)
end Go.Vc
namespace Go.Proofs.YtlfjocbnbceceaaGreatDoor
open Go Go.RowKit Go.Vc
def mkP (k : Int) (p : Str × Int) : Vc.Item := mkS k p.1 p.2
def mkQ (p : Vc.Item × Int) : Vc.Item := mkT p.1 p.2
theorem app_map {α : Type} (l : List Vc.Item) (dn : List α) (f : α → Vc.Item) (p : α) : l ++ (dn ++ [p]).map f = l ++ dn.map f ++ [f p] := by rw [List.map_append, List.append_assoc]; rfl
theorem difS_perm {k : Int} {a b : List Str} {m dn : List (Str × Int)} (h : DifM a b m) (hp : (dn ++ []).Perm m) : (dn.map (mkP k)).Perm (difS k a b) := by
  rw [List.append_nil] at hp
  exact (hp.map _).trans (difs_perm h (uniS_nodup a b) (fun x hx => uniS_mem.2 hx.symm) (mkS k))
theorem difT_perm {a b : List Vc.Item} {m dn : List (Vc.Item × Int)} (h : DifM a b m) (hp : (dn ++ []).Perm m) : (dn.map mkQ).Perm (difT a b) := by
  rw [List.append_nil] at hp
  exact (hp.map _).trans (difs_perm h (dist_nodup _) (fun x hx => (dist_mem _ _).2 (List.mem_append.2 hx.symm)) mkT)
theorem difM_mem {α : Type} [DecidableEq α] {a b : List α} {m : List (α × Int)} (h : DifM a b m) {p : α × Int} (hp : p ∈ m) : p.1 ∈ a ∨ p.1 ∈ b := Classical.not_not.1 (fun q => ((h.2 p).1 hp).2 (dif_out (fun q2 => q q2.symm)))
end Go.Proofs.YtlfjocbnbceceaaGreatDoor
namespace Go.Vc
open Go Go.RowKit Go.IntWalk
open Go.ChangeMaps (setBlock)
theorem eraseIdx_map {α β : Type} (f : α → β) : ∀ (l : List α) (i : Nat), (l.eraseIdx i).map f = (l.map f).eraseIdx i
  | [], _ => by simp
  | a :: l, 0 => by simp
  | a :: l, i + 1 => by simp [eraseIdx_map f l i]
theorem filter_eraseIdx {α : Type} (p : α → Bool) : ∀ (l : List α) (i : Nat) (e : α), l[i]? = some e → p e = false → (l.eraseIdx i).filter p = l.filter p
  | [], i, e, h, _ => by simp at h
  | a :: l, 0, e, h, hp => by
    simp at h; subst h
    simp [List.filter_cons, hp]
  | a :: l, i + 1, e, h, hp => by
    have := filter_eraseIdx p l i e (by simpa using h) hp
    simp [List.filter_cons, this]
theorem nodup_idx {α β : Type} {m : List (α × β)} (hn : (m.map (·.1)).Nodup) {i j : Nat} {a : α} {u v : β} (h1 : m[i]? = some (a, u)) (h2 : m[j]? = some (a, v)) : i = j := by
  have hi : i < (m.map (·.1)).length := by
    rcases Nat.lt_or_ge i (m.map (·.1)).length with h | h
    · exact h
    · rw [List.getElem?_eq_none (by simpa using h)] at h1; cases h1
  exact (List.getElem?_inj hi hn (j := j)).1 (by simp [h1, h2])
theorem delM_miss {α β : Type} [DecidableEq α] {m : List (α × β)} {a : α} (h : getM m a = none) : delM m a = m := by
  unfold delM
  refine List.filter_eq_self.2 (fun p hp => ?_)
  unfold getM at h
  simp only [Option.map_eq_none_iff, List.find?_eq_none, decide_eq_true_eq] at h
  simp [h p hp]
theorem delM_hit {α β : Type} [DecidableEq α] : ∀ {m : List (α × β)} {a : α} {v : β} {i : Nat}, (m.map (·.1)).Nodup → m[i]? = some (a, v) → delM m a = m.eraseIdx i
  | [], _, _, _, _, h => by simp at h
  | p :: m, a, v, 0, hn, h => by
    simp at h; subst h
    simp only [List.map_cons, List.nodup_cons] at hn
    show ((a, v) :: m).filter _ = m
    rw [List.filter_cons, if_neg (by simp)]
    refine List.filter_eq_self.2 (fun q hq => ?_)
    have : q.1 ≠ a := fun e => hn.1 (List.mem_map.2 ⟨q, hq, e⟩)
    simp [this]
  | p :: m, a, v, i + 1, hn, h => by
    simp only [List.map_cons, List.nodup_cons] at hn
    have h' : m[i]? = some (a, v) := by simpa using h
    have hp : p.1 ≠ a := fun e => hn.1 (by rw [e]; exact List.mem_map.2 ⟨(a, v), List.mem_of_getElem? h', rfl⟩)
    have ih := delM_hit hn.2 h'
    show (p :: m).filter _ = p :: m.eraseIdx i
    rw [List.filter_cons, if_pos (by simp [hp])]
    exact congrArg _ ih
theorem delM_keys {α β : Type} [DecidableEq α] (m : List (α × β)) (a : α) (hn : (m.map (·.1)).Nodup) : ((delM m a).map (·.1)).Nodup := hn.sublist (List.Sublist.map _ List.filter_sublist)
section
variable {P : Program} {B : Exit → Act → World → Prop} {n : Nat} {k : List Kont} {f : Fr} {w : World} {ops : Array Oper} {rest : List Oper} {o : Oper}
variable {α β : Type} {ek : α → Value} {ev : β → Value} {b : Nat} {m : List (α × β)} {K E : TypeId}
theorem erase_list (es : Array MapEntry) (i : Nat) : (es.eraseIdxIfInBounds i).toList = es.toList.eraseIdx i := by
  unfold Array.eraseIdxIfInBounds
  split
  · simp
  · rw [List.eraseIdx_of_length_le (by simpa using Nat.le_of_not_lt ‹_›)]
theorem run_delM [DecidableEq α] (L : KeyLaw P K ek) {T ty : TypeId} (hu : P.underlying T = some (.map K E)) (a : α) {es : Array MapEntry} {c : Nat} (hb : w.heap[b]? = some (.map es c)) (h : MapIs w b ek ev m) :
    ∃ es', (Builtin.delete_ #[T, K] ty #[.map (some b), ek a]).run P w = .ok (.tuple #[]) (setBlock w b (.map es' c)) ∧ (es'.toList = es.toList ∧ delM m a = m ∨ ∃ i v, m[i]? = some (a, v) ∧ es'.toList = es.toList.eraseIdx i ∧ delM m a = m.eraseIdx i) := by
  obtain ⟨es2, c2, hb2, hf⟩ := h.find L a
  rw [hb] at hb2
  injection hb2 with hb2
  injection hb2 with e1 e2
  subst e1; subst e2
  have hnd := h.nodup
  rcases hf with ⟨hg, hf⟩ | ⟨i, u, hg, hi, hne, hf⟩
  · refine ⟨es, ?_, .inl ⟨rfl, delM_miss hg⟩⟩
    simp [Builtin.delete_, run_underlying hu, MapKept.run_getObj_map hb, L.check, hf, MapKept.run_setObj_map _ hb, Result.andThen, setBlock]
  · refine ⟨es.eraseIdxIfInBounds i, ?_, .inr ⟨i, u, hi, erase_list es i, delM_hit hnd hi⟩⟩
    simp [Builtin.delete_, run_underlying hu, MapKept.run_getObj_map hb, L.check, hf, MapKept.run_setObj_map _ hb, Result.andThen, setBlock]
theorem mem_erase {γ : Type} {l : List γ} {i : Nat} {x : γ} (h : x ∈ l.eraseIdx i) : x ∈ l := (List.eraseIdx_sublist l i).subset h
theorem r_delI [DecidableEq α] (L : KeyLaw P K ek) {T : TypeId} {t : TypeId} {pos : String} {aft : Array Edge} {x y : Operand} {r : Nat} {p : α × β} {left : List (α × β)} (hu : P.underlying T = some (.map K E)) (hx : opv f x = .map (some b)) (hy : opv f y = ek p.1)
    (h : IterIs w r b ek ev m left (some p)) (h2 : ∀ w', Evo w w' [b] → w'.heap.size = w.heap.size → IterIs w' r b ek ev (delM m p.1) left none → KL P B n ops k rest f w') :
    KL P B n ops k (⟨none, .call ⟨.builtin .delete, #[x, y], #[T, K]⟩, t, pos, aft, none⟩ :: rest) f w := by
  have hM := h.map
  have hne := h.ne
  obtain ⟨es, c, seen, hb, he, hbn, hlt, hnd, hr, hleft, hlast⟩ := h.ex
  obtain ⟨es', hrun, hc⟩ := run_delM (ty := t) L hu p.1 hb hM
  obtain ⟨e, hem, ⟨s, hs⟩, hk, hv⟩ := hlast p rfl
  refine r_opv0 (v := .tuple #[]) (w' := setBlock w b (.map es' c)) rfl rfl (run_builtin (s := Builtin.delete_ #[T, K] t #[.map (some b), ek p.1]) rfl (by simp [hx, hy]) (fun cs => rfl) hrun) (h2 _ (Evo.setB _ _ _) (by simp [setBlock]) ⟨es', c, seen, heap_setB hM.lt _, ?_, ?_, ?_, delM_keys m p.1 hnd, ?_, ?_, fun q hq => by cases hq⟩)
  · rcases hc with ⟨h1, h3⟩ | ⟨i, v, _, h1, h3⟩
    · rw [h1, h3]; exact he
    · rw [h1, h3, eraseIdx_map, he, ← eraseIdx_map]
  · rcases hc with ⟨h1, _⟩ | ⟨i, v, _, h1, _⟩
    · rw [h1]; exact hbn
    · rw [h1]; exact hbn.sublist ((List.eraseIdx_sublist _ _).map _)
  · intro e hm
    rcases hc with ⟨h1, _⟩ | ⟨i, v, _, h1, _⟩
    · rw [h1] at hm; exact hlt e hm
    · rw [h1] at hm; exact hlt e (mem_erase hm)
  · rw [heap_setB_ne _ hne]; exact hr
  · rcases hc with ⟨h1, _⟩ | ⟨i, v, hi, h1, _⟩
    · rw [h1]; exact hleft
    · obtain ⟨j, hj⟩ := List.getElem?_of_mem hem
      have hmj := entry_at he j
      rw [hj] at hmj
      cases hmj2 : m[j]? with
      | none => rw [hmj2] at hmj; simp at hmj
      | some q =>
        rw [hmj2] at hmj
        simp only [Option.map_some, Option.some.injEq, Prod.mk.injEq] at hmj
        have hq : q.1 = p.1 := L.inj _ _ (hmj.1.symm.trans hk)
        have hij : i = j := nodup_idx hnd hi (by rw [hmj2, ← hq])
        subst hij
        rw [h1, filter_eraseIdx _ _ _ _ hj (by rw [hs]; simp)]
        exact hleft
end
end Go.Vc
namespace Go.Proofs.YtlfjocbnbceceaaGreatDoor
open Go.RowKit Go.Vc
set_option maxHeartbeats 1000000 in
theorem differs_calls {aoa : Option Addr} {ba offa capa : Nat} {a : List Str} {aob : Option Addr} {bb offb capb : Nat} {b : List Str} {w0 : World} (ha : RowE w0 aoa ba offa capa a) (hb : RowE w0 aob bb offb capb b) (hsa : a.length ≤ 1000000) (hsb : b.length ≤ 1000000) :
    Calls Tryz.prog 105 #[.slice aoa a.length capa, .slice aob b.length capb] w0 fun e w' => ∃ bm m, e = .returned (.map (some bm)) ∧ Evo w0 w' [] ∧ w0.heap.size ≤ bm ∧ MapIs w' bm S (Value.int .i64) m ∧ DifM a b m := by
 refine calls_enter (n := 47) Tryz.func105 rfl Tryz.ntmps105 rfl ?_
 have hV : Evo w0 w0 [] := Evo.refl _ _
 have ha0 := keepE ha
 have hbd_ha := ha.bd
 have hb0 := keepE hb
 have hbd_hb := hb.bd
 refine Zs ?_
 refine Zn asM ?_
 refine Zs ?_
 refine r_makeMap (α := Str) (β := Int) S (Value.int .i64) rfl ?_
 intro b1 w2 J1 E2 hmb1 Y1
 have Q2 := E2.size
 replace hV := Z0 hV E2
 replace ha := ha0 _ hV
 replace hb := hb0 _ hV
 refine Zn asM ?_
 refine r_seq ?_
 refine Zs ?_
 refine Zo mvS ?_
 refine Zo (run_lenSl rfl η Tryz.underlying77) ?_
 refine Zn mvI ?_
 refine r_block ?_
 refine r_loop (α := Nat) [7, 15, 16, 17, 18, 19, 20, 21, 22, 23] (fun k g w => ∃ m : List (Str × Int), g 15 = .int .i64 (k : Nat) ∧ k ≤ b.length ∧ MapIs w b1 S (Value.int .i64) m ∧ CntG (b.take k) [] m ∧ w2.heap.size ≤ w.heap.size ∧ Evo w0 w []) (fun k => b.length - k) 0 ?_ ?_
 ·refine ⟨_, σ, δ, hmb1, (by rw [List.take_zero]; exact CntG.nil), δ, hV⟩
 rintro k g w4 ⟨m, hj5, hk_k, hmb1, hcg, hzl3, hV⟩
 have hs_w4hV := hV.size
 have hlt6 := hmb1.lt
 replace ha := ha0 _ hV
 replace hb := hb0 _ hV
 refine Zk 15 (v := .int .i64 (k : Nat)) (by exact hj5) ?_
 refine Zs ?_
 refine Zn (run_lss rfl η η) ?_
 refine r_seq ?_
 refine r_cond η (fun hc7 => ?_) (fun hc7 => ?_)
 ·skip
  refine r_skip ?_
  refine r_seq ?_
  refine r_block ?_
  refine Zs ?_
  refine Zo (run_ix (k) rfl Tryz.underlying77 ty_9 η η (by first | exact rfl | omega) ω (hb.addr (i := k) ω)) ?_
  have hA80 := fun (w' : World) (h : Evo w0 w' []) => (hb0 w' h).atD (k) ω
  have hA8 := hA80 _ hV
  refine Zo (run_ld1 rfl ag_9 η (hA8.cell 0 η)) ?_
  refine Zn asT ?_
  have hgv := hcg.get (b.getD k default); have hgb := dif_bd ([]) (b.take k) (b.getD k default); have hgk := List.length_take_le k a; have hgl := List.length_take_le k b; have hg0 : ([] : List Str).length = 0 := rfl
  refine r_region ?_
  refine Zo mvM ?_
  refine Zo mvT ?_
  refine Zo (run_lookup1 (a := (b.getD k default)) (z := 0) (v := .int _ _) (key_str Tryz.underlying9) rfl Tryz.underlying134 ty_3 η η hmb1 rfl) ?_
  refine Zo (run_add rfl η η ω ω) ?_
  refine r_mapset (a := _) (key_str Tryz.underlying9) Tryz.underlying134 η η η hmb1 ?_
  intro w9 E9 V9 hm_new
  have Q9 := E9.size
  replace hV := Z1 hV E9 ε
  replace ha := ha0 _ hV
  replace hb := hb0 _ hV
  replace hmb1 := hm_new
  clear hm_new
  refine r_nil ?_
  refine r_blk ?_
  refine r_region ?_
  refine Zo (run_add rfl η η ω ω) ?_
  refine Zn mvI ?_
  refine r_again (k + 1) ?_ ?_ ?_
  ·first | omega | (dsimp only; omega)
  ·refine ⟨_, σ, δ, hmb1, (by rw [take_succD _ k ω]; exact hcg.inc (bump1 rfl)), δ, hV⟩
  exact ψ
 refine r_exit rfl ?_
 refine r_seq ?_
 refine Zs ?_
 refine Zo mvS ?_
 refine Zo (run_lenSl rfl η Tryz.underlying77) ?_
 refine Zn mvI ?_
 refine r_block ?_
 have hcg1 := hcg; rw [List.take_of_length_le ω] at hcg1
 refine r_loop (α := Nat) [9, 26, 27, 28, 29, 30, 31, 32, 33, 34] (fun k g w => ∃ m : List (Str × Int), g 26 = .int .i64 (k : Nat) ∧ k ≤ a.length ∧ MapIs w b1 S (Value.int .i64) m ∧ CntG b (a.take k) m ∧ w4.heap.size ≤ w.heap.size ∧ Evo w0 w []) (fun k => a.length - k) 0 ?_ ?_
 ·refine ⟨_, σ, δ, hmb1, (by rw [List.take_zero]; exact hcg1), δ, hV⟩
 rintro k g w11 ⟨m, hj12, hk_k, hmb1, hcg, hzl10, hV⟩
 have hs_w11hV := hV.size
 have hlt13 := hmb1.lt
 replace ha := ha0 _ hV
 refine Zk 26 (v := .int .i64 (k : Nat)) (by exact hj12) ?_
 refine Zs ?_
 refine Zn (run_lss rfl η η) ?_
 refine r_seq ?_
 refine r_cond η (fun hc14 => ?_) (fun hc14 => ?_)
 ·skip
  refine r_skip ?_
  refine r_seq ?_
  refine r_block ?_
  refine Zs ?_
  refine Zo (run_ix (k) rfl Tryz.underlying77 ty_9 η η (by first | exact rfl | omega) ω (ha.addr (i := k) ω)) ?_
  have hA150 := fun (w' : World) (h : Evo w0 w' []) => (ha0 w' h).atD (k) ω
  have hA15 := hA150 _ hV
  refine Zo (run_ld1 rfl ag_9 η (hA15.cell 0 η)) ?_
  refine Zn asT ?_
  have hgv := hcg.get (a.getD k default); have hgb := dif_bd (a.take k) (b) (a.getD k default); have hgk := List.length_take_le k a; have hgl := List.length_take_le k b; have hg0 : ([] : List Str).length = 0 := rfl
  refine r_region ?_
  refine Zo mvM ?_
  refine Zo mvT ?_
  refine Zo (run_lookup1 (a := (a.getD k default)) (z := 0) (v := .int _ _) (key_str Tryz.underlying9) rfl Tryz.underlying134 ty_3 η η hmb1 rfl) ?_
  refine Zo (run_sub rfl η η ω ω) ?_
  refine r_mapset (a := _) (key_str Tryz.underlying9) Tryz.underlying134 η η η hmb1 ?_
  intro w16 E16 V16 hm_new
  have Q16 := E16.size
  replace hV := Z1 hV E16 ε
  replace ha := ha0 _ hV
  replace hb := hb0 _ hV
  replace hmb1 := hm_new
  clear hm_new
  refine r_nil ?_
  refine r_blk ?_
  refine r_region ?_
  refine Zo (run_add rfl η η ω ω) ?_
  refine Zn mvI ?_
  refine r_again (k + 1) ?_ ?_ ?_
  ·first | omega | (dsimp only; omega)
  ·refine ⟨_, σ, δ, hmb1, (by rw [take_succD _ k ω]; exact hcg.dec (bump1 rfl)), δ, hV⟩
  exact ψ
 refine r_exit rfl ?_
 refine r_seq ?_
 refine Zs ?_
 refine Zo mvM ?_
 refine r_range rfl Tryz.underlying134 η hmb1 ?_
 intro r17 w18 her17 E18 hir17 hzr17
 have Q18 := E18.size
 replace hV := Z0 hV E18
 replace ha := ha0 _ hV
 replace hb := hb0 _ hV
 replace hmb1 := hmb1.evo0 E18
 refine r_nil ?_
 refine r_block ?_
 have hcg2 := hcg; rw [List.take_of_length_le ω] at hcg2; have hnd := hmb1.nodup
 refine r_loop (α := List (Str × Int)) [10, 11, 37, 38, 39, 40, 41, 42, 43, 44, 45] (fun left g w => ∃ m9 : List (Str × Int), ∃ la : Option (Str × Int), IterIs w r17 b1 S (Value.int .i64) m9 left la ∧ DelI a b m9 left ∧ w18.heap.size ≤ w.heap.size ∧ Evo w0 w []) (fun left => left.length) m ?_ ?_
 ·refine ⟨_, _, hir17, (hcg2.mem hnd), δ, hV⟩
 rintro left g w20 ⟨m9, la, hir17, hdi, hzl19, hV⟩
 have hs_w20hV := hV.size
 refine Zs ?_
 refine r_next rfl η hir17 (fun hn21 => ?_) (fun l1_21 p21 l2_21 w21 hl21 hE21 hz21 hi_new => ?_)
 ·skip
  subst hn21
  refine Zn (run_extract (v := .bool _) rfl η η) ?_
  refine r_seq ?_
  refine r_cond_no η ?_
  refine r_exit rfl ?_
  refine Zs ?_
  refine Zo mvM ?_
  refine Zn asM ?_
  refine r_ret (res1 (v := .map _) rfl η) ?_
  exact ⟨_, _, rfl, hV, by omega, hir17.map, hdi.done⟩
 have Q21 := hE21.size
 replace hV := Z1 hV hE21 ε
 replace ha := ha0 _ hV
 replace hb := hb0 _ hV
 replace hir17 := hi_new
 clear hi_new
 refine Zn (run_extract (v := .bool _) rfl η η) ?_
 refine r_seq ?_
 refine r_cond_yes η ?_
 refine r_skip ?_
 refine r_block ?_
 refine Zs ?_
 refine Zo (run_entryI rfl η hir17) ?_
 refine Zo (run_extract (v := S _) rfl η η) ?_
 refine Zo (run_extract (v := .int _ _) rfl η η) ?_
 refine Zo asT ?_
 refine Zn asI ?_
 refine Zs ?_
 refine Zo mvI ?_
 refine Zn (run_eql rfl η η) ?_
 refine r_cond η (fun hc22 => ?_) (fun hc22 => ?_)
 ·skip
  refine r_region ?_
  refine Zo mvM ?_
  refine Zo mvT ?_
  refine r_delI (p := p21) (key_str Tryz.underlying9) Tryz.underlying134 η η hir17 ?_
  intro w23 E23 V23 hi_new
  have Q23 := E23.size
  replace hV := Z1 hV E23 ε
  replace ha := ha0 _ hV
  replace hb := hb0 _ hV
  replace hir17 := hi_new
  clear hi_new
  refine r_nil ?_
  refine r_blk ?_
  refine r_again (l1_21 ++ l2_21) ?_ ?_ ?_
  ·rw [hl21]; simp
  ·refine ⟨_, _, hir17, (by first | exact (show DelI a b m9 (l1_21 ++ p21 :: l2_21) from hl21 ▸ hdi).strike hc22 | exact (show DelI a b m9 (l1_21 ++ p21 :: l2_21) from hl21 ▸ hdi).keep hc22), δ, hV⟩
  exact ψ
 refine r_skip ?_
 refine r_blk ?_
 refine r_again (l1_21 ++ l2_21) ?_ ?_ ?_
 ·rw [hl21]; simp
 ·refine ⟨_, _, hir17, (by first | exact (show DelI a b m9 (l1_21 ++ p21 :: l2_21) from hl21 ▸ hdi).strike hc22 | exact (show DelI a b m9 (l1_21 ++ p21 :: l2_21) from hl21 ▸ hdi).keep hc22), δ, hV⟩
 exact ψ
set_option maxHeartbeats 1000000 in
theorem differi_calls {aoa : Option Addr} {ba offa capa : Nat} {a : List Vc.Item} {aob : Option Addr} {bb offb capb : Nat} {b : List Vc.Item} {w0 : World} (ha : RowE w0 aoa ba offa capa a) (hb : RowE w0 aob bb offb capb b) (hsa : a.length ≤ 1000000) (hsb : b.length ≤ 1000000) :
    Calls Tryz.prog 106 #[.slice aoa a.length capa, .slice aob b.length capb] w0 fun e w' => ∃ bm m, e = .returned (.map (some bm)) ∧ Evo w0 w' [] ∧ w0.heap.size ≤ bm ∧ MapIs w' bm (fun x : Vc.Item => Value.agg (Enc.enc x).toArray) (Value.int .i64) m ∧ DifM a b m := by
 refine calls_enter (n := 51) Tryz.func106 rfl Tryz.ntmps106 rfl ?_
 have hV : Evo w0 w0 [] := Evo.refl _ _
 have ha0 := keepE ha
 have hbd_ha := ha.bd
 have hb0 := keepE hb
 have hbd_hb := hb.bd
 refine Zs ?_
 refine Zn asM ?_
 refine Zs ?_
 refine r_makeMap (α := Vc.Item) (β := Int) (fun x : Vc.Item => Value.agg (Enc.enc x).toArray) (Value.int .i64) rfl ?_
 intro b1 w2 J1 E2 hmb1 Y1
 have Q2 := E2.size
 replace hV := Z0 hV E2
 replace ha := ha0 _ hV
 replace hb := hb0 _ hV
 refine Zn asM ?_
 refine r_seq ?_
 refine Zs ?_
 refine Zo mvS ?_
 refine Zo (run_lenSl rfl η Tryz.underlying33) ?_
 refine Zn mvI ?_
 refine r_block ?_
 refine r_loop (α := Nat) [7, 15, 16, 17, 18, 19, 20, 21, 22, 23, 24, 25] (fun k g w => ∃ m : List (Vc.Item × Int), g 15 = .int .i64 (k : Nat) ∧ k ≤ b.length ∧ MapIs w b1 (fun x : Vc.Item => Value.agg (Enc.enc x).toArray) (Value.int .i64) m ∧ CntG (b.take k) [] m ∧ w2.heap.size ≤ w.heap.size ∧ Evo w0 w []) (fun k => b.length - k) 0 ?_ ?_
 ·refine ⟨_, σ, δ, hmb1, (by rw [List.take_zero]; exact CntG.nil), δ, hV⟩
 rintro k g w4 ⟨m, hj5, hk_k, hmb1, hcg, hzl3, hV⟩
 have hs_w4hV := hV.size
 have hlt6 := hmb1.lt
 replace ha := ha0 _ hV
 replace hb := hb0 _ hV
 refine Zk 15 (v := .int .i64 (k : Nat)) (by exact hj5) ?_
 refine Zs ?_
 refine Zn (run_lss rfl η η) ?_
 refine r_seq ?_
 refine r_cond η (fun hc7 => ?_) (fun hc7 => ?_)
 ·skip
  refine r_skip ?_
  refine r_seq ?_
  refine r_block ?_
  refine Zs ?_
  refine Zo (run_ix (k) rfl Tryz.underlying33 ty_32 η η (by first | exact rfl | omega) ω (hb.addr (i := k) ω)) ?_
  have hA80 := fun (w' : World) (h : Evo w0 w' []) => (hb0 w' h).atD (k) ω
  have hA8 := hA80 _ hV
  refine Zo (run_ldN rfl ag_32 ty_32 η rfl hA8) ?_
  refine r_var (zs := [_, _, _]) (vs := [_, _, _]) ty_32 η rfl η (fun _ => rfl) η rfl rfl η ?_
  intro b9 w10 J9 E10 B9 Y9
  have Q10 := E10.size
  replace hV := Z0 hV E10
  replace hmb1 := hmb1.evo0 E10
  refine r_nil ?_
  have hgv := hcg.get (b.getD k default); have hgb := dif_bd ([]) (b.take k) (b.getD k default); have hgk := List.length_take_le k a; have hgl := List.length_take_le k b; have hg0 : ([] : List Vc.Item).length = 0 := rfl
  have hB9 : (getM (setM m (b.getD k default) ((getM m (b.getD k default)).getD 0)) (b.getD k default)).getD 0 = (getM m (b.getD k default)).getD 0 := by rw [getM_setM, if_pos rfl]; rfl
  refine r_cut [19, 20, 21, 22, 23, 24] (fun g w => ∃ m2 : List (Vc.Item × Int), MapIs w b1 (fun x : Vc.Item => Value.agg (Enc.enc x).toArray) (Value.int .i64) m2 ∧ Bump m m2 (b.getD k default) 1 ∧ w10.heap.size ≤ w.heap.size ∧ Evo w0 w []) ?_ ?_
  ·skip
   have hmb1_q := hmb1
   have hbb9_q := B9
   have hAb9_q := B9.at
   have hV_q := hV
   refine h_region ([b1]) ζ ?_
   intro w12 hE13 hC14
   have Q12 := hE13.size
   replace hV := Z0 hV hE13
   replace hmb1 := hmb1.evo0 hE13
   replace B9 := B9.evo0 hE13
   refine Zt (i := 0) η (fun w' hC => mvM) hC14 ?_
   refine Zt (i := 1) η (fun w' hC => run_ldN rfl ag_32 ty_32 η rfl (hAb9_q.evo hC θ)) hC14 ?_
   refine h_two (i := 2) (j := 4) ζ ?_ ?_
   ·skip
    refine h_do η ?_
    refine Zo (run_lookup1 (a := (b.getD k default)) (z := 0) (v := .int _ _) kitem rfl Tryz.underlying74 ty_3 η η hmb1 rfl) ?_
    refine h_next hC14 ?_
    refine Zt (i := 3) η (fun w' hC => run_add rfl η η ω ω) hC14 ?_
    refine Zh (i := 4) ?_
    refine r_mapEntry (a := (b.getD k default)) (z := 0) kitem rfl Tryz.underlying74 ty_3 η η hmb1 ?_
    intro s15 w15 hE15 V15 hm_new hst15
    have Q15 := hE15.size
    replace hV := Z1 hV hE15 ε
    replace hC14 := Z1 hC14 hE15 ε
    replace hmb1 := hm_new
    clear hm_new
    refine h_next hC14 ?_
    refine Zt (i := 5) η (fun w' hC => run_extract (v := .int _ _) rfl η η) hC14 ?_
    refine Zh (i := 6) ?_
    refine r_entryStore (a := (b.getD k default)) kitem η η η hmb1 hst15 ?_
    intro w16 hE16 V16 hm_new
    have Q16 := hE16.size
    replace hV := Z1 hV hE16 ε
    replace ha := ha0 _ hV
    replace hb := hb0 _ hV
    replace hmb1 := hm_new
    clear hm_new
    refine h_last ζ ?_
    refine h_done ζ ?_
    refine r_cut_end ?_ ?_
    ·refine ⟨_, hmb1, (by first | exact bumpF 1 | exact bumpT 1), δ, hV⟩
    exact ψ
   refine h_do η ?_
   refine r_mapEntry (a := (b.getD k default)) (z := 0) kitem rfl Tryz.underlying74 ty_3 η η hmb1 ?_
   intro s17 w17 hE17 V17 hm_new hst17
   have Q17 := hE17.size
   replace hV := Z1 hV hE17 ε
   replace hC14 := Z1 hC14 hE17 ε
   replace B9 := B9.evo hE17 θ
   replace hmb1 := hm_new
   clear hm_new
   refine h_next hC14 ?_
   refine Zt (i := 5) η (fun w' hC => run_extract (v := .int _ _) rfl η η) hC14 ?_
   refine Zh (i := 2) ?_
   refine Zo (run_lookup1 (a := (b.getD k default)) (z := 0) (v := .int _ _) kitem rfl Tryz.underlying74 ty_3 η η hmb1 rfl) ?_
   refine h_next hC14 ?_
   refine Zt (i := 3) η (fun w' hC => run_add rfl η η ω ω) hC14 ?_
   refine Zh (i := 6) ?_
   refine r_entryStore (a := (b.getD k default)) kitem η η η hmb1 hst17 ?_
   intro w18 hE18 V18 hm_new
   have Q18 := hE18.size
   replace hV := Z1 hV hE18 ε
   replace ha := ha0 _ hV
   replace hb := hb0 _ hV
   replace hmb1 := hm_new
   clear hm_new
   refine h_last ζ ?_
   refine h_done ζ ?_
   refine r_cut_end ?_ ?_
   ·refine ⟨_, hmb1, (by first | exact bumpF 1 | exact bumpT 1), δ, hV⟩
   exact ψ
  rintro g w19 ⟨m2, hmb1, hm2, hzl11, hV⟩
  have hs_w19hV := hV.size
  have hlt20 := hmb1.lt
  replace ha := ha0 _ hV
  replace hb := hb0 _ hV
  replace hA8 := hA80 _ hV
  refine r_blk ?_
  refine r_region ?_
  refine Zo (run_add rfl η η ω ω) ?_
  refine Zn mvI ?_
  refine r_again (k + 1) ?_ ?_ ?_
  ·first | omega | (dsimp only; omega)
  ·refine ⟨_, σ, δ, hmb1, (by rw [take_succD _ k ω]; exact hcg.inc hm2), δ, hV⟩
  exact ψ
 refine r_exit rfl ?_
 refine r_seq ?_
 refine Zs ?_
 refine Zo mvS ?_
 refine Zo (run_lenSl rfl η Tryz.underlying33) ?_
 refine Zn mvI ?_
 refine r_block ?_
 have hcg1 := hcg; rw [List.take_of_length_le ω] at hcg1
 refine r_loop (α := Nat) [9, 28, 29, 30, 31, 32, 33, 34, 35, 36, 37, 38] (fun k g w => ∃ m : List (Vc.Item × Int), g 28 = .int .i64 (k : Nat) ∧ k ≤ a.length ∧ MapIs w b1 (fun x : Vc.Item => Value.agg (Enc.enc x).toArray) (Value.int .i64) m ∧ CntG b (a.take k) m ∧ w4.heap.size ≤ w.heap.size ∧ Evo w0 w []) (fun k => a.length - k) 0 ?_ ?_
 ·refine ⟨_, σ, δ, hmb1, (by rw [List.take_zero]; exact hcg1), δ, hV⟩
 rintro k g w22 ⟨m, hj23, hk_k, hmb1, hcg, hzl21, hV⟩
 have hs_w22hV := hV.size
 have hlt24 := hmb1.lt
 replace ha := ha0 _ hV
 refine Zk 28 (v := .int .i64 (k : Nat)) (by exact hj23) ?_
 refine Zs ?_
 refine Zn (run_lss rfl η η) ?_
 refine r_seq ?_
 refine r_cond η (fun hc25 => ?_) (fun hc25 => ?_)
 ·skip
  refine r_skip ?_
  refine r_seq ?_
  refine r_block ?_
  refine Zs ?_
  refine Zo (run_ix (k) rfl Tryz.underlying33 ty_32 η η (by first | exact rfl | omega) ω (ha.addr (i := k) ω)) ?_
  have hA260 := fun (w' : World) (h : Evo w0 w' []) => (ha0 w' h).atD (k) ω
  have hA26 := hA260 _ hV
  refine Zo (run_ldN rfl ag_32 ty_32 η rfl hA26) ?_
  refine r_var (zs := [_, _, _]) (vs := [_, _, _]) ty_32 η rfl η (fun _ => rfl) η rfl rfl η ?_
  intro b27 w28 J27 E28 B27 Y27
  have Q28 := E28.size
  replace hV := Z0 hV E28
  replace hmb1 := hmb1.evo0 E28
  refine r_nil ?_
  have hgv := hcg.get (a.getD k default); have hgb := dif_bd (a.take k) (b) (a.getD k default); have hgk := List.length_take_le k a; have hgl := List.length_take_le k b; have hg0 : ([] : List Vc.Item).length = 0 := rfl
  have hB9 : (getM (setM m (a.getD k default) ((getM m (a.getD k default)).getD 0)) (a.getD k default)).getD 0 = (getM m (a.getD k default)).getD 0 := by rw [getM_setM, if_pos rfl]; rfl
  refine r_cut [32, 33, 34, 35, 36, 37] (fun g w => ∃ m2 : List (Vc.Item × Int), MapIs w b1 (fun x : Vc.Item => Value.agg (Enc.enc x).toArray) (Value.int .i64) m2 ∧ Bump m m2 (a.getD k default) (-1) ∧ w28.heap.size ≤ w.heap.size ∧ Evo w0 w []) ?_ ?_
  ·skip
   have hmb1_q := hmb1
   have hbb27_q := B27
   have hAb27_q := B27.at
   have hV_q := hV
   refine h_region ([b1]) ζ ?_
   intro w30 hE31 hC32
   have Q30 := hE31.size
   replace hV := Z0 hV hE31
   replace hmb1 := hmb1.evo0 hE31
   replace B27 := B27.evo0 hE31
   refine Zt (i := 0) η (fun w' hC => mvM) hC32 ?_
   refine Zt (i := 1) η (fun w' hC => run_ldN rfl ag_32 ty_32 η rfl (hAb27_q.evo hC θ)) hC32 ?_
   refine h_two (i := 2) (j := 4) ζ ?_ ?_
   ·skip
    refine h_do η ?_
    refine Zo (run_lookup1 (a := (a.getD k default)) (z := 0) (v := .int _ _) kitem rfl Tryz.underlying74 ty_3 η η hmb1 rfl) ?_
    refine h_next hC32 ?_
    refine Zt (i := 3) η (fun w' hC => run_sub rfl η η ω ω) hC32 ?_
    refine Zh (i := 4) ?_
    refine r_mapEntry (a := (a.getD k default)) (z := 0) kitem rfl Tryz.underlying74 ty_3 η η hmb1 ?_
    intro s33 w33 hE33 V33 hm_new hst33
    have Q33 := hE33.size
    replace hV := Z1 hV hE33 ε
    replace hC32 := Z1 hC32 hE33 ε
    replace hmb1 := hm_new
    clear hm_new
    refine h_next hC32 ?_
    refine Zt (i := 5) η (fun w' hC => run_extract (v := .int _ _) rfl η η) hC32 ?_
    refine Zh (i := 6) ?_
    refine r_entryStore (a := (a.getD k default)) kitem η η η hmb1 hst33 ?_
    intro w34 hE34 V34 hm_new
    have Q34 := hE34.size
    replace hV := Z1 hV hE34 ε
    replace ha := ha0 _ hV
    replace hb := hb0 _ hV
    replace hmb1 := hm_new
    clear hm_new
    refine h_last ζ ?_
    refine h_done ζ ?_
    refine r_cut_end ?_ ?_
    ·refine ⟨_, hmb1, (by first | exact bumpF (-1) | exact bumpT (-1)), δ, hV⟩
    exact ψ
   refine h_do η ?_
   refine r_mapEntry (a := (a.getD k default)) (z := 0) kitem rfl Tryz.underlying74 ty_3 η η hmb1 ?_
   intro s35 w35 hE35 V35 hm_new hst35
   have Q35 := hE35.size
   replace hV := Z1 hV hE35 ε
   replace hC32 := Z1 hC32 hE35 ε
   replace B27 := B27.evo hE35 θ
   replace hmb1 := hm_new
   clear hm_new
   refine h_next hC32 ?_
   refine Zt (i := 5) η (fun w' hC => run_extract (v := .int _ _) rfl η η) hC32 ?_
   refine Zh (i := 2) ?_
   refine Zo (run_lookup1 (a := (a.getD k default)) (z := 0) (v := .int _ _) kitem rfl Tryz.underlying74 ty_3 η η hmb1 rfl) ?_
   refine h_next hC32 ?_
   refine Zt (i := 3) η (fun w' hC => run_sub rfl η η ω ω) hC32 ?_
   refine Zh (i := 6) ?_
   refine r_entryStore (a := (a.getD k default)) kitem η η η hmb1 hst35 ?_
   intro w36 hE36 V36 hm_new
   have Q36 := hE36.size
   replace hV := Z1 hV hE36 ε
   replace ha := ha0 _ hV
   replace hb := hb0 _ hV
   replace hmb1 := hm_new
   clear hm_new
   refine h_last ζ ?_
   refine h_done ζ ?_
   refine r_cut_end ?_ ?_
   ·refine ⟨_, hmb1, (by first | exact bumpF (-1) | exact bumpT (-1)), δ, hV⟩
   exact ψ
  rintro g w37 ⟨m2, hmb1, hm2, hzl29, hV⟩
  have hs_w37hV := hV.size
  have hlt38 := hmb1.lt
  replace ha := ha0 _ hV
  replace hb := hb0 _ hV
  replace hA26 := hA260 _ hV
  refine r_blk ?_
  refine r_region ?_
  refine Zo (run_add rfl η η ω ω) ?_
  refine Zn mvI ?_
  refine r_again (k + 1) ?_ ?_ ?_
  ·first | omega | (dsimp only; omega)
  ·refine ⟨_, σ, δ, hmb1, (by rw [take_succD _ k ω]; exact hcg.dec hm2), δ, hV⟩
  exact ψ
 refine r_exit rfl ?_
 refine r_seq ?_
 refine Zs ?_
 refine Zo mvM ?_
 refine r_range rfl Tryz.underlying74 η hmb1 ?_
 intro r39 w40 her39 E40 hir39 hzr39
 have Q40 := E40.size
 replace hV := Z0 hV E40
 replace ha := ha0 _ hV
 replace hb := hb0 _ hV
 replace hmb1 := hmb1.evo0 E40
 refine r_nil ?_
 refine r_block ?_
 have hcg2 := hcg; rw [List.take_of_length_le ω] at hcg2; have hnd := hmb1.nodup
 refine r_loop (α := List (Vc.Item × Int)) [10, 11, 41, 42, 43, 44, 45, 46, 47, 48, 49] (fun left g w => ∃ m9 : List (Vc.Item × Int), ∃ la : Option (Vc.Item × Int), IterIs w r39 b1 (fun x : Vc.Item => Value.agg (Enc.enc x).toArray) (Value.int .i64) m9 left la ∧ DelI a b m9 left ∧ w40.heap.size ≤ w.heap.size ∧ Evo w0 w []) (fun left => left.length) m ?_ ?_
 ·refine ⟨_, _, hir39, (hcg2.mem hnd), δ, hV⟩
 rintro left g w42 ⟨m9, la, hir39, hdi, hzl41, hV⟩
 have hs_w42hV := hV.size
 refine Zs ?_
 refine r_next rfl η hir39 (fun hn43 => ?_) (fun l1_43 p43 l2_43 w43 hl43 hE43 hz43 hi_new => ?_)
 ·skip
  subst hn43
  refine Zn (run_extract (v := .bool _) rfl η η) ?_
  refine r_seq ?_
  refine r_cond_no η ?_
  refine r_exit rfl ?_
  refine Zs ?_
  refine Zo mvM ?_
  refine Zn asM ?_
  refine r_ret (res1 (v := .map _) rfl η) ?_
  exact ⟨_, _, rfl, hV, by omega, hir39.map, hdi.done⟩
 have Q43 := hE43.size
 replace hV := Z1 hV hE43 ε
 replace hir39 := hi_new
 clear hi_new
 refine Zn (run_extract (v := .bool _) rfl η η) ?_
 refine r_seq ?_
 refine r_cond_yes η ?_
 refine r_skip ?_
 refine r_block ?_
 refine Zs ?_
 refine Zo (run_entryI rfl η hir39) ?_
 refine Zo (run_extract (v := .agg _) rfl η η) ?_
 refine Zo (run_extract (v := .int _ _) rfl η η) ?_
 refine r_var (zs := [_, _, _]) (vs := [_, _, _]) ty_32 η rfl η (fun _ => rfl) η rfl rfl η ?_
 intro b44 w45 J44 E45 B44 Y44
 have Q45 := E45.size
 replace hV := Z0 hV E45
 replace ha := ha0 _ hV
 replace hb := hb0 _ hV
 replace hir39 := hir39.evo0 E45
 refine Zn asI ?_
 refine Zs ?_
 refine Zo mvI ?_
 refine Zn (run_eql rfl η η) ?_
 refine r_cond η (fun hc46 => ?_) (fun hc46 => ?_)
 ·skip
  refine r_region ?_
  refine Zo mvM ?_
  refine Zo (run_ldN rfl ag_32 ty_32 η rfl B44.at) ?_
  refine r_delI (p := p43) kitem Tryz.underlying74 η η hir39 ?_
  intro w47 E47 V47 hi_new
  have Q47 := E47.size
  replace hV := Z1 hV E47 ε
  replace ha := ha0 _ hV
  replace hb := hb0 _ hV
  replace hir39 := hi_new
  clear hi_new
  refine r_nil ?_
  refine r_blk ?_
  refine r_again (l1_43 ++ l2_43) ?_ ?_ ?_
  ·rw [hl43]; simp
  ·refine ⟨_, _, hir39, (by first | exact (show DelI a b m9 (l1_43 ++ p43 :: l2_43) from hl43 ▸ hdi).strike hc46 | exact (show DelI a b m9 (l1_43 ++ p43 :: l2_43) from hl43 ▸ hdi).keep hc46), δ, hV⟩
  exact ψ
 refine r_skip ?_
 refine r_blk ?_
 refine r_again (l1_43 ++ l2_43) ?_ ?_ ?_
 ·rw [hl43]; simp
 ·refine ⟨_, _, hir39, (by first | exact (show DelI a b m9 (l1_43 ++ p43 :: l2_43) from hl43 ▸ hdi).strike hc46 | exact (show DelI a b m9 (l1_43 ++ p43 :: l2_43) from hl43 ▸ hdi).keep hc46), δ, hV⟩
 exact ψ
set_option maxHeartbeats 2000000 in
theorem counted_calls {v : Value} {base : Nat} {l : List Vc.Item} {aof : Option Addr} {bf of9 capf : Nat} {f : List Vc.Item} {aog : Option Addr} {bg og capg : Nat} {gg : List Vc.Item} {w0 : World} (hol : OwnE w0 base 39 v l) (hbs : base ≤ w0.heap.size) (hf : ∀ w9, Evo w0 w9 v.ownBlock.toList → RowE w9 aof bf of9 capf f) (hg : ∀ w9, Evo w0 w9 v.ownBlock.toList → RowE w9 aog bg og capg gg) (htab : ∀ w9, Evo w0 w9 v.ownBlock.toList → Tab w9) (htf : Tiny f) (htg : Tiny gg) (hif : ∀ x ∈ tagsL f, InR x) (hig : ∀ x ∈ tagsL gg, InR x) (hsl : l.length ≤ 10000000) :
    Calls Tryz.prog 63 #[v, .slice aof f.length capf, .slice aog gg.length capg] w0 fun e w' => ∃ v', e = .returned v' ∧ Evo w0 w' v.ownBlock.toList ∧ (∃ p1 p2 p3, p1.Perm (slotF f gg) ∧ p2.Perm (tagF f gg) ∧ p3.Perm (numF f gg) ∧ OwnE w' base 39 v' (l ++ (p1 ++ (p2 ++ p3)))) ∧ (∀ g, v'.ownBlock = some g → w0.heap.size ≤ g ∨ g ∈ v.ownBlock.toList) := by
 refine calls_enter (n := 68) Tryz.func63 rfl Tryz.ntmps63 rfl ?_
 have hV : Evo w0 w0 v.ownBlock.toList := Evo.refl _ _
 have hf0 := hf
 replace hf := hf0 _ hV
 have hbd_hf := hf.bd
 have hg0 := hg
 replace hg := hg0 _ hV
 have hbd_hg := hg.bd
 have htab0 := htab
 refine Zs ?_
 refine Zn asS ?_
 refine r_seq ?_
 refine r_seq ?_
 have hobA := fun g hg => (hol.block (g := g) hg).2
 have hQ1 := slotsL_len f; have hQ2 := slotsL_len gg; have hQ3 := sortS_len (slotsL f); have hQ4 := sortS_len (slotsL gg); have hQ5 := htf.1; have hQ6 := htg.1; have hQ7 := numT_len (toks f); have hQ8 := numT_len (toks gg); have hQ9 := htf.tlen; have hQ10 := htg.tlen; have hT1 := tagsL_len f; have hT2 := tagsL_len gg
 refine r_region ?_
 refine Zo mvS ?_
 refine Zr [.slice _ _ _] rfl η Tryz.func48 (slots_calls hf htf.small) ?_
 rintro e w1 ⟨vn1, rfl, hE1, hon1⟩
 refine ⟨_, rfl, ?_⟩
 have Q1 := hE1.size
 replace hV := Z0 hV hE1
 replace hol := hol.evo0 hE1
 replace hg := hg0 _ hV
 refine Zo mvS ?_
 refine Zr [.slice _ _ _] rfl η Tryz.func48 (slots_calls hg htg.small) ?_
 rintro e w2 ⟨vn2, rfl, hE2, hon2⟩
 refine ⟨_, rfl, ?_⟩
 have Q2 := hE2.size
 replace hV := Z0 hV hE2
 replace hol := hol.evo0 hE2
 replace hon1 := hon1.evo0 hE2
 obtain ⟨ao3, g3, cp3, hv3, hr3, hg3⟩ := hon1.rowOf
 subst hv3
 obtain ⟨ao4, g4, cp4, hv4, hr4, hg4⟩ := hon2.rowOf
 subst hv4
 refine Zr [.slice _ _ _, .slice _ _ _] rfl η Tryz.func105 (differs_calls hr3 hr4 ω ω) ?_
 rintro e w5 ⟨bm5, mm5, rfl, hE5, hbm5, hmp5, hdm5⟩
 refine ⟨_, rfl, ?_⟩
 have Q5 := hE5.size
 replace hV := Z0 hV hE5
 replace hol := hol.evo0 hE5
 replace hon1 := hon1.evo0 hE5
 replace hon2 := hon2.evo0 hE5
 replace hr3 := hr3.evo0 hE5
 replace hr4 := hr4.evo0 hE5
 have hmt5 := hmp5.lt
 refine r_range rfl Tryz.underlying134 η hmp5 ?_
 intro r6 w7 her6 E7 hir6 hzr6
 have Q7 := E7.size
 replace hV := Z0 hV E7
 replace hol := hol.evo0 E7
 replace hf := hf0 _ hV
 replace hg := hg0 _ hV
 replace htab := htab0 _ hV
 replace hon1 := hon1.evo0 E7
 replace hon2 := hon2.evo0 E7
 replace hr3 := hr3.evo0 E7
 replace hr4 := hr4.evo0 E7
 replace hmp5 := hmp5.evo0 E7
 refine r_nil ?_
 refine r_block ?_
 have hmlA := hdm5.len
 have hriA := hir6.lt; have hrmA := hir6.map.lt
 refine r_loop (α := List (Str × Int)) [0, 7, 8, 19, 20, 21, 22, 23, 24, 25, 26, 27, 28, 29] (fun left g w => ∃ la : Option (Str × Int), ∃ voA : Value, ∃ dnA : List (Str × Int), g 0 = voA ∧ IterIs w r6 bm5 S (Value.int .i64) mm5 left la ∧ OwnE w base 39 voA (l ++ dnA.map (mkP 3)) ∧ (∀ g, voA.ownBlock = some g → w0.heap.size ≤ g ∨ g ∈ v.ownBlock.toList) ∧ (∀ g, voA.ownBlock = some g → g ≠ r6 ∧ g ≠ bm5) ∧ (dnA ++ left).Perm mm5 ∧ (r6 < w.heap.size ∧ bm5 < w.heap.size) ∧ w7.heap.size ≤ w.heap.size ∧ Evo w0 w v.ownBlock.toList) (fun left => left.length) mm5 ?_ ?_
 ·refine ⟨_, _, [], rfl, hir6, (by rw [List.map_nil, List.append_nil]; exact hol), (fun g hg => .inr (Option.mem_toList.2 hg)), (fun g hg => by have h7 := hobA g hg; omega), (List.Perm.refl _), ⟨by omega, by omega⟩, δ, hV⟩
 rintro left g w9 ⟨la, voA, dnA, hj10, hir6, hoA, hanA, hdjA, hpmA, hzrA, hzl8, hV⟩
 have hs_w9hV := hV.size
 replace hf := hf0 _ hV
 replace hg := hg0 _ hV
 refine Zk 0 (v := voA) (by exact hj10) ?_
 have hplA := hpmA.length_eq
 rw [List.length_append] at hplA
 have hdlA : (dnA.map (mkP 3)).length = dnA.length := List.length_map _
 refine Zs ?_
 refine r_next rfl η hir6 (fun hn11 => ?_) (fun l1_11 p11 l2_11 w11 hl11 hE11 hz11 hi_new => ?_)
 ·skip
  subst hn11
  refine Zn (run_extract (v := .bool _) rfl η η) ?_
  refine r_seq ?_
  refine r_cond_no η ?_
  refine r_exit rfl ?_
  refine r_seq ?_
  refine r_seq ?_
  have hp1 : (dnA.map (mkP 3)).Perm (slotF f gg) := difS_perm hdm5 hpmA
  have hobB := fun g hg => (hoA.block (g := g) hg).2
  have hplA9 := hpmA.length_eq; rw [List.length_append] at hplA9; have hlA : (dnA.map (mkP 3)).length = dnA.length := List.length_map _
  refine r_region ?_
  refine Zo mvS ?_
  refine Zr [.slice _ _ _] rfl η Tryz.func46 (tags_calls hf htf.small) ?_
  rintro e w12 ⟨vn12, rfl, hE12, hon12⟩
  refine ⟨_, rfl, ?_⟩
  have Q12 := hE12.size
  replace hV := Z0 hV hE12
  replace hg := hg0 _ hV
  replace hir6 := hir6.evo0 hE12
  replace hoA := hoA.evo0 hE12
  refine Zo mvS ?_
  refine Zr [.slice _ _ _] rfl η Tryz.func46 (tags_calls hg htg.small) ?_
  rintro e w13 ⟨vn13, rfl, hE13, hon13⟩
  refine ⟨_, rfl, ?_⟩
  have Q13 := hE13.size
  replace hV := Z0 hV hE13
  replace hir6 := hir6.evo0 hE13
  replace hoA := hoA.evo0 hE13
  replace hon12 := hon12.evo0 hE13
  obtain ⟨ao14, g14, cp14, hv14, hr14, hg14⟩ := hon12.rowOf
  subst hv14
  obtain ⟨ao15, g15, cp15, hv15, hr15, hg15⟩ := hon13.rowOf
  subst hv15
  refine Zr [.slice _ _ _, .slice _ _ _] rfl η Tryz.func106 (differi_calls hr14 hr15 ω ω) ?_
  rintro e w16 ⟨bm16, mm16, rfl, hE16, hbm16, hmp16, hdm16⟩
  refine ⟨_, rfl, ?_⟩
  have Q16 := hE16.size
  replace hV := Z0 hV hE16
  replace hir6 := hir6.evo0 hE16
  replace hoA := hoA.evo0 hE16
  replace hon12 := hon12.evo0 hE16
  replace hon13 := hon13.evo0 hE16
  replace hr14 := hr14.evo0 hE16
  replace hr15 := hr15.evo0 hE16
  have hmt16 := hmp16.lt
  refine r_range rfl Tryz.underlying74 η hmp16 ?_
  intro r17 w18 her17 E18 hir17 hzr17
  have Q18 := E18.size
  replace hV := Z0 hV E18
  replace hf := hf0 _ hV
  replace hg := hg0 _ hV
  replace htab := htab0 _ hV
  replace hir6 := hir6.evo0 E18
  replace hoA := hoA.evo0 E18
  replace hon12 := hon12.evo0 E18
  replace hon13 := hon13.evo0 E18
  replace hr14 := hr14.evo0 E18
  replace hr15 := hr15.evo0 E18
  replace hmp16 := hmp16.evo0 E18
  refine r_nil ?_
  refine r_block ?_
  have hmlB := hdm16.len
  have hriB := hir17.lt; have hrmB := hir17.map.lt
  refine r_loop (α := List (Vc.Item × Int)) [0, 9, 10, 36, 37, 38, 39, 40, 41, 42, 43, 44, 45, 46, 47] (fun left g w => ∃ la : Option (Vc.Item × Int), ∃ voB : Value, ∃ dnB : List (Vc.Item × Int), g 0 = voB ∧ IterIs w r17 bm16 (fun x : Vc.Item => Value.agg (Enc.enc x).toArray) (Value.int .i64) mm16 left la ∧ OwnE w base 39 voB ((l ++ dnA.map (mkP 3)) ++ dnB.map mkQ) ∧ (∀ g, voB.ownBlock = some g → w0.heap.size ≤ g ∨ g ∈ v.ownBlock.toList) ∧ (∀ g, voB.ownBlock = some g → g ≠ r17 ∧ g ≠ bm16) ∧ (dnB ++ left).Perm mm16 ∧ (r17 < w.heap.size ∧ bm16 < w.heap.size) ∧ w18.heap.size ≤ w.heap.size ∧ Evo w0 w v.ownBlock.toList) (fun left => left.length) mm16 ?_ ?_
  ·refine ⟨_, _, [], rfl, hir17, (by rw [List.map_nil, List.append_nil]; exact hoA), hanA, (fun g hg => by have h7 := hobB g hg; omega), (List.Perm.refl _), ⟨by omega, by omega⟩, δ, hV⟩
  rintro left g w20 ⟨la, voB, dnB, hj21, hir17, hoB, hanB, hdjB, hpmB, hzrB, hzl19, hV⟩
  have hs_w20hV := hV.size
  replace hf := hf0 _ hV
  replace hg := hg0 _ hV
  refine Zk 0 (v := voB) (by exact hj21) ?_
  have hplB := hpmB.length_eq
  rw [List.length_append] at hplB
  have hdlB : (dnB.map mkQ).length = dnB.length := List.length_map _
  refine Zs ?_
  refine r_next rfl η hir17 (fun hn22 => ?_) (fun l1_22 p22 l2_22 w22 hl22 hE22 hz22 hi_new => ?_)
  ·skip
   subst hn22
   refine Zn (run_extract (v := .bool _) rfl η η) ?_
   refine r_seq ?_
   refine r_cond_no η ?_
   refine r_exit rfl ?_
   refine r_seq ?_
   refine r_seq ?_
   have hp2 : (dnB.map mkQ).Perm (tagF f gg) := difT_perm hdm16 hpmB
   have hobC := fun g hg => (hoB.block (g := g) hg).2
   have hplB9 := hpmB.length_eq; rw [List.length_append] at hplB9; have hlB : (dnB.map mkQ).length = dnB.length := List.length_map _; rw [List.length_nil] at hplA9 hplB9
   refine r_region ?_
   refine Zo mvS ?_
   refine Zr [.slice _ _ _] rfl η Tryz.func59 (tokens_calls hf htf.tk) ?_
   rintro e w23 ⟨vt23, rfl, hE23, hot23⟩
   refine ⟨_, rfl, ?_⟩
   have Q23 := hE23.size
   replace hV := Z0 hV hE23
   replace hir17 := hir17.evo0 hE23
   replace hoB := hoB.evo0 hE23
   obtain ⟨ao24, g24, cp24, hv24, hr24, hg24⟩ := hot23.rowOf
   subst hv24
   refine Zr [.slice _ _ _] rfl η Tryz.func108 (numbers_calls hr24 ω) ?_
   rintro e w25 ⟨vn25, rfl, hE25, hon25⟩
   refine ⟨_, rfl, ?_⟩
   have Q25 := hE25.size
   replace hV := Z0 hV hE25
   replace hg := hg0 _ hV
   replace hir17 := hir17.evo0 hE25
   replace hoB := hoB.evo0 hE25
   replace hot23 := hot23.evo0 hE25
   replace hr24 := hr24.evo0 hE25
   refine Zo mvS ?_
   refine Zr [.slice _ _ _] rfl η Tryz.func59 (tokens_calls hg htg.tk) ?_
   rintro e w26 ⟨vt26, rfl, hE26, hot26⟩
   refine ⟨_, rfl, ?_⟩
   have Q26 := hE26.size
   replace hV := Z0 hV hE26
   replace hir17 := hir17.evo0 hE26
   replace hoB := hoB.evo0 hE26
   replace hot23 := hot23.evo0 hE26
   replace hr24 := hr24.evo0 hE26
   replace hon25 := hon25.evo0 hE26
   obtain ⟨ao27, g27, cp27, hv27, hr27, hg27⟩ := hot26.rowOf
   subst hv27
   refine Zr [.slice _ _ _] rfl η Tryz.func108 (numbers_calls hr27 ω) ?_
   rintro e w28 ⟨vn28, rfl, hE28, hon28⟩
   refine ⟨_, rfl, ?_⟩
   have Q28 := hE28.size
   replace hV := Z0 hV hE28
   replace hir17 := hir17.evo0 hE28
   replace hoB := hoB.evo0 hE28
   replace hot23 := hot23.evo0 hE28
   replace hr24 := hr24.evo0 hE28
   replace hon25 := hon25.evo0 hE28
   replace hot26 := hot26.evo0 hE28
   replace hr27 := hr27.evo0 hE28
   obtain ⟨ao29, g29, cp29, hv29, hr29, hg29⟩ := hon25.rowOf
   subst hv29
   obtain ⟨ao30, g30, cp30, hv30, hr30, hg30⟩ := hon28.rowOf
   subst hv30
   refine Zr [.slice _ _ _, .slice _ _ _] rfl η Tryz.func105 (differs_calls hr29 hr30 ω ω) ?_
   rintro e w31 ⟨bm31, mm31, rfl, hE31, hbm31, hmp31, hdm31⟩
   refine ⟨_, rfl, ?_⟩
   have Q31 := hE31.size
   replace hV := Z0 hV hE31
   replace hir17 := hir17.evo0 hE31
   replace hoB := hoB.evo0 hE31
   replace hot23 := hot23.evo0 hE31
   replace hr24 := hr24.evo0 hE31
   replace hon25 := hon25.evo0 hE31
   replace hot26 := hot26.evo0 hE31
   replace hr27 := hr27.evo0 hE31
   replace hon28 := hon28.evo0 hE31
   replace hr29 := hr29.evo0 hE31
   replace hr30 := hr30.evo0 hE31
   have hmt31 := hmp31.lt
   refine r_range rfl Tryz.underlying134 η hmp31 ?_
   intro r32 w33 her32 E33 hir32 hzr32
   have Q33 := E33.size
   replace hV := Z0 hV E33
   replace hf := hf0 _ hV
   replace hg := hg0 _ hV
   replace htab := htab0 _ hV
   replace hir17 := hir17.evo0 E33
   replace hoB := hoB.evo0 E33
   replace hot23 := hot23.evo0 E33
   replace hr24 := hr24.evo0 E33
   replace hon25 := hon25.evo0 E33
   replace hot26 := hot26.evo0 E33
   replace hr27 := hr27.evo0 E33
   replace hon28 := hon28.evo0 E33
   replace hr29 := hr29.evo0 E33
   replace hr30 := hr30.evo0 E33
   replace hmp31 := hmp31.evo0 E33
   refine r_nil ?_
   refine r_block ?_
   have hmlC := hdm31.len
   have hriC := hir32.lt; have hrmC := hir32.map.lt
   refine r_loop (α := List (Str × Int)) [0, 11, 12, 56, 57, 58, 59, 60, 61, 62, 63, 64, 65, 66] (fun left g w => ∃ la : Option (Str × Int), ∃ voC : Value, ∃ dnC : List (Str × Int), g 0 = voC ∧ IterIs w r32 bm31 S (Value.int .i64) mm31 left la ∧ OwnE w base 39 voC ((l ++ dnA.map (mkP 3) ++ dnB.map mkQ) ++ dnC.map (mkP 6)) ∧ (∀ g, voC.ownBlock = some g → w0.heap.size ≤ g ∨ g ∈ v.ownBlock.toList) ∧ (∀ g, voC.ownBlock = some g → g ≠ r32 ∧ g ≠ bm31) ∧ (dnC ++ left).Perm mm31 ∧ (r32 < w.heap.size ∧ bm31 < w.heap.size) ∧ w33.heap.size ≤ w.heap.size ∧ Evo w0 w v.ownBlock.toList) (fun left => left.length) mm31 ?_ ?_
   ·refine ⟨_, _, [], rfl, hir32, (by rw [List.map_nil, List.append_nil]; exact hoB), hanB, (fun g hg => by have h7 := hobC g hg; omega), (List.Perm.refl _), ⟨by omega, by omega⟩, δ, hV⟩
   rintro left g w35 ⟨la, voC, dnC, hj36, hir32, hoC, hanC, hdjC, hpmC, hzrC, hzl34, hV⟩
   have hs_w35hV := hV.size
   refine Zk 0 (v := voC) (by exact hj36) ?_
   have hplC := hpmC.length_eq
   rw [List.length_append] at hplC
   have hdlC : (dnC.map (mkP 6)).length = dnC.length := List.length_map _
   refine Zs ?_
   refine r_next rfl η hir32 (fun hn37 => ?_) (fun l1_37 p37 l2_37 w37 hl37 hE37 hz37 hi_new => ?_)
   ·skip
    subst hn37
    refine Zn (run_extract (v := .bool _) rfl η η) ?_
    refine r_seq ?_
    refine r_cond_no η ?_
    refine r_exit rfl ?_
    refine Zs ?_
    refine Zo (run_mv (v := voC) rfl η) ?_
    refine Zn (run_asg (v := voC) rfl η) ?_
    refine r_ret (res1 (v := voC) rfl η) ?_
    exact ⟨_, rfl, hV, ⟨_, _, _, hp1, hp2, difS_perm hdm31 hpmC, by have h9 := hoC; rw [List.append_assoc, List.append_assoc] at h9; exact h9⟩, hanC⟩
   have Q37 := hE37.size
   replace hV := Z1 hV hE37 ε
   replace hg := hg0 _ hV
   replace hoC := hoC.evo hE37 (by intro g hg hm; simp at hm; subst hm; first | exact (hdjC _ hg).1 rfl | exact (hdjC _ hg).2 rfl | (have := hoC.block hg; omega))
   replace hir32 := hi_new
   clear hi_new
   refine Zn (run_extract (v := .bool _) rfl η η) ?_
   refine r_seq ?_
   refine r_cond_yes η ?_
   refine r_skip ?_
   refine r_block ?_
   refine Zs ?_
   refine Zo (run_entryI rfl η hir32) ?_
   refine Zo (run_extract (v := S _) rfl η η) ?_
   refine Zo (run_extract (v := .int _ _) rfl η η) ?_
   refine Zo asT ?_
   refine Zn asI ?_
   refine r_region ?_
   refine Zo (run_mv (v := voC) rfl η) ?_
   refine Zo mvT ?_
   refine Zo mvI ?_
   refine Zo (run_bld (pv := [(0, .int _ _), (1, S _), (2, .int _ _)]) (zs := [_, _, _]) (cells := [_, _, _]) rfl ty_39 η pl_39 η η) ?_
   refine r_append1E (u := .agg _) (y := mkP 6 p37) rfl rfl Tryz.underlying34 ty_39 η hoC (fun _ => η) η (by first | exact rfl | (show _ = List.toArray [_, _, _]; first | (dsimp only; done) | exact rfl | (dsimp only; exact rfl))) ((by first | omega | (simp only [List.length_append]; omega))) ((by first | omega | (simp only [List.length_append]; omega))) ω ?_
   intro q_v38 v38 w39 E39 hov38 hlv38
   have Q39 := E39.size
   replace hV := evo_stepo hV E39 (fun g hg => hanC g hg)
   replace hf := hf0 _ hV
   replace hg := hg0 _ hV
   replace htab := htab0 _ hV
   replace hir32 := hir32.evo E39 (by intro hm; have hm2 := Option.mem_toList.1 hm; first | exact (hdjC _ hm2).1 rfl | exact (hdjC _ hm2).2 rfl) (by intro hm; have hm2 := Option.mem_toList.1 hm; first | exact (hdjC _ hm2).1 rfl | exact (hdjC _ hm2).2 rfl)
   replace hanC := own_anch hlv38 hanC ω
   replace hdjC := own_apart hlv38 hdjC ω ω
   have hoC := hov38
   refine Zn (run_asg (v := v38) rfl η) ?_
   refine r_blk ?_
   refine r_again (l1_37 ++ l2_37) ?_ ?_ ?_
   ·rw [hl37]; simp
   ·refine ⟨_, _, _, rfl, hir32, (by rw [app_map]; exact hoC), hanC, hdjC, (mdone (by rw [← hl37]; exact hpmC)), ⟨by omega, by omega⟩, δ, hV⟩
   exact ψ
  have Q22 := hE22.size
  replace hV := Z1 hV hE22 ε
  replace hg := hg0 _ hV
  replace hoB := hoB.evo hE22 (by intro g hg hm; simp at hm; subst hm; first | exact (hdjB _ hg).1 rfl | exact (hdjB _ hg).2 rfl | (have := hoB.block hg; omega))
  replace hir17 := hi_new
  clear hi_new
  refine Zn (run_extract (v := .bool _) rfl η η) ?_
  refine r_seq ?_
  refine r_cond_yes η ?_
  refine r_skip ?_
  refine r_block ?_
  refine Zs ?_
  refine Zo (run_entryI rfl η hir17) ?_
  refine Zo (run_extract (v := .agg _) rfl η η) ?_
  refine Zo (run_extract (v := .int _ _) rfl η η) ?_
  have hob40 := fun g hg => (hoB.block (g := g) hg).2
  refine r_var (zs := [_, _, _]) (vs := [_, _, _]) ty_32 η rfl η (fun _ => rfl) η rfl rfl η ?_
  intro b41 w42 J41 E42 B41 Y41
  have Q42 := E42.size
  replace hV := Z0 hV E42
  replace htab := htab0 _ hV
  replace hoB := hoB.evo0 E42
  replace hir17 := hir17.evo0 E42
  refine Zn asI ?_
  have hpx := hpmB.mem_iff.1 (List.mem_append_right dnB (show p22 ∈ left by rw [hl22]; simp))
  have hpt : p22.1 ∈ f ∨ p22.1 ∈ gg := (difM_mem hdm16 hpx).imp (fun h => (List.mem_filter.1 h).1) (fun h => (List.mem_filter.1 h).1)
  have hxi : InR p22.1 := (difM_mem hdm16 hpx).elim (hif _) (hig _)
  have hxt : p22.1.text.length ≤ 100000 := hpt.elim htf.txt htg.txt
  refine r_region ?_
  refine Zo (run_mv (v := voB) rfl η) ?_
  refine Zo (run_ldN rfl ag_32 ty_32 η rfl B41.at) ?_
  refine Zr [.agg _] rfl η Tryz.func107 (tag_calls htab hxt hxi) ?_
  rintro e w43 ⟨rfl, hE43⟩
  refine ⟨_, rfl, ?_⟩
  have Q43 := hE43.size
  replace hV := Z0 hV hE43
  replace hg := hg0 _ hV
  replace hoB := hoB.evo0 hE43
  replace hir17 := hir17.evo0 hE43
  refine Zo mvI ?_
  refine Zo (run_bld (pv := [(0, .int _ _), (1, S _), (2, .int _ _)]) (zs := [_, _, _]) (cells := [_, _, _]) rfl ty_39 η pl_39 η η) ?_
  refine r_append1E (u := .agg _) (y := mkQ p22) rfl rfl Tryz.underlying34 ty_39 η hoB (fun _ => η) η (by first | exact rfl | (show _ = List.toArray [_, _, _]; first | (dsimp only; done) | exact rfl | (dsimp only; exact rfl))) ((by first | omega | (simp only [List.length_append]; omega))) ((by first | omega | (simp only [List.length_append]; omega))) ω ?_
  intro q_v44 v44 w45 E45 hov44 hlv44
  have Q45 := E45.size
  replace hV := evo_stepo hV E45 (fun g hg => hanB g hg)
  replace hf := hf0 _ hV
  replace hg := hg0 _ hV
  replace htab := htab0 _ hV
  replace hir17 := hir17.evo E45 (by intro hm; have hm2 := Option.mem_toList.1 hm; first | exact (hdjB _ hm2).1 rfl | exact (hdjB _ hm2).2 rfl) (by intro hm; have hm2 := Option.mem_toList.1 hm; first | exact (hdjB _ hm2).1 rfl | exact (hdjB _ hm2).2 rfl)
  replace hanB := own_anch hlv44 hanB ω
  replace hdjB := own_apart hlv44 hdjB ω ω
  have hoB := hov44
  refine Zn (run_asg (v := v44) rfl η) ?_
  refine r_blk ?_
  refine r_again (l1_22 ++ l2_22) ?_ ?_ ?_
  ·rw [hl22]; simp
  ·refine ⟨_, _, _, rfl, hir17, (by rw [app_map]; exact hoB), hanB, hdjB, (mdone (by rw [← hl22]; exact hpmB)), ⟨by omega, by omega⟩, δ, hV⟩
  exact ψ
 have Q11 := hE11.size
 replace hV := Z1 hV hE11 ε
 replace hg := hg0 _ hV
 replace hoA := hoA.evo hE11 (by intro g hg hm; simp at hm; subst hm; first | exact (hdjA _ hg).1 rfl | exact (hdjA _ hg).2 rfl | (have := hoA.block hg; omega))
 replace hir6 := hi_new
 clear hi_new
 refine Zn (run_extract (v := .bool _) rfl η η) ?_
 refine r_seq ?_
 refine r_cond_yes η ?_
 refine r_skip ?_
 refine r_block ?_
 refine Zs ?_
 refine Zo (run_entryI rfl η hir6) ?_
 refine Zo (run_extract (v := S _) rfl η η) ?_
 refine Zo (run_extract (v := .int _ _) rfl η η) ?_
 refine Zo asT ?_
 refine Zn asI ?_
 refine r_region ?_
 refine Zo (run_mv (v := voA) rfl η) ?_
 refine Zo mvT ?_
 refine Zo mvI ?_
 refine Zo (run_bld (pv := [(0, .int _ _), (1, S _), (2, .int _ _)]) (zs := [_, _, _]) (cells := [_, _, _]) rfl ty_39 η pl_39 η η) ?_
 refine r_append1E (u := .agg _) (y := mkP 3 p11) rfl rfl Tryz.underlying34 ty_39 η hoA (fun _ => η) η (by first | exact rfl | (show _ = List.toArray [_, _, _]; first | (dsimp only; done) | exact rfl | (dsimp only; exact rfl))) ((by first | omega | (simp only [List.length_append]; omega))) ((by first | omega | (simp only [List.length_append]; omega))) ω ?_
 intro q_v46 v46 w47 E47 hov46 hlv46
 have Q47 := E47.size
 replace hV := evo_stepo hV E47 (fun g hg => hanA g hg)
 replace hf := hf0 _ hV
 replace hg := hg0 _ hV
 replace htab := htab0 _ hV
 replace hir6 := hir6.evo E47 (by intro hm; have hm2 := Option.mem_toList.1 hm; first | exact (hdjA _ hm2).1 rfl | exact (hdjA _ hm2).2 rfl) (by intro hm; have hm2 := Option.mem_toList.1 hm; first | exact (hdjA _ hm2).1 rfl | exact (hdjA _ hm2).2 rfl)
 replace hanA := own_anch hlv46 hanA ω
 replace hdjA := own_apart hlv46 hdjA ω ω
 have hoA := hov46
 refine Zn (run_asg (v := v46) rfl η) ?_
 refine r_blk ?_
 refine r_again (l1_11 ++ l2_11) ?_ ?_ ?_
 ·rw [hl11]; simp
 ·refine ⟨_, _, _, rfl, hir6, (by rw [app_map]; exact hoA), hanA, hdjA, (mdone (by rw [← hl11]; exact hpmA)), ⟨by omega, by omega⟩, δ, hV⟩
 exact ψ
theorem shp_iff2 {f g : List Vc.Item} : ((¬((shapeL f).isSome = true ↔ (shapeL g).isSome = true) ∨ ¬ shC f = shC g) ∨ ¬ shO f = shO g) ↔ (((shapeL f).isSome ≠ (shapeL g).isSome ∨ ¬ sC f = sC g) ∨ ¬ sO f = sO g) := by
  have h1 : (¬((shapeL f).isSome = true ↔ (shapeL g).isSome = true)) ↔ ((shapeL f).isSome ≠ (shapeL g).isSome) := by rw [← Bool.eq_iff_iff]
  rw [h1]; exact Iff.rfl
set_option maxHeartbeats 1000000 in
theorem nested_calls {v : Value} {base : Nat} {l : List Vc.Item} {aof : Option Addr} {bf of9 capf : Nat} {f : List Vc.Item} {aog : Option Addr} {bg og capg : Nat} {gg : List Vc.Item} {w0 : World} (hol : OwnE w0 base 39 v l) (hbs : base ≤ w0.heap.size) (hf : ∀ w9, Evo w0 w9 v.ownBlock.toList → RowE w9 aof bf of9 capf f) (hg : ∀ w9, Evo w0 w9 v.ownBlock.toList → RowE w9 aog bg og capg gg) (htf : Tiny f) (htg : Tiny gg) (hsl : l.length ≤ 10000000) :
    Calls Tryz.prog 64 #[v, .slice aof f.length capf, .slice aog gg.length capg] w0 fun e w' => ∃ v', e = .returned v' ∧ Evo w0 w' v.ownBlock.toList ∧ (OwnE w' base 39 v' (l ++ shapeF f gg)) ∧ (∀ g, v'.ownBlock = some g → w0.heap.size ≤ g ∨ g ∈ v.ownBlock.toList) := by
 have hanA : (∀ g, v.ownBlock = some g → w0.heap.size ≤ g ∨ g ∈ v.ownBlock.toList) := fun g hg => .inr (Option.mem_toList.2 hg)
 refine calls_enter (n := 45) Tryz.func64 rfl Tryz.ntmps64 rfl ?_
 have hV : Evo w0 w0 v.ownBlock.toList := Evo.refl _ _
 have hf0 := hf
 replace hf := hf0 _ hV
 have hbd_hf := hf.bd
 have hg0 := hg
 replace hg := hg0 _ hV
 have hbd_hg := hg.bd
 refine Zs ?_
 refine Zn asS ?_
 refine Zs ?_
 refine Zo mvS ?_
 refine Zr [.slice _ _ _] rfl η Tryz.func23 (shape_calls hf htf.small) ?_
 rintro e w1 ⟨vp1, vq1, rfl, hE1, hop1, hoq1⟩
 refine ⟨_, rfl, ?_⟩
 have Q1 := hE1.size
 replace hV := Z0 hV hE1
 replace hol := hol.evo0 hE1
 replace hg := hg0 _ hV
 refine Zo mvU ?_
 refine Zo (run_extract (v := vp1) rfl η η) ?_
 refine Zo (run_extract (v := vq1) rfl η η) ?_
 refine Zo (run_extract (v := .bool _) rfl η η) ?_
 refine Zo (run_asg (v := vp1) rfl η) ?_
 refine Zo (run_asg (v := vq1) rfl η) ?_
 refine Zn asB ?_
 refine Zs ?_
 refine Zo mvS ?_
 refine Zr [.slice _ _ _] rfl η Tryz.func23 (shape_calls hg htg.small) ?_
 rintro e w2 ⟨vp2, vq2, rfl, hE2, hop2, hoq2⟩
 refine ⟨_, rfl, ?_⟩
 have Q2 := hE2.size
 replace hV := Z0 hV hE2
 replace hol := hol.evo0 hE2
 replace hg := hg0 _ hV
 replace hop1 := hop1.evo0 hE2
 replace hoq1 := hoq1.evo0 hE2
 refine Zo mvU ?_
 refine Zo (run_extract (v := vp2) rfl η η) ?_
 refine Zo (run_extract (v := vq2) rfl η η) ?_
 refine Zo (run_extract (v := .bool _) rfl η η) ?_
 refine Zo (run_asg (v := vp2) rfl η) ?_
 refine Zo (run_asg (v := vq2) rfl η) ?_
 refine Zn asB ?_
 refine r_seq ?_
 refine Zs ?_
 refine Zo (run_mvb rfl η) ?_
 refine Zo (run_mvb rfl η) ?_
 refine Zo (run_bneq rfl Tryz.underlying4 η η) ?_
 refine Zo mvB ?_
 refine r_g rfl (wantF η) rfl (fun hg => run_mv (v := vp1) rfl η) ?_
 refine r_g rfl (wantF η) rfl (fun hg => run_mv (v := vp2) rfl η) ?_
 obtain ⟨ao3, g3, cp3, hv3, hr3, hg3⟩ := hop1.rowOf
 subst hv3
 obtain ⟨ao4, g4, cp4, hv4, hr4, hg4⟩ := hop2.rowOf
 subst hv4
 refine r_gcall rfl (wantF η) rfl (fun hg => run_callf rfl (argcons (v := .slice _ _ _) (glv η (fun h => h) hg) (argcons (v := .slice _ _ _) (glv η (fun h => h) hg) (rfl))) Tryz.func45 rfl ζ) (fun hg => (sleqi_calls hr3 hr4).mono (fun e w' h => ⟨h.1, h.2⟩)) (fun w5 hE6 => ?_)
 have Q5 := hE6.size
 replace hV := Z0 hV hE6
 replace hol := hol.evo0 hE6
 replace hg := hg0 _ hV
 replace hoq1 := hoq1.evo0 hE6
 replace hoq2 := hoq2.evo0 hE6
 refine r_g rfl (wantF η) rfl (fun hg => run_not rfl (glv η (fun h => h) hg)) ?_
 refine Zo (run_pick_or rfl η rfl (fun hq => glv η (fun h => h) hq)) ?_
 refine Zo mvB ?_
 refine r_g rfl (wantF η) rfl (fun hg => run_mv (v := vq1) rfl η) ?_
 refine r_g rfl (wantF η) rfl (fun hg => run_mv (v := vq2) rfl η) ?_
 obtain ⟨ao7, g7, cp7, hv7, hr7, hg7⟩ := hoq1.rowOf
 subst hv7
 obtain ⟨ao8, g8, cp8, hv8, hr8, hg8⟩ := hoq2.rowOf
 subst hv8
 refine r_gcall rfl (wantF η) rfl (fun hg => run_callf rfl (argcons (v := .slice _ _ _) (glv η (fun h => h) hg) (argcons (v := .slice _ _ _) (glv η (fun h => h) hg) (rfl))) Tryz.func45 rfl ζ) (fun hg => (sleqi_calls hr7 hr8).mono (fun e w' h => ⟨h.1, h.2⟩)) (fun w9 hE10 => ?_)
 have Q9 := hE10.size
 replace hV := Z0 hV hE10
 replace hol := hol.evo0 hE10
 replace hg := hg0 _ hV
 refine r_g rfl (wantF η) rfl (fun hg => run_not rfl (glv η (fun h => h) hg)) ?_
 refine Zn (run_pick_or rfl η rfl (fun hq => glv η (fun h => h) hq)) ?_
 refine r_cond η (fun hc11 => ?_) (fun hc11 => ?_)
 ·skip
  refine r_region ?_
  refine Zo (run_mv (v := v) rfl η) ?_
  refine Zo (run_bld (pv := [(0, .int _ _)]) (zs := [_, _, _]) (cells := [_, _, _]) rfl ty_39 η pl_39 η η) ?_
  refine r_append1E (u := .agg _) (y := (⟨5, [], 0⟩ : Vc.Item)) rfl rfl Tryz.underlying34 ty_39 η hol (fun _ => η) η (by first | exact rfl | (show _ = List.toArray [_, _, _]; first | (dsimp only; done) | exact rfl | (dsimp only; exact rfl))) ((by first | omega | (simp only [List.length_append]; omega))) ((by first | omega | (simp only [List.length_append]; omega))) ω ?_
  intro q_v12 v12 w13 E13 hov12 hlv12
  have Q13 := E13.size
  replace hV := evo_stepo hV E13 (fun g hg => hanA g hg)
  replace hanA := own_anch hlv12 hanA ω
  have hol := hov12
  refine Zn (run_asg (v := v12) rfl η) ?_
  refine Zs ?_
  refine Zo (run_mv (v := v12) rfl η) ?_
  refine Zn (run_asg (v := v12) rfl η) ?_
  refine r_ret (res1 (v := v12) rfl η) ?_
  exact ⟨_, rfl, hV, by first | (rw [show shapeF f gg = _ from if_pos (shp_iff2.1 hc11)]; exact hol) | (rw [show shapeF f gg = [] from if_neg (fun q9 => hc11 (shp_iff2.2 q9)), List.append_nil]; exact hol), hanA⟩
 refine r_skip ?_
 refine Zs ?_
 refine Zo (run_mv (v := v) rfl η) ?_
 refine Zn (run_asg (v := v) rfl η) ?_
 refine r_ret (res1 (v := v) rfl η) ?_
 exact ⟨_, rfl, hV, by first | (rw [show shapeF f gg = _ from if_pos (shp_iff2.1 hc11)]; exact hol) | (rw [show shapeF f gg = [] from if_neg (fun q9 => hc11 (shp_iff2.2 q9)), List.append_nil]; exact hol), hanA⟩
set_option maxHeartbeats 1000000 in
theorem oplain_calls {v : Value} {base : Nat} {l : List Vc.Item} {l0 l1 l2 l3 l4 l5 l6 l7 l8 l9 l10 l11 l12 sh lo : Int} {aot : Option Addr} {bt ot capt : Nat} {ts : List TermL} {aoc : Option Addr} {bc oc capc : Nat} {cl : List Clas} {s t : Str} {w0 : World} (hol : OwnE w0 base 39 v l) (hbs : base ≤ w0.heap.size) (hts : RowRK w0 v.ownBlock.toList aot bt ot capt ts) (hcl : RowRK w0 v.ownBlock.toList aoc bc oc capc cl) (hn : (0 ≤ sh ∧ sh ≤ 100) ∧ (lo = 0 ∨ (100 ≤ lo ∧ lo ≤ 10000))) (hsl : l.length ≤ 100000000) (hs : s.length ≤ 101000) (ht : t.length ≤ 101000) :
    Calls Tryz.prog 65 #[v, .agg #[.int .i64 l0, .int .i64 l1, .int .i64 l2, .int .i64 l3, .int .i64 l4, .int .i64 l5, .int .i64 l6, .int .i64 l7, .int .i64 l8, .int .i64 l9, .int .i64 l10, .int .i64 l11, .int .i64 l12, .int .i64 sh, .int .i64 lo, .slice aot ts.length capt, .slice aoc cl.length capc], S s, S t] w0 fun e w' => ∃ v', e = .returned v' ∧ Evo w0 w' v.ownBlock.toList ∧ (OwnE w' base 39 v' (l ++ plainF (⟨[l0, l1, l2, l3, l4, l5, l6, l7, l8, l9, l10, l11, l12], sh, lo, ts, cl⟩ : Chk) s t)) ∧ (∀ g, v'.ownBlock = some g → w0.heap.size ≤ g ∨ g ∈ v.ownBlock.toList) := by
 have hanA : (∀ g, v.ownBlock = some g → w0.heap.size ≤ g ∨ g ∈ v.ownBlock.toList) := fun g hg => .inr (Option.mem_toList.2 hg); have hob0 := fun g hg => (hol.block (g := g) hg).2
 refine calls_enter (n := 106) Tryz.func65 rfl Tryz.ntmps65 rfl ?_
 have hV : Evo w0 w0 v.ownBlock.toList := Evo.refl _ _
 have hts0 := hts
 replace hts := hts0.now hV
 have hbd_hts := hts.bd
 have hcl0 := hcl
 replace hcl := hcl0.now hV
 have hbd_hcl := hcl.bd
 refine Zs ?_
 have hob1 := fun g hg => (hol.block (g := g) hg).2
 refine r_box (vs := [_, _, _, _, _, _, _, _, _, _, _, _, _, _, _, _, _]) η η rfl ?_
 intro b2 w3 J2 E3 B2 Y2
 have Q3 := E3.size
 replace hV := Z0 hV E3
 replace hol := hol.evo0 E3
 have hAb2 := B2.at
 refine Zn asS ?_
 refine r_seq ?_
 have hdb : ∀ g, v.ownBlock = some g → g ≠ b2 := fun g hg => by have h7 := hob0 g hg; omega
 have : (edgeA s t).length ≤ 1 := if1_len
 have : (edgeB s t).length ≤ 1 := if1_len
 have : (dblF t).length ≤ 1 := if1_len
 have : (signF s t).length ≤ 1 := if1_len
 have : (longF (⟨[l0, l1, l2, l3, l4, l5, l6, l7, l8, l9, l10, l11, l12], sh, lo, ts, cl⟩ : Chk) s t).length ≤ 1 := if1_len
 have : (shortF (⟨[l0, l1, l2, l3, l4, l5, l6, l7, l8, l9, l10, l11, l12], sh, lo, ts, cl⟩ : Chk) s t).length ≤ 1 := if1_len
 have hmA := hlo_bd hn.2 (show s.length ≤ 101000 by omega); have hmB := mul_bd hn.1.1 (show sh ≤ 10000 by omega) (show (0 : Int) ≤ (s.length : Nat) by omega) (show ((s.length : Nat) : Int) ≤ 101000 by omega)
 refine r_region ?_
 refine Zo mvT ?_
 refine Zr [S _] rfl η Tryz.func109 (edges_calls ω) ?_
 rintro e w4 ⟨rfl, hE4⟩
 refine ⟨_, rfl, ?_⟩
 have Q4 := hE4.size
 replace hV := Z0 hV hE4
 replace hol := hol.evo0 hE4
 replace B2 := B2.evo0 hE4
 replace hAb2 := hAb2.evo0 hE4
 refine Zo mvU ?_
 refine Zo (run_extract (v := S _) rfl η η) ?_
 refine Zo (run_extract (v := S _) rfl η η) ?_
 refine Zo asT ?_
 refine Zn asT ?_
 refine Zs ?_
 refine Zo mvT ?_
 refine Zr [S _] rfl η Tryz.func109 (edges_calls ω) ?_
 rintro e w5 ⟨rfl, hE5⟩
 refine ⟨_, rfl, ?_⟩
 have Q5 := hE5.size
 replace hV := Z0 hV hE5
 replace hol := hol.evo0 hE5
 replace hts := hts0.now hV
 replace hcl := hcl0.now hV
 replace B2 := B2.evo0 hE5
 replace hAb2 := hAb2.evo0 hE5
 refine Zo mvU ?_
 refine Zo (run_extract (v := S _) rfl η η) ?_
 refine Zo (run_extract (v := S _) rfl η η) ?_
 refine Zo asT ?_
 refine Zn asT ?_
 refine r_seq ?_
 refine Zs ?_
 refine Zo mvT ?_
 refine Zo mvT ?_
 refine Zn (run_sneq rfl η η) ?_
 refine r_cut [0, 28, 29, 30, 31] (fun g w => ∃ vo : Value, g 0 = vo ∧ OwnE w base 39 vo (l ++ (edgeA s t)) ∧ (∀ g, vo.ownBlock = some g → w0.heap.size ≤ g ∨ g ∈ v.ownBlock.toList) ∧ (∀ g, vo.ownBlock = some g → g ≠ b2) ∧ Blk w b2 28 [.int .i64 l0, .int .i64 l1, .int .i64 l2, .int .i64 l3, .int .i64 l4, .int .i64 l5, .int .i64 l6, .int .i64 l7, .int .i64 l8, .int .i64 l9, .int .i64 l10, .int .i64 l11, .int .i64 l12, .int .i64 sh, .int .i64 lo, .slice aot ts.length capt, .slice aoc cl.length capc] ∧ At w b2 0 [.int .i64 l0, .int .i64 l1, .int .i64 l2, .int .i64 l3, .int .i64 l4, .int .i64 l5, .int .i64 l6, .int .i64 l7, .int .i64 l8, .int .i64 l9, .int .i64 l10, .int .i64 l11, .int .i64 l12, .int .i64 sh, .int .i64 lo, .slice aot ts.length capt, .slice aoc cl.length capc] ∧ w5.heap.size ≤ w.heap.size ∧ Evo w0 w v.ownBlock.toList) ?_ ?_
 ·skip
  refine r_cond η (fun hc7 => ?_) (fun hc7 => ?_)
  ·skip
   refine r_region ?_
   refine Zo (run_mv (v := v) rfl η) ?_
   refine Zo (run_bld (pv := [(0, .int _ _), (1, S _)]) (zs := [_, _, _]) (cells := [_, _, _]) rfl ty_39 η pl_39 η η) ?_
   refine r_append1E (u := .agg _) (y := (⟨7, begW, 0⟩ : Vc.Item)) rfl rfl Tryz.underlying34 ty_39 η hol (fun _ => η) η (by first | exact rfl | (show _ = List.toArray [_, _, _]; first | (dsimp only; done) | exact rfl | (dsimp only; exact rfl))) ((by first | omega | (simp only [List.length_append]; omega))) ((by first | omega | (simp only [List.length_append]; omega))) ω ?_
   intro q_v8 v8 w9 E9 hov8 hlv8
   have Q9 := E9.size
   replace hV := evo_stepo hV E9 (fun g hg => hanA g hg)
   replace hts := hts0.now hV
   replace hcl := hcl0.now hV
   replace B2 := B2.evo E9 (by intro hm; have hm2 := Option.mem_toList.1 hm; exact hdb _ hm2 rfl)
   replace hAb2 := hAb2.evo E9 (by intro hm; have hm2 := Option.mem_toList.1 hm; exact hdb _ hm2 rfl)
   replace hdb := own_ne hlv8 hdb ω
   replace hanA := own_anch hlv8 hanA ω
   have hol := hov8
   refine Zn (run_asg (v := v8) rfl η) ?_
   refine r_cut_end ?_ ?_
   ·refine ⟨_, rfl, (by first | (rw [show (edgeA s t) = _ from if_pos hc7]; exact hol) | (rw [show (edgeA s t) = [] from if_neg hc7, List.append_nil]; exact hol)), hanA, hdb, B2, B2.at, δ, hV⟩
   exact ψ
  refine r_skip ?_
  refine r_cut_end ?_ ?_
  ·refine ⟨_, rfl, (by first | (rw [show (edgeA s t) = _ from if_pos hc7]; exact hol) | (rw [show (edgeA s t) = [] from if_neg hc7, List.append_nil]; exact hol)), hanA, hdb, B2, B2.at, δ, hV⟩
  exact ψ
 rintro g w10 ⟨vo, hj11, hol, hanA, hdb, B2, hAb2, hzl6, hV⟩
 have hs_w10hV := hV.size
 have hlt12 := B2.lt
 replace hts := hts0.now hV
 replace hcl := hcl0.now hV
 refine Zk 0 (v := vo) (by exact hj11) ?_
 refine r_seq ?_
 refine Zs ?_
 refine Zo mvT ?_
 refine Zo mvT ?_
 refine Zn (run_sneq rfl η η) ?_
 refine r_cut [0, 35, 36, 37, 38] (fun g w => ∃ vo : Value, g 0 = vo ∧ OwnE w base 39 vo ((l ++ (edgeA s t)) ++ (edgeB s t)) ∧ (∀ g, vo.ownBlock = some g → w0.heap.size ≤ g ∨ g ∈ v.ownBlock.toList) ∧ (∀ g, vo.ownBlock = some g → g ≠ b2) ∧ Blk w b2 28 [.int .i64 l0, .int .i64 l1, .int .i64 l2, .int .i64 l3, .int .i64 l4, .int .i64 l5, .int .i64 l6, .int .i64 l7, .int .i64 l8, .int .i64 l9, .int .i64 l10, .int .i64 l11, .int .i64 l12, .int .i64 sh, .int .i64 lo, .slice aot ts.length capt, .slice aoc cl.length capc] ∧ At w b2 0 [.int .i64 l0, .int .i64 l1, .int .i64 l2, .int .i64 l3, .int .i64 l4, .int .i64 l5, .int .i64 l6, .int .i64 l7, .int .i64 l8, .int .i64 l9, .int .i64 l10, .int .i64 l11, .int .i64 l12, .int .i64 sh, .int .i64 lo, .slice aot ts.length capt, .slice aoc cl.length capc] ∧ w10.heap.size ≤ w.heap.size ∧ Evo w0 w v.ownBlock.toList) ?_ ?_
 ·skip
  refine r_cond η (fun hc14 => ?_) (fun hc14 => ?_)
  ·skip
   refine r_region ?_
   refine Zo (run_mv (v := vo) rfl η) ?_
   refine Zo (run_bld (pv := [(0, .int _ _), (1, S _)]) (zs := [_, _, _]) (cells := [_, _, _]) rfl ty_39 η pl_39 η η) ?_
   refine r_append1E (u := .agg _) (y := (⟨7, endW, 0⟩ : Vc.Item)) rfl rfl Tryz.underlying34 ty_39 η hol (fun _ => η) η (by first | exact rfl | (show _ = List.toArray [_, _, _]; first | (dsimp only; done) | exact rfl | (dsimp only; exact rfl))) ((by first | omega | (simp only [List.length_append]; omega))) ((by first | omega | (simp only [List.length_append]; omega))) ω ?_
   intro q_v15 v15 w16 E16 hov15 hlv15
   have Q16 := E16.size
   replace hV := evo_stepo hV E16 (fun g hg => hanA g hg)
   replace hts := hts0.now hV
   replace hcl := hcl0.now hV
   replace B2 := B2.evo E16 (by intro hm; have hm2 := Option.mem_toList.1 hm; exact hdb _ hm2 rfl)
   replace hAb2 := hAb2.evo E16 (by intro hm; have hm2 := Option.mem_toList.1 hm; exact hdb _ hm2 rfl)
   replace hdb := own_ne hlv15 hdb ω
   replace hanA := own_anch hlv15 hanA ω
   have hol := hov15
   refine Zn (run_asg (v := v15) rfl η) ?_
   refine r_cut_end ?_ ?_
   ·refine ⟨_, rfl, (by first | (rw [show (edgeB s t) = _ from if_pos hc14]; exact hol) | (rw [show (edgeB s t) = [] from if_neg hc14, List.append_nil]; exact hol)), hanA, hdb, B2, B2.at, δ, hV⟩
   exact ψ
  refine r_skip ?_
  refine r_cut_end ?_ ?_
  ·refine ⟨_, rfl, (by first | (rw [show (edgeB s t) = _ from if_pos hc14]; exact hol) | (rw [show (edgeB s t) = [] from if_neg hc14, List.append_nil]; exact hol)), hanA, hdb, B2, B2.at, δ, hV⟩
  exact ψ
 rintro g w17 ⟨vo, hj18, hol, hanA, hdb, B2, hAb2, hzl13, hV⟩
 have hs_w17hV := hV.size
 have hlt19 := B2.lt
 replace hts := hts0.now hV
 replace hcl := hcl0.now hV
 refine Zk 0 (v := vo) (by exact hj18) ?_
 refine Zs ?_
 refine Zn asI ?_
 refine r_seq ?_
 refine Zs ?_
 refine Zo mvT ?_
 refine Zo (run_lenS rfl η Tryz.underlying9) ?_
 refine Zn mvI ?_
 refine r_block ?_
 refine r_loop (α := Nat) [13, 14, 41, 42, 43, 44, 45, 46, 47, 48, 49, 50] (fun k g w => g 41 = .int .i64 (k : Nat) ∧ g 13 = .int .i64 (dblK t k : Nat) ∧ k ≤ t.length ∧ Blk w b2 28 [.int .i64 l0, .int .i64 l1, .int .i64 l2, .int .i64 l3, .int .i64 l4, .int .i64 l5, .int .i64 l6, .int .i64 l7, .int .i64 l8, .int .i64 l9, .int .i64 l10, .int .i64 l11, .int .i64 l12, .int .i64 sh, .int .i64 lo, .slice aot ts.length capt, .slice aoc cl.length capc] ∧ At w b2 0 [.int .i64 l0, .int .i64 l1, .int .i64 l2, .int .i64 l3, .int .i64 l4, .int .i64 l5, .int .i64 l6, .int .i64 l7, .int .i64 l8, .int .i64 l9, .int .i64 l10, .int .i64 l11, .int .i64 l12, .int .i64 sh, .int .i64 lo, .slice aot ts.length capt, .slice aoc cl.length capc] ∧ OwnE w base 39 vo ((l ++ (edgeA s t)) ++ (edgeB s t)) ∧ w17.heap.size ≤ w.heap.size ∧ Evo w0 w v.ownBlock.toList) (fun k => t.length - k) 0 ?_ ?_
 ·refine ⟨σ, rfl, δ, B2, B2.at, hol, δ, hV⟩
 rintro k g w21 ⟨hj22, hj23, hk_k, B2, hAb2, hol, hzl20, hV⟩
 have hs_w21hV := hV.size
 have hlt24 := B2.lt
 replace hts := hts0.now hV
 replace hcl := hcl0.now hV
 refine Zk 41 (v := .int .i64 (k : Nat)) (by exact hj22) ?_
 refine Zk 13 (v := .int .i64 (dblK t k : Nat)) (by exact hj23) ?_
 have hkl := dblK_le t k
 refine Zs ?_
 refine Zn (run_lss rfl η η) ?_
 refine r_seq ?_
 refine r_cond η (fun hc25 => ?_) (fun hc25 => ?_)
 ·skip
  refine r_skip ?_
  refine r_seq ?_
  refine r_block ?_
  refine Zs ?_
  refine Zo mvI ?_
  refine Zn asI ?_
  refine Zs ?_
  refine Zo mvT ?_
  refine Zo mvI ?_
  refine Zo (by exact run_slS (k) (_) rfl Tryz.underlying9 η (at1 η ω) hi0 (by first | omega | (simp; omega)) (by first | omega | (simp; omega))) ?_
  refine Zr [S _, S _] rfl η Tryz.func110 (s_hp_calls θ (by decide)) ?_
  rintro e w26 ⟨rfl, hE26⟩
  refine ⟨_, rfl, ?_⟩
  have Q26 := hE26.size
  replace hV := Z0 hV hE26
  replace hts := hts0.now hV
  replace hcl := hcl0.now hV
  replace B2 := B2.evo0 hE26
  replace hAb2 := hAb2.evo0 hE26
  replace hol := hol.evo0 hE26
  refine r_nil ?_
  refine r_condb η (fun hc27 => ?_) (fun hc27 => ?_)
  ·skip
   refine r_region ?_
   refine Zo mvI ?_
   refine Zo (run_add rfl η η ω ω) ?_
   refine Zn asI ?_
   refine r_blk ?_
   refine r_region ?_
   refine Zo (run_add rfl η η ω ω) ?_
   refine Zn mvI ?_
   refine r_again (k + 1) ?_ ?_ ?_
   ·first | omega | (dsimp only; omega)
   ·refine ⟨σ, (by first | exact congrArg (Value.int _) (by rw [dblP_yes ω (by have h9 := hc27; rw [cut_hi] at h9; simpa using h9)]; omega) | exact congrArg (Value.int _) (by rw [dblP_no ω (by have h9 := hc27; rw [cut_hi] at h9; simpa using h9)])), δ, B2, B2.at, hol, δ, hV⟩
   exact ψ
  refine r_skip ?_
  refine r_blk ?_
  refine r_region ?_
  refine Zo (run_add rfl η η ω ω) ?_
  refine Zn mvI ?_
  refine r_again (k + 1) ?_ ?_ ?_
  ·first | omega | (dsimp only; omega)
  ·refine ⟨σ, (by first | exact congrArg (Value.int _) (by rw [dblP_yes ω (by have h9 := hc27; rw [cut_hi] at h9; simpa using h9)]; omega) | exact congrArg (Value.int _) (by rw [dblP_no ω (by have h9 := hc27; rw [cut_hi] at h9; simpa using h9)])), δ, B2, B2.at, hol, δ, hV⟩
  exact ψ
 refine r_exit rfl ?_
 refine r_seq ?_
 refine r_seq ?_
 have hde : dblK t k = dblN t := by rw [show k = t.length by omega]; rfl
 refine Zk 13 (v := .int .i64 (dblN t : Nat)) (by rw [← hde]; exact rfl) ?_
 refine r_region ?_
 refine Zo mvI ?_
 refine Zn (run_gtr rfl η η) ?_
 refine r_cut [0, 53, 54, 55, 56, 57] (fun g w => ∃ vo : Value, g 0 = vo ∧ OwnE w base 39 vo (((l ++ (edgeA s t)) ++ (edgeB s t)) ++ (dblF t)) ∧ (∀ g, vo.ownBlock = some g → w0.heap.size ≤ g ∨ g ∈ v.ownBlock.toList) ∧ (∀ g, vo.ownBlock = some g → g ≠ b2) ∧ Blk w b2 28 [.int .i64 l0, .int .i64 l1, .int .i64 l2, .int .i64 l3, .int .i64 l4, .int .i64 l5, .int .i64 l6, .int .i64 l7, .int .i64 l8, .int .i64 l9, .int .i64 l10, .int .i64 l11, .int .i64 l12, .int .i64 sh, .int .i64 lo, .slice aot ts.length capt, .slice aoc cl.length capc] ∧ At w b2 0 [.int .i64 l0, .int .i64 l1, .int .i64 l2, .int .i64 l3, .int .i64 l4, .int .i64 l5, .int .i64 l6, .int .i64 l7, .int .i64 l8, .int .i64 l9, .int .i64 l10, .int .i64 l11, .int .i64 l12, .int .i64 sh, .int .i64 lo, .slice aot ts.length capt, .slice aoc cl.length capc] ∧ w21.heap.size ≤ w.heap.size ∧ Evo w0 w v.ownBlock.toList) ?_ ?_
 ·skip
  refine r_cond η (fun hc29 => ?_) (fun hc29 => ?_)
  ·skip
   refine r_region ?_
   refine Zo (run_mv (v := vo) rfl η) ?_
   refine Zo mvI ?_
   refine Zo (run_bld (pv := [(0, .int _ _), (2, .int _ _)]) (zs := [_, _, _]) (cells := [_, _, _]) rfl ty_39 η pl_39 η η) ?_
   refine r_append1E (u := .agg _) (y := (⟨8, [], (dblN t : Nat)⟩ : Vc.Item)) rfl rfl Tryz.underlying34 ty_39 η hol (fun _ => η) η (by first | exact rfl | (show _ = List.toArray [_, _, _]; first | (dsimp only; done) | exact rfl | (dsimp only; exact rfl))) ((by first | omega | (simp only [List.length_append]; omega))) ((by first | omega | (simp only [List.length_append]; omega))) ω ?_
   intro q_v30 v30 w31 E31 hov30 hlv30
   have Q31 := E31.size
   replace hV := evo_stepo hV E31 (fun g hg => hanA g hg)
   replace hts := hts0.now hV
   replace hcl := hcl0.now hV
   replace B2 := B2.evo E31 (by intro hm; have hm2 := Option.mem_toList.1 hm; exact hdb _ hm2 rfl)
   replace hAb2 := hAb2.evo E31 (by intro hm; have hm2 := Option.mem_toList.1 hm; exact hdb _ hm2 rfl)
   replace hdb := own_ne hlv30 hdb ω
   replace hanA := own_anch hlv30 hanA ω
   have hol := hov30
   refine Zn (run_asg (v := v30) rfl η) ?_
   refine r_cut_end ?_ ?_
   ·refine ⟨_, rfl, (by first | (rw [show (dblF t) = _ from if_pos (by have h9 := hc29; omega)]; exact hol) | (rw [show (dblF t) = [] from if_neg (by have h9 := hc29; omega), List.append_nil]; exact hol)), hanA, hdb, B2, B2.at, δ, hV⟩
   exact ψ
  refine r_skip ?_
  refine r_cut_end ?_ ?_
  ·refine ⟨_, rfl, (by first | (rw [show (dblF t) = _ from if_pos (by have h9 := hc29; omega)]; exact hol) | (rw [show (dblF t) = [] from if_neg (by have h9 := hc29; omega), List.append_nil]; exact hol)), hanA, hdb, B2, B2.at, δ, hV⟩
  exact ψ
 rintro g w32 ⟨vo, hj33, hol, hanA, hdb, B2, hAb2, hzl28, hV⟩
 have hs_w32hV := hV.size
 have hlt34 := B2.lt
 refine Zk 0 (v := vo) (by exact hj33) ?_
 refine r_seq ?_
 refine Zs ?_
 refine Zo mvT ?_
 refine Zr [S _] rfl η Tryz.func111 (last_calls ω) ?_
 rintro e w35 ⟨rfl, hE35⟩
 refine ⟨_, rfl, ?_⟩
 have Q35 := hE35.size
 replace hV := Z0 hV hE35
 replace hol := hol.evo0 hE35
 replace B2 := B2.evo0 hE35
 replace hAb2 := hAb2.evo0 hE35
 refine Zo mvT ?_
 refine Zr [S _] rfl η Tryz.func111 (last_calls ω) ?_
 rintro e w36 ⟨rfl, hE36⟩
 refine ⟨_, rfl, ?_⟩
 have Q36 := hE36.size
 replace hV := Z0 hV hE36
 replace hts := hts0.now hV
 replace hcl := hcl0.now hV
 replace hol := hol.evo0 hE36
 replace B2 := B2.evo0 hE36
 replace hAb2 := hAb2.evo0 hE36
 refine Zn (run_sneq rfl η η) ?_
 refine r_cut [0, 63, 64, 65, 66, 67, 68] (fun g w => ∃ vo : Value, g 0 = vo ∧ OwnE w base 39 vo ((((l ++ (edgeA s t)) ++ (edgeB s t)) ++ (dblF t)) ++ (signF s t)) ∧ (∀ g, vo.ownBlock = some g → w0.heap.size ≤ g ∨ g ∈ v.ownBlock.toList) ∧ (∀ g, vo.ownBlock = some g → g ≠ b2) ∧ Blk w b2 28 [.int .i64 l0, .int .i64 l1, .int .i64 l2, .int .i64 l3, .int .i64 l4, .int .i64 l5, .int .i64 l6, .int .i64 l7, .int .i64 l8, .int .i64 l9, .int .i64 l10, .int .i64 l11, .int .i64 l12, .int .i64 sh, .int .i64 lo, .slice aot ts.length capt, .slice aoc cl.length capc] ∧ At w b2 0 [.int .i64 l0, .int .i64 l1, .int .i64 l2, .int .i64 l3, .int .i64 l4, .int .i64 l5, .int .i64 l6, .int .i64 l7, .int .i64 l8, .int .i64 l9, .int .i64 l10, .int .i64 l11, .int .i64 l12, .int .i64 sh, .int .i64 lo, .slice aot ts.length capt, .slice aoc cl.length capc] ∧ w36.heap.size ≤ w.heap.size ∧ Evo w0 w v.ownBlock.toList) ?_ ?_
 ·skip
  refine r_cond η (fun hc38 => ?_) (fun hc38 => ?_)
  ·skip
   refine r_region ?_
   refine Zo (run_mv (v := vo) rfl η) ?_
   refine Zo mvT ?_
   refine Zr [S _] rfl η Tryz.func111 (last_calls ω) ?_
   rintro e w39 ⟨rfl, hE39⟩
   refine ⟨_, rfl, ?_⟩
   have Q39 := hE39.size
   replace hV := Z0 hV hE39
   replace hol := hol.evo0 hE39
   replace B2 := B2.evo0 hE39
   replace hAb2 := hAb2.evo0 hE39
   refine Zo (run_bld (pv := [(0, .int _ _), (1, S _)]) (zs := [_, _, _]) (cells := [_, _, _]) rfl ty_39 η pl_39 η η) ?_
   refine r_append1E (u := .agg _) (y := (⟨9, signL t, 0⟩ : Vc.Item)) rfl rfl Tryz.underlying34 ty_39 η hol (fun _ => η) η (by first | exact rfl | (show _ = List.toArray [_, _, _]; first | (dsimp only; done) | exact rfl | (dsimp only; exact rfl))) ((by first | omega | (simp only [List.length_append]; omega))) ((by first | omega | (simp only [List.length_append]; omega))) ω ?_
   intro q_v40 v40 w41 E41 hov40 hlv40
   have Q41 := E41.size
   replace hV := evo_stepo hV E41 (fun g hg => hanA g hg)
   replace hts := hts0.now hV
   replace hcl := hcl0.now hV
   replace B2 := B2.evo E41 (by intro hm; have hm2 := Option.mem_toList.1 hm; exact hdb _ hm2 rfl)
   replace hAb2 := hAb2.evo E41 (by intro hm; have hm2 := Option.mem_toList.1 hm; exact hdb _ hm2 rfl)
   replace hdb := own_ne hlv40 hdb ω
   replace hanA := own_anch hlv40 hanA ω
   have hol := hov40
   refine Zn (run_asg (v := v40) rfl η) ?_
   refine r_cut_end ?_ ?_
   ·refine ⟨_, rfl, (by first | (rw [show (signF s t) = _ from if_pos hc38]; exact hol) | (rw [show (signF s t) = [] from if_neg hc38, List.append_nil]; exact hol)), hanA, hdb, B2, B2.at, δ, hV⟩
   exact ψ
  refine r_skip ?_
  refine r_cut_end ?_ ?_
  ·refine ⟨_, rfl, (by first | (rw [show (signF s t) = _ from if_pos hc38]; exact hol) | (rw [show (signF s t) = [] from if_neg hc38, List.append_nil]; exact hol)), hanA, hdb, B2, B2.at, δ, hV⟩
  exact ψ
 rintro g w42 ⟨vo, hj43, hol, hanA, hdb, B2, hAb2, hzl37, hV⟩
 have hs_w42hV := hV.size
 have hlt44 := B2.lt
 replace hts := hts0.now hV
 replace hcl := hcl0.now hV
 refine Zk 0 (v := vo) (by exact hj43) ?_
 refine r_seq ?_
 refine Zs ?_
 refine Zo (run_fa rfl η fo_28_2) ?_
 refine Zo (run_ld1 rfl ag_3 η (hAb2.cell 14 η)) ?_
 refine Zo (run_neq rfl η η) ?_
 refine Zo mvB ?_
 refine r_g rfl (wantT η) rfl (fun hg => mvT) ?_
 refine r_g rfl (wantT η) rfl (fun hg => run_lenS rfl (glv η (fun h => h) hg) Tryz.underlying9) ?_
 refine r_g rfl (wantT η) rfl (fun hg => run_mul rfl η (glv η (fun h => h) hg) ω ω) ?_
 refine r_g rfl (wantT η) rfl (fun hg => run_fa rfl η fo_28_2) ?_
 refine r_g rfl (wantT η) rfl (fun hg => run_ld1 rfl ag_3 (glv η (fun h => h) hg) (hAb2.cell 14 η)) ?_
 refine r_g rfl (wantT η) rfl (fun hg => mvT) ?_
 refine r_g rfl (wantT η) rfl (fun hg => run_lenS rfl (glv η (fun h => h) hg) Tryz.underlying9) ?_
 refine r_g rfl (wantT η) rfl (fun hg => run_mul rfl (glv η (fun h => h) hg) (glv η (fun h => h) hg) ω ω) ?_
 refine r_g rfl (wantT η) rfl (fun hg => run_gtr rfl (glv η (fun h => h) hg) (glv η (fun h => h) hg)) ?_
 refine Zn (run_pick_and rfl η (fun hq => glv η (fun h => h) hq) rfl) ?_
 refine r_cut [0, 83, 84, 85, 86] (fun g w => ∃ vo : Value, g 0 = vo ∧ OwnE w base 39 vo (((((l ++ (edgeA s t)) ++ (edgeB s t)) ++ (dblF t)) ++ (signF s t)) ++ (longF (⟨[l0, l1, l2, l3, l4, l5, l6, l7, l8, l9, l10, l11, l12], sh, lo, ts, cl⟩ : Chk) s t)) ∧ (∀ g, vo.ownBlock = some g → w0.heap.size ≤ g ∨ g ∈ v.ownBlock.toList) ∧ (∀ g, vo.ownBlock = some g → g ≠ b2) ∧ Blk w b2 28 [.int .i64 l0, .int .i64 l1, .int .i64 l2, .int .i64 l3, .int .i64 l4, .int .i64 l5, .int .i64 l6, .int .i64 l7, .int .i64 l8, .int .i64 l9, .int .i64 l10, .int .i64 l11, .int .i64 l12, .int .i64 sh, .int .i64 lo, .slice aot ts.length capt, .slice aoc cl.length capc] ∧ At w b2 0 [.int .i64 l0, .int .i64 l1, .int .i64 l2, .int .i64 l3, .int .i64 l4, .int .i64 l5, .int .i64 l6, .int .i64 l7, .int .i64 l8, .int .i64 l9, .int .i64 l10, .int .i64 l11, .int .i64 l12, .int .i64 sh, .int .i64 lo, .slice aot ts.length capt, .slice aoc cl.length capc] ∧ w42.heap.size ≤ w.heap.size ∧ Evo w0 w v.ownBlock.toList) ?_ ?_
 ·skip
  refine r_cond η (fun hc46 => ?_) (fun hc46 => ?_)
  ·skip
   refine r_region ?_
   refine Zo (run_mv (v := vo) rfl η) ?_
   refine Zo (run_bld (pv := [(0, .int _ _), (1, S _)]) (zs := [_, _, _]) (cells := [_, _, _]) rfl ty_39 η pl_39 η η) ?_
   refine r_append1E (u := .agg _) (y := (⟨12, longW, 0⟩ : Vc.Item)) rfl rfl Tryz.underlying34 ty_39 η hol (fun _ => η) η (by first | exact rfl | (show _ = List.toArray [_, _, _]; first | (dsimp only; done) | exact rfl | (dsimp only; exact rfl))) ((by first | omega | (simp only [List.length_append]; omega))) ((by first | omega | (simp only [List.length_append]; omega))) ω ?_
   intro q_v47 v47 w48 E48 hov47 hlv47
   have Q48 := E48.size
   replace hV := evo_stepo hV E48 (fun g hg => hanA g hg)
   replace hts := hts0.now hV
   replace hcl := hcl0.now hV
   replace B2 := B2.evo E48 (by intro hm; have hm2 := Option.mem_toList.1 hm; exact hdb _ hm2 rfl)
   replace hAb2 := hAb2.evo E48 (by intro hm; have hm2 := Option.mem_toList.1 hm; exact hdb _ hm2 rfl)
   replace hdb := own_ne hlv47 hdb ω
   replace hanA := own_anch hlv47 hanA ω
   have hol := hov47
   refine Zn (run_asg (v := v47) rfl η) ?_
   refine r_cut_end ?_ ?_
   ·refine ⟨_, rfl, (by first | (rw [show (longF (⟨[l0, l1, l2, l3, l4, l5, l6, l7, l8, l9, l10, l11, l12], sh, lo, ts, cl⟩ : Chk) s t) = _ from if_pos hc46]; exact hol) | (rw [show (longF (⟨[l0, l1, l2, l3, l4, l5, l6, l7, l8, l9, l10, l11, l12], sh, lo, ts, cl⟩ : Chk) s t) = [] from if_neg hc46, List.append_nil]; exact hol)), hanA, hdb, B2, B2.at, δ, hV⟩
   exact ψ
  refine r_skip ?_
  refine r_cut_end ?_ ?_
  ·refine ⟨_, rfl, (by first | (rw [show (longF (⟨[l0, l1, l2, l3, l4, l5, l6, l7, l8, l9, l10, l11, l12], sh, lo, ts, cl⟩ : Chk) s t) = _ from if_pos hc46]; exact hol) | (rw [show (longF (⟨[l0, l1, l2, l3, l4, l5, l6, l7, l8, l9, l10, l11, l12], sh, lo, ts, cl⟩ : Chk) s t) = [] from if_neg hc46, List.append_nil]; exact hol)), hanA, hdb, B2, B2.at, δ, hV⟩
  exact ψ
 rintro g w49 ⟨vo, hj50, hol, hanA, hdb, B2, hAb2, hzl45, hV⟩
 have hs_w49hV := hV.size
 have hlt51 := B2.lt
 replace hts := hts0.now hV
 replace hcl := hcl0.now hV
 refine Zk 0 (v := vo) (by exact hj50) ?_
 refine r_seq ?_
 refine Zs ?_
 refine Zo (run_fa rfl η fo_28_1) ?_
 refine Zo (run_ld1 rfl ag_3 η (hAb2.cell 13 η)) ?_
 refine Zo (run_neq rfl η η) ?_
 refine Zo mvB ?_
 refine r_g rfl (wantT η) rfl (fun hg => mvT) ?_
 refine r_g rfl (wantT η) rfl (fun hg => run_lenS rfl (glv η (fun h => h) hg) Tryz.underlying9) ?_
 refine r_g rfl (wantT η) rfl (fun hg => run_mul rfl η (glv η (fun h => h) hg) ω ω) ?_
 refine r_g rfl (wantT η) rfl (fun hg => run_fa rfl η fo_28_1) ?_
 refine r_g rfl (wantT η) rfl (fun hg => run_ld1 rfl ag_3 (glv η (fun h => h) hg) (hAb2.cell 13 η)) ?_
 refine r_g rfl (wantT η) rfl (fun hg => mvT) ?_
 refine r_g rfl (wantT η) rfl (fun hg => run_lenS rfl (glv η (fun h => h) hg) Tryz.underlying9) ?_
 refine r_g rfl (wantT η) rfl (fun hg => run_mul rfl (glv η (fun h => h) hg) (glv η (fun h => h) hg) ω ω) ?_
 refine r_g rfl (wantT η) rfl (fun hg => run_lss rfl (glv η (fun h => h) hg) (glv η (fun h => h) hg)) ?_
 refine Zn (run_pick_and rfl η (fun hq => glv η (fun h => h) hq) rfl) ?_
 refine r_cut [0, 101, 102, 103, 104] (fun g w => ∃ vo : Value, g 0 = vo ∧ OwnE w base 39 vo ((((((l ++ (edgeA s t)) ++ (edgeB s t)) ++ (dblF t)) ++ (signF s t)) ++ (longF (⟨[l0, l1, l2, l3, l4, l5, l6, l7, l8, l9, l10, l11, l12], sh, lo, ts, cl⟩ : Chk) s t)) ++ (shortF (⟨[l0, l1, l2, l3, l4, l5, l6, l7, l8, l9, l10, l11, l12], sh, lo, ts, cl⟩ : Chk) s t)) ∧ (∀ g, vo.ownBlock = some g → w0.heap.size ≤ g ∨ g ∈ v.ownBlock.toList) ∧ (∀ g, vo.ownBlock = some g → g ≠ b2) ∧ Blk w b2 28 [.int .i64 l0, .int .i64 l1, .int .i64 l2, .int .i64 l3, .int .i64 l4, .int .i64 l5, .int .i64 l6, .int .i64 l7, .int .i64 l8, .int .i64 l9, .int .i64 l10, .int .i64 l11, .int .i64 l12, .int .i64 sh, .int .i64 lo, .slice aot ts.length capt, .slice aoc cl.length capc] ∧ At w b2 0 [.int .i64 l0, .int .i64 l1, .int .i64 l2, .int .i64 l3, .int .i64 l4, .int .i64 l5, .int .i64 l6, .int .i64 l7, .int .i64 l8, .int .i64 l9, .int .i64 l10, .int .i64 l11, .int .i64 l12, .int .i64 sh, .int .i64 lo, .slice aot ts.length capt, .slice aoc cl.length capc] ∧ w49.heap.size ≤ w.heap.size ∧ Evo w0 w v.ownBlock.toList) ?_ ?_
 ·skip
  refine r_cond η (fun hc53 => ?_) (fun hc53 => ?_)
  ·skip
   refine r_region ?_
   refine Zo (run_mv (v := vo) rfl η) ?_
   refine Zo (run_bld (pv := [(0, .int _ _), (1, S _)]) (zs := [_, _, _]) (cells := [_, _, _]) rfl ty_39 η pl_39 η η) ?_
   refine r_append1E (u := .agg _) (y := (⟨12, shortW, 0⟩ : Vc.Item)) rfl rfl Tryz.underlying34 ty_39 η hol (fun _ => η) η (by first | exact rfl | (show _ = List.toArray [_, _, _]; first | (dsimp only; done) | exact rfl | (dsimp only; exact rfl))) ((by first | omega | (simp only [List.length_append]; omega))) ((by first | omega | (simp only [List.length_append]; omega))) ω ?_
   intro q_v54 v54 w55 E55 hov54 hlv54
   have Q55 := E55.size
   replace hV := evo_stepo hV E55 (fun g hg => hanA g hg)
   replace hts := hts0.now hV
   replace hcl := hcl0.now hV
   replace B2 := B2.evo E55 (by intro hm; have hm2 := Option.mem_toList.1 hm; exact hdb _ hm2 rfl)
   replace hAb2 := hAb2.evo E55 (by intro hm; have hm2 := Option.mem_toList.1 hm; exact hdb _ hm2 rfl)
   replace hdb := own_ne hlv54 hdb ω
   replace hanA := own_anch hlv54 hanA ω
   have hol := hov54
   refine Zn (run_asg (v := v54) rfl η) ?_
   refine r_cut_end ?_ ?_
   ·refine ⟨_, rfl, (by first | (rw [show (shortF (⟨[l0, l1, l2, l3, l4, l5, l6, l7, l8, l9, l10, l11, l12], sh, lo, ts, cl⟩ : Chk) s t) = _ from if_pos hc53]; exact hol) | (rw [show (shortF (⟨[l0, l1, l2, l3, l4, l5, l6, l7, l8, l9, l10, l11, l12], sh, lo, ts, cl⟩ : Chk) s t) = [] from if_neg hc53, List.append_nil]; exact hol)), hanA, hdb, B2, B2.at, δ, hV⟩
   exact ψ
  refine r_skip ?_
  refine r_cut_end ?_ ?_
  ·refine ⟨_, rfl, (by first | (rw [show (shortF (⟨[l0, l1, l2, l3, l4, l5, l6, l7, l8, l9, l10, l11, l12], sh, lo, ts, cl⟩ : Chk) s t) = _ from if_pos hc53]; exact hol) | (rw [show (shortF (⟨[l0, l1, l2, l3, l4, l5, l6, l7, l8, l9, l10, l11, l12], sh, lo, ts, cl⟩ : Chk) s t) = [] from if_neg hc53, List.append_nil]; exact hol)), hanA, hdb, B2, B2.at, δ, hV⟩
  exact ψ
 rintro g w56 ⟨vo, hj57, hol, hanA, hdb, B2, hAb2, hzl52, hV⟩
 have hs_w56hV := hV.size
 have hlt58 := B2.lt
 refine Zk 0 (v := vo) (by exact hj57) ?_
 refine Zs ?_
 refine Zo (run_mv (v := vo) rfl η) ?_
 refine Zn (run_asg (v := vo) rfl η) ?_
 refine r_ret (res1 (v := vo) rfl η) ?_
 exact ⟨_, rfl, hV, by unfold plainF; have h9 := hol; simp only [List.append_assoc] at h9 ⊢; exact h9, hanA⟩
set_option maxHeartbeats 2000000 in
theorem terms_calls {v : Value} {base : Nat} {l : List Vc.Item} {l0 l1 l2 l3 l4 l5 l6 l7 l8 l9 l10 l11 l12 sh lo : Int} {aot : Option Addr} {bt ot capt : Nat} {ts : List TermL} {aoc : Option Addr} {bc oc capc : Nat} {cl : List Clas} {aop : Option Addr} {bp op capp : Nat} {lp : List Vc.Item} {aoq : Option Addr} {bq oq capq : Nat} {lq : List Vc.Item} {w0 : World} (hol : OwnE w0 base 39 v l) (hbs : base ≤ w0.heap.size) (hts : RowRK w0 v.ownBlock.toList aot bt ot capt ts) (hcl : RowRK w0 v.ownBlock.toList aoc bc oc capc cl) (hp : ∀ w9, Evo w0 w9 v.ownBlock.toList → RowE w9 aop bp op capp lp) (hq : ∀ w9, Evo w0 w9 v.ownBlock.toList → RowE w9 aoq bq oq capq lq) (hxp : ∀ x ∈ lp, x.text.length ≤ 140737488355328) (hxq : ∀ x ∈ lq, x.text.length ≤ 140737488355328) (hsp : lp.length ≤ 1000000) (hsq : lq.length ≤ 1000000) (hsl : l.length ≤ 100000000) (hz : ts.length ≤ 40) (hjb : ∀ x ∈ ts, JudT x) :
    Calls Tryz.prog 67 #[v, .agg #[.int .i64 l0, .int .i64 l1, .int .i64 l2, .int .i64 l3, .int .i64 l4, .int .i64 l5, .int .i64 l6, .int .i64 l7, .int .i64 l8, .int .i64 l9, .int .i64 l10, .int .i64 l11, .int .i64 l12, .int .i64 sh, .int .i64 lo, .slice aot ts.length capt, .slice aoc cl.length capc], .slice aop lp.length capp, .slice aoq lq.length capq] w0 fun e w' => ∃ v', e = .returned v' ∧ Evo w0 w' v.ownBlock.toList ∧ (OwnE w' base 39 v' (l ++ (missN lq ts (foundN ts.length (spotsF lp (fsT cl ts) 0))).map (reqF (⟨[l0, l1, l2, l3, l4, l5, l6, l7, l8, l9, l10, l11, l12], sh, lo, ts, cl⟩ : Chk)) ++ (wrongK lq ts [] (foundN ts.length (spotsF lp (fsT cl ts) 0))).map forF)) ∧ (∀ g, v'.ownBlock = some g → w0.heap.size ≤ g ∨ g ∈ v.ownBlock.toList) := by
 have hanA : (∀ g, v.ownBlock = some g → w0.heap.size ≤ g ∨ g ∈ v.ownBlock.toList) := fun g hg => .inr (Option.mem_toList.2 hg); have hob0 := fun g hg => (hol.block (g := g) hg).2
 refine calls_enter (n := 57) Tryz.func67 rfl Tryz.ntmps67 rfl ?_
 have hV : Evo w0 w0 v.ownBlock.toList := Evo.refl _ _
 have hts0 := hts
 replace hts := hts0.now hV
 have hbd_hts := hts.bd
 have hcl0 := hcl
 replace hcl := hcl0.now hV
 have hbd_hcl := hcl.bd
 have hp0 := hp
 replace hp := hp0 _ hV
 have hbd_hp := hp.bd
 have hq0 := hq
 replace hq := hq0 _ hV
 have hbd_hq := hq.bd
 refine Zs ?_
 have hob1 := fun g hg => (hol.block (g := g) hg).2
 refine r_box (vs := [_, _, _, _, _, _, _, _, _, _, _, _, _, _, _, _, _]) η η rfl ?_
 intro b2 w3 J2 E3 B2 Y2
 have Q3 := E3.size
 replace hV := Z0 hV E3
 replace hol := hol.evo0 E3
 replace hts := hts0.now hV
 replace hcl := hcl0.now hV
 replace hp := hp0 _ hV
 replace hq := hq0 _ hV
 have hAb2 := B2.at
 refine Zn asS ?_
 refine r_seq ?_
 refine r_seq ?_
 have hdb : ∀ g, v.ownBlock = some g → g ≠ b2 := fun g hg => by have h7 := hob0 g hg; omega
 have hobT := fun g hg => (hol.block (g := g) hg).2
 refine r_region ?_
 refine Zo (run_fa rfl η fo_28_3) ?_
 refine Zo (run_ld1 rfl ag_25 η (hAb2.cell 15 η)) ?_
 refine Zo (run_fa rfl η fo_28_4) ?_
 refine Zo (run_ld1 rfl ag_26 η (hAb2.cell 16 η)) ?_
 refine Zo mvS ?_
 refine Zo mvS ?_
 refine Zr [.slice aot ts.length capt, .slice aoc cl.length capc, .slice _ _ _, .slice _ _ _] rfl η Tryz.func112 (missing_calls hts hcl hp hxp ω ω hq hxq ω) ?_
 rintro e w4 ⟨vM4, rfl, hE4, hoM4⟩
 refine ⟨_, rfl, ?_⟩
 have Q4 := hE4.size
 replace hV := Z0 hV hE4
 replace hol := hol.evo0 hE4
 replace hts := hts0.now hV
 replace hcl := hcl0.now hV
 replace hp := hp0 _ hV
 replace hq := hq0 _ hV
 replace B2 := B2.evo0 hE4
 replace hAb2 := hAb2.evo0 hE4
 refine Zo (run_lenOE rfl η Tryz.underlying22 hoM4) ?_
 refine Zn mvI ?_
 refine r_block ?_
 have hml := missN_len lq ts (foundN ts.length (spotsF lp (fsT cl ts) 0)); have hfl := foundN_len ts.length (spotsF lp (fsT cl ts) 0); have hnl := natI_len (missN lq ts (foundN ts.length (spotsF lp (fsT cl ts) 0)))
 obtain ⟨ao5, g5, cp5, hv5, hr5, hg5⟩ := hoM4.rowOf
 subst hv5
 have hIa : Evo w4 w4 v.ownBlock.toList := Evo.refl _ _
 have hr50 := fun w9 (h9 : Evo w4 w9 v.ownBlock.toList) => row_keep hr5 h9 (fun hne hm => by have h2 := (hg5 hne).2; have h7 := hobT _ (Option.mem_toList.1 hm); omega)
 have hanI : ∀ g, v.ownBlock = some g → w4.heap.size ≤ g ∨ g ∈ v.ownBlock.toList := fun g hg => .inr (Option.mem_toList.2 hg)
 refine r_loop (α := Nat) [0, 10, 21, 22, 23, 24, 25, 26, 27, 28, 29, 30, 31, 32, 33, 34, 35, 36, 37] (fun k g w => ∃ vo : Value, g 21 = .int .i64 (k : Nat) ∧ g 0 = vo ∧ k ≤ (natI (missN lq ts (foundN ts.length (spotsF lp (fsT cl ts) 0)))).length ∧ OwnE w base 39 vo (l ++ ((missN lq ts (foundN ts.length (spotsF lp (fsT cl ts) 0))).take k).map (reqF (⟨[l0, l1, l2, l3, l4, l5, l6, l7, l8, l9, l10, l11, l12], sh, lo, ts, cl⟩ : Chk))) ∧ (∀ g, vo.ownBlock = some g → w0.heap.size ≤ g ∨ g ∈ v.ownBlock.toList) ∧ (∀ g, vo.ownBlock = some g → w4.heap.size ≤ g ∨ g ∈ v.ownBlock.toList) ∧ (∀ g, vo.ownBlock = some g → g ≠ b2) ∧ Blk w b2 28 [.int .i64 l0, .int .i64 l1, .int .i64 l2, .int .i64 l3, .int .i64 l4, .int .i64 l5, .int .i64 l6, .int .i64 l7, .int .i64 l8, .int .i64 l9, .int .i64 l10, .int .i64 l11, .int .i64 l12, .int .i64 sh, .int .i64 lo, .slice aot ts.length capt, .slice aoc cl.length capc] ∧ At w b2 0 [.int .i64 l0, .int .i64 l1, .int .i64 l2, .int .i64 l3, .int .i64 l4, .int .i64 l5, .int .i64 l6, .int .i64 l7, .int .i64 l8, .int .i64 l9, .int .i64 l10, .int .i64 l11, .int .i64 l12, .int .i64 sh, .int .i64 lo, .slice aot ts.length capt, .slice aoc cl.length capc] ∧ w4.heap.size ≤ w.heap.size ∧ Evo w0 w v.ownBlock.toList ∧ Evo w4 w v.ownBlock.toList) (fun k => (natI (missN lq ts (foundN ts.length (spotsF lp (fsT cl ts) 0)))).length - k) 0 ?_ ?_
 ·refine ⟨_, σ, rfl, δ, (by rw [List.take_zero, List.map_nil, List.append_nil]; exact hol), hanA, hanI, hdb, B2, B2.at, δ, hV, hIa⟩
 rintro k g w7 ⟨vo, hj8, hj9, hk_k, hol, hanA, hanI, hdb, B2, hAb2, hzl6, hV, hIa⟩
 have hs_w7hV := hV.size
 have hs_w7hIa := hIa.size
 have hlt10 := B2.lt
 replace hts := hts0.now hV
 replace hcl := hcl0.now hV
 replace hp := hp0 _ hV
 replace hq := hq0 _ hV
 replace hr5 := hr50 _ hIa
 refine Zk 21 (v := .int .i64 (k : Nat)) (by exact hj8) ?_
 refine Zk 0 (v := vo) (by exact hj9) ?_
 have hmt := List.length_take_le k (missN lq ts (foundN ts.length (spotsF lp (fsT cl ts) 0))); have hmm : (((missN lq ts (foundN ts.length (spotsF lp (fsT cl ts) 0))).take k).map (reqF (⟨[l0, l1, l2, l3, l4, l5, l6, l7, l8, l9, l10, l11, l12], sh, lo, ts, cl⟩ : Chk))).length = ((missN lq ts (foundN ts.length (spotsF lp (fsT cl ts) 0))).take k).length := List.length_map _
 refine Zs ?_
 refine Zn (run_lss rfl η η) ?_
 refine r_seq ?_
 refine r_cond η (fun hc11 => ?_) (fun hc11 => ?_)
 ·skip
  refine r_skip ?_
  refine r_seq ?_
  refine r_block ?_
  refine Zs ?_
  refine Zo (run_ix (k) rfl Tryz.underlying22 ty_3 η η (by first | exact rfl | omega) ω (hr5.addr (i := k) ω)) ?_
  have hA120 := fun (w' : World) (h : Evo w4 w' v.ownBlock.toList) => (hr50 w' h).atD (k) ω
  have hA12 := hA120 _ hIa
  refine Zo (run_ld1 rfl ag_3 η (hA12.cell 0 η)) ?_
  refine Zn asI ?_
  have hkk := natI_get (l := (missN lq ts (foundN ts.length (spotsF lp (fsT cl ts) 0)))) (k := k) ω
  obtain ⟨hkt, hkr⟩ := missN_in (tg := lq) (ts := ts) (n := ts.length) (sp := (spotsF lp (fsT cl ts) 0)) (k := k) ω
  refine r_region ?_
  refine Zo (run_mv (v := vo) rfl η) ?_
  refine Zo (run_fa rfl η fo_28_3) ?_
  refine Zo (run_ld1 rfl ag_25 η (hAb2.cell 15 η)) ?_
  refine Zo mvI ?_
  refine Zo (run_ix (((missN lq ts (foundN ts.length (spotsF lp (fsT cl ts) 0))).getD k default)) rfl Tryz.underlying25 ty_85 η η hkk hkt (hts.addr (i := ((missN lq ts (foundN ts.length (spotsF lp (fsT cl ts) 0))).getD k default)) hkt)) ?_
  obtain ⟨aoW13, bW13, offW13, capW13, aoQ13, bQ13, offQ13, capQ13, aoF13, bF13, offF13, capF13, hX⟩ := term_atK hts0 (((missN lq ts (foundN ts.length (spotsF lp (fsT cl ts) 0))).getD k default)) hkt
  have hA130 := fun (w' : World) (h : Evo w0 w' v.ownBlock.toList) => (hX w' h).1
  have hA13 := hA130 _ hV
  have hW130 := fun (w' : World) (h : Evo w0 w' v.ownBlock.toList) => (hX w' h).2.1
  have hW13 := hW130 _ hV
  have hQ130 := fun (w' : World) (h : Evo w0 w' v.ownBlock.toList) => (hX w' h).2.2.1
  have hQ13 := hQ130 _ hV
  have hF130 := fun (w' : World) (h : Evo w0 w' v.ownBlock.toList) => (hX w' h).2.2.2
  have hF13 := hF130 _ hV
  clear hX
  have hbd_hW13 := hW13.bd
  have hbd_hQ13 := hQ13.bd
  have hbd_hF13 := hF13.bd
  refine Zo (run_fa rfl η fo_85_1) ?_
  refine Zo (run_ld1 rfl ag_77 η (hA13.cell 1 η)) ?_
  refine Zo (run_ix (0) rfl Tryz.underlying77 ty_9 η η rfl ω (hQ13.addr (i := 0) ω)) ?_
  have hA140 := fun (w' : World) (h : Evo w0 w' v.ownBlock.toList) => (hQ130 w' h).atD (0) ω
  have hA14 := hA140 _ hV
  refine Zo (run_ld1 rfl ag_9 η (hA14.cell 0 η)) ?_
  refine Zo (run_bld (pv := [(0, .int _ _), (1, S _), (2, .int _ _)]) (zs := [_, _, _]) (cells := [_, _, _]) rfl ty_39 η pl_39 η η) ?_
  refine r_append1E (u := .agg _) (y := (reqF (⟨[l0, l1, l2, l3, l4, l5, l6, l7, l8, l9, l10, l11, l12], sh, lo, ts, cl⟩ : Chk) ((missN lq ts (foundN ts.length (spotsF lp (fsT cl ts) 0))).getD k default))) rfl rfl Tryz.underlying34 ty_39 η hol (fun _ => η) η (by first | exact rfl | (show _ = List.toArray [_, _, _]; first | (dsimp only; done) | exact rfl | (dsimp only; exact rfl))) ((by first | omega | (simp only [List.length_append]; omega))) ((by first | omega | (simp only [List.length_append]; omega))) ω ?_
  intro q_v15 v15 w16 E16 hov15 hlv15
  have Q16 := E16.size
  replace hV := evo_stepo hV E16 (fun g hg => hanA g hg)
  replace hIa := evo_stepo hIa E16 (fun g hg => hanI g hg)
  replace hts := hts0.now hV
  replace hcl := hcl0.now hV
  replace hp := hp0 _ hV
  replace hq := hq0 _ hV
  replace hr5 := hr50 _ hIa
  replace B2 := B2.evo E16 (by intro hm; have hm2 := Option.mem_toList.1 hm; exact hdb _ hm2 rfl)
  replace hAb2 := hAb2.evo E16 (by intro hm; have hm2 := Option.mem_toList.1 hm; exact hdb _ hm2 rfl)
  replace hanI := own_anch hlv15 hanI ω
  replace hdb := own_ne hlv15 hdb ω
  replace hanA := own_anch hlv15 hanA ω
  have hol := hov15
  refine Zn (run_asg (v := v15) rfl η) ?_
  refine r_blk ?_
  refine r_region ?_
  refine Zo (run_add rfl η η ω ω) ?_
  refine Zn mvI ?_
  refine r_again (k + 1) ?_ ?_ ?_
  ·first | omega | (dsimp only; omega)
  ·refine ⟨_, σ, rfl, δ, (by rw [map_step ω, ← List.append_assoc]; exact hol), hanA, hanI, hdb, B2, B2.at, δ, hV, hIa⟩
  exact ψ
 refine r_exit rfl ?_
 refine r_seq ?_
 refine r_seq ?_
 have e7 : ((missN lq ts (foundN ts.length (spotsF lp (fsT cl ts) 0))).take k).map (reqF (⟨[l0, l1, l2, l3, l4, l5, l6, l7, l8, l9, l10, l11, l12], sh, lo, ts, cl⟩ : Chk)) = (missN lq ts (foundN ts.length (spotsF lp (fsT cl ts) 0))).map (reqF (⟨[l0, l1, l2, l3, l4, l5, l6, l7, l8, l9, l10, l11, l12], sh, lo, ts, cl⟩ : Chk)) := by rw [List.take_of_length_le ω]
 rw [e7] at hol
 have hme : ((missN lq ts (foundN ts.length (spotsF lp (fsT cl ts) 0))).map (reqF (⟨[l0, l1, l2, l3, l4, l5, l6, l7, l8, l9, l10, l11, l12], sh, lo, ts, cl⟩ : Chk))).length = (missN lq ts (foundN ts.length (spotsF lp (fsT cl ts) 0))).length := List.length_map _
 have hobU := fun g hg => (hol.block (g := g) hg).2
 refine r_region ?_
 refine Zo (run_fa rfl η fo_28_3) ?_
 refine Zo (run_ld1 rfl ag_25 η (hAb2.cell 15 η)) ?_
 refine Zo (run_fa rfl η fo_28_4) ?_
 refine Zo (run_ld1 rfl ag_26 η (hAb2.cell 16 η)) ?_
 refine Zo mvS ?_
 refine Zo mvS ?_
 refine Zr [.slice aot ts.length capt, .slice aoc cl.length capc, .slice _ _ _, .slice _ _ _] rfl η Tryz.func113 (wrong_calls hts hcl hp hxp ω ω hq hxq ω hjb) ?_
 rintro e w17 ⟨vM17, rfl, hE17, hoM17⟩
 refine ⟨_, rfl, ?_⟩
 have Q17 := hE17.size
 replace hV := Z0 hV hE17
 replace hts := hts0.now hV
 replace hcl := hcl0.now hV
 replace hp := hp0 _ hV
 replace hq := hq0 _ hV
 replace hr5 := hr50 _ hIa
 replace hol := hol.evo0 hE17
 refine Zo (run_lenOE rfl η Tryz.underlying77 hoM17) ?_
 refine Zn mvI ?_
 refine r_block ?_
 have hwl := wrong_len (tg := lq) (ts := ts) (sp := (spotsF lp (fsT cl ts) 0)) (fun x hx => (hjb x hx).2.1) hz
 obtain ⟨ao18, g18, cp18, hv18, hr18, hg18⟩ := hoM17.rowOf
 subst hv18
 have hIb : Evo w17 w17 vo.ownBlock.toList := Evo.refl _ _
 have hr180 := fun w9 (h9 : Evo w17 w9 vo.ownBlock.toList) => row_keep hr18 h9 (fun hne hm => by have h2 := (hg18 hne).2; have h7 := hobU _ (Option.mem_toList.1 hm); omega)
 have hanJ : ∀ g, vo.ownBlock = some g → w17.heap.size ≤ g ∨ g ∈ vo.ownBlock.toList := fun g hg => .inr (Option.mem_toList.2 hg)
 refine r_loop (α := Nat) [0, 12, 46, 47, 48, 49, 50, 51, 52, 53, 54, 55] (fun k g w => ∃ vq : Value, g 46 = .int .i64 (k : Nat) ∧ g 0 = vq ∧ k ≤ (wrongK lq ts [] (foundN ts.length (spotsF lp (fsT cl ts) 0))).length ∧ OwnE w base 39 vq ((l ++ (missN lq ts (foundN ts.length (spotsF lp (fsT cl ts) 0))).map (reqF (⟨[l0, l1, l2, l3, l4, l5, l6, l7, l8, l9, l10, l11, l12], sh, lo, ts, cl⟩ : Chk))) ++ ((wrongK lq ts [] (foundN ts.length (spotsF lp (fsT cl ts) 0))).take k).map forF) ∧ (∀ g, vq.ownBlock = some g → w0.heap.size ≤ g ∨ g ∈ v.ownBlock.toList) ∧ (∀ g, vq.ownBlock = some g → w17.heap.size ≤ g ∨ g ∈ vo.ownBlock.toList) ∧ w17.heap.size ≤ w.heap.size ∧ Evo w0 w v.ownBlock.toList ∧ Evo w17 w vo.ownBlock.toList) (fun k => (wrongK lq ts [] (foundN ts.length (spotsF lp (fsT cl ts) 0))).length - k) 0 ?_ ?_
 ·refine ⟨_, σ, rfl, δ, (by rw [List.take_zero, List.map_nil, List.append_nil]; exact hol), hanA, hanJ, δ, hV, hIb⟩
 rintro k g w20 ⟨vq, hj21, hj22, hk_k, hol, hanA, hanJ, hzl19, hV, hIb⟩
 have hs_w20hV := hV.size
 have hs_w20hIb := hIb.size
 replace hr18 := hr180 _ hIb
 refine Zk 46 (v := .int .i64 (k : Nat)) (by exact hj21) ?_
 refine Zk 0 (v := vq) (by exact hj22) ?_
 have hmt := List.length_take_le k (wrongK lq ts [] (foundN ts.length (spotsF lp (fsT cl ts) 0))); have hmm : (((wrongK lq ts [] (foundN ts.length (spotsF lp (fsT cl ts) 0))).take k).map forF).length = ((wrongK lq ts [] (foundN ts.length (spotsF lp (fsT cl ts) 0))).take k).length := List.length_map _
 refine Zs ?_
 refine Zn (run_lss rfl η η) ?_
 refine r_seq ?_
 refine r_cond η (fun hc23 => ?_) (fun hc23 => ?_)
 ·skip
  refine r_skip ?_
  refine r_seq ?_
  refine r_block ?_
  refine Zs ?_
  refine Zo (run_ix (k) rfl Tryz.underlying77 ty_9 η η (by first | exact rfl | omega) ω (hr18.addr (i := k) ω)) ?_
  have hA240 := fun (w' : World) (h : Evo w17 w' vo.ownBlock.toList) => (hr180 w' h).atD (k) ω
  have hA24 := hA240 _ hIb
  refine Zo (run_ld1 rfl ag_9 η (hA24.cell 0 η)) ?_
  refine Zn asT ?_
  refine r_region ?_
  refine Zo (run_mv (v := vq) rfl η) ?_
  refine Zo mvT ?_
  refine Zo (run_bld (pv := [(0, .int _ _), (1, S _), (2, .int _ _)]) (zs := [_, _, _]) (cells := [_, _, _]) rfl ty_39 η pl_39 η η) ?_
  refine r_append1E (u := .agg _) (y := (forF ((wrongK lq ts [] (foundN ts.length (spotsF lp (fsT cl ts) 0))).getD k default))) rfl rfl Tryz.underlying34 ty_39 η hol (fun _ => η) η (by first | exact rfl | (show _ = List.toArray [_, _, _]; first | (dsimp only; done) | exact rfl | (dsimp only; exact rfl))) ((by first | omega | (simp only [List.length_append]; omega))) ((by first | omega | (simp only [List.length_append]; omega))) ω ?_
  intro q_v25 v25 w26 E26 hov25 hlv25
  have Q26 := E26.size
  replace hV := evo_stepo hV E26 (fun g hg => hanA g hg)
  replace hIb := evo_stepo hIb E26 (fun g hg => hanJ g hg)
  replace hts := hts0.now hV
  replace hcl := hcl0.now hV
  replace hp := hp0 _ hV
  replace hq := hq0 _ hV
  replace hr5 := hr50 _ hIa
  replace hr18 := hr180 _ hIb
  replace hanJ := own_anch hlv25 hanJ ω
  replace hanA := own_anch hlv25 hanA ω
  have hol := hov25
  refine Zn (run_asg (v := v25) rfl η) ?_
  refine r_blk ?_
  refine r_region ?_
  refine Zo (run_add rfl η η ω ω) ?_
  refine Zn mvI ?_
  refine r_again (k + 1) ?_ ?_ ?_
  ·first | omega | (dsimp only; omega)
  ·refine ⟨_, σ, rfl, δ, (by rw [map_step ω, ← List.append_assoc]; exact hol), hanA, hanJ, δ, hV, hIb⟩
  exact ψ
 refine r_exit rfl ?_
 refine Zs ?_
 refine Zo (run_mv (v := vq) rfl η) ?_
 refine Zn (run_asg (v := vq) rfl η) ?_
 refine r_ret (res1 (v := vq) rfl η) ?_
 have e8 : ((wrongK lq ts [] (foundN ts.length (spotsF lp (fsT cl ts) 0))).take k).map forF = (wrongK lq ts [] (foundN ts.length (spotsF lp (fsT cl ts) 0))).map forF := by rw [List.take_of_length_le ω]
 rw [e8] at hol
 exact ⟨_, rfl, hV, hol, hanA⟩
end Go.Proofs.YtlfjocbnbceceaaGreatDoor
