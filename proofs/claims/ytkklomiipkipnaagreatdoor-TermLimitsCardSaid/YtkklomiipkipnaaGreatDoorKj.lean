/-
  Library, plain laws and walks that the statements reach (joined by a program out of smaller texts).
-/
import Derived.Test.YtkklomiipkipnaaGreatDoorKh
import Derived.Test.YtkklomiipkipnaaGreatDoorKi
import Derived.Test.YtkklomiipkipnaaGreatDoorKd
import Derived.Test.YtkklomiipkipnaaGreatDoorKb
namespace Go.Proofs.YtkklomiipkipnaaGreatDoor
open Go Go.RowKit Go.Vc
def firstM {α : Type} [Inhabited α] (f : α → Int) : List α → Int
  | [] => 0
  | x :: r => if f x ≠ 0 then f x else firstM f r
theorem firstM_at {α : Type} [Inhabited α] {f : α → Int} : ∀ {l : List α} {k : Nat} {e : Int}, k < l.length → (∀ j, j < k → f (l.getD j default) = 0) → f (l.getD k default) = e → e ≠ 0 → firstM f l = e
  | [], k, e, h, _, _, _ => by simp at h
  | x :: r, 0, e, _, _, he, h0 => by
    have he2 : f x = e := he
    unfold firstM; rw [if_pos (by rw [he2]; exact h0), he2]
  | x :: r, k + 1, e, h, hn, he, h0 => by
    have h1 : f x = 0 := hn 0 (by omega)
    unfold firstM; rw [if_neg (by rw [h1]; exact fun q => q rfl)]
    exact firstM_at (k := k) (by simpa using h) (fun j hj => by have := hn (j + 1) (by omega); simpa using this) (by simpa using he) h0
theorem firstM_ok {α : Type} [Inhabited α] {f : α → Int} : ∀ {l : List α}, (∀ j, j < l.length → f (l.getD j default) = 0) → firstM f l = 0
  | [], _ => rfl
  | x :: r, h => by
    have h1 : f x = 0 := h 0 (by simp)
    unfold firstM; rw [if_neg (by rw [h1]; exact fun q => q rfl)]
    exact firstM_ok (fun j hj => by have := h (j + 1) (by simpa using hj); simpa using this)
def wordE (c : List Clas) (w : Ende) : Int := if ¬ plainP w.strip then 1 else if w.add ≠ [] ∧ findC c w.add < 0 then 4 else 0
def phrE (s : Str) : Int := if phraseOk s then 0 else 1
def limT (x : TermL) : Prop := ((x.words.length = 0 ∨ 8 < x.words.length) ∨ 8 < x.req.length) ∨ 8 < x.forb.length
instance (x : TermL) : Decidable (limT x) := by unfold limT; infer_instance
def termE (c : List Clas) (x : TermL) : Int := if limT x then 3 else if firstM (wordE c) x.words ≠ 0 then firstM (wordE c) x.words else firstM (firstM phrE) [x.req, x.forb]
def validT (ts : List TermL) (c : List Clas) : Int := if validC c ≠ 0 then validC c else if 128 < ts.length then 3 else firstM (termE c) ts
theorem limT_z {x : TermL} (h : (((x.words.length : Int) = 0 ∨ (x.words.length : Int) > 8) ∨ (x.req.length : Int) > 8) ∨ (x.forb.length : Int) > 8) : limT x := by unfold limT; omega
theorem limT_n {x : TermL} (h : ¬ ((((x.words.length : Int) = 0 ∨ (x.words.length : Int) > 8) ∨ (x.req.length : Int) > 8) ∨ (x.forb.length : Int) > 8)) : ¬ limT x := by unfold limT; omega
theorem wordE_1 {c : List Clas} {w : Ende} (h : ¬ plainP w.strip) : wordE c w = 1 := if_pos h
theorem wordE_4 {c : List Clas} {w : Ende} (h : plainP w.strip) (h2 : w.add ≠ [] ∧ findC c w.add < 0) : wordE c w = 4 := by unfold wordE; rw [if_neg (fun q => q h), if_pos h2]
theorem wordE_0 {c : List Clas} {w : Ende} (h : plainP w.strip) (h2 : ¬ (w.add ≠ [] ∧ findC c w.add < 0)) : wordE c w = 0 := by unfold wordE; rw [if_neg (fun q => q h), if_neg h2]
theorem phrE_1 {s : Str} (h : ¬ phraseOk s) : phrE s = 1 := if_neg h
theorem phrE_0 {s : Str} (h : phraseOk s) : phrE s = 0 := if_pos h
theorem words_zero {s : Str} : (((wordsP s).length : Nat) : Int) = 0 ↔ ¬ phraseOk s := by
  constructor
  · intro h q
    rw [words_ok q] at h
    have := splitS_ne s
    have h2 : (splitS s).length ≠ 0 := fun e => this (List.length_eq_zero_iff.1 e)
    omega
  · intro h; rw [words_no h]; rfl
theorem termE_lim {c : List Clas} {x : TermL} (h : limT x) : termE c x = 3 := if_pos h
theorem termE_word {c : List Clas} {x : TermL} {k : Nat} {e : Int} (h : ¬ limT x) (hk : k < x.words.length) (hn : ∀ j, j < k → wordE c (x.words.getD j default) = 0) (he : wordE c (x.words.getD k default) = e) (h0 : e ≠ 0) : termE c x = e := by
  have h1 := firstM_at hk hn he h0
  unfold termE; rw [if_neg h, if_pos (by rw [h1]; exact h0), h1]
theorem termE_phr {c : List Clas} {x : TermL} {i k : Nat} (h : ¬ limT x) (hw : ∀ j, j < x.words.length → wordE c (x.words.getD j default) = 0) (hi : i < 2) (hn : ∀ j, j < i → firstM phrE ([x.req, x.forb].getD j default) = 0)
    (hk : k < ([x.req, x.forb].getD i default).length) (hp : ∀ j, j < k → phrE (([x.req, x.forb].getD i default).getD j default) = 0) (he : ¬ phraseOk (([x.req, x.forb].getD i default).getD k default)) : termE c x = 1 := by
  have h1 := firstM_ok hw
  have h2 := firstM_at hk hp (phrE_1 he) (by decide)
  unfold termE; rw [if_neg h, if_neg (by rw [h1]; exact fun q => q rfl)]
  exact firstM_at hi hn h2 (by decide)
theorem termE_ok {c : List Clas} {x : TermL} (h : ¬ limT x) (hw : ∀ j, j < x.words.length → wordE c (x.words.getD j default) = 0) (hn : ∀ j, j < 2 → firstM phrE ([x.req, x.forb].getD j default) = 0) : termE c x = 0 := by
  have h1 := firstM_ok hw
  unfold termE; rw [if_neg h, if_neg (by rw [h1]; exact fun q => q rfl)]
  exact firstM_ok hn
theorem validT_c {ts : List TermL} {c : List Clas} (h : validC c ≠ 0) : validT ts c = validC c := if_pos h
theorem validT_lim {ts : List TermL} {c : List Clas} (h : validC c = 0) (h2 : 128 < ts.length) : validT ts c = 3 := by unfold validT; rw [if_neg (fun q => q h), if_pos h2]
theorem validT_at {ts : List TermL} {c : List Clas} {k : Nat} {e : Int} (h : validC c = 0) (h2 : ¬ 128 < ts.length) (hk : k < ts.length) (hn : ∀ j, j < k → termE c (ts.getD j default) = 0) (he : termE c (ts.getD k default) = e) (h0 : e ≠ 0) : validT ts c = e := by
  unfold validT; rw [if_neg (fun q => q h), if_neg h2]; exact firstM_at hk hn he h0
theorem validT_ok {ts : List TermL} {c : List Clas} (h : validC c = 0) (h2 : ¬ 128 < ts.length) (hn : ∀ j, j < ts.length → termE c (ts.getD j default) = 0) : validT ts c = 0 := by
  unfold validT; rw [if_neg (fun q => q h), if_neg h2]; exact firstM_ok hn
end Go.Proofs.YtkklomiipkipnaaGreatDoor
namespace Go.Proofs.YtkklomiipkipnaaGreatDoor
open Go.RowKit Go.Vc
theorem pl_128 : placesP Tryz.prog 128 = some [(0, 1), (1, 1)] := by kernel_rfl
theorem ty_128 : tyP Tryz.prog 128 = some (2, 48, some (.agg #[(.slice none 0 0), (.slice none 0 0)])) := by kernel_rfl
theorem jud_two {x : TermL} (h : JudT x) {i k : Nat} (hi : i < 2) (hk : k < (([x.req, x.forb] : List (List Str)).getD i default).length) : ((([x.req, x.forb] : List (List Str)).getD i default).getD k default).length ≤ 1000000000 := by
  rcases (show i = 0 ∨ i = 1 by omega) with rfl | rfl
  · exact h.2.2.1 _ (getD_in hk)
  · exact h.2.2.2 _ (getD_in hk)
set_option maxHeartbeats 1000000 in
theorem checked_calls {aox : Option Addr} {bx offx capx : Nat} {aoq : Option Addr} {bq offq capq : Nat} {aof : Option Addr} {bf offf capf : Nat} {x : TermL} {ao : Option Addr} {b off cap : Nat} {c : List Clas} {w0 : World} (hw : RowE w0 aox bx offx capx x.words) (hq : RowE w0 aoq bq offq capq x.req) (hf : RowE w0 aof bf offf capf x.forb) (hc : RowR w0 ao b off cap c) :
    Calls Tryz.prog 55 #[.agg #[.slice aox x.words.length capx, .slice aoq x.req.length capq, .slice aof x.forb.length capf], .slice ao c.length cap] w0 fun e w' => e = .returned (.int .i64 (termE c x)) ∧ Evo w0 w' [] := by
 refine calls_enter (n := 75) (args := [.agg #[.slice aox x.words.length capx, .slice aoq x.req.length capq, .slice aof x.forb.length capf], .slice ao c.length cap]) Tryz.func55 rfl Tryz.ntmps55 rfl ?_
 have hV : Evo w0 w0 [] := Evo.refl _ _
 have hw0 := keepE hw
 have hbd_hw := hw.bd
 have hq0 := keepE hq
 have hbd_hq := hq.bd
 have hf0 := keepE hf
 have hbd_hf := hf.bd
 have hc0 := hc.keep
 have hbd_hc := hc.bd
 refine r_seq ?_
 refine r_region ?_
 refine r_box (vs := [_, _, _]) (by exact rfl) (by exact rfl) rfl ?_
 intro b1 w2 heb1 hEw2 hbb1 hzb1
 have hs_w2 := (hEw2).size
 replace hV := evo_step0 hV hEw2
 replace hw := hw0 _ hV
 replace hq := hq0 _ hV
 replace hf := hf0 _ hV
 replace hc := hc0.now hV
 have hAb1 := hbb1.at
 refine r_op rfl rfl rfl (run_asg (v := .int _ _) rfl (by exact rfl)) ?_
 refine r_nil ?_
 refine r_seq ?_
 refine r_seq ?_
 refine r_region ?_
 refine r_op rfl rfl rfl (run_fa rfl (by exact rfl) fo_42_0) ?_
 refine r_op rfl rfl rfl (run_ld1 rfl ag_39 (by exact rfl) (hAb1.cell 0 (by exact rfl))) ?_
 refine r_op rfl rfl rfl (run_lenSl rfl (by exact rfl) Tryz.underlying39) ?_
 refine r_op rfl rfl rfl (run_eql rfl (by exact rfl) (by exact rfl)) ?_
 refine r_op rfl rfl rfl (run_mv (v := .bool _) rfl (by exact rfl)) ?_
 refine r_g rfl (wantF (by exact rfl)) rfl (fun hg => run_fa rfl (by exact rfl) fo_42_0) ?_
 refine r_g rfl (wantF (by exact rfl)) rfl (fun hg => run_ld1 rfl ag_39 (glv (by exact rfl) (fun h => h) hg) (hAb1.cell 0 (by exact rfl))) ?_
 refine r_g rfl (wantF (by exact rfl)) rfl (fun hg => run_lenSl rfl (glv (by exact rfl) (fun h => h) hg) Tryz.underlying39) ?_
 refine r_g rfl (wantF (by exact rfl)) rfl (fun hg => run_gtr rfl (glv (by exact rfl) (fun h => h) hg) (by exact rfl)) ?_
 refine r_op rfl rfl rfl (run_pick_or rfl (by exact rfl) rfl (fun hq => glv (by exact rfl) (fun h => h) hq)) ?_
 refine r_op rfl rfl rfl (run_mv (v := .bool _) rfl (by exact rfl)) ?_
 refine r_g rfl (wantF (by exact rfl)) rfl (fun hg => run_fa rfl (by exact rfl) fo_42_1) ?_
 refine r_g rfl (wantF (by exact rfl)) rfl (fun hg => run_ld1 rfl ag_40 (glv (by exact rfl) (fun h => h) hg) (hAb1.cell 1 (by exact rfl))) ?_
 refine r_g rfl (wantF (by exact rfl)) rfl (fun hg => run_lenSl rfl (glv (by exact rfl) (fun h => h) hg) Tryz.underlying40) ?_
 refine r_g rfl (wantF (by exact rfl)) rfl (fun hg => run_gtr rfl (glv (by exact rfl) (fun h => h) hg) (by exact rfl)) ?_
 refine r_op rfl rfl rfl (run_pick_or rfl (by exact rfl) rfl (fun hq => glv (by exact rfl) (fun h => h) hq)) ?_
 refine r_op rfl rfl rfl (run_mv (v := .bool _) rfl (by exact rfl)) ?_
 refine r_g rfl (wantF (by exact rfl)) rfl (fun hg => run_fa rfl (by exact rfl) fo_42_2) ?_
 refine r_g rfl (wantF (by exact rfl)) rfl (fun hg => run_ld1 rfl ag_40 (glv (by exact rfl) (fun h => h) hg) (hAb1.cell 2 (by exact rfl))) ?_
 refine r_g rfl (wantF (by exact rfl)) rfl (fun hg => run_lenSl rfl (glv (by exact rfl) (fun h => h) hg) Tryz.underlying40) ?_
 refine r_g rfl (wantF (by exact rfl)) rfl (fun hg => run_gtr rfl (glv (by exact rfl) (fun h => h) hg) (by exact rfl)) ?_
 refine r_op rfl rfl rfl (run_pick_or rfl (by exact rfl) rfl (fun hq => glv (by exact rfl) (fun h => h) hq)) ?_
 refine r_nil ?_
 refine r_cond (by exact rfl) (fun hc3 => ?_) (fun hc3 => ?_)
 ·skip
  refine r_seq ?_
  refine r_region ?_
  refine r_op rfl rfl rfl (run_asg (v := .int _ _) rfl (by exact rfl)) ?_
  refine r_nil ?_
  refine r_ret (res1 (v := .int _ _) rfl (by exact rfl)) ?_
  exact ⟨ret_int (termE_lim (limT_z hc3)).symm, hV⟩
 ·skip
  refine r_skip ?_
  refine r_seq ?_
  refine r_seq ?_
  refine r_region ?_
  refine r_op rfl rfl rfl (run_fa rfl (by exact rfl) fo_42_0) ?_
  refine r_op rfl rfl rfl (run_ld1 rfl ag_39 (by exact rfl) (hAb1.cell 0 (by exact rfl))) ?_
  refine r_op rfl rfl rfl (run_lenSl rfl (by exact rfl) Tryz.underlying39) ?_
  refine r_op rfl rfl rfl (run_mv (v := .int _ _) rfl (by exact rfl)) ?_
  refine r_nil ?_
  refine r_block ?_
  have hnl : ¬ limT x := limT_n hc3
  refine r_loop (α := Nat) [4, 6, 36, 37, 38, 39, 40, 41, 42, 43, 44, 45, 46, 47, 48, 49, 50, 51, 52, 53, 54] (fun k g w => g 36 = .int .i64 (k : Nat) ∧ k ≤ x.words.length ∧ Blk w b1 42 [.slice aox x.words.length capx, .slice aoq x.req.length capq, .slice aof x.forb.length capf] ∧ At w b1 0 [.slice aox x.words.length capx, .slice aoq x.req.length capq, .slice aof x.forb.length capf] ∧ (∀ j, j < k → wordE c (x.words.getD j default) = 0) ∧ w2.heap.size ≤ w.heap.size ∧ Evo w0 w []) (fun k => x.words.length - k) 0 ?_ ?_
  ·refine ⟨(by first | exact rfl | exact congrArg (Value.int _) (by omega) | exact congrArg (Value.int _) (by dsimp only; omega) | exact congrArg (Value.int _) (by simp) | exact congrArg S (by simp)), (by first | assumption | omega | (dsimp only; omega) | (simp; done)), hbb1, hbb1.at, (fun j h => by omega), (by first | assumption | omega | (dsimp only; omega) | (simp; done)), hV⟩
  ·rintro k g w5 ⟨hj6, hk_k, hbb1, hAb1, hnw, hzl4, hV⟩
   have hs_w5hV := hV.size
   have hlt7 := hbb1.lt
   replace hw := hw0 _ hV
   replace hq := hq0 _ hV
   replace hf := hf0 _ hV
   replace hc := hc0.now hV
   refine r_know (i := 36) (v := .int .i64 (k : Nat)) (by exact hj6) ?_
   refine r_seq ?_
   refine r_region ?_
   refine r_op rfl rfl rfl (run_lss rfl (by exact rfl) (by exact rfl)) ?_
   refine r_nil ?_
   refine r_seq ?_
   refine r_cond (by exact rfl) (fun hc8 => ?_) (fun hc8 => ?_)
   ·skip
    refine r_skip ?_
    refine r_seq ?_
    refine r_block ?_
    refine r_seq ?_
    refine r_region ?_
    refine r_op rfl rfl rfl (run_ix (k) rfl Tryz.underlying39 ty_60 (by exact rfl) (by exact rfl) (by first | exact rfl | omega) (by omega) (hw.addr (i := k) (by omega))) ?_
    have hA90 := fun (w' : World) (h : Evo w0 w' []) => (hw0 w' h).atD (k) (by omega)
    have hA9 := hA90 _ hV
    refine r_op rfl rfl rfl (run_ldN rfl ag_60 ty_60 (by exact rfl) rfl hA9) ?_
    refine r_var (zs := [_, _]) (vs := [_, _]) ty_60 (by exact rfl) rfl (by exact rfl) (fun _ => rfl) (by exact rfl) rfl rfl (by exact rfl) ?_
    intro b10 w11 heb10 hEw11 hbb10 hzb10
    have hs_w11 := (hEw11).size
    replace hV := evo_step0 hV hEw11
    replace hw := hw0 _ hV
    replace hq := hq0 _ hV
    replace hf := hf0 _ hV
    replace hc := hc0.now hV
    replace hbb1 := hbb1.evo0 hEw11
    replace hAb1 := hAb1.evo0 hEw11
    have hAb10 := hbb10.at
    refine r_nil ?_
    refine r_seq ?_
    refine r_seq ?_
    refine r_region ?_
    refine r_op rfl rfl rfl (run_fa rfl (by exact rfl) fo_60_0) ?_
    refine r_op rfl rfl rfl (run_ld1 rfl ag_9 (by exact rfl) (hAb10.cell 0 (by exact rfl))) ?_
    refine r_opcall rfl rfl rfl (run_callf (vs := [S _]) rfl (by exact rfl) Tryz.func72 rfl (by kernel_rfl)) (tplain_calls ) ?_
    rintro e w12 ⟨rfl, hE12⟩
    refine ⟨_, rfl, ?_⟩
    have hs_w12 := (hE12).size
    replace hV := evo_step0 hV hE12
    replace hw := hw0 _ hV
    replace hq := hq0 _ hV
    replace hf := hf0 _ hV
    replace hc := hc0.now hV
    replace hbb1 := hbb1.evo0 hE12
    replace hAb1 := hAb1.evo0 hE12
    replace hbb10 := hbb10.evo0 hE12
    replace hAb10 := hAb10.evo0 hE12
    refine r_op rfl rfl rfl (run_not rfl (by exact rfl)) ?_
    refine r_nil ?_
    refine r_cond (by exact rfl) (fun hc13 => ?_) (fun hc13 => ?_)
    ·skip
     refine r_seq ?_
     refine r_region ?_
     refine r_op rfl rfl rfl (run_asg (v := .int _ _) rfl (by exact rfl)) ?_
     refine r_nil ?_
     refine r_ret (res1 (v := .int _ _) rfl (by exact rfl)) ?_
     exact ⟨ret_int (termE_word hnl (by omega) hnw (wordE_1 (by have h9 := hc13; simpa using h9)) (by decide)).symm, hV⟩
    ·skip
     refine r_skip ?_
     refine r_seq ?_
     have hpl : plainP (x.words.getD k default).strip := by have h9 := hc13; simpa using h9
     refine r_region ?_
     refine r_op rfl rfl rfl (run_fa rfl (by exact rfl) fo_60_1) ?_
     refine r_op rfl rfl rfl (run_ld1 rfl ag_9 (by exact rfl) (hAb10.cell 1 (by exact rfl))) ?_
     refine r_op rfl rfl rfl (run_sneq rfl (by exact rfl) (by exact rfl)) ?_
     refine r_op rfl rfl rfl (run_mv (v := .bool _) rfl (by exact rfl)) ?_
     refine r_g rfl (wantT (by exact rfl)) rfl (fun hg => run_mv (v := .slice _ _ _) rfl (by exact rfl)) ?_
     refine r_g rfl (wantT (by exact rfl)) rfl (fun hg => run_fa rfl (by exact rfl) fo_60_1) ?_
     refine r_g rfl (wantT (by exact rfl)) rfl (fun hg => run_ld1 rfl ag_9 (glv (by exact rfl) (fun h => h) hg) (hAb10.cell 1 (by exact rfl))) ?_
     refine r_gcall rfl (wantT (by exact rfl)) rfl (fun hg => run_callf rfl (argcons (v := .slice _ _ _) (glv (by exact rfl) (fun h => h) hg) (argcons (v := S _) (glv (by exact rfl) (fun h => h) hg) (rfl))) Tryz.func84 rfl (by kernel_rfl)) (fun hg => (find_calls hc).mono (fun e w' h => ⟨h.1, h.2⟩)) (fun w14 hE15 => ?_)
     have hs_w14 := (hE15).size
     replace hV := evo_step0 hV hE15
     replace hw := hw0 _ hV
     replace hq := hq0 _ hV
     replace hf := hf0 _ hV
     replace hc := hc0.now hV
     replace hbb1 := hbb1.evo0 hE15
     replace hAb1 := hAb1.evo0 hE15
     refine r_g rfl (wantT (by exact rfl)) rfl (fun hg => run_lss rfl (glv (by exact rfl) (fun h => h) hg) (by exact rfl)) ?_
     refine r_op rfl rfl rfl (run_pick_and rfl (by exact rfl) (fun hq => glv (by exact rfl) (fun h => h) hq) rfl) ?_
     refine r_nil ?_
     refine r_cond (by exact rfl) (fun hc16 => ?_) (fun hc16 => ?_)
     ·skip
      refine r_seq ?_
      refine r_region ?_
      refine r_op rfl rfl rfl (run_asg (v := .int _ _) rfl (by exact rfl)) ?_
      refine r_nil ?_
      refine r_ret (res1 (v := .int _ _) rfl (by exact rfl)) ?_
      exact ⟨ret_int (termE_word hnl (by omega) hnw (wordE_4 hpl hc16) (by decide)).symm, hV⟩
     ·skip
      refine r_skip ?_
      refine r_blk ?_
      refine r_region ?_
      refine r_op rfl rfl rfl (run_add rfl (by exact rfl) (by exact rfl) (by omega) (by omega)) ?_
      refine r_op rfl rfl rfl (run_mv (v := .int _ _) rfl (by exact rfl)) ?_
      refine r_nil ?_
      refine r_again (k + 1) ?_ ?_ ?_
      ·first | omega | (dsimp only; omega)
      ·refine ⟨(by first | exact rfl | exact congrArg (Value.int _) (by omega) | exact congrArg (Value.int _) (by dsimp only; omega) | exact congrArg (Value.int _) (by simp) | exact congrArg S (by simp)), (by first | assumption | omega | (dsimp only; omega) | (simp; done)), hbb1, hbb1.at, (upto0 hnw (wordE_0 hpl hc16)), (by first | assumption | omega | (dsimp only; omega) | (simp; done)), hV⟩
      ·repeat (first | (with_reducible exact Agree.merge _ _ _) | (with_reducible exact Agree.refl _ _) | (with_reducible refine Agree.upd ?_ _ _ rfl) | ((with_reducible refine Agree.inner ?_ ?_); (kernel_rfl)))
   ·skip
    refine r_exit rfl ?_
    refine r_seq ?_
    refine r_seq ?_
    refine r_region ?_
    refine r_op rfl rfl rfl (run_fa rfl (by exact rfl) fo_42_1) ?_
    refine r_op rfl rfl rfl (run_ld1 rfl ag_40 (by exact rfl) (hAb1.cell 1 (by exact rfl))) ?_
    refine r_op rfl rfl rfl (run_fa rfl (by exact rfl) fo_42_2) ?_
    refine r_op rfl rfl rfl (run_ld1 rfl ag_40 (by exact rfl) (hAb1.cell 2 (by exact rfl))) ?_
    refine r_op rfl rfl rfl (run_bld (pv := [(0, .slice aoq x.req.length capq), (1, .slice aof x.forb.length capf)]) (zs := [_, _]) (cells := [_, _]) rfl ty_128 (by exact rfl) pl_128 (by exact rfl) (by exact rfl)) ?_
    refine r_op rfl rfl rfl (run_mv (v := .int _ _) rfl (by exact rfl)) ?_
    refine r_nil ?_
    refine r_block ?_
    have hnw2 : ∀ j, j < x.words.length → wordE c (x.words.getD j default) = 0 := fun j hj => hnw j (by omega)
    refine r_loop (α := Nat) [4, 8, 10, 60, 61, 62, 63, 64, 65, 66, 67, 68, 69, 70, 71, 72, 73, 74] (fun i g w => g 60 = .int .i64 (i : Nat) ∧ i ≤ 2 ∧ (∀ j, j < i → firstM phrE (([x.req, x.forb] : List (List Str)).getD j default) = 0) ∧ w5.heap.size ≤ w.heap.size ∧ Evo w0 w []) (fun i => 2 - i) 0 ?_ ?_
    ·refine ⟨(by first | exact rfl | exact congrArg (Value.int _) (by omega) | exact congrArg (Value.int _) (by dsimp only; omega) | exact congrArg (Value.int _) (by simp) | exact congrArg S (by simp)), (by first | assumption | omega | (dsimp only; omega) | (simp; done)), (fun j h => by omega), (by first | assumption | omega | (dsimp only; omega) | (simp; done)), hV⟩
    ·rintro i g w18 ⟨hj19, hk_i, hno, hzl17, hV⟩
     have hs_w18hV := hV.size
     replace hw := hw0 _ hV
     replace hq := hq0 _ hV
     replace hf := hf0 _ hV
     replace hc := hc0.now hV
     refine r_know (i := 60) (v := .int .i64 (i : Nat)) (by exact hj19) ?_
     refine r_seq ?_
     refine r_region ?_
     refine r_op rfl rfl rfl (run_lss rfl (by exact rfl) (by exact rfl)) ?_
     refine r_nil ?_
     refine r_seq ?_
     refine r_cond (by exact rfl) (fun hc20 => ?_) (fun hc20 => ?_)
     ·skip
      refine r_skip ?_
      refine r_seq ?_
      refine r_block ?_
      refine r_seq ?_
      obtain ⟨aoL, bL, offL, capL, hvL, hL0⟩ : ∃ ao9 b9 off9 cap9, ([.slice aoq x.req.length capq, .slice aof x.forb.length capf] : List Value)[i]? = some (.slice ao9 (([x.req, x.forb] : List (List Str)).getD i default).length cap9) ∧ ∀ w9, Evo w0 w9 [] → RowE w9 ao9 b9 off9 cap9 (([x.req, x.forb] : List (List Str)).getD i default) := by
        rcases (show i = 0 ∨ i = 1 by omega) with rfl | rfl
        · exact ⟨_, _, _, _, rfl, hq0⟩
        · exact ⟨_, _, _, _, rfl, hf0⟩
      have hL := hL0 _ hV; have hbd_hL := hL.bd
      refine r_region ?_
      refine r_op rfl rfl rfl (run_ixA1 (v := .slice aoL (([x.req, x.forb] : List (List Str)).getD i default).length capL) (i) rfl Tryz.underlying128 ty_40 ag_40 (by exact rfl) (by exact rfl) (by first | exact rfl | omega) (by omega) (by exact hvL)) ?_
      refine r_op rfl rfl rfl (run_asg (v := .slice aoL (([x.req, x.forb] : List (List Str)).getD i default).length capL) rfl (by exact rfl)) ?_
      refine r_nil ?_
      refine r_seq ?_
      refine r_region ?_
      refine r_op rfl rfl rfl (run_mv (v := .slice aoL (([x.req, x.forb] : List (List Str)).getD i default).length capL) rfl (by exact rfl)) ?_
      refine r_op rfl rfl rfl (run_lenSl rfl (by exact rfl) Tryz.underlying40) ?_
      refine r_op rfl rfl rfl (run_mv (v := .int _ _) rfl (by exact rfl)) ?_
      refine r_nil ?_
      refine r_block ?_
      refine r_loop (α := Nat) [4, 10, 65, 66, 67, 68, 69, 70, 71, 72, 73] (fun k g w => g 65 = .int .i64 (k : Nat) ∧ k ≤ (([x.req, x.forb] : List (List Str)).getD i default).length ∧ (∀ j, j < k → phrE ((([x.req, x.forb] : List (List Str)).getD i default).getD j default) = 0) ∧ w18.heap.size ≤ w.heap.size ∧ Evo w0 w []) (fun k => (([x.req, x.forb] : List (List Str)).getD i default).length - k) 0 ?_ ?_
      ·refine ⟨(by first | exact rfl | exact congrArg (Value.int _) (by omega) | exact congrArg (Value.int _) (by dsimp only; omega) | exact congrArg (Value.int _) (by simp) | exact congrArg S (by simp)), (by first | assumption | omega | (dsimp only; omega) | (simp; done)), (fun j h => by omega), (by first | assumption | omega | (dsimp only; omega) | (simp; done)), hV⟩
      ·rintro k g w22 ⟨hj23, hk_k, hnp, hzl21, hV⟩
       have hs_w22hV := hV.size
       replace hw := hw0 _ hV
       replace hq := hq0 _ hV
       replace hf := hf0 _ hV
       replace hc := hc0.now hV
       replace hL := hL0 _ hV
       refine r_know (i := 65) (v := .int .i64 (k : Nat)) (by exact hj23) ?_
       refine r_seq ?_
       refine r_region ?_
       refine r_op rfl rfl rfl (run_lss rfl (by exact rfl) (by exact rfl)) ?_
       refine r_nil ?_
       refine r_seq ?_
       refine r_cond (by exact rfl) (fun hc24 => ?_) (fun hc24 => ?_)
       ·skip
        refine r_skip ?_
        refine r_seq ?_
        refine r_block ?_
        refine r_seq ?_
        refine r_region ?_
        refine r_op rfl rfl rfl (run_ix (k) rfl Tryz.underlying40 ty_9 (by exact rfl) (by exact rfl) (by first | exact rfl | omega) (by omega) (hL.addr (i := k) (by omega))) ?_
        have hA250 := fun (w' : World) (h : Evo w0 w' []) => (hL0 w' h).atD (k) (by omega)
        have hA25 := hA250 _ hV
        refine r_op rfl rfl rfl (run_ld1 rfl ag_9 (by exact rfl) (hA25.cell 0 (by exact rfl))) ?_
        refine r_op rfl rfl rfl (run_asg (v := S _) rfl (by exact rfl)) ?_
        refine r_nil ?_
        refine r_seq ?_
        refine r_region ?_
        refine r_op rfl rfl rfl (run_mv (v := S _) rfl (by exact rfl)) ?_
        refine r_opcall rfl rfl rfl (run_callf (vs := [S _]) rfl (by exact rfl) Tryz.func42 rfl (by kernel_rfl)) twords_calls ?_
        rintro e w26 ⟨ao26, bs26, off26, cap26, rfl, hE26, hr26⟩
        refine ⟨_, rfl, ?_⟩
        have hs_w26 := (hE26).size
        replace hV := evo_step0 hV hE26
        replace hw := hw0 _ hV
        replace hq := hq0 _ hV
        replace hf := hf0 _ hV
        replace hc := hc0.now hV
        replace hL := hL0 _ hV
        refine r_op rfl rfl rfl (run_lenSl rfl (by exact rfl) Tryz.underlying40) ?_
        refine r_op rfl rfl rfl (run_eql rfl (by exact rfl) (by exact rfl)) ?_
        refine r_nil ?_
        refine r_cond (by exact rfl) (fun hc27 => ?_) (fun hc27 => ?_)
        ·skip
         refine r_seq ?_
         refine r_region ?_
         refine r_op rfl rfl rfl (run_asg (v := .int _ _) rfl (by exact rfl)) ?_
         refine r_nil ?_
         refine r_ret (res1 (v := .int _ _) rfl (by exact rfl)) ?_
         exact ⟨ret_int (termE_phr hnl hnw2 (by omega) hno (by omega) hnp (words_zero.1 hc27)).symm, hV⟩
        ·skip
         refine r_skip ?_
         refine r_blk ?_
         refine r_region ?_
         refine r_op rfl rfl rfl (run_add rfl (by exact rfl) (by exact rfl) (by omega) (by omega)) ?_
         refine r_op rfl rfl rfl (run_mv (v := .int _ _) rfl (by exact rfl)) ?_
         refine r_nil ?_
         refine r_again (k + 1) ?_ ?_ ?_
         ·first | omega | (dsimp only; omega)
         ·refine ⟨(by first | exact rfl | exact congrArg (Value.int _) (by omega) | exact congrArg (Value.int _) (by dsimp only; omega) | exact congrArg (Value.int _) (by simp) | exact congrArg S (by simp)), (by first | assumption | omega | (dsimp only; omega) | (simp; done)), (upto0 hnp (phrE_0 (Classical.not_not.1 (fun q => hc27 (words_zero.2 q))))), (by first | assumption | omega | (dsimp only; omega) | (simp; done)), hV⟩
         ·repeat (first | (with_reducible exact Agree.merge _ _ _) | (with_reducible exact Agree.refl _ _) | (with_reducible refine Agree.upd ?_ _ _ rfl) | ((with_reducible refine Agree.inner ?_ ?_); (kernel_rfl)))
       ·skip
        refine r_exit rfl ?_
        refine r_blk ?_
        refine r_region ?_
        refine r_op rfl rfl rfl (run_add rfl (by exact rfl) (by exact rfl) (by omega) (by omega)) ?_
        refine r_op rfl rfl rfl (run_mv (v := .int _ _) rfl (by exact rfl)) ?_
        refine r_nil ?_
        refine r_again (i + 1) ?_ ?_ ?_
        ·first | omega | (dsimp only; omega)
        ·refine ⟨(by first | exact rfl | exact congrArg (Value.int _) (by omega) | exact congrArg (Value.int _) (by dsimp only; omega) | exact congrArg (Value.int _) (by simp) | exact congrArg S (by simp)), (by first | assumption | omega | (dsimp only; omega) | (simp; done)), (upto0 hno (firstM_ok (fun j hj => hnp j (by omega)))), (by first | assumption | omega | (dsimp only; omega) | (simp; done)), hV⟩
        ·repeat (first | (with_reducible exact Agree.merge _ _ _) | (with_reducible exact Agree.refl _ _) | (with_reducible refine Agree.upd ?_ _ _ rfl) | ((with_reducible refine Agree.inner ?_ ?_); (kernel_rfl)))
     ·skip
      refine r_exit rfl ?_
      refine r_seq ?_
      refine r_region ?_
      refine r_op rfl rfl rfl (run_asg (v := .int _ _) rfl (by exact rfl)) ?_
      refine r_nil ?_
      refine r_ret (res1 (v := .int _ _) rfl (by exact rfl)) ?_
      exact ⟨ret_int (termE_ok hnl hnw2 (fun j hj => hno j (by omega))).symm, hV⟩
set_option maxHeartbeats 1000000 in
theorem tvalidate_calls {aot : Option Addr} {btt offt capt : Nat} {ts : List TermL} {ao : Option Addr} {b off cap : Nat} {c : List Clas} {w0 : World} (ht : RowR w0 aot btt offt capt ts) (hc : RowR w0 ao b off cap c) :
    Calls Tryz.prog 30 #[.slice aot ts.length capt, .slice ao c.length cap] w0 fun e w' => e = .returned (.int .i64 (validT ts c)) ∧ Evo w0 w' [] := by
 refine calls_enter (n := 30) (args := [.slice aot ts.length capt, .slice ao c.length cap]) Tryz.func30 rfl Tryz.ntmps30 rfl ?_
 have hV : Evo w0 w0 [] := Evo.refl _ _
 have ht0 := ht.keep
 have hbd_ht := ht.bd
 have hc0 := hc.keep
 have hbd_hc := hc.bd
 refine r_seq ?_
 refine r_region ?_
 refine r_op rfl rfl rfl (run_asg (v := .int _ _) rfl (by exact rfl)) ?_
 refine r_nil ?_
 refine r_seq ?_
 refine r_seq ?_
 refine r_region ?_
 refine r_op rfl rfl rfl (run_mv (v := .slice _ _ _) rfl (by exact rfl)) ?_
 refine r_opcall rfl rfl rfl (run_callf (vs := [.slice _ _ _]) rfl (by exact rfl) Tryz.func54 rfl (by kernel_rfl)) (validate_calls hc) ?_
 rintro e w1 ⟨rfl, hE1⟩
 refine ⟨_, rfl, ?_⟩
 have hs_w1 := (hE1).size
 replace hV := evo_step0 hV hE1
 replace ht := ht0.now hV
 replace hc := hc0.now hV
 refine r_op rfl rfl rfl (run_asg (v := .int _ _) rfl (by exact rfl)) ?_
 refine r_nil ?_
 refine r_seq ?_
 refine r_region ?_
 refine r_op rfl rfl rfl (run_mv (v := .int _ _) rfl (by exact rfl)) ?_
 refine r_op rfl rfl rfl (run_neq rfl (by exact rfl) (by exact rfl)) ?_
 refine r_nil ?_
 refine r_cond (by exact rfl) (fun hc2 => ?_) (fun hc2 => ?_)
 ·skip
  refine r_seq ?_
  refine r_region ?_
  refine r_op rfl rfl rfl (run_mv (v := .int _ _) rfl (by exact rfl)) ?_
  refine r_op rfl rfl rfl (run_asg (v := .int _ _) rfl (by exact rfl)) ?_
  refine r_nil ?_
  refine r_ret (res1 (v := .int _ _) rfl (by exact rfl)) ?_
  exact ⟨ret_int (validT_c hc2).symm, hV⟩
 ·skip
  refine r_skip ?_
  refine r_seq ?_
  refine r_seq ?_
  have hvc := hc2
  refine r_region ?_
  refine r_op rfl rfl rfl (run_mv (v := .slice _ _ _) rfl (by exact rfl)) ?_
  refine r_op rfl rfl rfl (run_lenSl rfl (by exact rfl) Tryz.underlying22) ?_
  refine r_op rfl rfl rfl (run_gtr rfl (by exact rfl) (by exact rfl)) ?_
  refine r_nil ?_
  refine r_cond (by exact rfl) (fun hc3 => ?_) (fun hc3 => ?_)
  ·skip
   refine r_seq ?_
   refine r_region ?_
   refine r_op rfl rfl rfl (run_asg (v := .int _ _) rfl (by exact rfl)) ?_
   refine r_nil ?_
   refine r_ret (res1 (v := .int _ _) rfl (by exact rfl)) ?_
   exact ⟨ret_int (validT_lim (Classical.not_not.1 hvc) (by omega)).symm, hV⟩
  ·skip
   refine r_skip ?_
   refine r_seq ?_
   refine r_seq ?_
   refine r_region ?_
   refine r_op rfl rfl rfl (run_mv (v := .slice _ _ _) rfl (by exact rfl)) ?_
   refine r_op rfl rfl rfl (run_lenSl rfl (by exact rfl) Tryz.underlying22) ?_
   refine r_op rfl rfl rfl (run_mv (v := .int _ _) rfl (by exact rfl)) ?_
   refine r_nil ?_
   refine r_block ?_
   refine r_loop (α := Nat) [4, 7, 8, 19, 20, 21, 22, 23, 24, 25, 26, 27, 28, 29] (fun k g w => g 19 = .int .i64 (k : Nat) ∧ k ≤ ts.length ∧ (∀ j, j < k → termE c (ts.getD j default) = 0) ∧ w1.heap.size ≤ w.heap.size ∧ Evo w0 w []) (fun k => ts.length - k) 0 ?_ ?_
   ·refine ⟨(by first | exact rfl | exact congrArg (Value.int _) (by omega) | exact congrArg (Value.int _) (by dsimp only; omega) | exact congrArg (Value.int _) (by simp) | exact congrArg S (by simp)), (by first | assumption | omega | (dsimp only; omega) | (simp; done)), (fun j h => by omega), (by first | assumption | omega | (dsimp only; omega) | (simp; done)), hV⟩
   ·rintro k g w5 ⟨hj6, hk_k, hno, hzl4, hV⟩
    have hs_w5hV := hV.size
    replace ht := ht0.now hV
    replace hc := hc0.now hV
    refine r_know (i := 19) (v := .int .i64 (k : Nat)) (by exact hj6) ?_
    refine r_seq ?_
    refine r_region ?_
    refine r_op rfl rfl rfl (run_lss rfl (by exact rfl) (by exact rfl)) ?_
    refine r_nil ?_
    refine r_seq ?_
    refine r_cond (by exact rfl) (fun hc7 => ?_) (fun hc7 => ?_)
    ·skip
     refine r_skip ?_
     refine r_seq ?_
     refine r_block ?_
     refine r_seq ?_
     refine r_region ?_
     refine r_op rfl rfl rfl (run_ix (k) rfl Tryz.underlying22 ty_42 (by exact rfl) (by exact rfl) (by first | exact rfl | omega) (by omega) (ht.addr (i := k) (by omega))) ?_
     obtain ⟨aoW8, bW8, offW8, capW8, aoQ8, bQ8, offQ8, capQ8, aoF8, bF8, offF8, capF8, hX⟩ := term_atK ht0 (k) (by omega)
     have hA80 := fun (w' : World) (h : Evo w0 w' []) => (hX w' h).1
     have hA8 := hA80 _ hV
     have hW80 := fun (w' : World) (h : Evo w0 w' []) => (hX w' h).2.1
     have hW8 := hW80 _ hV
     have hQ80 := fun (w' : World) (h : Evo w0 w' []) => (hX w' h).2.2.1
     have hQ8 := hQ80 _ hV
     have hF80 := fun (w' : World) (h : Evo w0 w' []) => (hX w' h).2.2.2
     have hF8 := hF80 _ hV
     clear hX
     have hbd_hW8 := hW8.bd
     have hbd_hQ8 := hQ8.bd
     have hbd_hF8 := hF8.bd
     refine r_op rfl rfl rfl (run_ldN rfl ag_42 ty_42 (by exact rfl) rfl hA8) ?_
     refine r_var (zs := [_, _, _]) (vs := [_, _, _]) ty_42 (by exact rfl) rfl (by exact rfl) (fun _ => rfl) (by exact rfl) rfl rfl (by exact rfl) ?_
     intro b9 w10 heb9 hEw10 hbb9 hzb9
     have hs_w10 := (hEw10).size
     replace hV := evo_step0 hV hEw10
     replace ht := ht0.now hV
     replace hc := hc0.now hV
     replace hW8 := hW80 _ hV
     replace hQ8 := hQ80 _ hV
     replace hF8 := hF80 _ hV
     have hAb9 := hbb9.at
     refine r_nil ?_
     refine r_seq ?_
     refine r_region ?_
     refine r_op rfl rfl rfl (run_ldN rfl ag_42 ty_42 (by exact rfl) rfl hAb9) ?_
     refine r_op rfl rfl rfl (run_mv (v := .slice _ _ _) rfl (by exact rfl)) ?_
     refine r_opcall rfl rfl rfl (run_callf (vs := [.agg _, .slice _ _ _]) rfl (by exact rfl) Tryz.func55 rfl (by kernel_rfl)) (checked_calls hW8 hQ8 hF8 hc) ?_
     rintro e w11 ⟨rfl, hE11⟩
     refine ⟨_, rfl, ?_⟩
     have hs_w11 := (hE11).size
     replace hV := evo_step0 hV hE11
     replace ht := ht0.now hV
     replace hc := hc0.now hV
     refine r_op rfl rfl rfl (run_asg (v := .int _ _) rfl (by exact rfl)) ?_
     refine r_nil ?_
     refine r_seq ?_
     refine r_region ?_
     refine r_op rfl rfl rfl (run_mv (v := .int _ _) rfl (by exact rfl)) ?_
     refine r_op rfl rfl rfl (run_neq rfl (by exact rfl) (by exact rfl)) ?_
     refine r_nil ?_
     refine r_cond (by exact rfl) (fun hc12 => ?_) (fun hc12 => ?_)
     ·skip
      refine r_seq ?_
      refine r_region ?_
      refine r_op rfl rfl rfl (run_mv (v := .int _ _) rfl (by exact rfl)) ?_
      refine r_op rfl rfl rfl (run_asg (v := .int _ _) rfl (by exact rfl)) ?_
      refine r_nil ?_
      refine r_ret (res1 (v := .int _ _) rfl (by exact rfl)) ?_
      exact ⟨ret_int (validT_at (k := k) (Classical.not_not.1 hvc) (by omega) (by omega) hno rfl hc12).symm, hV⟩
     ·skip
      refine r_skip ?_
      refine r_blk ?_
      refine r_region ?_
      refine r_op rfl rfl rfl (run_add rfl (by exact rfl) (by exact rfl) (by omega) (by omega)) ?_
      refine r_op rfl rfl rfl (run_mv (v := .int _ _) rfl (by exact rfl)) ?_
      refine r_nil ?_
      refine r_again (k + 1) ?_ ?_ ?_
      ·first | omega | (dsimp only; omega)
      ·refine ⟨(by first | exact rfl | exact congrArg (Value.int _) (by omega) | exact congrArg (Value.int _) (by dsimp only; omega) | exact congrArg (Value.int _) (by simp) | exact congrArg S (by simp)), (by first | assumption | omega | (dsimp only; omega) | (simp; done)), (upto0 hno (Classical.not_not.1 hc12)), (by first | assumption | omega | (dsimp only; omega) | (simp; done)), hV⟩
      ·repeat (first | (with_reducible exact Agree.merge _ _ _) | (with_reducible exact Agree.refl _ _) | (with_reducible refine Agree.upd ?_ _ _ rfl) | ((with_reducible refine Agree.inner ?_ ?_); (kernel_rfl)))
    ·skip
     refine r_exit rfl ?_
     refine r_seq ?_
     refine r_region ?_
     refine r_op rfl rfl rfl (run_asg (v := .int _ _) rfl (by exact rfl)) ?_
     refine r_nil ?_
     refine r_ret (res1 (v := .int _ _) rfl (by exact rfl)) ?_
     exact ⟨ret_int (validT_ok (Classical.not_not.1 hvc) (by omega) (fun j hj => hno j (by omega))).symm, hV⟩
set_option maxHeartbeats 1000000 in
theorem rtvalidate_calls {aot : Option Addr} {btt offt capt : Nat} {ts : List TermL} {ao : Option Addr} {b off cap : Nat} {c : List Clas} {w0 : World} (ht : RowR w0 aot btt offt capt ts) (hc : RowR w0 ao b off cap c) (hjb : ∀ x ∈ ts, JudT x) :
    Calls Tryz.prog 31 #[.slice aot ts.length capt, .slice ao c.length cap] w0 fun e w' => e = .returned (.int .i64 (validT ts c)) ∧ Evo w0 w' [] := by
 refine calls_enter (n := 100) (args := [.slice aot ts.length capt, .slice ao c.length cap]) Tryz.func31 rfl Tryz.ntmps31 rfl ?_
 have hV : Evo w0 w0 [] := Evo.refl _ _
 have ht0 := ht.keep
 have hbd_ht := ht.bd
 have hc0 := hc.keep
 have hbd_hc := hc.bd
 refine r_seq ?_
 refine r_region ?_
 refine r_op rfl rfl rfl (run_asg (v := .int _ _) rfl (by exact rfl)) ?_
 refine r_nil ?_
 refine r_seq ?_
 refine r_seq ?_
 refine r_region ?_
 refine r_op rfl rfl rfl (run_mv (v := .slice _ _ _) rfl (by exact rfl)) ?_
 refine r_opcall rfl rfl rfl (run_callf (vs := [.slice _ _ _]) rfl (by exact rfl) Tryz.func56 rfl (by kernel_rfl)) (rvalidate_calls hc) ?_
 rintro e w1 ⟨rfl, hE1⟩
 refine ⟨_, rfl, ?_⟩
 have hs_w1 := (hE1).size
 replace hV := evo_step0 hV hE1
 replace ht := ht0.now hV
 replace hc := hc0.now hV
 refine r_op rfl rfl rfl (run_asg (v := .int _ _) rfl (by exact rfl)) ?_
 refine r_nil ?_
 refine r_seq ?_
 refine r_region ?_
 refine r_op rfl rfl rfl (run_mv (v := .int _ _) rfl (by exact rfl)) ?_
 refine r_op rfl rfl rfl (run_neq rfl (by exact rfl) (by exact rfl)) ?_
 refine r_nil ?_
 refine r_cond (by exact rfl) (fun hc2 => ?_) (fun hc2 => ?_)
 ·skip
  refine r_seq ?_
  refine r_region ?_
  refine r_op rfl rfl rfl (run_mv (v := .int _ _) rfl (by exact rfl)) ?_
  refine r_op rfl rfl rfl (run_asg (v := .int _ _) rfl (by exact rfl)) ?_
  refine r_nil ?_
  refine r_ret (res1 (v := .int _ _) rfl (by exact rfl)) ?_
  exact ⟨ret_int (validT_c hc2).symm, hV⟩
 ·skip
  refine r_skip ?_
  refine r_seq ?_
  refine r_seq ?_
  have hvc := hc2
  refine r_region ?_
  refine r_op rfl rfl rfl (run_mv (v := .slice _ _ _) rfl (by exact rfl)) ?_
  refine r_op rfl rfl rfl (run_lenSl rfl (by exact rfl) Tryz.underlying22) ?_
  refine r_op rfl rfl rfl (run_gtr rfl (by exact rfl) (by exact rfl)) ?_
  refine r_nil ?_
  refine r_cond (by exact rfl) (fun hc3 => ?_) (fun hc3 => ?_)
  ·skip
   refine r_seq ?_
   refine r_region ?_
   refine r_op rfl rfl rfl (run_asg (v := .int _ _) rfl (by exact rfl)) ?_
   refine r_nil ?_
   refine r_ret (res1 (v := .int _ _) rfl (by exact rfl)) ?_
   exact ⟨ret_int (validT_lim (Classical.not_not.1 hvc) (by omega)).symm, hV⟩
  ·skip
   refine r_skip ?_
   refine r_seq ?_
   refine r_seq ?_
   refine r_region ?_
   refine r_op rfl rfl rfl (run_mv (v := .slice _ _ _) rfl (by exact rfl)) ?_
   refine r_op rfl rfl rfl (run_lenSl rfl (by exact rfl) Tryz.underlying22) ?_
   refine r_op rfl rfl rfl (run_mv (v := .int _ _) rfl (by exact rfl)) ?_
   refine r_nil ?_
   refine r_block ?_
   refine r_loop (α := Nat) [4, 7, 9, 11, 13, 14, 15, 26, 27, 28, 29, 30, 31, 32, 33, 34, 35, 36, 37, 38, 39, 40, 41, 42, 43, 44, 45, 46, 47, 48, 49, 50, 51, 52, 53, 54, 55, 56, 57, 58, 59, 60, 61, 62, 63, 64, 65, 66, 67, 68, 69, 70, 71, 72, 73, 74, 75, 76, 77, 78, 79, 80, 81, 82, 83, 84, 85, 86, 87, 88, 89, 90, 91, 92, 93, 94, 95, 96, 97, 98, 99] (fun k g w => g 26 = .int .i64 (k : Nat) ∧ k ≤ ts.length ∧ (∀ j, j < k → termE c (ts.getD j default) = 0) ∧ w1.heap.size ≤ w.heap.size ∧ Evo w0 w []) (fun k => ts.length - k) 0 ?_ ?_
   ·refine ⟨(by first | exact rfl | exact congrArg (Value.int _) (by omega) | exact congrArg (Value.int _) (by dsimp only; omega) | exact congrArg (Value.int _) (by simp) | exact congrArg S (by simp)), (by first | assumption | omega | (dsimp only; omega) | (simp; done)), (fun j h => by omega), (by first | assumption | omega | (dsimp only; omega) | (simp; done)), hV⟩
   ·rintro k g w5 ⟨hj6, hk_k, hno, hzl4, hV⟩
    have hs_w5hV := hV.size
    replace ht := ht0.now hV
    replace hc := hc0.now hV
    refine r_know (i := 26) (v := .int .i64 (k : Nat)) (by exact hj6) ?_
    refine r_seq ?_
    refine r_region ?_
    refine r_op rfl rfl rfl (run_lss rfl (by exact rfl) (by exact rfl)) ?_
    refine r_nil ?_
    refine r_seq ?_
    refine r_cond (by exact rfl) (fun hc7 => ?_) (fun hc7 => ?_)
    ·skip
     refine r_skip ?_
     refine r_seq ?_
     refine r_block ?_
     refine r_seq ?_
     refine r_region ?_
     refine r_op rfl rfl rfl (run_ix (k) rfl Tryz.underlying22 ty_42 (by exact rfl) (by exact rfl) (by first | exact rfl | omega) (by omega) (ht.addr (i := k) (by omega))) ?_
     obtain ⟨aoW8, bW8, offW8, capW8, aoQ8, bQ8, offQ8, capQ8, aoF8, bF8, offF8, capF8, hX⟩ := term_atK ht0 (k) (by omega)
     have hA80 := fun (w' : World) (h : Evo w0 w' []) => (hX w' h).1
     have hA8 := hA80 _ hV
     have hW80 := fun (w' : World) (h : Evo w0 w' []) => (hX w' h).2.1
     have hW8 := hW80 _ hV
     have hQ80 := fun (w' : World) (h : Evo w0 w' []) => (hX w' h).2.2.1
     have hQ8 := hQ80 _ hV
     have hF80 := fun (w' : World) (h : Evo w0 w' []) => (hX w' h).2.2.2
     have hF8 := hF80 _ hV
     clear hX
     have hbd_hW8 := hW8.bd
     have hbd_hQ8 := hQ8.bd
     have hbd_hF8 := hF8.bd
     refine r_op rfl rfl rfl (run_ldN rfl ag_42 ty_42 (by exact rfl) rfl hA8) ?_
     refine r_var (zs := [_, _, _]) (vs := [_, _, _]) ty_42 (by exact rfl) rfl (by exact rfl) (fun _ => rfl) (by exact rfl) rfl rfl (by exact rfl) ?_
     intro b9 w10 heb9 hEw10 hbb9 hzb9
     have hs_w10 := (hEw10).size
     replace hV := evo_step0 hV hEw10
     replace ht := ht0.now hV
     replace hc := hc0.now hV
     replace hW8 := hW80 _ hV
     replace hQ8 := hQ80 _ hV
     replace hF8 := hF80 _ hV
     have hAb9 := hbb9.at
     refine r_nil ?_
     refine r_seq ?_
     refine r_seq ?_
     have hjk := jud_get hjb k
     refine r_region ?_
     refine r_op rfl rfl rfl (run_fa rfl (by exact rfl) fo_42_0) ?_
     refine r_op rfl rfl rfl (run_ld1 rfl ag_39 (by exact rfl) (hAb9.cell 0 (by exact rfl))) ?_
     refine r_op rfl rfl rfl (run_lenSl rfl (by exact rfl) Tryz.underlying39) ?_
     refine r_op rfl rfl rfl (run_eql rfl (by exact rfl) (by exact rfl)) ?_
     refine r_op rfl rfl rfl (run_mv (v := .bool _) rfl (by exact rfl)) ?_
     refine r_g rfl (wantF (by exact rfl)) rfl (fun hg => run_fa rfl (by exact rfl) fo_42_0) ?_
     refine r_g rfl (wantF (by exact rfl)) rfl (fun hg => run_ld1 rfl ag_39 (glv (by exact rfl) (fun h => h) hg) (hAb9.cell 0 (by exact rfl))) ?_
     refine r_g rfl (wantF (by exact rfl)) rfl (fun hg => run_lenSl rfl (glv (by exact rfl) (fun h => h) hg) Tryz.underlying39) ?_
     refine r_g rfl (wantF (by exact rfl)) rfl (fun hg => run_gtr rfl (glv (by exact rfl) (fun h => h) hg) (by exact rfl)) ?_
     refine r_op rfl rfl rfl (run_pick_or rfl (by exact rfl) rfl (fun hq => glv (by exact rfl) (fun h => h) hq)) ?_
     refine r_op rfl rfl rfl (run_mv (v := .bool _) rfl (by exact rfl)) ?_
     refine r_g rfl (wantF (by exact rfl)) rfl (fun hg => run_fa rfl (by exact rfl) fo_42_1) ?_
     refine r_g rfl (wantF (by exact rfl)) rfl (fun hg => run_ld1 rfl ag_40 (glv (by exact rfl) (fun h => h) hg) (hAb9.cell 1 (by exact rfl))) ?_
     refine r_g rfl (wantF (by exact rfl)) rfl (fun hg => run_lenSl rfl (glv (by exact rfl) (fun h => h) hg) Tryz.underlying40) ?_
     refine r_g rfl (wantF (by exact rfl)) rfl (fun hg => run_gtr rfl (glv (by exact rfl) (fun h => h) hg) (by exact rfl)) ?_
     refine r_op rfl rfl rfl (run_pick_or rfl (by exact rfl) rfl (fun hq => glv (by exact rfl) (fun h => h) hq)) ?_
     refine r_op rfl rfl rfl (run_mv (v := .bool _) rfl (by exact rfl)) ?_
     refine r_g rfl (wantF (by exact rfl)) rfl (fun hg => run_fa rfl (by exact rfl) fo_42_2) ?_
     refine r_g rfl (wantF (by exact rfl)) rfl (fun hg => run_ld1 rfl ag_40 (glv (by exact rfl) (fun h => h) hg) (hAb9.cell 2 (by exact rfl))) ?_
     refine r_g rfl (wantF (by exact rfl)) rfl (fun hg => run_lenSl rfl (glv (by exact rfl) (fun h => h) hg) Tryz.underlying40) ?_
     refine r_g rfl (wantF (by exact rfl)) rfl (fun hg => run_gtr rfl (glv (by exact rfl) (fun h => h) hg) (by exact rfl)) ?_
     refine r_op rfl rfl rfl (run_pick_or rfl (by exact rfl) rfl (fun hq => glv (by exact rfl) (fun h => h) hq)) ?_
     refine r_nil ?_
     refine r_cond (by exact rfl) (fun hc11 => ?_) (fun hc11 => ?_)
     ·skip
      refine r_seq ?_
      refine r_region ?_
      refine r_op rfl rfl rfl (run_asg (v := .int _ _) rfl (by exact rfl)) ?_
      refine r_nil ?_
      refine r_ret (res1 (v := .int _ _) rfl (by exact rfl)) ?_
      exact ⟨ret_int (validT_at (k := k) (Classical.not_not.1 hvc) (by omega) (by omega) hno (termE_lim (limT_z hc11)) (by decide)).symm, hV⟩
     ·skip
      refine r_skip ?_
      refine r_seq ?_
      refine r_seq ?_
      refine r_region ?_
      refine r_op rfl rfl rfl (run_fa rfl (by exact rfl) fo_42_0) ?_
      refine r_op rfl rfl rfl (run_ld1 rfl ag_39 (by exact rfl) (hAb9.cell 0 (by exact rfl))) ?_
      refine r_op rfl rfl rfl (run_lenSl rfl (by exact rfl) Tryz.underlying39) ?_
      refine r_op rfl rfl rfl (run_mv (v := .int _ _) rfl (by exact rfl)) ?_
      refine r_nil ?_
      refine r_block ?_
      have hnl : ¬ limT (ts.getD k default) := limT_n hc11
      refine r_loop (α := Nat) [4, 9, 55, 56, 57, 58, 59, 60, 61, 62, 63, 64, 65, 66, 67, 68, 69, 70, 71, 72, 73] (fun kw g w => g 55 = .int .i64 (kw : Nat) ∧ kw ≤ (ts.getD k default).words.length ∧ Blk w b9 42 [.slice aoW8 (ts.getD k default).words.length capW8, .slice aoQ8 (ts.getD k default).req.length capQ8, .slice aoF8 (ts.getD k default).forb.length capF8] ∧ At w b9 0 [.slice aoW8 (ts.getD k default).words.length capW8, .slice aoQ8 (ts.getD k default).req.length capQ8, .slice aoF8 (ts.getD k default).forb.length capF8] ∧ (∀ j, j < kw → wordE c ((ts.getD k default).words.getD j default) = 0) ∧ w10.heap.size ≤ w.heap.size ∧ Evo w0 w []) (fun kw => (ts.getD k default).words.length - kw) 0 ?_ ?_
      ·refine ⟨(by first | exact rfl | exact congrArg (Value.int _) (by omega) | exact congrArg (Value.int _) (by dsimp only; omega) | exact congrArg (Value.int _) (by simp) | exact congrArg S (by simp)), (by first | assumption | omega | (dsimp only; omega) | (simp; done)), hbb9, hbb9.at, (fun j h => by omega), (by first | assumption | omega | (dsimp only; omega) | (simp; done)), hV⟩
      ·rintro kw g w13 ⟨hj14, hk_kw, hbb9, hAb9, hnw, hzl12, hV⟩
       have hs_w13hV := hV.size
       have hlt15 := hbb9.lt
       replace ht := ht0.now hV
       replace hc := hc0.now hV
       replace hA8 := hA80 _ hV
       replace hW8 := hW80 _ hV
       replace hQ8 := hQ80 _ hV
       replace hF8 := hF80 _ hV
       refine r_know (i := 55) (v := .int .i64 (kw : Nat)) (by exact hj14) ?_
       refine r_seq ?_
       refine r_region ?_
       refine r_op rfl rfl rfl (run_lss rfl (by exact rfl) (by exact rfl)) ?_
       refine r_nil ?_
       refine r_seq ?_
       refine r_cond (by exact rfl) (fun hc16 => ?_) (fun hc16 => ?_)
       ·skip
        refine r_skip ?_
        refine r_seq ?_
        refine r_block ?_
        refine r_seq ?_
        refine r_region ?_
        refine r_op rfl rfl rfl (run_ix (kw) rfl Tryz.underlying39 ty_60 (by exact rfl) (by exact rfl) (by first | exact rfl | omega) (by omega) (hW8.addr (i := kw) (by omega))) ?_
        have hA170 := fun (w' : World) (h : Evo w0 w' []) => (hW80 w' h).atD (kw) (by omega)
        have hA17 := hA170 _ hV
        refine r_op rfl rfl rfl (run_ldN rfl ag_60 ty_60 (by exact rfl) rfl hA17) ?_
        refine r_var (zs := [_, _]) (vs := [_, _]) ty_60 (by exact rfl) rfl (by exact rfl) (fun _ => rfl) (by exact rfl) rfl rfl (by exact rfl) ?_
        intro b18 w19 heb18 hEw19 hbb18 hzb18
        have hs_w19 := (hEw19).size
        replace hV := evo_step0 hV hEw19
        replace ht := ht0.now hV
        replace hc := hc0.now hV
        replace hW8 := hW80 _ hV
        replace hQ8 := hQ80 _ hV
        replace hF8 := hF80 _ hV
        replace hbb9 := hbb9.evo0 hEw19
        replace hAb9 := hAb9.evo0 hEw19
        have hAb18 := hbb18.at
        refine r_nil ?_
        refine r_seq ?_
        refine r_seq ?_
        refine r_region ?_
        refine r_op rfl rfl rfl (run_fa rfl (by exact rfl) fo_60_0) ?_
        refine r_op rfl rfl rfl (run_ld1 rfl ag_9 (by exact rfl) (hAb18.cell 0 (by exact rfl))) ?_
        refine r_opcall rfl rfl rfl (run_callf (vs := [S _]) rfl (by exact rfl) Tryz.func57 rfl (by kernel_rfl)) (rplain_calls ) ?_
        rintro e w20 ⟨rfl, hE20⟩
        refine ⟨_, rfl, ?_⟩
        have hs_w20 := (hE20).size
        replace hV := evo_step0 hV hE20
        replace ht := ht0.now hV
        replace hc := hc0.now hV
        replace hW8 := hW80 _ hV
        replace hQ8 := hQ80 _ hV
        replace hF8 := hF80 _ hV
        replace hbb9 := hbb9.evo0 hE20
        replace hAb9 := hAb9.evo0 hE20
        replace hbb18 := hbb18.evo0 hE20
        replace hAb18 := hAb18.evo0 hE20
        refine r_op rfl rfl rfl (run_not rfl (by exact rfl)) ?_
        refine r_nil ?_
        refine r_cond (by exact rfl) (fun hc21 => ?_) (fun hc21 => ?_)
        ·skip
         refine r_seq ?_
         refine r_region ?_
         refine r_op rfl rfl rfl (run_asg (v := .int _ _) rfl (by exact rfl)) ?_
         refine r_nil ?_
         refine r_ret (res1 (v := .int _ _) rfl (by exact rfl)) ?_
         exact ⟨ret_int (validT_at (k := k) (Classical.not_not.1 hvc) (by omega) (by omega) hno (termE_word hnl (by omega) hnw (wordE_1 (by have h9 := hc21; simpa using h9)) (by decide)) (by decide)).symm, hV⟩
        ·skip
         refine r_skip ?_
         refine r_seq ?_
         have hpl : plainP ((ts.getD k default).words.getD kw default).strip := by have h9 := hc21; simpa using h9
         refine r_region ?_
         refine r_op rfl rfl rfl (run_fa rfl (by exact rfl) fo_60_1) ?_
         refine r_op rfl rfl rfl (run_ld1 rfl ag_9 (by exact rfl) (hAb18.cell 1 (by exact rfl))) ?_
         refine r_op rfl rfl rfl (run_sneq rfl (by exact rfl) (by exact rfl)) ?_
         refine r_op rfl rfl rfl (run_mv (v := .bool _) rfl (by exact rfl)) ?_
         refine r_g rfl (wantT (by exact rfl)) rfl (fun hg => run_mv (v := .slice _ _ _) rfl (by exact rfl)) ?_
         refine r_g rfl (wantT (by exact rfl)) rfl (fun hg => run_fa rfl (by exact rfl) fo_60_1) ?_
         refine r_g rfl (wantT (by exact rfl)) rfl (fun hg => run_ld1 rfl ag_9 (glv (by exact rfl) (fun h => h) hg) (hAb18.cell 1 (by exact rfl))) ?_
         refine r_gcall rfl (wantT (by exact rfl)) rfl (fun hg => run_callf rfl (argcons (v := .slice _ _ _) (glv (by exact rfl) (fun h => h) hg) (argcons (v := S _) (glv (by exact rfl) (fun h => h) hg) (rfl))) Tryz.func58 rfl (by kernel_rfl)) (fun hg => (rfind_calls hc).mono (fun e w' h => ⟨h.1, h.2⟩)) (fun w22 hE23 => ?_)
         have hs_w22 := (hE23).size
         replace hV := evo_step0 hV hE23
         replace ht := ht0.now hV
         replace hc := hc0.now hV
         replace hW8 := hW80 _ hV
         replace hQ8 := hQ80 _ hV
         replace hF8 := hF80 _ hV
         replace hbb9 := hbb9.evo0 hE23
         replace hAb9 := hAb9.evo0 hE23
         refine r_g rfl (wantT (by exact rfl)) rfl (fun hg => run_lss rfl (glv (by exact rfl) (fun h => h) hg) (by exact rfl)) ?_
         refine r_op rfl rfl rfl (run_pick_and rfl (by exact rfl) (fun hq => glv (by exact rfl) (fun h => h) hq) rfl) ?_
         refine r_nil ?_
         refine r_cond (by exact rfl) (fun hc24 => ?_) (fun hc24 => ?_)
         ·skip
          refine r_seq ?_
          refine r_region ?_
          refine r_op rfl rfl rfl (run_asg (v := .int _ _) rfl (by exact rfl)) ?_
          refine r_nil ?_
          refine r_ret (res1 (v := .int _ _) rfl (by exact rfl)) ?_
          exact ⟨ret_int (validT_at (k := k) (Classical.not_not.1 hvc) (by omega) (by omega) hno (termE_word hnl (by omega) hnw (wordE_4 hpl hc24) (by decide)) (by decide)).symm, hV⟩
         ·skip
          refine r_skip ?_
          refine r_blk ?_
          refine r_region ?_
          refine r_op rfl rfl rfl (run_add rfl (by exact rfl) (by exact rfl) (by omega) (by omega)) ?_
          refine r_op rfl rfl rfl (run_mv (v := .int _ _) rfl (by exact rfl)) ?_
          refine r_nil ?_
          refine r_again (kw + 1) ?_ ?_ ?_
          ·first | omega | (dsimp only; omega)
          ·refine ⟨(by first | exact rfl | exact congrArg (Value.int _) (by omega) | exact congrArg (Value.int _) (by dsimp only; omega) | exact congrArg (Value.int _) (by simp) | exact congrArg S (by simp)), (by first | assumption | omega | (dsimp only; omega) | (simp; done)), hbb9, hbb9.at, (upto0 hnw (wordE_0 hpl hc24)), (by first | assumption | omega | (dsimp only; omega) | (simp; done)), hV⟩
          ·repeat (first | (with_reducible exact Agree.merge _ _ _) | (with_reducible exact Agree.refl _ _) | (with_reducible refine Agree.upd ?_ _ _ rfl) | ((with_reducible refine Agree.inner ?_ ?_); (kernel_rfl)))
       ·skip
        refine r_exit rfl ?_
        refine r_seq ?_
        refine r_region ?_
        refine r_op rfl rfl rfl (run_fa rfl (by exact rfl) fo_42_1) ?_
        refine r_op rfl rfl rfl (run_ld1 rfl ag_40 (by exact rfl) (hAb9.cell 1 (by exact rfl))) ?_
        refine r_op rfl rfl rfl (run_fa rfl (by exact rfl) fo_42_2) ?_
        refine r_op rfl rfl rfl (run_ld1 rfl ag_40 (by exact rfl) (hAb9.cell 2 (by exact rfl))) ?_
        refine r_bslice (pv := [(0, .slice _ _ _), (1, .slice _ _ _)]) (zs := [_]) (cs := [_, _]) Tryz.underlying82 ty_40 (by exact rfl) rfl (by exact rfl) rfl (by exact rfl) ?_
        intro b25 w26 heb25 hEw26 hbb25 hzb25
        have hs_w26 := (hEw26).size
        replace hV := evo_step0 hV hEw26
        replace ht := ht0.now hV
        replace hc := hc0.now hV
        have hAb25 := hbb25.at
        have hrb25 : RowR w26 (some ⟨b25, 0, none⟩) b25 0 2 ([(ts.getD k default).req, (ts.getD k default).forb] : List (List Str)) := rowLitR [[_], [_]] ([(ts.getD k default).req, (ts.getD k default).forb] : List (List Str)) hbb25 rfl ((RepL.one (sl_rep (hQ80 _ hV))).append (RepL.one (sl_rep (hF80 _ hV)))) rfl
        refine r_op rfl rfl rfl (run_lenSl rfl (by exact rfl) Tryz.underlying82) ?_
        refine r_op rfl rfl rfl (run_mv (v := .int _ _) rfl (by exact rfl)) ?_
        refine r_nil ?_
        refine r_block ?_
        have hnw2 : ∀ j, j < (ts.getD k default).words.length → wordE c ((ts.getD k default).words.getD j default) = 0 := fun j hj => hnw j (by omega)
        have hlk : ([(ts.getD k default).req, (ts.getD k default).forb] : List (List Str)).length = 2 := rfl
        refine r_loop (α := Nat) [4, 11, 13, 14, 15, 80, 81, 82, 83, 84, 85, 86, 87, 88, 89, 90, 91, 92, 93, 94, 95, 96, 97, 98] (fun i g w => g 80 = .int .i64 (i : Nat) ∧ i ≤ 2 ∧ RowR w (some ⟨b25, 0, none⟩) b25 0 2 ([(ts.getD k default).req, (ts.getD k default).forb] : List (List Str)) ∧ (∀ j, j < i → firstM phrE (([(ts.getD k default).req, (ts.getD k default).forb] : List (List Str)).getD j default) = 0) ∧ w26.heap.size ≤ w.heap.size ∧ Evo w0 w []) (fun i => 2 - i) 0 ?_ ?_
        ·refine ⟨(by first | exact rfl | exact congrArg (Value.int _) (by omega) | exact congrArg (Value.int _) (by dsimp only; omega) | exact congrArg (Value.int _) (by simp) | exact congrArg S (by simp)), (by first | assumption | omega | (dsimp only; omega) | (simp; done)), hrb25, (fun j h => by omega), (by first | assumption | omega | (dsimp only; omega) | (simp; done)), hV⟩
        ·rintro i g w28 ⟨hj29, hk_i, hrl, hno2, hzl27, hV⟩
         have hs_w28hV := hV.size
         replace ht := ht0.now hV
         replace hc := hc0.now hV
         replace hA8 := hA80 _ hV
         replace hW8 := hW80 _ hV
         replace hQ8 := hQ80 _ hV
         replace hF8 := hF80 _ hV
         refine r_know (i := 80) (v := .int .i64 (i : Nat)) (by exact hj29) ?_
         refine r_seq ?_
         refine r_region ?_
         refine r_op rfl rfl rfl (run_lss rfl (by exact rfl) (by exact rfl)) ?_
         refine r_nil ?_
         refine r_seq ?_
         refine r_cond (by exact rfl) (fun hc30 => ?_) (fun hc30 => ?_)
         ·skip
          refine r_skip ?_
          refine r_seq ?_
          refine r_block ?_
          refine r_seq ?_
          refine r_region ?_
          refine r_op rfl rfl rfl (run_ix (i) rfl Tryz.underlying82 ty_40 (by exact rfl) (by exact rfl) (by first | exact rfl | omega) (by omega) (hrl.addr (i := i) (by omega))) ?_
          obtain ⟨ao31, b31, off31, cap31, hA31, hR31⟩ := sl_at hrl (i) (by omega)
          have hbd_hR31 := hR31.bd
          refine r_op rfl rfl rfl (run_ld1 rfl ag_40 (by exact rfl) (hA31.cell 0 (by exact rfl))) ?_
          refine r_op rfl rfl rfl (run_asg (v := .slice _ _ _) rfl (by exact rfl)) ?_
          refine r_nil ?_
          refine r_seq ?_
          refine r_region ?_
          refine r_op rfl rfl rfl (run_mv (v := .slice _ _ _) rfl (by exact rfl)) ?_
          refine r_op rfl rfl rfl (run_lenSl rfl (by exact rfl) Tryz.underlying40) ?_
          refine r_op rfl rfl rfl (run_mv (v := .int _ _) rfl (by exact rfl)) ?_
          refine r_nil ?_
          refine r_block ?_
          refine r_loop (α := Nat) [4, 13, 14, 15, 86, 87, 88, 89, 90, 91, 92, 93, 94, 95, 96, 97] (fun kp g w => g 86 = .int .i64 (kp : Nat) ∧ kp ≤ (([(ts.getD k default).req, (ts.getD k default).forb] : List (List Str)).getD i default).length ∧ RowR w (some ⟨b25, 0, none⟩) b25 0 2 ([(ts.getD k default).req, (ts.getD k default).forb] : List (List Str)) ∧ RowE w ao31 b31 off31 cap31 (([(ts.getD k default).req, (ts.getD k default).forb] : List (List Str)).getD i default) ∧ (∀ j, j < kp → phrE ((([(ts.getD k default).req, (ts.getD k default).forb] : List (List Str)).getD i default).getD j default) = 0) ∧ w28.heap.size ≤ w.heap.size ∧ Evo w0 w []) (fun kp => (([(ts.getD k default).req, (ts.getD k default).forb] : List (List Str)).getD i default).length - kp) 0 ?_ ?_
          ·refine ⟨(by first | exact rfl | exact congrArg (Value.int _) (by omega) | exact congrArg (Value.int _) (by dsimp only; omega) | exact congrArg (Value.int _) (by simp) | exact congrArg S (by simp)), (by first | assumption | omega | (dsimp only; omega) | (simp; done)), hrl, hR31, (fun j h => by omega), (by first | assumption | omega | (dsimp only; omega) | (simp; done)), hV⟩
          ·rintro kp g w33 ⟨hj34, hk_kp, hrl, hR31, hnp, hzl32, hV⟩
           have hs_w33hV := hV.size
           replace ht := ht0.now hV
           replace hc := hc0.now hV
           replace hA8 := hA80 _ hV
           replace hW8 := hW80 _ hV
           replace hQ8 := hQ80 _ hV
           replace hF8 := hF80 _ hV
           refine r_know (i := 86) (v := .int .i64 (kp : Nat)) (by exact hj34) ?_
           refine r_seq ?_
           refine r_region ?_
           refine r_op rfl rfl rfl (run_lss rfl (by exact rfl) (by exact rfl)) ?_
           refine r_nil ?_
           refine r_seq ?_
           refine r_cond (by exact rfl) (fun hc35 => ?_) (fun hc35 => ?_)
           ·skip
            refine r_skip ?_
            refine r_seq ?_
            refine r_block ?_
            refine r_seq ?_
            refine r_region ?_
            refine r_op rfl rfl rfl (run_ix (kp) rfl Tryz.underlying40 ty_9 (by exact rfl) (by exact rfl) (by first | exact rfl | omega) (by omega) (hR31.addr (i := kp) (by omega))) ?_
            have hA36 := hR31.atD (kp) (by omega)
            refine r_op rfl rfl rfl (run_ld1 rfl ag_9 (by exact rfl) (hA36.cell 0 (by exact rfl))) ?_
            refine r_op rfl rfl rfl (run_asg (v := S _) rfl (by exact rfl)) ?_
            refine r_nil ?_
            refine r_seq ?_
            refine r_region ?_
            refine r_op rfl rfl rfl (run_mv (v := S _) rfl (by exact rfl)) ?_
            refine r_opcall rfl rfl rfl (run_callf (vs := [S _]) rfl (by exact rfl) Tryz.func44 rfl (by kernel_rfl)) (rphrase_calls (jud_two hjk (by omega) (by omega))) ?_
            rintro e w37 ⟨vp37, lp37, rfl, hE37, hop37, hlp37⟩
            refine ⟨_, rfl, ?_⟩
            have hs_w37 := (hE37).size
            replace hV := evo_step0 hV hE37
            replace ht := ht0.now hV
            replace hc := hc0.now hV
            replace hrl := hrl.evo0 hE37
            replace hR31 := hR31.evo0 hE37
            refine r_op rfl rfl rfl (run_mv (v := .tuple _) rfl (by exact rfl)) ?_
            refine r_op rfl rfl rfl (run_extract (v := vp37) rfl (by exact rfl) (by exact rfl)) ?_
            refine r_op rfl rfl rfl (run_extract (v := .bool _) rfl (by exact rfl) (by exact rfl)) ?_
            refine r_op rfl rfl rfl (run_asg (v := vp37) rfl (by exact rfl)) ?_
            refine r_op rfl rfl rfl (run_asg (v := .bool _) rfl (by exact rfl)) ?_
            refine r_nil ?_
            refine r_seq ?_
            refine r_region ?_
            refine r_op rfl rfl rfl (run_mv (v := .bool _) rfl (by exact rfl)) ?_
            refine r_op rfl rfl rfl (run_not rfl (by exact rfl)) ?_
            refine r_nil ?_
            refine r_cond (by exact rfl) (fun hc38 => ?_) (fun hc38 => ?_)
            ·skip
             refine r_seq ?_
             refine r_region ?_
             refine r_op rfl rfl rfl (run_asg (v := .int _ _) rfl (by exact rfl)) ?_
             refine r_nil ?_
             refine r_ret (res1 (v := .int _ _) rfl (by exact rfl)) ?_
             exact ⟨ret_int (validT_at (k := k) (Classical.not_not.1 hvc) (by omega) (by omega) hno (termE_phr hnl hnw2 (by omega) hno2 (by omega) hnp (by have h9 := hc38; simpa using h9)) (by decide)).symm, hV⟩
            ·skip
             refine r_skip ?_
             refine r_blk ?_
             refine r_region ?_
             refine r_op rfl rfl rfl (run_add rfl (by exact rfl) (by exact rfl) (by omega) (by omega)) ?_
             refine r_op rfl rfl rfl (run_mv (v := .int _ _) rfl (by exact rfl)) ?_
             refine r_nil ?_
             refine r_again (kp + 1) ?_ ?_ ?_
             ·first | omega | (dsimp only; omega)
             ·refine ⟨(by first | exact rfl | exact congrArg (Value.int _) (by omega) | exact congrArg (Value.int _) (by dsimp only; omega) | exact congrArg (Value.int _) (by simp) | exact congrArg S (by simp)), (by first | assumption | omega | (dsimp only; omega) | (simp; done)), hrl, hR31, (upto0 hnp (phrE_0 (by have h9 := hc38; simpa using h9))), (by first | assumption | omega | (dsimp only; omega) | (simp; done)), hV⟩
             ·repeat (first | (with_reducible exact Agree.merge _ _ _) | (with_reducible exact Agree.refl _ _) | (with_reducible refine Agree.upd ?_ _ _ rfl) | ((with_reducible refine Agree.inner ?_ ?_); (kernel_rfl)))
           ·skip
            refine r_exit rfl ?_
            refine r_blk ?_
            refine r_region ?_
            refine r_op rfl rfl rfl (run_add rfl (by exact rfl) (by exact rfl) (by omega) (by omega)) ?_
            refine r_op rfl rfl rfl (run_mv (v := .int _ _) rfl (by exact rfl)) ?_
            refine r_nil ?_
            refine r_again (i + 1) ?_ ?_ ?_
            ·first | omega | (dsimp only; omega)
            ·refine ⟨(by first | exact rfl | exact congrArg (Value.int _) (by omega) | exact congrArg (Value.int _) (by dsimp only; omega) | exact congrArg (Value.int _) (by simp) | exact congrArg S (by simp)), (by first | assumption | omega | (dsimp only; omega) | (simp; done)), hrl, (upto0 hno2 (firstM_ok (fun j hj => hnp j (by omega)))), (by first | assumption | omega | (dsimp only; omega) | (simp; done)), hV⟩
            ·repeat (first | (with_reducible exact Agree.merge _ _ _) | (with_reducible exact Agree.refl _ _) | (with_reducible refine Agree.upd ?_ _ _ rfl) | ((with_reducible refine Agree.inner ?_ ?_); (kernel_rfl)))
         ·skip
          refine r_exit rfl ?_
          refine r_blk ?_
          refine r_region ?_
          refine r_op rfl rfl rfl (run_add rfl (by exact rfl) (by exact rfl) (by omega) (by omega)) ?_
          refine r_op rfl rfl rfl (run_mv (v := .int _ _) rfl (by exact rfl)) ?_
          refine r_nil ?_
          refine r_again (k + 1) ?_ ?_ ?_
          ·first | omega | (dsimp only; omega)
          ·refine ⟨(by first | exact rfl | exact congrArg (Value.int _) (by omega) | exact congrArg (Value.int _) (by dsimp only; omega) | exact congrArg (Value.int _) (by simp) | exact congrArg S (by simp)), (by first | assumption | omega | (dsimp only; omega) | (simp; done)), (upto0 hno (termE_ok hnl hnw2 (fun j hj => hno2 j (by simp at *; omega)))), (by first | assumption | omega | (dsimp only; omega) | (simp; done)), hV⟩
          ·repeat (first | (with_reducible exact Agree.merge _ _ _) | (with_reducible exact Agree.refl _ _) | (with_reducible refine Agree.upd ?_ _ _ rfl) | ((with_reducible refine Agree.inner ?_ ?_); (kernel_rfl)))
    ·skip
     refine r_exit rfl ?_
     refine r_seq ?_
     refine r_region ?_
     refine r_op rfl rfl rfl (run_asg (v := .int _ _) rfl (by exact rfl)) ?_
     refine r_nil ?_
     refine r_ret (res1 (v := .int _ _) rfl (by exact rfl)) ?_
     exact ⟨ret_int (validT_ok (Classical.not_not.1 hvc) (by omega) (fun j hj => hno j (by omega))).symm, hV⟩
end Go.Proofs.YtkklomiipkipnaaGreatDoor
namespace Go.Proofs.YtkklomiipkipnaaGreatDoor
open Go.RowKit Go.Vc
theorem ag_22 : aggP Tryz.prog 22 = some false := by kernel_rfl
theorem ty_22 : tyP Tryz.prog 22 = some (1, 24, some (.slice none 0 0)) := by kernel_rfl
end Go.Proofs.YtkklomiipkipnaaGreatDoor
namespace Go.Proofs.YtkklomiipkipnaaGreatDoor
open Go.RowKit Go.Vc
theorem fb_row8 {w : World} {b E len : Nat} {c : UInt8} (h : FB w b E 1 len (fun _ => [.int .u8 ((c.toNat : Nat) : Int)])) (hl : len ≤ 140737488355328) : RowE w (some ⟨b, 0, none⟩) b 0 len (List.replicate len c) := by
  refine ⟨⟨by simp, by simpa using hl⟩, fun _ => rfl, fun i cs hi => ?_⟩
  have hil : i < len := by
    rcases Nat.lt_or_ge i len with h1 | h1
    · exact h1
    · rw [List.getElem?_eq_none (by simpa using h1)] at hi; cases hi
  simp [hil] at hi
  subst hi
  refine ⟨rfl, fun j v hj => ?_⟩
  have hj0 : j = 0 := by
    rcases Nat.eq_zero_or_pos j with h1 | h1
    · exact h1
    · rw [List.getElem?_eq_none (by show 1 ≤ j; exact h1)] at hj; cases hj
  subst hj0
  have := h.cell (x := i) (j := 0) hil (by decide) (v := v) hj
  have e2 : 0 + i * Enc.n UInt8 + 0 = 0 + i * 1 + 0 := rfl
  rw [e2]; exact this
theorem fb_step {w : World} {b E len k : Nat} {u v : List Value} (h : FB w b E 1 len (fun q => if q = k then u else (if q < k then u else v))) : FB w b E 1 len (fun x => if x < k + 1 then u else v) := h.congr (fun x => by
  by_cases h1 : x < k
  · rw [if_pos (by omega), if_neg (by omega), if_pos h1]
  · by_cases h2 : x = k
    · rw [if_pos (by omega), if_pos h2]
    · rw [if_neg (by omega), if_neg h2, if_neg h1])
theorem rep_snoc {α : Type} {x : α} {l : List α} (h : l = List.replicate l.length x) : l ++ [x] = List.replicate (l ++ [x]).length x := by
  rw [List.length_append, List.length_singleton, List.replicate_succ', ← h]
def pS : Nat → Str
  | 0 => []
  | n + 1 => (if pS n = [] then pS n else pS n ++ [32]) ++ [97]
theorem pS_a {n m : Nat} (h : m = n + 1) (hc : ¬ pS n = []) : pS m = pS n ++ [32] ++ [97] := by subst h; show (if pS n = [] then _ else _) ++ _ = _; rw [if_neg hc]
theorem pS_b {n m : Nat} (h : m = n + 1) (hc : pS n = []) : pS m = pS n ++ [97] := by subst h; show (if pS n = [] then _ else _) ++ _ = _; rw [if_pos hc]
theorem pS_len : ∀ n, (pS n).length ≤ 2 * n
  | 0 => Nat.le_refl _
  | n + 1 => by
    have h := pS_len n
    by_cases hc : pS n = []
    · rw [pS_b rfl hc, List.length_append, List.length_singleton]; omega
    · rw [pS_a rfl hc, List.length_append, List.length_append, List.length_singleton, List.length_singleton]; omega
theorem rep_bd {ws : List Ende} (h : ws = List.replicate ws.length (⟨[97], []⟩ : Ende)) (hl : ws.length ≤ 9) : ws.length ≤ 4398046510976 ∧ ∀ y ∈ ws, BdE y := ⟨by omega, fun y hy => by
  rw [h] at hy; rw [List.eq_of_mem_replicate hy]; exact ⟨by decide, by decide⟩⟩
theorem one_bd {n : Nat} (hl : n ≤ 65) : ([⟨List.replicate n 122, []⟩] : List Ende).length ≤ 4398046510976 ∧ ∀ y ∈ ([⟨List.replicate n 122, []⟩] : List Ende), BdE y := ⟨(show 1 ≤ _ by decide), fun y hy => by
  rw [List.mem_singleton] at hy; subst hy; exact ⟨by show (List.replicate n (122 : UInt8)).length ≤ _; rw [List.length_replicate]; omega, Nat.zero_le _⟩⟩
theorem x_jud {ws : List Ende} {qs : List Str} {n : Nat} (h : qs = List.replicate qs.length (pS n)) (hq : qs.length ≤ 9) (hn : n ≤ 9) : JudT ⟨ws, qs, []⟩ := ⟨by show qs.length ≤ _; omega, Nat.zero_le _, fun s hs => by
  rw [h] at hs; rw [List.eq_of_mem_replicate hs]; have := pS_len n; omega, fun s hs => by cases hs⟩
theorem y_jud {ws : List Ende} : JudT ⟨ws, [], [[97]]⟩ := ⟨Nat.zero_le _, (show 1 ≤ _ by decide), fun s hs => (by cases hs), fun s hs => by rw [List.mem_singleton] at hs; subst hs; decide⟩
theorem l4_jud {x y : TermL} {tl : List TermL} (hx : JudT x) (hy : JudT y) (ht : ∀ z ∈ tl, JudT z) (i : Nat) : ∀ z ∈ (([⟨[x]⟩, ⟨[y]⟩, ⟨tl⟩, ⟨[y] ++ [x]⟩] : List TmsL).getD i default).ts, JudT z := by
  have h1 : ∀ {u : TermL}, JudT u → ∀ z ∈ [u], JudT z := fun hu z hz => by rw [List.mem_singleton] at hz; rw [hz]; exact hu
  match i with
  | 0 => exact h1 hx
  | 1 => exact h1 hy
  | 2 => exact ht
  | 3 => exact mem_snoc (h1 hy) hx
  | k + 4 => intro z hz; cases hz
theorem take_rep {α : Type} {x : α} {l : List α} (h : l = List.replicate l.length x) (h1 : 1 ≤ l.length) : l.take 1 = [x] := by
  rw [h, List.take_replicate, show min 1 l.length = 1 by omega]; rfl
theorem row_jud {l : List TermL} {x : TermL} (h : JudT x) (hl : l = List.replicate l.length x) : ∀ y ∈ l, JudT y := fun y hy => by rw [hl] at hy; rw [List.eq_of_mem_replicate hy]; exact h
set_option maxHeartbeats 2000000 in
theorem tlimits_law {mt mw mp ms : Int} {w0 : World}  :
    Calls Tryz.prog 9 #[.int .i64 mt, .int .i64 mw, .int .i64 mp, .int .i64 ms] w0 fun e w' => e = .returned (.bool true) ∧ Evo w0 w' [] := by
 refine calls_enter (n := 126) (args := [.int .i64 mt, .int .i64 mw, .int .i64 mp, .int .i64 ms]) Tryz.func9 rfl Tryz.ntmps9 rfl ?_
 have hV : Evo w0 w0 [] := Evo.refl _ _
 refine r_seq ?_
 refine r_region ?_
 refine r_op rfl rfl rfl (run_asg (v := .bool _) rfl (by exact rfl)) ?_
 refine r_nil ?_
 refine r_seq ?_
 refine r_region ?_
 refine r_op rfl rfl rfl (run_bld (pv := []) (zs := [_, _, _]) (cells := [_, _, _]) rfl ty_42 (by exact rfl) pl_42 (by exact rfl) (by exact rfl)) ?_
 refine r_var (zs := [_, _, _]) (vs := [_, _, _]) ty_42 (by exact rfl) rfl (by exact rfl) (fun _ => rfl) (by exact rfl) rfl rfl (by exact rfl) ?_
 intro b1 w2 heb1 hEw2 hbb1 hzb1
 have hs_w2 := (hEw2).size
 replace hV := evo_step0 hV hEw2
 have hAb1 := hbb1.at
 refine r_nil ?_
 refine r_seq ?_
 refine r_seq ?_
 have hb9 := hbb1.lt; have hMw0 := Int.emod_nonneg mw (show (3 : Int) ≠ 0 by decide); have hMw1 := Int.emod_lt_of_pos mw (show (0 : Int) < 3 by decide)
 refine r_region ?_
 refine r_op rfl rfl rfl (run_mv (v := .int _ _) rfl (by exact rfl)) ?_
 refine r_opcall rfl rfl rfl (run_callf (vs := [.int _ _, .int _ _]) rfl (by exact rfl) Tryz.func18 rfl (by kernel_rfl)) (place_calls _ _ (by omega) (by omega)) ?_
 rintro e w3 ⟨rfl, rfl⟩
 refine ⟨_, rfl, ?_⟩
 refine r_op rfl rfl rfl (run_add rfl (by exact rfl) (by exact rfl) (by omega) (by omega)) ?_
 refine r_op rfl rfl rfl (run_sub rfl (by exact rfl) (by exact rfl) (by omega) (by omega)) ?_
 refine r_op rfl rfl rfl (run_asg (v := .int _ _) rfl (by exact rfl)) ?_
 refine r_nil ?_
 refine r_block ?_
 refine r_loop (α := Nat) [10, 26, 27, 28, 29, 30, 31, 32, 33, 34, 35] (fun i g w => ∃ vs : Value, ∃ ws : List Ende, g 10 = .int .i64 (i : Nat) ∧ OwnE w w2.heap.size 60 vs ws ∧ Blk w b1 42 [vs, .slice none 0 0, .slice none 0 0] ∧ At w b1 0 [vs, .slice none 0 0, .slice none 0 0] ∧ ws = List.replicate ws.length (⟨[97], []⟩ : Ende) ∧ ws.length + i = (mw % 3 + 7).toNat ∧ w2.heap.size ≤ w.heap.size ∧ Evo w0 w []) (fun i => i) (mw % 3 + 7).toNat ?_ ?_
 ·refine ⟨_, [], (congrArg (Value.int _) (by omega)), (OwnE.nil _ _ _), hbb1, hbb1.at, rfl, (by first | (simp; done) | (simp; omega)), (by first | assumption | omega | (dsimp only; omega) | (simp; done)), hV⟩
 ·rintro i g w5 ⟨vs, ws, hj6, hos, hbb1, hAb1, hws, hwk, hzl4, hV⟩
  have hs_w5hV := hV.size
  have hlt7 := hbb1.lt
  refine r_know (i := 10) (v := .int .i64 (i : Nat)) (by exact hj6) ?_
  refine r_seq ?_
  refine r_seq ?_
  refine r_region ?_
  refine r_op rfl rfl rfl (run_mv (v := .int _ _) rfl (by exact rfl)) ?_
  refine r_op rfl rfl rfl (run_gtr rfl (by exact rfl) (by exact rfl)) ?_
  refine r_nil ?_
  refine r_cond (by exact rfl) (fun hc8 => ?_) (fun hc8 => ?_)
  ·skip
   refine r_skip ?_
   refine r_seq ?_
   refine r_block ?_
   refine r_region ?_
   refine r_op rfl rfl rfl (run_fa rfl (by exact rfl) fo_42_0) ?_
   refine r_op rfl rfl rfl (run_ld1 rfl ag_39 (by exact rfl) (hAb1.cell 0 (by exact rfl))) ?_
   refine r_op rfl rfl rfl (run_bld (pv := [(0, S _)]) (zs := [_, _]) (cells := [_, _]) rfl ty_60 (by exact rfl) pl_60 (by exact rfl) (by exact rfl)) ?_
   refine r_append1E (u := .agg _) (y := (⟨[97], []⟩ : Ende)) rfl rfl Tryz.underlying39 ty_60 (by exact rfl) hos (fun _ => (by exact rfl)) (by exact rfl) (by first | exact rfl | (show _ = List.toArray [_, _]; first | (dsimp only; done) | exact rfl | (dsimp only; exact rfl))) ((by first | omega | (simp; omega))) ((by first | omega | (simp; omega))) (by omega) ?_
   intro q_v9 v9 w10 hEw10 hov9 hlv9
   have hs_w10 := (hEw10).size
   replace hV := evo_stepo hV hEw10 (fun g hg => .inl (by first | exact (hos.block hg).1 | (have := hos.block hg; omega)))
   replace hbb1 := hbb1.evo hEw10 (by intro hm; have hm2 := Option.mem_toList.1 hm; first | (have := hos.block hm2; omega) | (simp [Value.ownBlock] at hm2; omega))
   replace hAb1 := hAb1.evo hEw10 (by intro hm; have hm2 := Option.mem_toList.1 hm; first | (have := hos.block hm2; omega) | (simp [Value.ownBlock] at hm2; omega))
   have hos := hov9
   refine r_op rfl rfl rfl (run_fa rfl (by exact rfl) fo_42_0) ?_
   obtain ⟨ao11, cp11, hv11⟩ := hos.shape
   subst hv11
   refine r_store (v := .slice _ _ _) (vs := [_]) (cs' := [_, _, _]) (by exact rfl) (by exact rfl) hbb1 ty_39 (by exact rfl) rfl (by exact rfl) rfl (by exact rfl) ?_
   intro w12 hEw12 hzw12 hb_new
   have hs_w12 := (hEw12).size
   replace hV := evo_step1 hV hEw12 (by first | exact .inl (by omega) | exact .inr (by simp))
   replace hos := hos.evo hEw12 (by intro g hg hm; simp at hm; subst hm; have := hos.block hg; omega)
   replace hbb1 := hb_new
   have hAb1 := hbb1.at
   clear hb_new
   refine r_nil ?_
   refine r_blk ?_
   refine r_region ?_
   refine r_op rfl rfl rfl (run_mv (v := .int _ _) rfl (by exact rfl)) ?_
   refine r_op rfl rfl rfl (run_sub rfl (by exact rfl) (by exact rfl) (by omega) (by omega)) ?_
   refine r_op rfl rfl rfl (run_asg (v := .int _ _) rfl (by exact rfl)) ?_
   refine r_nil ?_
   refine r_again (i - 1) ?_ ?_ ?_
   ·first | omega | (dsimp only; omega)
   ·refine ⟨_, _, (congrArg (Value.int _) (by omega)), hos, hbb1, hbb1.at, (rep_snoc hws), (by rw [List.length_append, List.length_singleton]; omega), (by first | assumption | omega | (dsimp only; omega) | (simp; done)), hV⟩
   ·repeat (first | (with_reducible exact Agree.merge _ _ _) | (with_reducible exact Agree.refl _ _) | (with_reducible refine Agree.upd ?_ _ _ rfl) | ((with_reducible refine Agree.inner ?_ ?_); (kernel_rfl)))
  ·skip
   refine r_exit rfl ?_
   refine r_seq ?_
   have hwl : ws.length = (mw % 3 + 7).toNat := by omega
   obtain ⟨aoW, gW, cpW, hvW, hrW, hgW⟩ := hos.rowOf
   subst hvW
   have hbd_hrW := hrW.bd
   have hI13 : Evo w5 w5 [b1] := Evo.refl _ _
   have hrW0 := fun w9 (h9 : Evo w5 w9 [b1]) => row_keep hrW h9 (fun hne hm => by have h2 := (hgW hne).2; simp at hm; omega)
   have hq0 := Int.emod_nonneg (IntKind.i64.wrap (mw.tdiv 3)) (show (3 : Int) ≠ 0 by decide); have hq1 := Int.emod_lt_of_pos (IntKind.i64.wrap (mw.tdiv 3)) (show (0 : Int) < 3 by decide)
   refine r_region ?_
   refine r_op rfl rfl rfl (run_asg (v := S _) rfl (by exact rfl)) ?_
   refine r_nil ?_
   refine r_seq ?_
   refine r_seq ?_
   refine r_region ?_
   refine r_op rfl rfl rfl (run_mv (v := .int _ _) rfl (by exact rfl)) ?_
   refine r_op rfl rfl rfl (run_quow rfl (by exact rfl) (by exact rfl) (by omega)) ?_
   refine r_opcall rfl rfl rfl (run_callf (vs := [.int _ _, .int _ _]) rfl (by exact rfl) Tryz.func18 rfl (by kernel_rfl)) (place_calls _ _ (by omega) (by omega)) ?_
   rintro e w14 ⟨rfl, rfl⟩
   refine ⟨_, rfl, ?_⟩
   refine r_op rfl rfl rfl (run_add rfl (by exact rfl) (by exact rfl) (by omega) (by omega)) ?_
   refine r_op rfl rfl rfl (run_sub rfl (by exact rfl) (by exact rfl) (by omega) (by omega)) ?_
   refine r_op rfl rfl rfl (run_asg (v := .int _ _) rfl (by exact rfl)) ?_
   refine r_nil ?_
   refine r_block ?_
   refine r_loop (α := Nat) [11, 12, 41, 42, 43, 44, 45, 46, 47, 48, 49, 50] (fun i g w => g 12 = .int .i64 (i : Nat) ∧ g 11 = S (pS ((IntKind.i64.wrap (mw.tdiv 3) % 3 + 7).toNat - i)) ∧ Blk w b1 42 [.slice aoW ws.length cpW, .slice none 0 0, .slice none 0 0] ∧ At w b1 0 [.slice aoW ws.length cpW, .slice none 0 0, .slice none 0 0] ∧ i ≤ (IntKind.i64.wrap (mw.tdiv 3) % 3 + 7).toNat ∧ w5.heap.size ≤ w.heap.size ∧ Evo w0 w [] ∧ Evo w5 w [b1]) (fun i => i) (IntKind.i64.wrap (mw.tdiv 3) % 3 + 7).toNat ?_ ?_
   ·refine ⟨(congrArg (Value.int _) (by omega)), (congrArg S (by rw [Nat.sub_self]; rfl)), hbb1, hbb1.at, (Nat.le_refl _), (by first | assumption | omega | (dsimp only; omega) | (simp; done)), hV, hI13⟩
   ·rintro i g w16 ⟨hj17, hj18, hbb1, hAb1, hi2, hzl15, hV, hI13⟩
    have hs_w16hV := hV.size
    have hs_w16hI13 := hI13.size
    have hlt19 := hbb1.lt
    replace hrW := hrW0 _ hI13
    refine r_know (i := 12) (v := .int .i64 (i : Nat)) (by exact hj17) ?_
    refine r_know (i := 11) (v := S (pS ((IntKind.i64.wrap (mw.tdiv 3) % 3 + 7).toNat - i))) (by exact hj18) ?_
    refine r_seq ?_
    refine r_seq ?_
    refine r_region ?_
    refine r_op rfl rfl rfl (run_mv (v := .int _ _) rfl (by exact rfl)) ?_
    refine r_op rfl rfl rfl (run_gtr rfl (by exact rfl) (by exact rfl)) ?_
    refine r_nil ?_
    refine r_cond (by exact rfl) (fun hc20 => ?_) (fun hc20 => ?_)
    ·skip
     refine r_skip ?_
     refine r_seq ?_
     refine r_block ?_
     refine r_seq ?_
     refine r_seq ?_
     have hpl := pS_len ((IntKind.i64.wrap (mw.tdiv 3) % 3 + 7).toNat - i)
     refine r_region ?_
     refine r_op rfl rfl rfl (run_mv (v := S _) rfl (by exact rfl)) ?_
     refine r_op rfl rfl rfl (run_sneq rfl (by exact rfl) (by exact rfl)) ?_
     refine r_nil ?_
     refine r_cond (by exact rfl) (fun hc21 => ?_) (fun hc21 => ?_)
     ·skip
      refine r_region ?_
      refine r_op rfl rfl rfl (run_mv (v := S _) rfl (by exact rfl)) ?_
      refine r_op rfl rfl rfl (run_sadd rfl (by exact rfl) (by exact rfl) (by first | omega | (simp; done) | (simp; omega))) ?_
      refine r_op rfl rfl rfl (run_asg (v := S _) rfl (by exact rfl)) ?_
      refine r_nil ?_
      refine r_region ?_
      refine r_op rfl rfl rfl (run_mv (v := S _) rfl (by exact rfl)) ?_
      refine r_op rfl rfl rfl (run_sadd rfl (by exact rfl) (by exact rfl) (by first | omega | (simp; done) | (simp; omega))) ?_
      refine r_op rfl rfl rfl (run_asg (v := S _) rfl (by exact rfl)) ?_
      refine r_nil ?_
      refine r_blk ?_
      refine r_region ?_
      refine r_op rfl rfl rfl (run_mv (v := .int _ _) rfl (by exact rfl)) ?_
      refine r_op rfl rfl rfl (run_sub rfl (by exact rfl) (by exact rfl) (by omega) (by omega)) ?_
      refine r_op rfl rfl rfl (run_asg (v := .int _ _) rfl (by exact rfl)) ?_
      refine r_nil ?_
      refine r_again (i - 1) ?_ ?_ ?_
      ·first | omega | (dsimp only; omega)
      ·refine ⟨(congrArg (Value.int _) (by omega)), (congrArg S (by first | exact (pS_a (by omega) hc21).symm | exact (pS_b (by omega) (Classical.not_not.1 hc21)).symm)), hbb1, hbb1.at, (by omega), (by first | assumption | omega | (dsimp only; omega) | (simp; done)), hV, hI13⟩
      ·repeat (first | (with_reducible exact Agree.merge _ _ _) | (with_reducible exact Agree.refl _ _) | (with_reducible refine Agree.upd ?_ _ _ rfl) | ((with_reducible refine Agree.inner ?_ ?_); (kernel_rfl)))
     ·skip
      refine r_skip ?_
      refine r_region ?_
      refine r_op rfl rfl rfl (run_mv (v := S _) rfl (by exact rfl)) ?_
      refine r_op rfl rfl rfl (run_sadd rfl (by exact rfl) (by exact rfl) (by first | omega | (simp; done) | (simp; omega))) ?_
      refine r_op rfl rfl rfl (run_asg (v := S _) rfl (by exact rfl)) ?_
      refine r_nil ?_
      refine r_blk ?_
      refine r_region ?_
      refine r_op rfl rfl rfl (run_mv (v := .int _ _) rfl (by exact rfl)) ?_
      refine r_op rfl rfl rfl (run_sub rfl (by exact rfl) (by exact rfl) (by omega) (by omega)) ?_
      refine r_op rfl rfl rfl (run_asg (v := .int _ _) rfl (by exact rfl)) ?_
      refine r_nil ?_
      refine r_again (i - 1) ?_ ?_ ?_
      ·first | omega | (dsimp only; omega)
      ·refine ⟨(congrArg (Value.int _) (by omega)), (congrArg S (by first | exact (pS_a (by omega) hc21).symm | exact (pS_b (by omega) (Classical.not_not.1 hc21)).symm)), hbb1, hbb1.at, (by omega), (by first | assumption | omega | (dsimp only; omega) | (simp; done)), hV, hI13⟩
      ·repeat (first | (with_reducible exact Agree.merge _ _ _) | (with_reducible exact Agree.refl _ _) | (with_reducible refine Agree.upd ?_ _ _ rfl) | ((with_reducible refine Agree.inner ?_ ?_); (kernel_rfl)))
    ·skip
     refine r_exit rfl ?_
     refine r_seq ?_
     refine r_seq ?_
     have hb92 := hbb1.lt; have hp0 := Int.emod_nonneg mp (show (3 : Int) ≠ 0 by decide); have hp1 := Int.emod_lt_of_pos mp (show (0 : Int) < 3 by decide); have hie : (IntKind.i64.wrap (mw.tdiv 3) % 3 + 7).toNat - i = (IntKind.i64.wrap (mw.tdiv 3) % 3 + 7).toNat := by omega
     skip
     refine r_region ?_
     refine r_op rfl rfl rfl (run_mv (v := .int _ _) rfl (by exact rfl)) ?_
     refine r_opcall rfl rfl rfl (run_callf (vs := [.int _ _, .int _ _]) rfl (by exact rfl) Tryz.func18 rfl (by kernel_rfl)) (place_calls _ _ (by omega) (by omega)) ?_
     rintro e w22 ⟨rfl, rfl⟩
     refine ⟨_, rfl, ?_⟩
     refine r_op rfl rfl rfl (run_add rfl (by exact rfl) (by exact rfl) (by omega) (by omega)) ?_
     refine r_op rfl rfl rfl (run_sub rfl (by exact rfl) (by exact rfl) (by omega) (by omega)) ?_
     refine r_op rfl rfl rfl (run_asg (v := .int _ _) rfl (by exact rfl)) ?_
     refine r_nil ?_
     refine r_block ?_
     refine r_loop (α := Nat) [13, 55, 56, 57, 58, 59, 60, 61, 62, 63, 64] (fun q g w => ∃ vq : Value, ∃ qs : List Str, g 13 = .int .i64 (q : Nat) ∧ OwnE w w16.heap.size 9 vq qs ∧ Blk w b1 42 [.slice aoW ws.length cpW, vq, .slice none 0 0] ∧ At w b1 0 [.slice aoW ws.length cpW, vq, .slice none 0 0] ∧ qs = List.replicate qs.length (pS ((IntKind.i64.wrap (mw.tdiv 3) % 3 + 7).toNat - i)) ∧ qs.length + q = (mp % 3 + 7).toNat ∧ w16.heap.size ≤ w.heap.size ∧ Evo w0 w [] ∧ Evo w5 w [b1]) (fun q => q) (mp % 3 + 7).toNat ?_ ?_
     ·refine ⟨_, [], (congrArg (Value.int _) (by omega)), (OwnE.nil _ _ _), hbb1, hbb1.at, rfl, (by first | (simp; done) | (simp; omega)), (by first | assumption | omega | (dsimp only; omega) | (simp; done)), hV, hI13⟩
     ·rintro q g w24 ⟨vq, qs, hj25, hos, hbb1, hAb1, hqs, hqk, hzl23, hV, hI13⟩
      have hs_w24hV := hV.size
      have hs_w24hI13 := hI13.size
      have hlt26 := hbb1.lt
      replace hrW := hrW0 _ hI13
      refine r_know (i := 13) (v := .int .i64 (q : Nat)) (by exact hj25) ?_
      refine r_seq ?_
      refine r_seq ?_
      refine r_region ?_
      refine r_op rfl rfl rfl (run_mv (v := .int _ _) rfl (by exact rfl)) ?_
      refine r_op rfl rfl rfl (run_gtr rfl (by exact rfl) (by exact rfl)) ?_
      refine r_nil ?_
      refine r_cond (by exact rfl) (fun hc27 => ?_) (fun hc27 => ?_)
      ·skip
       refine r_skip ?_
       refine r_seq ?_
       refine r_block ?_
       refine r_region ?_
       refine r_op rfl rfl rfl (run_fa rfl (by exact rfl) fo_42_1) ?_
       refine r_op rfl rfl rfl (run_ld1 rfl ag_40 (by exact rfl) (hAb1.cell 1 (by exact rfl))) ?_
       refine r_op rfl rfl rfl (run_mv (v := S _) rfl (by exact rfl)) ?_
       refine r_append1E (u := S _) (y := (pS ((IntKind.i64.wrap (mw.tdiv 3) % 3 + 7).toNat - i))) rfl rfl Tryz.underlying40 ty_9 (by exact rfl) hos (fun _ => (by exact rfl)) (by exact rfl) (by first | exact rfl | (show _ = List.toArray [_]; first | (dsimp only; done) | exact rfl | (dsimp only; exact rfl))) ((by first | omega | (simp; omega))) ((by first | omega | (simp; omega))) (by omega) ?_
       intro q_v28 v28 w29 hEw29 hov28 hlv28
       have hs_w29 := (hEw29).size
       replace hV := evo_stepo hV hEw29 (fun g hg => .inl (by first | exact (hos.block hg).1 | (have := hos.block hg; omega)))
       replace hI13 := evo_stepo hI13 hEw29 (fun g hg => .inl (by first | exact (hos.block hg).1 | (have := hos.block hg; omega)))
       replace hrW := hrW0 _ hI13
       replace hbb1 := hbb1.evo hEw29 (by intro hm; have hm2 := Option.mem_toList.1 hm; first | (have := hos.block hm2; omega) | (simp [Value.ownBlock] at hm2; omega))
       replace hAb1 := hAb1.evo hEw29 (by intro hm; have hm2 := Option.mem_toList.1 hm; first | (have := hos.block hm2; omega) | (simp [Value.ownBlock] at hm2; omega))
       have hos := hov28
       refine r_op rfl rfl rfl (run_fa rfl (by exact rfl) fo_42_1) ?_
       obtain ⟨ao30, cp30, hv30⟩ := hos.shape
       subst hv30
       refine r_store (v := .slice _ _ _) (vs := [_]) (cs' := [_, _, _]) (by exact rfl) (by exact rfl) hbb1 ty_40 (by exact rfl) rfl (by exact rfl) rfl (by exact rfl) ?_
       intro w31 hEw31 hzw31 hb_new
       have hs_w31 := (hEw31).size
       replace hV := evo_step1 hV hEw31 (by first | exact .inl (by omega) | exact .inr (by simp))
       replace hI13 := evo_step1 hI13 hEw31 (by first | exact .inl (by omega) | exact .inr (by simp))
       replace hrW := hrW0 _ hI13
       replace hos := hos.evo hEw31 (by intro g hg hm; simp at hm; subst hm; have := hos.block hg; omega)
       replace hbb1 := hb_new
       have hAb1 := hbb1.at
       clear hb_new
       refine r_nil ?_
       refine r_blk ?_
       refine r_region ?_
       refine r_op rfl rfl rfl (run_mv (v := .int _ _) rfl (by exact rfl)) ?_
       refine r_op rfl rfl rfl (run_sub rfl (by exact rfl) (by exact rfl) (by omega) (by omega)) ?_
       refine r_op rfl rfl rfl (run_asg (v := .int _ _) rfl (by exact rfl)) ?_
       refine r_nil ?_
       refine r_again (q - 1) ?_ ?_ ?_
       ·first | omega | (dsimp only; omega)
       ·refine ⟨_, _, (congrArg (Value.int _) (by omega)), hos, hbb1, hbb1.at, (rep_snoc hqs), (by rw [List.length_append, List.length_singleton]; omega), (by first | assumption | omega | (dsimp only; omega) | (simp; done)), hV, hI13⟩
       ·repeat (first | (with_reducible exact Agree.merge _ _ _) | (with_reducible exact Agree.refl _ _) | (with_reducible refine Agree.upd ?_ _ _ rfl) | ((with_reducible refine Agree.inner ?_ ?_); (kernel_rfl)))
      ·skip
       refine r_exit rfl ?_
       refine r_seq ?_
       have hql : qs.length = (mp % 3 + 7).toNat := by omega
       obtain ⟨aoQ, gQ, cpQ, hvQ, hrQ, hgQ⟩ := hos.rowOf
       subst hvQ
       have hbd_hrQ := hrQ.bd
       have hI32 : Evo w24 w24 [b1] := Evo.refl _ _
       have hrQ0 := fun w9 (h9 : Evo w24 w9 [b1]) => row_keep hrQ h9 (fun hne hm => by have h2 := (hgQ hne).2; simp at hm; omega)
       have hs0 := Int.emod_nonneg ms (show (3 : Int) ≠ 0 by decide); have hs1 := Int.emod_lt_of_pos ms (show (0 : Int) < 3 by decide)
       refine r_region ?_
       refine r_op rfl rfl rfl (run_mv (v := .int _ _) rfl (by exact rfl)) ?_
       refine r_opcall rfl rfl rfl (run_callf (vs := [.int _ _, .int _ _]) rfl (by exact rfl) Tryz.func18 rfl (by kernel_rfl)) (place_calls _ _ (by omega) (by omega)) ?_
       rintro e w33 ⟨rfl, rfl⟩
       refine ⟨_, rfl, ?_⟩
       refine r_op rfl rfl rfl (run_add rfl (by exact rfl) (by exact rfl) (by omega) (by omega)) ?_
       refine r_make (len := (ms % 3 + 63).toNat) (zs := [_]) Tryz.underlying61 ty_5 (by exact rfl) rfl rfl (by exact rfl) (by exact rfl) (by omega) (by omega) (by omega) (by omega) ?_
       intro b34 w35 heb34 hEw35 hfb34 hzb34
       have hs_w35 := (hEw35).size
       replace hV := evo_step0 hV hEw35
       replace hI13 := evo_step0 hI13 hEw35
       replace hI32 := evo_step0 hI32 hEw35
       replace hrW := hrW0 _ hI13
       replace hbb1 := hbb1.evo0 hEw35
       replace hAb1 := hAb1.evo0 hEw35
       replace hrQ := hrQ0 _ hI32
       refine r_op rfl rfl rfl (run_asg (v := .slice (some ⟨b34, 0, none⟩) _ _) rfl (by exact rfl)) ?_
       refine r_nil ?_
       refine r_seq ?_
       refine r_seq ?_
       refine r_region ?_
       refine r_op rfl rfl rfl (run_mv (v := .slice (some ⟨b34, 0, none⟩) _ _) rfl (by exact rfl)) ?_
       refine r_op rfl rfl rfl (run_lenSl rfl (by exact rfl) Tryz.underlying61) ?_
       refine r_op rfl rfl rfl (run_mv (v := .int _ _) rfl (by exact rfl)) ?_
       refine r_nil ?_
       refine r_block ?_
       refine r_loop (α := Nat) [15, 71, 72, 73, 74, 75, 76, 77] (fun k g w => g 71 = .int .i64 (k : Nat) ∧ k ≤ (ms % 3 + 63).toNat ∧ Blk w b1 42 [.slice aoW ws.length cpW, .slice aoQ qs.length cpQ, .slice none 0 0] ∧ At w b1 0 [.slice aoW ws.length cpW, .slice aoQ qs.length cpQ, .slice none 0 0] ∧ FB w b34 5 1 (ms % 3 + 63).toNat (fun x => if x < k then [.int .u8 122] else [.int .u8 0]) ∧ w35.heap.size ≤ w.heap.size ∧ Evo w0 w [] ∧ Evo w5 w [b1] ∧ Evo w24 w [b1]) (fun k => (ms % 3 + 63).toNat - k) 0 ?_ ?_
       ·refine ⟨(by first | exact rfl | exact congrArg (Value.int _) (by omega) | exact congrArg (Value.int _) (by dsimp only; omega) | exact congrArg (Value.int _) (by simp) | exact congrArg S (by simp)), (by first | assumption | omega | (dsimp only; omega) | (simp; done)), hbb1, hbb1.at, (hfb34.congr (fun x => by rw [if_neg (by omega)])), (by first | assumption | omega | (dsimp only; omega) | (simp; done)), hV, hI13, hI32⟩
       ·rintro k g w37 ⟨hj38, hk_k, hbb1, hAb1, hfb34, hzl36, hV, hI13, hI32⟩
        have hs_w37hV := hV.size
        have hs_w37hI13 := hI13.size
        have hs_w37hI32 := hI32.size
        have hlt39 := hbb1.lt
        have hlt40 := hfb34.lt
        replace hrW := hrW0 _ hI13
        replace hrQ := hrQ0 _ hI32
        refine r_know (i := 71) (v := .int .i64 (k : Nat)) (by exact hj38) ?_
        refine r_seq ?_
        refine r_region ?_
        refine r_op rfl rfl rfl (run_lss rfl (by exact rfl) (by exact rfl)) ?_
        refine r_nil ?_
        refine r_seq ?_
        refine r_cond (by exact rfl) (fun hc41 => ?_) (fun hc41 => ?_)
        ·skip
         refine r_skip ?_
         refine r_seq ?_
         refine r_block ?_
         refine r_seq ?_
         refine r_region ?_
         refine r_op rfl rfl rfl (run_mv (v := .int _ _) rfl (by exact rfl)) ?_
         refine r_op rfl rfl rfl (run_asg (v := .int _ _) rfl (by exact rfl)) ?_
         refine r_nil ?_
         refine r_region ?_
         refine r_op rfl rfl rfl (run_mv (v := .slice (some ⟨b34, 0, none⟩) _ _) rfl (by exact rfl)) ?_
         refine r_op rfl rfl rfl (run_mv (v := .int _ _) rfl (by exact rfl)) ?_
         refine r_op rfl rfl rfl (run_ix (k) rfl Tryz.underlying61 ty_5 (by exact rfl) (by exact rfl) (by first | exact rfl | omega) (by omega) rfl) ?_
         refine r_storeF (v := .int _ _) (vs := [_]) (k) (by exact rfl) rfl (by exact rfl) hfb34 (by omega) ty_5 (by exact rfl) rfl (by exact rfl) ?_
         intro w42 hEw42 hzw42 hb_new
         have hs_w42 := (hEw42).size
         replace hV := evo_step1 hV hEw42 (by first | exact .inl (by omega) | exact .inr (by simp))
         replace hI13 := evo_step1 hI13 hEw42 (by first | exact .inl (by omega) | exact .inr (by simp))
         replace hI32 := evo_step1 hI32 hEw42 (by first | exact .inl (by omega) | exact .inr (by simp))
         replace hrW := hrW0 _ hI13
         replace hrQ := hrQ0 _ hI32
         replace hbb1 := hbb1.evo hEw42 (by simp; omega)
         replace hAb1 := hAb1.evo hEw42 (by simp; omega)
         replace hfb34 := hb_new
         clear hb_new
         refine r_nil ?_
         refine r_blk ?_
         refine r_region ?_
         refine r_op rfl rfl rfl (run_add rfl (by exact rfl) (by exact rfl) (by omega) (by omega)) ?_
         refine r_op rfl rfl rfl (run_mv (v := .int _ _) rfl (by exact rfl)) ?_
         refine r_nil ?_
         refine r_again (k + 1) ?_ ?_ ?_
         ·first | omega | (dsimp only; omega)
         ·refine ⟨(by first | exact rfl | exact congrArg (Value.int _) (by omega) | exact congrArg (Value.int _) (by dsimp only; omega) | exact congrArg (Value.int _) (by simp) | exact congrArg S (by simp)), (by first | assumption | omega | (dsimp only; omega) | (simp; done)), hbb1, hbb1.at, (fb_step hfb34), (by first | assumption | omega | (dsimp only; omega) | (simp; done)), hV, hI13, hI32⟩
         ·repeat (first | (with_reducible exact Agree.merge _ _ _) | (with_reducible exact Agree.refl _ _) | (with_reducible refine Agree.upd ?_ _ _ rfl) | ((with_reducible refine Agree.inner ?_ ?_); (kernel_rfl)))
        ·skip
         refine r_exit rfl ?_
         refine r_seq ?_
         have hrb := fb_row8 (c := 122) (hfb34.congr' (fun _ => rfl) (fun x hx => by rw [if_pos (by omega)]; rfl)) (by omega)
         refine r_know (i := 14) (v := .slice (some ⟨b34, 0, none⟩) (List.replicate (ms % 3 + 63).toNat (122 : UInt8)).length (ms % 3 + 63).toNat) (by rw [List.length_replicate]; exact rfl) ?_
         refine r_region ?_
         refine r_op rfl rfl rfl (run_mv (v := .slice _ _ _) rfl (by exact rfl)) ?_
         refine r_op rfl rfl rfl (run_cvBS rfl Tryz.underlying61 Tryz.underlying5 Tryz.underlying9 (by exact rfl) (by first | rfl | simp) hrb) ?_
         refine r_op rfl rfl rfl (run_bld (pv := [(0, S _)]) (zs := [_, _]) (cells := [_, _]) rfl ty_60 (by exact rfl) pl_60 (by exact rfl) (by exact rfl)) ?_
         refine r_bslice (pv := [(0, .agg _)]) (zs := [_, _]) (cs := [_, _]) Tryz.underlying39 ty_60 (by exact rfl) rfl (by exact rfl) rfl (by exact rfl) ?_
         intro b43 w44 heb43 hEw44 hbb43 hzb43
         have hs_w44 := (hEw44).size
         replace hV := evo_step0 hV hEw44
         replace hI13 := evo_step0 hI13 hEw44
         replace hI32 := evo_step0 hI32 hEw44
         replace hrW := hrW0 _ hI13
         replace hrQ := hrQ0 _ hI32
         replace hbb1 := hbb1.evo0 hEw44
         replace hAb1 := hAb1.evo0 hEw44
         replace hrb := hrb.evo0 hEw44
         have hAb43 := hbb43.at
         have hrb43 : RowE w44 (some ⟨b43, 0, none⟩) b43 0 1 ([⟨(List.replicate (ms % 3 + 63).toNat (122 : UInt8)), []⟩] : List Ende) := rowLit ([⟨(List.replicate (ms % 3 + 63).toNat (122 : UInt8)), []⟩] : List Ende) hbb43 rfl rfl
         refine r_bslice (pv := [(0, S _)]) (zs := [_]) (cs := [_]) Tryz.underlying40 ty_9 (by exact rfl) rfl (by exact rfl) rfl (by exact rfl) ?_
         intro b45 w46 heb45 hEw46 hbb45 hzb45
         have hs_w46 := (hEw46).size
         replace hV := evo_step0 hV hEw46
         replace hI13 := evo_step0 hI13 hEw46
         replace hI32 := evo_step0 hI32 hEw46
         replace hrW := hrW0 _ hI13
         replace hrQ := hrQ0 _ hI32
         replace hbb1 := hbb1.evo0 hEw46
         replace hAb1 := hAb1.evo0 hEw46
         replace hrb := hrb.evo0 hEw46
         replace hrb43 := hrb43.evo0 hEw46
         have hAb45 := hbb45.at
         have hrb45 : RowE w46 (some ⟨b45, 0, none⟩) b45 0 1 ([[97]] : List Str) := rowLit ([[97]] : List Str) hbb45 rfl rfl
         refine r_op rfl rfl rfl (run_bld (pv := [(0, .slice (some ⟨b43, 0, none⟩) _ _), (2, .slice (some ⟨b45, 0, none⟩) _ _)]) (zs := [_, _, _]) (cells := [_, _, _]) rfl ty_42 (by exact rfl) pl_42 (by exact rfl) (by exact rfl)) ?_
         refine r_var (zs := [_, _, _]) (vs := [_, _, _]) ty_42 (by exact rfl) rfl (by exact rfl) (fun _ => rfl) (by exact rfl) rfl rfl (by exact rfl) ?_
         intro b47 w48 heb47 hEw48 hbb47 hzb47
         have hs_w48 := (hEw48).size
         replace hV := evo_step0 hV hEw48
         replace hI13 := evo_step0 hI13 hEw48
         replace hI32 := evo_step0 hI32 hEw48
         replace hrW := hrW0 _ hI13
         replace hrQ := hrQ0 _ hI32
         replace hbb1 := hbb1.evo0 hEw48
         replace hAb1 := hAb1.evo0 hEw48
         replace hrb := hrb.evo0 hEw48
         replace hrb43 := hrb43.evo0 hEw48
         replace hrb45 := hrb45.evo0 hEw48
         have hAb47 := hbb47.at
         refine r_nil ?_
         refine r_seq ?_
         have hI24 : Evo w48 w48 [] := Evo.refl _ _
         have hbb10 := fun w9 (h9 : Evo w48 w9 []) => hbb1.evo0 h9
         have hAb10 := fun w9 (h9 : Evo w48 w9 []) => hAb1.evo0 h9
         have hbb470 := fun w9 (h9 : Evo w48 w9 []) => hbb47.evo0 h9
         have hAb470 := fun w9 (h9 : Evo w48 w9 []) => hAb47.evo0 h9
         have hrb430 := fun w9 (h9 : Evo w48 w9 []) => hrb43.evo0 h9
         have hrb450 := fun w9 (h9 : Evo w48 w9 []) => hrb45.evo0 h9
         replace hrW := hrW0 _ hI13
         replace hrQ := hrQ0 _ hI32
         have hxr : ∀ w9, Evo w48 w9 [] → Rep.rep w9 [.slice aoW ws.length cpW, .slice aoQ qs.length cpQ, .slice none 0 0] (⟨ws, qs, []⟩ : TermL) := fun w9 h9 => term_reps (x := (⟨ws, qs, []⟩ : TermL)) (hrW.evo0 h9) (hrQ.evo0 h9) (RowE.nil _ none 0 0 0) (rep_bd hws (show ws.length ≤ 9 by omega))
         have hyr : ∀ w9, Evo w48 w9 [] → Rep.rep w9 [.slice (some ⟨b43, 0, none⟩) 1 1, .slice none 0 0, .slice (some ⟨b45, 0, none⟩) 1 1] (⟨([⟨(List.replicate (ms % 3 + 63).toNat (122 : UInt8)), []⟩] : List Ende), [], [[97]]⟩ : TermL) := fun w9 h9 => term_reps (x := (⟨([⟨(List.replicate (ms % 3 + 63).toNat (122 : UInt8)), []⟩] : List Ende), [], [[97]]⟩ : TermL)) (hrb430 w9 h9) (RowE.nil _ none 0 0 0) (hrb450 w9 h9) (one_bd (by omega))
         have hxj : JudT (⟨ws, qs, []⟩ : TermL) := x_jud hqs (by omega) (by omega); have hyj : JudT (⟨([⟨(List.replicate (ms % 3 + 63).toNat (122 : UInt8)), []⟩] : List Ende), [], [[97]]⟩ : TermL) := y_jud; have hb24 := (hV).size
         have ht0 := Int.emod_nonneg mt (show (3 : Int) ≠ 0 by decide); have ht1 := Int.emod_lt_of_pos mt (show (0 : Int) < 3 by decide)
         refine r_region ?_
         refine r_op rfl rfl rfl (run_asg (v := .slice _ _ _) rfl (by exact rfl)) ?_
         refine r_nil ?_
         refine r_seq ?_
         refine r_seq ?_
         refine r_region ?_
         refine r_op rfl rfl rfl (run_mv (v := .int _ _) rfl (by exact rfl)) ?_
         refine r_opcall rfl rfl rfl (run_callf (vs := [.int _ _, .int _ _]) rfl (by exact rfl) Tryz.func18 rfl (by kernel_rfl)) (place_calls _ _ (by omega) (by omega)) ?_
         rintro e w49 ⟨rfl, rfl⟩
         refine ⟨_, rfl, ?_⟩
         refine r_op rfl rfl rfl (run_add rfl (by exact rfl) (by exact rfl) (by omega) (by omega)) ?_
         refine r_op rfl rfl rfl (run_sub rfl (by exact rfl) (by exact rfl) (by omega) (by omega)) ?_
         refine r_op rfl rfl rfl (run_asg (v := .int _ _) rfl (by exact rfl)) ?_
         refine r_nil ?_
         refine r_block ?_
         refine r_loop (α := Nat) [17, 18, 88, 89, 90, 91, 92, 93, 94, 95] (fun i g w => ∃ vo : Value, ∃ tl : List TermL, g 18 = .int .i64 (i : Nat) ∧ g 17 = vo ∧ OwnR w w48.heap.size 42 [] vo tl ∧ tl = List.replicate tl.length (⟨([⟨(List.replicate (ms % 3 + 63).toNat (122 : UInt8)), []⟩] : List Ende), [], [[97]]⟩ : TermL) ∧ tl.length + i = (mt % 3 + 127).toNat ∧ w48.heap.size ≤ w.heap.size ∧ Evo w0 w [] ∧ Evo w5 w [b1] ∧ Evo w24 w [b1] ∧ Evo w48 w []) (fun i => i) (mt % 3 + 127).toNat ?_ ?_
         ·refine ⟨_, [], (congrArg (Value.int _) (by omega)), rfl, (OwnR.nil _ _ _ _), rfl, (by first | (simp; done) | (simp; omega)), (by first | assumption | omega | (dsimp only; omega) | (simp; done)), hV, hI13, hI32, hI24⟩
         ·rintro i g w51 ⟨vo, tl, hj52, hj53, hoR, htl, htk, hzl50, hV, hI13, hI32, hI24⟩
          have hs_w51hV := hV.size
          have hs_w51hI13 := hI13.size
          have hs_w51hI32 := hI32.size
          have hs_w51hI24 := hI24.size
          replace hrW := hrW0 _ hI13
          replace hrQ := hrQ0 _ hI32
          replace hbb1 := hbb10 _ hI24
          replace hAb1 := hAb10 _ hI24
          replace hrb43 := hrb430 _ hI24
          replace hrb45 := hrb450 _ hI24
          replace hbb47 := hbb470 _ hI24
          replace hAb47 := hAb470 _ hI24
          refine r_know (i := 18) (v := .int .i64 (i : Nat)) (by exact hj52) ?_
          refine r_know (i := 17) (v := vo) (by exact hj53) ?_
          refine r_seq ?_
          refine r_seq ?_
          refine r_region ?_
          refine r_op rfl rfl rfl (run_mv (v := .int _ _) rfl (by exact rfl)) ?_
          refine r_op rfl rfl rfl (run_gtr rfl (by exact rfl) (by exact rfl)) ?_
          refine r_nil ?_
          refine r_cond (by exact rfl) (fun hc54 => ?_) (fun hc54 => ?_)
          ·skip
           refine r_skip ?_
           refine r_seq ?_
           refine r_block ?_
           have hobR := fun g hg => (hoR.block (g := g) hg)
           refine r_region ?_
           refine r_op rfl rfl rfl (run_mv (v := vo) rfl (by exact rfl)) ?_
           refine r_op rfl rfl rfl (run_ldN rfl ag_42 ty_42 (by exact rfl) rfl hAb47) ?_
           refine r_append1R (u := .agg _) (us := [_, _, _]) rfl rfl Tryz.underlying22 ty_42 (by exact rfl) rfl rfl hoR (fun _ => (by exact rfl)) (by exact rfl) (by exact rfl) rfl (by exact rfl) (fun w9 h9 => hyr _ (Evo.trans hI24 h9 (fun y hy hlt => by have h8 := hobR _ (Option.mem_toList.1 (by simpa using hy)); omega))) ((by first | omega | (simp; omega))) ((by first | omega | (simp; omega))) (by omega) ?_
           intro q_v55 v55 w56 hEw56 hov55 hlv55
           have hs_w56 := (hEw56).size
           replace hV := evo_stepo hV hEw56 (fun g hg => .inl (by first | exact (hoR.block hg).1 | (have := hoR.block hg; omega)))
           replace hI13 := evo_stepo hI13 hEw56 (fun g hg => .inl (by first | exact (hoR.block hg).1 | (have := hoR.block hg; omega)))
           replace hI32 := evo_stepo hI32 hEw56 (fun g hg => .inl (by first | exact (hoR.block hg).1 | (have := hoR.block hg; omega)))
           replace hI24 := evo_stepo hI24 hEw56 (fun g hg => .inl (by first | exact (hoR.block hg).1 | (have := hoR.block hg; omega)))
           replace hrW := hrW0 _ hI13
           replace hrQ := hrQ0 _ hI32
           replace hbb1 := hbb10 _ hI24
           replace hAb1 := hAb10 _ hI24
           replace hrb43 := hrb430 _ hI24
           replace hrb45 := hrb450 _ hI24
           replace hbb47 := hbb470 _ hI24
           replace hAb47 := hAb470 _ hI24
           refine r_op rfl rfl rfl (run_asg (v := v55) rfl (by exact rfl)) ?_
           refine r_nil ?_
           refine r_blk ?_
           refine r_region ?_
           refine r_op rfl rfl rfl (run_mv (v := .int _ _) rfl (by exact rfl)) ?_
           refine r_op rfl rfl rfl (run_sub rfl (by exact rfl) (by exact rfl) (by omega) (by omega)) ?_
           refine r_op rfl rfl rfl (run_asg (v := .int _ _) rfl (by exact rfl)) ?_
           refine r_nil ?_
           refine r_again (i - 1) ?_ ?_ ?_
           ·first | omega | (dsimp only; omega)
           ·refine ⟨_, _, (congrArg (Value.int _) (by omega)), rfl, hov55, (rep_snoc htl), (by rw [List.length_append, List.length_singleton]; omega), (by first | assumption | omega | (dsimp only; omega) | (simp; done)), hV, hI13, hI32, hI24⟩
           ·repeat (first | (with_reducible exact Agree.merge _ _ _) | (with_reducible exact Agree.refl _ _) | (with_reducible refine Agree.upd ?_ _ _ rfl) | ((with_reducible refine Agree.inner ?_ ?_); (kernel_rfl)))
          ·skip
           refine r_exit rfl ?_
           refine r_seq ?_
           refine r_seq ?_
           obtain ⟨ao57, g57, cp57, hv57, hr57⟩ := hoR.rowOf
           subst hv57
           have hbd_hr57 := hr57.bd
           have hI58 : Evo w51 w51 [] := Evo.refl _ _
           have hr570 := hr57.keep
           have hbd_hr57 := hr57.bd
           have hcap : tl.length ≤ cp57 := hr57.le; have htk1 := take_rep htl (by omega)
           have hr10 : ∀ w9, Evo w51 w9 [] → RowR w9 ao57 g57 0 cp57 [(⟨([⟨(List.replicate (ms % 3 + 63).toNat (122 : UInt8)), []⟩] : List Ende), [], [[97]]⟩ : TermL)] := fun w9 h9 => by have h8 := (hr570.now h9).take 1; rw [htk1] at h8; exact h8
           have hr1 := hr10 _ hI58; have hbd_hr1 := hr1.bd
           have hjL := l4_jud hxj hyj (row_jud hyj htl); have hlw : ([⟨[(⟨ws, qs, []⟩ : TermL)]⟩, ⟨[(⟨([⟨(List.replicate (ms % 3 + 63).toNat (122 : UInt8)), []⟩] : List Ende), [], [[97]]⟩ : TermL)]⟩, ⟨tl⟩, ⟨[(⟨([⟨(List.replicate (ms % 3 + 63).toNat (122 : UInt8)), []⟩] : List Ende), [], [[97]]⟩ : TermL)] ++ [(⟨ws, qs, []⟩ : TermL)]⟩] : List TmsL).length = 4 := rfl
           refine r_cut [96, 97, 98, 99, 100, 101, 102, 103, 104, 105, 106, 107, 108] (fun g w => ∃ bw : Nat, g 106 = .slice (some ⟨bw, 0, none⟩) 4 4 ∧ g 107 = .int .i64 ((4 : Nat) : Int) ∧ g 108 = .int .i64 ((0 : Nat) : Int) ∧ RowR w (some ⟨bw, 0, none⟩) bw 0 4 ([⟨[(⟨ws, qs, []⟩ : TermL)]⟩, ⟨[(⟨([⟨(List.replicate (ms % 3 + 63).toNat (122 : UInt8)), []⟩] : List Ende), [], [[97]]⟩ : TermL)]⟩, ⟨tl⟩, ⟨[(⟨([⟨(List.replicate (ms % 3 + 63).toNat (122 : UInt8)), []⟩] : List Ende), [], [[97]]⟩ : TermL)] ++ [(⟨ws, qs, []⟩ : TermL)]⟩] : List TmsL) ∧ w51.heap.size ≤ w.heap.size ∧ Evo w0 w [] ∧ Evo w5 w [b1] ∧ Evo w24 w [b1] ∧ Evo w48 w [] ∧ Evo w51 w []) ?_ ?_
           ·skip
            have hV_q := hV
            have hI13_q := hI13
            have hI32_q := hI32
            have hI24_q := hI24
            have hI58_q := hI58
            refine h_region ([]) (by kernel_rfl) ?_
            intro w60 hE61 hCst29
            have hs_w60 := (hE61).size
            replace hV := evo_step0 hV hE61
            replace hI13 := evo_step0 hI13 hE61
            replace hI32 := evo_step0 hI32 hE61
            replace hI24 := evo_step0 hI24 hE61
            replace hI58 := evo_step0 hI58 hE61
            replace hrW := hrW0 _ hI13
            replace hrQ := hrQ0 _ hI32
            replace hbb1 := hbb10 _ hI24
            replace hAb1 := hAb10 _ hI24
            replace hrb43 := hrb430 _ hI24
            replace hrb45 := hrb450 _ hI24
            replace hbb47 := hbb470 _ hI24
            replace hAb47 := hAb470 _ hI24
            replace hoR := hoR.evo0 hE61
            replace hr57 := hr570.now hI58
            replace hr1 := hr10 _ hI58
            refine h_take (i := 0) (by exact rfl) rfl rfl rfl (by kernel_rfl) (fun w' hC => run_ldN rfl ag_42 ty_42 (by exact rfl) rfl (hAb10 _ (evo_step0 hI24_q hC))) hCst29 ?_
            refine h_take (i := 2) (by exact rfl) rfl rfl rfl (by kernel_rfl) (fun w' hC => run_ldN rfl ag_42 ty_42 (by exact rfl) rfl (hAb470 _ (evo_step0 hI24_q hC))) hCst29 ?_
            refine h_take (i := 4) (by exact rfl) rfl rfl rfl (by kernel_rfl) (fun w' hC => run_mv (v := .slice _ _ _) rfl (by exact rfl)) hCst29 ?_
            refine h_take (i := 5) (by exact rfl) rfl rfl rfl (by kernel_rfl) (fun w' hC => run_mv (v := .slice _ _ _) rfl (by exact rfl)) hCst29 ?_
            refine h_take (i := 6) (by exact rfl) rfl rfl rfl (by kernel_rfl) (fun w' hC => by exact run_sl_hm (h := 1) (k := 1) (ao := ao57) (cap := cp57) .i64 .i64 rfl Tryz.underlying22 ty_42 (by exact rfl) (by exact rfl) (by exact rfl) (by decide) (by omega)) hCst29 ?_
            refine h_take (i := 7) (by exact rfl) rfl rfl rfl (by kernel_rfl) (fun w' hC => run_ldN rfl ag_42 ty_42 (by exact rfl) rfl (hAb10 _ (evo_step0 hI24_q hC))) hCst29 ?_
            refine h_take (i := 12) (by exact rfl) rfl rfl rfl (by kernel_rfl) (fun w' hC => run_mv (v := .int _ _) rfl (by exact rfl)) hCst29 ?_
            refine h_three (i := 1) (j := 3) (p := 8) (by kernel_rfl) ?_ ?_ ?_
            ·skip
             refine h_do (by exact rfl) ?_
             refine r_bslice (pv := [(0, .agg _)]) (zs := [_, _, _]) (cs := [_, _, _]) Tryz.underlying22 ty_42 (by exact rfl) rfl (by exact rfl) rfl (by exact rfl) ?_
             intro b62 w63 heb62 hEw63 hbb62 hzb62
             have hs_w63 := (hEw63).size
             replace hV := evo_step0 hV hEw63
             replace hI13 := evo_step0 hI13 hEw63
             replace hI32 := evo_step0 hI32 hEw63
             replace hI24 := evo_step0 hI24 hEw63
             replace hI58 := evo_step0 hI58 hEw63
             replace hCst29 := evo_step0 hCst29 hEw63
             replace hrW := hrW0 _ hI13
             replace hrQ := hrQ0 _ hI32
             replace hbb1 := hbb10 _ hI24
             replace hAb1 := hAb10 _ hI24
             replace hrb43 := hrb430 _ hI24
             replace hrb45 := hrb450 _ hI24
             replace hbb47 := hbb470 _ hI24
             replace hAb47 := hAb470 _ hI24
             replace hoR := hoR.evo0 hEw63
             replace hr57 := hr570.now hI58
             replace hr1 := hr10 _ hI58
             have hAb62 := hbb62.at
             have hKb62 : Evo w63 w63 ([]) := Evo.refl _ _
             have hrb620 := rowLitRK ([]) hbb62 (by simp) (fun w9 h9 => hxr _ (Evo.trans hI24 h9 (fun y hy hlt => by cases hy))) (x := (⟨ws, qs, []⟩ : TermL))
             have hrb62 := hrb620.now hKb62
             have hbd_hrb62 := hrb62.bd
             refine h_next hCst29 ?_
             refine h_two (i := 3) (j := 8) (by kernel_rfl) ?_ ?_
             ·skip
              refine h_do (by exact rfl) ?_
              refine r_bslice (pv := [(0, .agg _)]) (zs := [_, _, _]) (cs := [_, _, _]) Tryz.underlying22 ty_42 (by exact rfl) rfl (by exact rfl) rfl (by exact rfl) ?_
              intro b64 w65 heb64 hEw65 hbb64 hzb64
              have hs_w65 := (hEw65).size
              replace hV := evo_step0 hV hEw65
              replace hI13 := evo_step0 hI13 hEw65
              replace hI32 := evo_step0 hI32 hEw65
              replace hI24 := evo_step0 hI24 hEw65
              replace hI58 := evo_step0 hI58 hEw65
              replace hCst29 := evo_step0 hCst29 hEw65
              replace hKb62 := evo_step0 hKb62 hEw65
              replace hrW := hrW0 _ hI13
              replace hrQ := hrQ0 _ hI32
              replace hbb1 := hbb10 _ hI24
              replace hAb1 := hAb10 _ hI24
              replace hrb43 := hrb430 _ hI24
              replace hrb45 := hrb450 _ hI24
              replace hbb47 := hbb470 _ hI24
              replace hAb47 := hAb470 _ hI24
              replace hoR := hoR.evo0 hEw65
              replace hr57 := hr570.now hI58
              replace hr1 := hr10 _ hI58
              replace hrb62 := hrb620.now hKb62
              have hAb64 := hbb64.at
              have hKb64 : Evo w65 w65 ([]) := Evo.refl _ _
              have hrb640 := rowLitRK ([]) hbb64 (by simp) (fun w9 h9 => hyr _ (Evo.trans hI24 h9 (fun y hy hlt => by cases hy))) (x := (⟨([⟨(List.replicate (ms % 3 + 63).toNat (122 : UInt8)), []⟩] : List Ende), [], [[97]]⟩ : TermL))
              have hrb64 := hrb640.now hKb64
              have hbd_hrb64 := hrb64.bd
              refine h_next hCst29 ?_
              refine h_one (i := 8) (by kernel_rfl) ?_
              refine h_do (by exact rfl) ?_
              refine r_bslice (pv := [(0, .agg _)]) (zs := [_, _, _]) (cs := [_, _, _]) Tryz.underlying22 ty_42 (by exact rfl) rfl (by exact rfl) rfl (by exact rfl) ?_
              intro b66 w67 heb66 hEw67 hbb66 hzb66
              have hs_w67 := (hEw67).size
              replace hV := evo_step0 hV hEw67
              replace hI13 := evo_step0 hI13 hEw67
              replace hI32 := evo_step0 hI32 hEw67
              replace hI24 := evo_step0 hI24 hEw67
              replace hI58 := evo_step0 hI58 hEw67
              replace hCst29 := evo_step0 hCst29 hEw67
              replace hKb62 := evo_step0 hKb62 hEw67
              replace hKb64 := evo_step0 hKb64 hEw67
              replace hrW := hrW0 _ hI13
              replace hrQ := hrQ0 _ hI32
              replace hbb1 := hbb10 _ hI24
              replace hAb1 := hAb10 _ hI24
              replace hrb43 := hrb430 _ hI24
              replace hrb45 := hrb450 _ hI24
              replace hbb47 := hbb470 _ hI24
              replace hAb47 := hAb470 _ hI24
              replace hoR := hoR.evo0 hEw67
              replace hr57 := hr570.now hI58
              replace hr1 := hr10 _ hI58
              replace hrb62 := hrb620.now hKb62
              replace hrb64 := hrb640.now hKb64
              have hAb66 := hbb66.at
              have hKb66 : Evo w67 w67 ([]) := Evo.refl _ _
              have hrb660 := rowLitRK ([]) hbb66 (by simp) (fun w9 h9 => hxr _ (Evo.trans hI24 h9 (fun y hy hlt => by cases hy))) (x := (⟨ws, qs, []⟩ : TermL))
              have hrb66 := hrb660.now hKb66
              have hbd_hrb66 := hrb66.bd
              refine h_next hCst29 ?_
              refine h_one (i := 9) (by kernel_rfl) ?_
              refine h_do (by exact rfl) ?_
              refine r_appendF (l := [(⟨([⟨(List.replicate (ms % 3 + 63).toNat (122 : UInt8)), []⟩] : List Ende), [], [[97]]⟩ : TermL)]) (l2 := [(⟨ws, qs, []⟩ : TermL)]) rfl Tryz.underlying22 ty_42 (by exact rfl) (by exact rfl) hr1 (by simp) (by exact rfl) hrb66 rfl (by simp) (show (1 + 1) * _ ≤ 140737488355328 by decide) (show 1 + 1 ≤ 140737488355328 by decide) ?_
              intro aoF68 gF68 cpF68 w68 hEw68 hrF68
              have hs_w68 := (hEw68).size
              replace hV := evo_step0 hV hEw68
              replace hI13 := evo_step0 hI13 hEw68
              replace hI32 := evo_step0 hI32 hEw68
              replace hI24 := evo_step0 hI24 hEw68
              replace hI58 := evo_step0 hI58 hEw68
              replace hCst29 := evo_step0 hCst29 hEw68
              replace hKb62 := evo_step0 hKb62 hEw68
              replace hKb64 := evo_step0 hKb64 hEw68
              replace hKb66 := evo_step0 hKb66 hEw68
              replace hrW := hrW0 _ hI13
              replace hrQ := hrQ0 _ hI32
              replace hbb1 := hbb10 _ hI24
              replace hAb1 := hAb10 _ hI24
              replace hrb43 := hrb430 _ hI24
              replace hrb45 := hrb450 _ hI24
              replace hbb47 := hbb470 _ hI24
              replace hAb47 := hAb470 _ hI24
              replace hoR := hoR.evo0 hEw68
              replace hr57 := hr570.now hI58
              replace hr1 := hr10 _ hI58
              replace hrb62 := hrb620.now hKb62
              replace hrb64 := hrb640.now hKb64
              replace hrb66 := hrb660.now hKb66
              have hbd_hrF68 := hrF68.bd
              refine h_next hCst29 ?_
              refine h_one (i := 10) (by kernel_rfl) ?_
              refine h_do (by exact rfl) ?_
              refine r_bslice (pv := [(0, .slice (some ⟨b62, 0, none⟩) _ _), (1, .slice (some ⟨b64, 0, none⟩) _ _), (2, .slice _ _ _), (3, .slice aoF68 _ cpF68)]) (zs := [_]) (cs := [_, _, _, _]) Tryz.underlying62 ty_22 (by exact rfl) rfl (by exact rfl) rfl (by exact rfl) ?_
              intro b69 w70 heb69 hEw70 hbb69 hzb69
              have hs_w70 := (hEw70).size
              replace hV := evo_step0 hV hEw70
              replace hI13 := evo_step0 hI13 hEw70
              replace hI32 := evo_step0 hI32 hEw70
              replace hI24 := evo_step0 hI24 hEw70
              replace hI58 := evo_step0 hI58 hEw70
              replace hCst29 := evo_step0 hCst29 hEw70
              replace hKb62 := evo_step0 hKb62 hEw70
              replace hKb64 := evo_step0 hKb64 hEw70
              replace hKb66 := evo_step0 hKb66 hEw70
              replace hrW := hrW0 _ hI13
              replace hrQ := hrQ0 _ hI32
              replace hbb1 := hbb10 _ hI24
              replace hAb1 := hAb10 _ hI24
              replace hrb43 := hrb430 _ hI24
              replace hrb45 := hrb450 _ hI24
              replace hbb47 := hbb470 _ hI24
              replace hAb47 := hAb470 _ hI24
              replace hoR := hoR.evo0 hEw70
              replace hr57 := hr570.now hI58
              replace hr1 := hr10 _ hI58
              replace hrb62 := hrb620.now hKb62
              replace hrb64 := hrb640.now hKb64
              replace hrb66 := hrb660.now hKb66
              replace hrF68 := hrF68.evo0 hEw70
              have hAb69 := hbb69.at
              have hrb69 : RowR w70 (some ⟨b69, 0, none⟩) b69 0 4 ([⟨[(⟨ws, qs, []⟩ : TermL)]⟩, ⟨[(⟨([⟨(List.replicate (ms % 3 + 63).toNat (122 : UInt8)), []⟩] : List Ende), [], [[97]]⟩ : TermL)]⟩, ⟨tl⟩, ⟨[(⟨([⟨(List.replicate (ms % 3 + 63).toNat (122 : UInt8)), []⟩] : List Ende), [], [[97]]⟩ : TermL)] ++ [(⟨ws, qs, []⟩ : TermL)]⟩] : List TmsL) := rowLitR [[_], [_], [_], [_]] ([⟨[(⟨ws, qs, []⟩ : TermL)]⟩, ⟨[(⟨([⟨(List.replicate (ms % 3 + 63).toNat (122 : UInt8)), []⟩] : List Ende), [], [[97]]⟩ : TermL)]⟩, ⟨tl⟩, ⟨[(⟨([⟨(List.replicate (ms % 3 + 63).toNat (122 : UInt8)), []⟩] : List Ende), [], [[97]]⟩ : TermL)] ++ [(⟨ws, qs, []⟩ : TermL)]⟩] : List TmsL) hbb69 rfl ((((RepL.one (tms_rep hrb62)).append (RepL.one (tms_rep hrb64))).append (RepL.one (tms_rep (hr570.now hI58)))).append (RepL.one (tms_rep hrF68))) rfl
              refine h_next hCst29 ?_
              refine h_take (i := 11) (by exact rfl) rfl rfl rfl (by kernel_rfl) (fun w' hC => run_lenSl rfl (by exact rfl) Tryz.underlying62) hCst29 ?_
              refine h_done (by kernel_rfl) ?_
              refine r_cut_end ?_ ?_
              ·refine ⟨_, rfl, rfl, rfl, hrb69, (by first | assumption | omega | (dsimp only; omega) | (simp; done)), hV, hI13, hI32, hI24, hI58⟩
              ·repeat (first | (with_reducible exact Agree.merge _ _ _) | (with_reducible exact Agree.refl _ _) | (with_reducible refine Agree.upd ?_ _ _ rfl) | ((with_reducible refine Agree.inner ?_ ?_); (kernel_rfl)))
             ·skip
              refine h_do (by exact rfl) ?_
              refine r_bslice (pv := [(0, .agg _)]) (zs := [_, _, _]) (cs := [_, _, _]) Tryz.underlying22 ty_42 (by exact rfl) rfl (by exact rfl) rfl (by exact rfl) ?_
              intro b71 w72 heb71 hEw72 hbb71 hzb71
              have hs_w72 := (hEw72).size
              replace hV := evo_step0 hV hEw72
              replace hI13 := evo_step0 hI13 hEw72
              replace hI32 := evo_step0 hI32 hEw72
              replace hI24 := evo_step0 hI24 hEw72
              replace hI58 := evo_step0 hI58 hEw72
              replace hCst29 := evo_step0 hCst29 hEw72
              replace hKb62 := evo_step0 hKb62 hEw72
              replace hrW := hrW0 _ hI13
              replace hrQ := hrQ0 _ hI32
              replace hbb1 := hbb10 _ hI24
              replace hAb1 := hAb10 _ hI24
              replace hrb43 := hrb430 _ hI24
              replace hrb45 := hrb450 _ hI24
              replace hbb47 := hbb470 _ hI24
              replace hAb47 := hAb470 _ hI24
              replace hoR := hoR.evo0 hEw72
              replace hr57 := hr570.now hI58
              replace hr1 := hr10 _ hI58
              replace hrb62 := hrb620.now hKb62
              have hAb71 := hbb71.at
              have hKb71 : Evo w72 w72 ([]) := Evo.refl _ _
              have hrb710 := rowLitRK ([]) hbb71 (by simp) (fun w9 h9 => hxr _ (Evo.trans hI24 h9 (fun y hy hlt => by cases hy))) (x := (⟨ws, qs, []⟩ : TermL))
              have hrb71 := hrb710.now hKb71
              have hbd_hrb71 := hrb71.bd
              refine h_next hCst29 ?_
              refine h_two (i := 3) (j := 9) (by kernel_rfl) ?_ ?_
              ·skip
               refine h_do (by exact rfl) ?_
               refine r_bslice (pv := [(0, .agg _)]) (zs := [_, _, _]) (cs := [_, _, _]) Tryz.underlying22 ty_42 (by exact rfl) rfl (by exact rfl) rfl (by exact rfl) ?_
               intro b73 w74 heb73 hEw74 hbb73 hzb73
               have hs_w74 := (hEw74).size
               replace hV := evo_step0 hV hEw74
               replace hI13 := evo_step0 hI13 hEw74
               replace hI32 := evo_step0 hI32 hEw74
               replace hI24 := evo_step0 hI24 hEw74
               replace hI58 := evo_step0 hI58 hEw74
               replace hCst29 := evo_step0 hCst29 hEw74
               replace hKb62 := evo_step0 hKb62 hEw74
               replace hKb71 := evo_step0 hKb71 hEw74
               replace hrW := hrW0 _ hI13
               replace hrQ := hrQ0 _ hI32
               replace hbb1 := hbb10 _ hI24
               replace hAb1 := hAb10 _ hI24
               replace hrb43 := hrb430 _ hI24
               replace hrb45 := hrb450 _ hI24
               replace hbb47 := hbb470 _ hI24
               replace hAb47 := hAb470 _ hI24
               replace hoR := hoR.evo0 hEw74
               replace hr57 := hr570.now hI58
               replace hr1 := hr10 _ hI58
               replace hrb62 := hrb620.now hKb62
               replace hrb71 := hrb710.now hKb71
               have hAb73 := hbb73.at
               have hKb73 : Evo w74 w74 ([]) := Evo.refl _ _
               have hrb730 := rowLitRK ([]) hbb73 (by simp) (fun w9 h9 => hyr _ (Evo.trans hI24 h9 (fun y hy hlt => by cases hy))) (x := (⟨([⟨(List.replicate (ms % 3 + 63).toNat (122 : UInt8)), []⟩] : List Ende), [], [[97]]⟩ : TermL))
               have hrb73 := hrb730.now hKb73
               have hbd_hrb73 := hrb73.bd
               refine h_next hCst29 ?_
               refine h_one (i := 9) (by kernel_rfl) ?_
               refine h_do (by exact rfl) ?_
               refine r_appendF (l := [(⟨([⟨(List.replicate (ms % 3 + 63).toNat (122 : UInt8)), []⟩] : List Ende), [], [[97]]⟩ : TermL)]) (l2 := [(⟨ws, qs, []⟩ : TermL)]) rfl Tryz.underlying22 ty_42 (by exact rfl) (by exact rfl) hr1 (by simp) (by exact rfl) hrb71 rfl (by simp) (show (1 + 1) * _ ≤ 140737488355328 by decide) (show 1 + 1 ≤ 140737488355328 by decide) ?_
               intro aoF75 gF75 cpF75 w75 hEw75 hrF75
               have hs_w75 := (hEw75).size
               replace hV := evo_step0 hV hEw75
               replace hI13 := evo_step0 hI13 hEw75
               replace hI32 := evo_step0 hI32 hEw75
               replace hI24 := evo_step0 hI24 hEw75
               replace hI58 := evo_step0 hI58 hEw75
               replace hCst29 := evo_step0 hCst29 hEw75
               replace hKb62 := evo_step0 hKb62 hEw75
               replace hKb71 := evo_step0 hKb71 hEw75
               replace hKb73 := evo_step0 hKb73 hEw75
               replace hrW := hrW0 _ hI13
               replace hrQ := hrQ0 _ hI32
               replace hbb1 := hbb10 _ hI24
               replace hAb1 := hAb10 _ hI24
               replace hrb43 := hrb430 _ hI24
               replace hrb45 := hrb450 _ hI24
               replace hbb47 := hbb470 _ hI24
               replace hAb47 := hAb470 _ hI24
               replace hoR := hoR.evo0 hEw75
               replace hr57 := hr570.now hI58
               replace hr1 := hr10 _ hI58
               replace hrb62 := hrb620.now hKb62
               replace hrb71 := hrb710.now hKb71
               replace hrb73 := hrb730.now hKb73
               have hbd_hrF75 := hrF75.bd
               refine h_next hCst29 ?_
               refine h_one (i := 10) (by kernel_rfl) ?_
               refine h_do (by exact rfl) ?_
               refine r_bslice (pv := [(0, .slice (some ⟨b62, 0, none⟩) _ _), (1, .slice (some ⟨b73, 0, none⟩) _ _), (2, .slice _ _ _), (3, .slice aoF75 _ cpF75)]) (zs := [_]) (cs := [_, _, _, _]) Tryz.underlying62 ty_22 (by exact rfl) rfl (by exact rfl) rfl (by exact rfl) ?_
               intro b76 w77 heb76 hEw77 hbb76 hzb76
               have hs_w77 := (hEw77).size
               replace hV := evo_step0 hV hEw77
               replace hI13 := evo_step0 hI13 hEw77
               replace hI32 := evo_step0 hI32 hEw77
               replace hI24 := evo_step0 hI24 hEw77
               replace hI58 := evo_step0 hI58 hEw77
               replace hCst29 := evo_step0 hCst29 hEw77
               replace hKb62 := evo_step0 hKb62 hEw77
               replace hKb71 := evo_step0 hKb71 hEw77
               replace hKb73 := evo_step0 hKb73 hEw77
               replace hrW := hrW0 _ hI13
               replace hrQ := hrQ0 _ hI32
               replace hbb1 := hbb10 _ hI24
               replace hAb1 := hAb10 _ hI24
               replace hrb43 := hrb430 _ hI24
               replace hrb45 := hrb450 _ hI24
               replace hbb47 := hbb470 _ hI24
               replace hAb47 := hAb470 _ hI24
               replace hoR := hoR.evo0 hEw77
               replace hr57 := hr570.now hI58
               replace hr1 := hr10 _ hI58
               replace hrb62 := hrb620.now hKb62
               replace hrb71 := hrb710.now hKb71
               replace hrb73 := hrb730.now hKb73
               replace hrF75 := hrF75.evo0 hEw77
               have hAb76 := hbb76.at
               have hrb76 : RowR w77 (some ⟨b76, 0, none⟩) b76 0 4 ([⟨[(⟨ws, qs, []⟩ : TermL)]⟩, ⟨[(⟨([⟨(List.replicate (ms % 3 + 63).toNat (122 : UInt8)), []⟩] : List Ende), [], [[97]]⟩ : TermL)]⟩, ⟨tl⟩, ⟨[(⟨([⟨(List.replicate (ms % 3 + 63).toNat (122 : UInt8)), []⟩] : List Ende), [], [[97]]⟩ : TermL)] ++ [(⟨ws, qs, []⟩ : TermL)]⟩] : List TmsL) := rowLitR [[_], [_], [_], [_]] ([⟨[(⟨ws, qs, []⟩ : TermL)]⟩, ⟨[(⟨([⟨(List.replicate (ms % 3 + 63).toNat (122 : UInt8)), []⟩] : List Ende), [], [[97]]⟩ : TermL)]⟩, ⟨tl⟩, ⟨[(⟨([⟨(List.replicate (ms % 3 + 63).toNat (122 : UInt8)), []⟩] : List Ende), [], [[97]]⟩ : TermL)] ++ [(⟨ws, qs, []⟩ : TermL)]⟩] : List TmsL) hbb76 rfl ((((RepL.one (tms_rep hrb62)).append (RepL.one (tms_rep hrb73))).append (RepL.one (tms_rep (hr570.now hI58)))).append (RepL.one (tms_rep hrF75))) rfl
               refine h_next hCst29 ?_
               refine h_take (i := 11) (by exact rfl) rfl rfl rfl (by kernel_rfl) (fun w' hC => run_lenSl rfl (by exact rfl) Tryz.underlying62) hCst29 ?_
               refine h_done (by kernel_rfl) ?_
               refine r_cut_end ?_ ?_
               ·refine ⟨_, rfl, rfl, rfl, hrb76, (by first | assumption | omega | (dsimp only; omega) | (simp; done)), hV, hI13, hI32, hI24, hI58⟩
               ·repeat (first | (with_reducible exact Agree.merge _ _ _) | (with_reducible exact Agree.refl _ _) | (with_reducible refine Agree.upd ?_ _ _ rfl) | ((with_reducible refine Agree.inner ?_ ?_); (kernel_rfl)))
              ·skip
               refine h_do (by exact rfl) ?_
               refine r_appendF (l := [(⟨([⟨(List.replicate (ms % 3 + 63).toNat (122 : UInt8)), []⟩] : List Ende), [], [[97]]⟩ : TermL)]) (l2 := [(⟨ws, qs, []⟩ : TermL)]) rfl Tryz.underlying22 ty_42 (by exact rfl) (by exact rfl) hr1 (by simp) (by exact rfl) hrb71 rfl (by simp) (show (1 + 1) * _ ≤ 140737488355328 by decide) (show 1 + 1 ≤ 140737488355328 by decide) ?_
               intro aoF78 gF78 cpF78 w78 hEw78 hrF78
               have hs_w78 := (hEw78).size
               replace hV := evo_step0 hV hEw78
               replace hI13 := evo_step0 hI13 hEw78
               replace hI32 := evo_step0 hI32 hEw78
               replace hI24 := evo_step0 hI24 hEw78
               replace hI58 := evo_step0 hI58 hEw78
               replace hCst29 := evo_step0 hCst29 hEw78
               replace hKb62 := evo_step0 hKb62 hEw78
               replace hKb71 := evo_step0 hKb71 hEw78
               replace hrW := hrW0 _ hI13
               replace hrQ := hrQ0 _ hI32
               replace hbb1 := hbb10 _ hI24
               replace hAb1 := hAb10 _ hI24
               replace hrb43 := hrb430 _ hI24
               replace hrb45 := hrb450 _ hI24
               replace hbb47 := hbb470 _ hI24
               replace hAb47 := hAb470 _ hI24
               replace hoR := hoR.evo0 hEw78
               replace hr57 := hr570.now hI58
               replace hr1 := hr10 _ hI58
               replace hrb62 := hrb620.now hKb62
               replace hrb71 := hrb710.now hKb71
               have hbd_hrF78 := hrF78.bd
               refine h_next hCst29 ?_
               refine h_one (i := 3) (by kernel_rfl) ?_
               refine h_do (by exact rfl) ?_
               refine r_bslice (pv := [(0, .agg _)]) (zs := [_, _, _]) (cs := [_, _, _]) Tryz.underlying22 ty_42 (by exact rfl) rfl (by exact rfl) rfl (by exact rfl) ?_
               intro b79 w80 heb79 hEw80 hbb79 hzb79
               have hs_w80 := (hEw80).size
               replace hV := evo_step0 hV hEw80
               replace hI13 := evo_step0 hI13 hEw80
               replace hI32 := evo_step0 hI32 hEw80
               replace hI24 := evo_step0 hI24 hEw80
               replace hI58 := evo_step0 hI58 hEw80
               replace hCst29 := evo_step0 hCst29 hEw80
               replace hKb62 := evo_step0 hKb62 hEw80
               replace hKb71 := evo_step0 hKb71 hEw80
               replace hrW := hrW0 _ hI13
               replace hrQ := hrQ0 _ hI32
               replace hbb1 := hbb10 _ hI24
               replace hAb1 := hAb10 _ hI24
               replace hrb43 := hrb430 _ hI24
               replace hrb45 := hrb450 _ hI24
               replace hbb47 := hbb470 _ hI24
               replace hAb47 := hAb470 _ hI24
               replace hoR := hoR.evo0 hEw80
               replace hr57 := hr570.now hI58
               replace hr1 := hr10 _ hI58
               replace hrb62 := hrb620.now hKb62
               replace hrb71 := hrb710.now hKb71
               replace hrF78 := hrF78.evo0 hEw80
               have hAb79 := hbb79.at
               have hKb79 : Evo w80 w80 ([]) := Evo.refl _ _
               have hrb790 := rowLitRK ([]) hbb79 (by simp) (fun w9 h9 => hyr _ (Evo.trans hI24 h9 (fun y hy hlt => by cases hy))) (x := (⟨([⟨(List.replicate (ms % 3 + 63).toNat (122 : UInt8)), []⟩] : List Ende), [], [[97]]⟩ : TermL))
               have hrb79 := hrb790.now hKb79
               have hbd_hrb79 := hrb79.bd
               refine h_next hCst29 ?_
               refine h_one (i := 10) (by kernel_rfl) ?_
               refine h_do (by exact rfl) ?_
               refine r_bslice (pv := [(0, .slice (some ⟨b62, 0, none⟩) _ _), (1, .slice (some ⟨b79, 0, none⟩) _ _), (2, .slice _ _ _), (3, .slice aoF78 _ cpF78)]) (zs := [_]) (cs := [_, _, _, _]) Tryz.underlying62 ty_22 (by exact rfl) rfl (by exact rfl) rfl (by exact rfl) ?_
               intro b81 w82 heb81 hEw82 hbb81 hzb81
               have hs_w82 := (hEw82).size
               replace hV := evo_step0 hV hEw82
               replace hI13 := evo_step0 hI13 hEw82
               replace hI32 := evo_step0 hI32 hEw82
               replace hI24 := evo_step0 hI24 hEw82
               replace hI58 := evo_step0 hI58 hEw82
               replace hCst29 := evo_step0 hCst29 hEw82
               replace hKb62 := evo_step0 hKb62 hEw82
               replace hKb71 := evo_step0 hKb71 hEw82
               replace hKb79 := evo_step0 hKb79 hEw82
               replace hrW := hrW0 _ hI13
               replace hrQ := hrQ0 _ hI32
               replace hbb1 := hbb10 _ hI24
               replace hAb1 := hAb10 _ hI24
               replace hrb43 := hrb430 _ hI24
               replace hrb45 := hrb450 _ hI24
               replace hbb47 := hbb470 _ hI24
               replace hAb47 := hAb470 _ hI24
               replace hoR := hoR.evo0 hEw82
               replace hr57 := hr570.now hI58
               replace hr1 := hr10 _ hI58
               replace hrb62 := hrb620.now hKb62
               replace hrb71 := hrb710.now hKb71
               replace hrF78 := hrF78.evo0 hEw82
               replace hrb79 := hrb790.now hKb79
               have hAb81 := hbb81.at
               have hrb81 : RowR w82 (some ⟨b81, 0, none⟩) b81 0 4 ([⟨[(⟨ws, qs, []⟩ : TermL)]⟩, ⟨[(⟨([⟨(List.replicate (ms % 3 + 63).toNat (122 : UInt8)), []⟩] : List Ende), [], [[97]]⟩ : TermL)]⟩, ⟨tl⟩, ⟨[(⟨([⟨(List.replicate (ms % 3 + 63).toNat (122 : UInt8)), []⟩] : List Ende), [], [[97]]⟩ : TermL)] ++ [(⟨ws, qs, []⟩ : TermL)]⟩] : List TmsL) := rowLitR [[_], [_], [_], [_]] ([⟨[(⟨ws, qs, []⟩ : TermL)]⟩, ⟨[(⟨([⟨(List.replicate (ms % 3 + 63).toNat (122 : UInt8)), []⟩] : List Ende), [], [[97]]⟩ : TermL)]⟩, ⟨tl⟩, ⟨[(⟨([⟨(List.replicate (ms % 3 + 63).toNat (122 : UInt8)), []⟩] : List Ende), [], [[97]]⟩ : TermL)] ++ [(⟨ws, qs, []⟩ : TermL)]⟩] : List TmsL) hbb81 rfl ((((RepL.one (tms_rep hrb62)).append (RepL.one (tms_rep hrb79))).append (RepL.one (tms_rep (hr570.now hI58)))).append (RepL.one (tms_rep hrF78))) rfl
               refine h_next hCst29 ?_
               refine h_take (i := 11) (by exact rfl) rfl rfl rfl (by kernel_rfl) (fun w' hC => run_lenSl rfl (by exact rfl) Tryz.underlying62) hCst29 ?_
               refine h_done (by kernel_rfl) ?_
               refine r_cut_end ?_ ?_
               ·refine ⟨_, rfl, rfl, rfl, hrb81, (by first | assumption | omega | (dsimp only; omega) | (simp; done)), hV, hI13, hI32, hI24, hI58⟩
               ·repeat (first | (with_reducible exact Agree.merge _ _ _) | (with_reducible exact Agree.refl _ _) | (with_reducible refine Agree.upd ?_ _ _ rfl) | ((with_reducible refine Agree.inner ?_ ?_); (kernel_rfl)))
            ·skip
             refine h_do (by exact rfl) ?_
             refine r_bslice (pv := [(0, .agg _)]) (zs := [_, _, _]) (cs := [_, _, _]) Tryz.underlying22 ty_42 (by exact rfl) rfl (by exact rfl) rfl (by exact rfl) ?_
             intro b83 w84 heb83 hEw84 hbb83 hzb83
             have hs_w84 := (hEw84).size
             replace hV := evo_step0 hV hEw84
             replace hI13 := evo_step0 hI13 hEw84
             replace hI32 := evo_step0 hI32 hEw84
             replace hI24 := evo_step0 hI24 hEw84
             replace hI58 := evo_step0 hI58 hEw84
             replace hCst29 := evo_step0 hCst29 hEw84
             replace hrW := hrW0 _ hI13
             replace hrQ := hrQ0 _ hI32
             replace hbb1 := hbb10 _ hI24
             replace hAb1 := hAb10 _ hI24
             replace hrb43 := hrb430 _ hI24
             replace hrb45 := hrb450 _ hI24
             replace hbb47 := hbb470 _ hI24
             replace hAb47 := hAb470 _ hI24
             replace hoR := hoR.evo0 hEw84
             replace hr57 := hr570.now hI58
             replace hr1 := hr10 _ hI58
             have hAb83 := hbb83.at
             have hKb83 : Evo w84 w84 ([]) := Evo.refl _ _
             have hrb830 := rowLitRK ([]) hbb83 (by simp) (fun w9 h9 => hyr _ (Evo.trans hI24 h9 (fun y hy hlt => by cases hy))) (x := (⟨([⟨(List.replicate (ms % 3 + 63).toNat (122 : UInt8)), []⟩] : List Ende), [], [[97]]⟩ : TermL))
             have hrb83 := hrb830.now hKb83
             have hbd_hrb83 := hrb83.bd
             refine h_next hCst29 ?_
             refine h_two (i := 1) (j := 8) (by kernel_rfl) ?_ ?_
             ·skip
              refine h_do (by exact rfl) ?_
              refine r_bslice (pv := [(0, .agg _)]) (zs := [_, _, _]) (cs := [_, _, _]) Tryz.underlying22 ty_42 (by exact rfl) rfl (by exact rfl) rfl (by exact rfl) ?_
              intro b85 w86 heb85 hEw86 hbb85 hzb85
              have hs_w86 := (hEw86).size
              replace hV := evo_step0 hV hEw86
              replace hI13 := evo_step0 hI13 hEw86
              replace hI32 := evo_step0 hI32 hEw86
              replace hI24 := evo_step0 hI24 hEw86
              replace hI58 := evo_step0 hI58 hEw86
              replace hCst29 := evo_step0 hCst29 hEw86
              replace hKb83 := evo_step0 hKb83 hEw86
              replace hrW := hrW0 _ hI13
              replace hrQ := hrQ0 _ hI32
              replace hbb1 := hbb10 _ hI24
              replace hAb1 := hAb10 _ hI24
              replace hrb43 := hrb430 _ hI24
              replace hrb45 := hrb450 _ hI24
              replace hbb47 := hbb470 _ hI24
              replace hAb47 := hAb470 _ hI24
              replace hoR := hoR.evo0 hEw86
              replace hr57 := hr570.now hI58
              replace hr1 := hr10 _ hI58
              replace hrb83 := hrb830.now hKb83
              have hAb85 := hbb85.at
              have hKb85 : Evo w86 w86 ([]) := Evo.refl _ _
              have hrb850 := rowLitRK ([]) hbb85 (by simp) (fun w9 h9 => hxr _ (Evo.trans hI24 h9 (fun y hy hlt => by cases hy))) (x := (⟨ws, qs, []⟩ : TermL))
              have hrb85 := hrb850.now hKb85
              have hbd_hrb85 := hrb85.bd
              refine h_next hCst29 ?_
              refine h_one (i := 8) (by kernel_rfl) ?_
              refine h_do (by exact rfl) ?_
              refine r_bslice (pv := [(0, .agg _)]) (zs := [_, _, _]) (cs := [_, _, _]) Tryz.underlying22 ty_42 (by exact rfl) rfl (by exact rfl) rfl (by exact rfl) ?_
              intro b87 w88 heb87 hEw88 hbb87 hzb87
              have hs_w88 := (hEw88).size
              replace hV := evo_step0 hV hEw88
              replace hI13 := evo_step0 hI13 hEw88
              replace hI32 := evo_step0 hI32 hEw88
              replace hI24 := evo_step0 hI24 hEw88
              replace hI58 := evo_step0 hI58 hEw88
              replace hCst29 := evo_step0 hCst29 hEw88
              replace hKb83 := evo_step0 hKb83 hEw88
              replace hKb85 := evo_step0 hKb85 hEw88
              replace hrW := hrW0 _ hI13
              replace hrQ := hrQ0 _ hI32
              replace hbb1 := hbb10 _ hI24
              replace hAb1 := hAb10 _ hI24
              replace hrb43 := hrb430 _ hI24
              replace hrb45 := hrb450 _ hI24
              replace hbb47 := hbb470 _ hI24
              replace hAb47 := hAb470 _ hI24
              replace hoR := hoR.evo0 hEw88
              replace hr57 := hr570.now hI58
              replace hr1 := hr10 _ hI58
              replace hrb83 := hrb830.now hKb83
              replace hrb85 := hrb850.now hKb85
              have hAb87 := hbb87.at
              have hKb87 : Evo w88 w88 ([]) := Evo.refl _ _
              have hrb870 := rowLitRK ([]) hbb87 (by simp) (fun w9 h9 => hxr _ (Evo.trans hI24 h9 (fun y hy hlt => by cases hy))) (x := (⟨ws, qs, []⟩ : TermL))
              have hrb87 := hrb870.now hKb87
              have hbd_hrb87 := hrb87.bd
              refine h_next hCst29 ?_
              refine h_one (i := 9) (by kernel_rfl) ?_
              refine h_do (by exact rfl) ?_
              refine r_appendF (l := [(⟨([⟨(List.replicate (ms % 3 + 63).toNat (122 : UInt8)), []⟩] : List Ende), [], [[97]]⟩ : TermL)]) (l2 := [(⟨ws, qs, []⟩ : TermL)]) rfl Tryz.underlying22 ty_42 (by exact rfl) (by exact rfl) hr1 (by simp) (by exact rfl) hrb87 rfl (by simp) (show (1 + 1) * _ ≤ 140737488355328 by decide) (show 1 + 1 ≤ 140737488355328 by decide) ?_
              intro aoF89 gF89 cpF89 w89 hEw89 hrF89
              have hs_w89 := (hEw89).size
              replace hV := evo_step0 hV hEw89
              replace hI13 := evo_step0 hI13 hEw89
              replace hI32 := evo_step0 hI32 hEw89
              replace hI24 := evo_step0 hI24 hEw89
              replace hI58 := evo_step0 hI58 hEw89
              replace hCst29 := evo_step0 hCst29 hEw89
              replace hKb83 := evo_step0 hKb83 hEw89
              replace hKb85 := evo_step0 hKb85 hEw89
              replace hKb87 := evo_step0 hKb87 hEw89
              replace hrW := hrW0 _ hI13
              replace hrQ := hrQ0 _ hI32
              replace hbb1 := hbb10 _ hI24
              replace hAb1 := hAb10 _ hI24
              replace hrb43 := hrb430 _ hI24
              replace hrb45 := hrb450 _ hI24
              replace hbb47 := hbb470 _ hI24
              replace hAb47 := hAb470 _ hI24
              replace hoR := hoR.evo0 hEw89
              replace hr57 := hr570.now hI58
              replace hr1 := hr10 _ hI58
              replace hrb83 := hrb830.now hKb83
              replace hrb85 := hrb850.now hKb85
              replace hrb87 := hrb870.now hKb87
              have hbd_hrF89 := hrF89.bd
              refine h_next hCst29 ?_
              refine h_one (i := 10) (by kernel_rfl) ?_
              refine h_do (by exact rfl) ?_
              refine r_bslice (pv := [(0, .slice (some ⟨b85, 0, none⟩) _ _), (1, .slice (some ⟨b83, 0, none⟩) _ _), (2, .slice _ _ _), (3, .slice aoF89 _ cpF89)]) (zs := [_]) (cs := [_, _, _, _]) Tryz.underlying62 ty_22 (by exact rfl) rfl (by exact rfl) rfl (by exact rfl) ?_
              intro b90 w91 heb90 hEw91 hbb90 hzb90
              have hs_w91 := (hEw91).size
              replace hV := evo_step0 hV hEw91
              replace hI13 := evo_step0 hI13 hEw91
              replace hI32 := evo_step0 hI32 hEw91
              replace hI24 := evo_step0 hI24 hEw91
              replace hI58 := evo_step0 hI58 hEw91
              replace hCst29 := evo_step0 hCst29 hEw91
              replace hKb83 := evo_step0 hKb83 hEw91
              replace hKb85 := evo_step0 hKb85 hEw91
              replace hKb87 := evo_step0 hKb87 hEw91
              replace hrW := hrW0 _ hI13
              replace hrQ := hrQ0 _ hI32
              replace hbb1 := hbb10 _ hI24
              replace hAb1 := hAb10 _ hI24
              replace hrb43 := hrb430 _ hI24
              replace hrb45 := hrb450 _ hI24
              replace hbb47 := hbb470 _ hI24
              replace hAb47 := hAb470 _ hI24
              replace hoR := hoR.evo0 hEw91
              replace hr57 := hr570.now hI58
              replace hr1 := hr10 _ hI58
              replace hrb83 := hrb830.now hKb83
              replace hrb85 := hrb850.now hKb85
              replace hrb87 := hrb870.now hKb87
              replace hrF89 := hrF89.evo0 hEw91
              have hAb90 := hbb90.at
              have hrb90 : RowR w91 (some ⟨b90, 0, none⟩) b90 0 4 ([⟨[(⟨ws, qs, []⟩ : TermL)]⟩, ⟨[(⟨([⟨(List.replicate (ms % 3 + 63).toNat (122 : UInt8)), []⟩] : List Ende), [], [[97]]⟩ : TermL)]⟩, ⟨tl⟩, ⟨[(⟨([⟨(List.replicate (ms % 3 + 63).toNat (122 : UInt8)), []⟩] : List Ende), [], [[97]]⟩ : TermL)] ++ [(⟨ws, qs, []⟩ : TermL)]⟩] : List TmsL) := rowLitR [[_], [_], [_], [_]] ([⟨[(⟨ws, qs, []⟩ : TermL)]⟩, ⟨[(⟨([⟨(List.replicate (ms % 3 + 63).toNat (122 : UInt8)), []⟩] : List Ende), [], [[97]]⟩ : TermL)]⟩, ⟨tl⟩, ⟨[(⟨([⟨(List.replicate (ms % 3 + 63).toNat (122 : UInt8)), []⟩] : List Ende), [], [[97]]⟩ : TermL)] ++ [(⟨ws, qs, []⟩ : TermL)]⟩] : List TmsL) hbb90 rfl ((((RepL.one (tms_rep hrb85)).append (RepL.one (tms_rep hrb83))).append (RepL.one (tms_rep (hr570.now hI58)))).append (RepL.one (tms_rep hrF89))) rfl
              refine h_next hCst29 ?_
              refine h_take (i := 11) (by exact rfl) rfl rfl rfl (by kernel_rfl) (fun w' hC => run_lenSl rfl (by exact rfl) Tryz.underlying62) hCst29 ?_
              refine h_done (by kernel_rfl) ?_
              refine r_cut_end ?_ ?_
              ·refine ⟨_, rfl, rfl, rfl, hrb90, (by first | assumption | omega | (dsimp only; omega) | (simp; done)), hV, hI13, hI32, hI24, hI58⟩
              ·repeat (first | (with_reducible exact Agree.merge _ _ _) | (with_reducible exact Agree.refl _ _) | (with_reducible refine Agree.upd ?_ _ _ rfl) | ((with_reducible refine Agree.inner ?_ ?_); (kernel_rfl)))
             ·skip
              refine h_do (by exact rfl) ?_
              refine r_bslice (pv := [(0, .agg _)]) (zs := [_, _, _]) (cs := [_, _, _]) Tryz.underlying22 ty_42 (by exact rfl) rfl (by exact rfl) rfl (by exact rfl) ?_
              intro b92 w93 heb92 hEw93 hbb92 hzb92
              have hs_w93 := (hEw93).size
              replace hV := evo_step0 hV hEw93
              replace hI13 := evo_step0 hI13 hEw93
              replace hI32 := evo_step0 hI32 hEw93
              replace hI24 := evo_step0 hI24 hEw93
              replace hI58 := evo_step0 hI58 hEw93
              replace hCst29 := evo_step0 hCst29 hEw93
              replace hKb83 := evo_step0 hKb83 hEw93
              replace hrW := hrW0 _ hI13
              replace hrQ := hrQ0 _ hI32
              replace hbb1 := hbb10 _ hI24
              replace hAb1 := hAb10 _ hI24
              replace hrb43 := hrb430 _ hI24
              replace hrb45 := hrb450 _ hI24
              replace hbb47 := hbb470 _ hI24
              replace hAb47 := hAb470 _ hI24
              replace hoR := hoR.evo0 hEw93
              replace hr57 := hr570.now hI58
              replace hr1 := hr10 _ hI58
              replace hrb83 := hrb830.now hKb83
              have hAb92 := hbb92.at
              have hKb92 : Evo w93 w93 ([]) := Evo.refl _ _
              have hrb920 := rowLitRK ([]) hbb92 (by simp) (fun w9 h9 => hxr _ (Evo.trans hI24 h9 (fun y hy hlt => by cases hy))) (x := (⟨ws, qs, []⟩ : TermL))
              have hrb92 := hrb920.now hKb92
              have hbd_hrb92 := hrb92.bd
              refine h_next hCst29 ?_
              refine h_two (i := 1) (j := 9) (by kernel_rfl) ?_ ?_
              ·skip
               refine h_do (by exact rfl) ?_
               refine r_bslice (pv := [(0, .agg _)]) (zs := [_, _, _]) (cs := [_, _, _]) Tryz.underlying22 ty_42 (by exact rfl) rfl (by exact rfl) rfl (by exact rfl) ?_
               intro b94 w95 heb94 hEw95 hbb94 hzb94
               have hs_w95 := (hEw95).size
               replace hV := evo_step0 hV hEw95
               replace hI13 := evo_step0 hI13 hEw95
               replace hI32 := evo_step0 hI32 hEw95
               replace hI24 := evo_step0 hI24 hEw95
               replace hI58 := evo_step0 hI58 hEw95
               replace hCst29 := evo_step0 hCst29 hEw95
               replace hKb83 := evo_step0 hKb83 hEw95
               replace hKb92 := evo_step0 hKb92 hEw95
               replace hrW := hrW0 _ hI13
               replace hrQ := hrQ0 _ hI32
               replace hbb1 := hbb10 _ hI24
               replace hAb1 := hAb10 _ hI24
               replace hrb43 := hrb430 _ hI24
               replace hrb45 := hrb450 _ hI24
               replace hbb47 := hbb470 _ hI24
               replace hAb47 := hAb470 _ hI24
               replace hoR := hoR.evo0 hEw95
               replace hr57 := hr570.now hI58
               replace hr1 := hr10 _ hI58
               replace hrb83 := hrb830.now hKb83
               replace hrb92 := hrb920.now hKb92
               have hAb94 := hbb94.at
               have hKb94 : Evo w95 w95 ([]) := Evo.refl _ _
               have hrb940 := rowLitRK ([]) hbb94 (by simp) (fun w9 h9 => hxr _ (Evo.trans hI24 h9 (fun y hy hlt => by cases hy))) (x := (⟨ws, qs, []⟩ : TermL))
               have hrb94 := hrb940.now hKb94
               have hbd_hrb94 := hrb94.bd
               refine h_next hCst29 ?_
               refine h_one (i := 9) (by kernel_rfl) ?_
               refine h_do (by exact rfl) ?_
               refine r_appendF (l := [(⟨([⟨(List.replicate (ms % 3 + 63).toNat (122 : UInt8)), []⟩] : List Ende), [], [[97]]⟩ : TermL)]) (l2 := [(⟨ws, qs, []⟩ : TermL)]) rfl Tryz.underlying22 ty_42 (by exact rfl) (by exact rfl) hr1 (by simp) (by exact rfl) hrb92 rfl (by simp) (show (1 + 1) * _ ≤ 140737488355328 by decide) (show 1 + 1 ≤ 140737488355328 by decide) ?_
               intro aoF96 gF96 cpF96 w96 hEw96 hrF96
               have hs_w96 := (hEw96).size
               replace hV := evo_step0 hV hEw96
               replace hI13 := evo_step0 hI13 hEw96
               replace hI32 := evo_step0 hI32 hEw96
               replace hI24 := evo_step0 hI24 hEw96
               replace hI58 := evo_step0 hI58 hEw96
               replace hCst29 := evo_step0 hCst29 hEw96
               replace hKb83 := evo_step0 hKb83 hEw96
               replace hKb92 := evo_step0 hKb92 hEw96
               replace hKb94 := evo_step0 hKb94 hEw96
               replace hrW := hrW0 _ hI13
               replace hrQ := hrQ0 _ hI32
               replace hbb1 := hbb10 _ hI24
               replace hAb1 := hAb10 _ hI24
               replace hrb43 := hrb430 _ hI24
               replace hrb45 := hrb450 _ hI24
               replace hbb47 := hbb470 _ hI24
               replace hAb47 := hAb470 _ hI24
               replace hoR := hoR.evo0 hEw96
               replace hr57 := hr570.now hI58
               replace hr1 := hr10 _ hI58
               replace hrb83 := hrb830.now hKb83
               replace hrb92 := hrb920.now hKb92
               replace hrb94 := hrb940.now hKb94
               have hbd_hrF96 := hrF96.bd
               refine h_next hCst29 ?_
               refine h_one (i := 10) (by kernel_rfl) ?_
               refine h_do (by exact rfl) ?_
               refine r_bslice (pv := [(0, .slice (some ⟨b94, 0, none⟩) _ _), (1, .slice (some ⟨b83, 0, none⟩) _ _), (2, .slice _ _ _), (3, .slice aoF96 _ cpF96)]) (zs := [_]) (cs := [_, _, _, _]) Tryz.underlying62 ty_22 (by exact rfl) rfl (by exact rfl) rfl (by exact rfl) ?_
               intro b97 w98 heb97 hEw98 hbb97 hzb97
               have hs_w98 := (hEw98).size
               replace hV := evo_step0 hV hEw98
               replace hI13 := evo_step0 hI13 hEw98
               replace hI32 := evo_step0 hI32 hEw98
               replace hI24 := evo_step0 hI24 hEw98
               replace hI58 := evo_step0 hI58 hEw98
               replace hCst29 := evo_step0 hCst29 hEw98
               replace hKb83 := evo_step0 hKb83 hEw98
               replace hKb92 := evo_step0 hKb92 hEw98
               replace hKb94 := evo_step0 hKb94 hEw98
               replace hrW := hrW0 _ hI13
               replace hrQ := hrQ0 _ hI32
               replace hbb1 := hbb10 _ hI24
               replace hAb1 := hAb10 _ hI24
               replace hrb43 := hrb430 _ hI24
               replace hrb45 := hrb450 _ hI24
               replace hbb47 := hbb470 _ hI24
               replace hAb47 := hAb470 _ hI24
               replace hoR := hoR.evo0 hEw98
               replace hr57 := hr570.now hI58
               replace hr1 := hr10 _ hI58
               replace hrb83 := hrb830.now hKb83
               replace hrb92 := hrb920.now hKb92
               replace hrb94 := hrb940.now hKb94
               replace hrF96 := hrF96.evo0 hEw98
               have hAb97 := hbb97.at
               have hrb97 : RowR w98 (some ⟨b97, 0, none⟩) b97 0 4 ([⟨[(⟨ws, qs, []⟩ : TermL)]⟩, ⟨[(⟨([⟨(List.replicate (ms % 3 + 63).toNat (122 : UInt8)), []⟩] : List Ende), [], [[97]]⟩ : TermL)]⟩, ⟨tl⟩, ⟨[(⟨([⟨(List.replicate (ms % 3 + 63).toNat (122 : UInt8)), []⟩] : List Ende), [], [[97]]⟩ : TermL)] ++ [(⟨ws, qs, []⟩ : TermL)]⟩] : List TmsL) := rowLitR [[_], [_], [_], [_]] ([⟨[(⟨ws, qs, []⟩ : TermL)]⟩, ⟨[(⟨([⟨(List.replicate (ms % 3 + 63).toNat (122 : UInt8)), []⟩] : List Ende), [], [[97]]⟩ : TermL)]⟩, ⟨tl⟩, ⟨[(⟨([⟨(List.replicate (ms % 3 + 63).toNat (122 : UInt8)), []⟩] : List Ende), [], [[97]]⟩ : TermL)] ++ [(⟨ws, qs, []⟩ : TermL)]⟩] : List TmsL) hbb97 rfl ((((RepL.one (tms_rep hrb94)).append (RepL.one (tms_rep hrb83))).append (RepL.one (tms_rep (hr570.now hI58)))).append (RepL.one (tms_rep hrF96))) rfl
               refine h_next hCst29 ?_
               refine h_take (i := 11) (by exact rfl) rfl rfl rfl (by kernel_rfl) (fun w' hC => run_lenSl rfl (by exact rfl) Tryz.underlying62) hCst29 ?_
               refine h_done (by kernel_rfl) ?_
               refine r_cut_end ?_ ?_
               ·refine ⟨_, rfl, rfl, rfl, hrb97, (by first | assumption | omega | (dsimp only; omega) | (simp; done)), hV, hI13, hI32, hI24, hI58⟩
               ·repeat (first | (with_reducible exact Agree.merge _ _ _) | (with_reducible exact Agree.refl _ _) | (with_reducible refine Agree.upd ?_ _ _ rfl) | ((with_reducible refine Agree.inner ?_ ?_); (kernel_rfl)))
              ·skip
               refine h_do (by exact rfl) ?_
               refine r_appendF (l := [(⟨([⟨(List.replicate (ms % 3 + 63).toNat (122 : UInt8)), []⟩] : List Ende), [], [[97]]⟩ : TermL)]) (l2 := [(⟨ws, qs, []⟩ : TermL)]) rfl Tryz.underlying22 ty_42 (by exact rfl) (by exact rfl) hr1 (by simp) (by exact rfl) hrb92 rfl (by simp) (show (1 + 1) * _ ≤ 140737488355328 by decide) (show 1 + 1 ≤ 140737488355328 by decide) ?_
               intro aoF99 gF99 cpF99 w99 hEw99 hrF99
               have hs_w99 := (hEw99).size
               replace hV := evo_step0 hV hEw99
               replace hI13 := evo_step0 hI13 hEw99
               replace hI32 := evo_step0 hI32 hEw99
               replace hI24 := evo_step0 hI24 hEw99
               replace hI58 := evo_step0 hI58 hEw99
               replace hCst29 := evo_step0 hCst29 hEw99
               replace hKb83 := evo_step0 hKb83 hEw99
               replace hKb92 := evo_step0 hKb92 hEw99
               replace hrW := hrW0 _ hI13
               replace hrQ := hrQ0 _ hI32
               replace hbb1 := hbb10 _ hI24
               replace hAb1 := hAb10 _ hI24
               replace hrb43 := hrb430 _ hI24
               replace hrb45 := hrb450 _ hI24
               replace hbb47 := hbb470 _ hI24
               replace hAb47 := hAb470 _ hI24
               replace hoR := hoR.evo0 hEw99
               replace hr57 := hr570.now hI58
               replace hr1 := hr10 _ hI58
               replace hrb83 := hrb830.now hKb83
               replace hrb92 := hrb920.now hKb92
               have hbd_hrF99 := hrF99.bd
               refine h_next hCst29 ?_
               refine h_one (i := 1) (by kernel_rfl) ?_
               refine h_do (by exact rfl) ?_
               refine r_bslice (pv := [(0, .agg _)]) (zs := [_, _, _]) (cs := [_, _, _]) Tryz.underlying22 ty_42 (by exact rfl) rfl (by exact rfl) rfl (by exact rfl) ?_
               intro b100 w101 heb100 hEw101 hbb100 hzb100
               have hs_w101 := (hEw101).size
               replace hV := evo_step0 hV hEw101
               replace hI13 := evo_step0 hI13 hEw101
               replace hI32 := evo_step0 hI32 hEw101
               replace hI24 := evo_step0 hI24 hEw101
               replace hI58 := evo_step0 hI58 hEw101
               replace hCst29 := evo_step0 hCst29 hEw101
               replace hKb83 := evo_step0 hKb83 hEw101
               replace hKb92 := evo_step0 hKb92 hEw101
               replace hrW := hrW0 _ hI13
               replace hrQ := hrQ0 _ hI32
               replace hbb1 := hbb10 _ hI24
               replace hAb1 := hAb10 _ hI24
               replace hrb43 := hrb430 _ hI24
               replace hrb45 := hrb450 _ hI24
               replace hbb47 := hbb470 _ hI24
               replace hAb47 := hAb470 _ hI24
               replace hoR := hoR.evo0 hEw101
               replace hr57 := hr570.now hI58
               replace hr1 := hr10 _ hI58
               replace hrb83 := hrb830.now hKb83
               replace hrb92 := hrb920.now hKb92
               replace hrF99 := hrF99.evo0 hEw101
               have hAb100 := hbb100.at
               have hKb100 : Evo w101 w101 ([]) := Evo.refl _ _
               have hrb1000 := rowLitRK ([]) hbb100 (by simp) (fun w9 h9 => hxr _ (Evo.trans hI24 h9 (fun y hy hlt => by cases hy))) (x := (⟨ws, qs, []⟩ : TermL))
               have hrb100 := hrb1000.now hKb100
               have hbd_hrb100 := hrb100.bd
               refine h_next hCst29 ?_
               refine h_one (i := 10) (by kernel_rfl) ?_
               refine h_do (by exact rfl) ?_
               refine r_bslice (pv := [(0, .slice (some ⟨b100, 0, none⟩) _ _), (1, .slice (some ⟨b83, 0, none⟩) _ _), (2, .slice _ _ _), (3, .slice aoF99 _ cpF99)]) (zs := [_]) (cs := [_, _, _, _]) Tryz.underlying62 ty_22 (by exact rfl) rfl (by exact rfl) rfl (by exact rfl) ?_
               intro b102 w103 heb102 hEw103 hbb102 hzb102
               have hs_w103 := (hEw103).size
               replace hV := evo_step0 hV hEw103
               replace hI13 := evo_step0 hI13 hEw103
               replace hI32 := evo_step0 hI32 hEw103
               replace hI24 := evo_step0 hI24 hEw103
               replace hI58 := evo_step0 hI58 hEw103
               replace hCst29 := evo_step0 hCst29 hEw103
               replace hKb83 := evo_step0 hKb83 hEw103
               replace hKb92 := evo_step0 hKb92 hEw103
               replace hKb100 := evo_step0 hKb100 hEw103
               replace hrW := hrW0 _ hI13
               replace hrQ := hrQ0 _ hI32
               replace hbb1 := hbb10 _ hI24
               replace hAb1 := hAb10 _ hI24
               replace hrb43 := hrb430 _ hI24
               replace hrb45 := hrb450 _ hI24
               replace hbb47 := hbb470 _ hI24
               replace hAb47 := hAb470 _ hI24
               replace hoR := hoR.evo0 hEw103
               replace hr57 := hr570.now hI58
               replace hr1 := hr10 _ hI58
               replace hrb83 := hrb830.now hKb83
               replace hrb92 := hrb920.now hKb92
               replace hrF99 := hrF99.evo0 hEw103
               replace hrb100 := hrb1000.now hKb100
               have hAb102 := hbb102.at
               have hrb102 : RowR w103 (some ⟨b102, 0, none⟩) b102 0 4 ([⟨[(⟨ws, qs, []⟩ : TermL)]⟩, ⟨[(⟨([⟨(List.replicate (ms % 3 + 63).toNat (122 : UInt8)), []⟩] : List Ende), [], [[97]]⟩ : TermL)]⟩, ⟨tl⟩, ⟨[(⟨([⟨(List.replicate (ms % 3 + 63).toNat (122 : UInt8)), []⟩] : List Ende), [], [[97]]⟩ : TermL)] ++ [(⟨ws, qs, []⟩ : TermL)]⟩] : List TmsL) := rowLitR [[_], [_], [_], [_]] ([⟨[(⟨ws, qs, []⟩ : TermL)]⟩, ⟨[(⟨([⟨(List.replicate (ms % 3 + 63).toNat (122 : UInt8)), []⟩] : List Ende), [], [[97]]⟩ : TermL)]⟩, ⟨tl⟩, ⟨[(⟨([⟨(List.replicate (ms % 3 + 63).toNat (122 : UInt8)), []⟩] : List Ende), [], [[97]]⟩ : TermL)] ++ [(⟨ws, qs, []⟩ : TermL)]⟩] : List TmsL) hbb102 rfl ((((RepL.one (tms_rep hrb100)).append (RepL.one (tms_rep hrb83))).append (RepL.one (tms_rep (hr570.now hI58)))).append (RepL.one (tms_rep hrF99))) rfl
               refine h_next hCst29 ?_
               refine h_take (i := 11) (by exact rfl) rfl rfl rfl (by kernel_rfl) (fun w' hC => run_lenSl rfl (by exact rfl) Tryz.underlying62) hCst29 ?_
               refine h_done (by kernel_rfl) ?_
               refine r_cut_end ?_ ?_
               ·refine ⟨_, rfl, rfl, rfl, hrb102, (by first | assumption | omega | (dsimp only; omega) | (simp; done)), hV, hI13, hI32, hI24, hI58⟩
               ·repeat (first | (with_reducible exact Agree.merge _ _ _) | (with_reducible exact Agree.refl _ _) | (with_reducible refine Agree.upd ?_ _ _ rfl) | ((with_reducible refine Agree.inner ?_ ?_); (kernel_rfl)))
            ·skip
             refine h_do (by exact rfl) ?_
             refine r_bslice (pv := [(0, .agg _)]) (zs := [_, _, _]) (cs := [_, _, _]) Tryz.underlying22 ty_42 (by exact rfl) rfl (by exact rfl) rfl (by exact rfl) ?_
             intro b104 w105 heb104 hEw105 hbb104 hzb104
             have hs_w105 := (hEw105).size
             replace hV := evo_step0 hV hEw105
             replace hI13 := evo_step0 hI13 hEw105
             replace hI32 := evo_step0 hI32 hEw105
             replace hI24 := evo_step0 hI24 hEw105
             replace hI58 := evo_step0 hI58 hEw105
             replace hCst29 := evo_step0 hCst29 hEw105
             replace hrW := hrW0 _ hI13
             replace hrQ := hrQ0 _ hI32
             replace hbb1 := hbb10 _ hI24
             replace hAb1 := hAb10 _ hI24
             replace hrb43 := hrb430 _ hI24
             replace hrb45 := hrb450 _ hI24
             replace hbb47 := hbb470 _ hI24
             replace hAb47 := hAb470 _ hI24
             replace hoR := hoR.evo0 hEw105
             replace hr57 := hr570.now hI58
             replace hr1 := hr10 _ hI58
             have hAb104 := hbb104.at
             have hKb104 : Evo w105 w105 ([]) := Evo.refl _ _
             have hrb1040 := rowLitRK ([]) hbb104 (by simp) (fun w9 h9 => hxr _ (Evo.trans hI24 h9 (fun y hy hlt => by cases hy))) (x := (⟨ws, qs, []⟩ : TermL))
             have hrb104 := hrb1040.now hKb104
             have hbd_hrb104 := hrb104.bd
             refine h_next hCst29 ?_
             refine h_three (i := 1) (j := 3) (p := 9) (by kernel_rfl) ?_ ?_ ?_
             ·skip
              refine h_do (by exact rfl) ?_
              refine r_bslice (pv := [(0, .agg _)]) (zs := [_, _, _]) (cs := [_, _, _]) Tryz.underlying22 ty_42 (by exact rfl) rfl (by exact rfl) rfl (by exact rfl) ?_
              intro b106 w107 heb106 hEw107 hbb106 hzb106
              have hs_w107 := (hEw107).size
              replace hV := evo_step0 hV hEw107
              replace hI13 := evo_step0 hI13 hEw107
              replace hI32 := evo_step0 hI32 hEw107
              replace hI24 := evo_step0 hI24 hEw107
              replace hI58 := evo_step0 hI58 hEw107
              replace hCst29 := evo_step0 hCst29 hEw107
              replace hKb104 := evo_step0 hKb104 hEw107
              replace hrW := hrW0 _ hI13
              replace hrQ := hrQ0 _ hI32
              replace hbb1 := hbb10 _ hI24
              replace hAb1 := hAb10 _ hI24
              replace hrb43 := hrb430 _ hI24
              replace hrb45 := hrb450 _ hI24
              replace hbb47 := hbb470 _ hI24
              replace hAb47 := hAb470 _ hI24
              replace hoR := hoR.evo0 hEw107
              replace hr57 := hr570.now hI58
              replace hr1 := hr10 _ hI58
              replace hrb104 := hrb1040.now hKb104
              have hAb106 := hbb106.at
              have hKb106 : Evo w107 w107 ([]) := Evo.refl _ _
              have hrb1060 := rowLitRK ([]) hbb106 (by simp) (fun w9 h9 => hxr _ (Evo.trans hI24 h9 (fun y hy hlt => by cases hy))) (x := (⟨ws, qs, []⟩ : TermL))
              have hrb106 := hrb1060.now hKb106
              have hbd_hrb106 := hrb106.bd
              refine h_next hCst29 ?_
              refine h_two (i := 3) (j := 9) (by kernel_rfl) ?_ ?_
              ·skip
               refine h_do (by exact rfl) ?_
               refine r_bslice (pv := [(0, .agg _)]) (zs := [_, _, _]) (cs := [_, _, _]) Tryz.underlying22 ty_42 (by exact rfl) rfl (by exact rfl) rfl (by exact rfl) ?_
               intro b108 w109 heb108 hEw109 hbb108 hzb108
               have hs_w109 := (hEw109).size
               replace hV := evo_step0 hV hEw109
               replace hI13 := evo_step0 hI13 hEw109
               replace hI32 := evo_step0 hI32 hEw109
               replace hI24 := evo_step0 hI24 hEw109
               replace hI58 := evo_step0 hI58 hEw109
               replace hCst29 := evo_step0 hCst29 hEw109
               replace hKb104 := evo_step0 hKb104 hEw109
               replace hKb106 := evo_step0 hKb106 hEw109
               replace hrW := hrW0 _ hI13
               replace hrQ := hrQ0 _ hI32
               replace hbb1 := hbb10 _ hI24
               replace hAb1 := hAb10 _ hI24
               replace hrb43 := hrb430 _ hI24
               replace hrb45 := hrb450 _ hI24
               replace hbb47 := hbb470 _ hI24
               replace hAb47 := hAb470 _ hI24
               replace hoR := hoR.evo0 hEw109
               replace hr57 := hr570.now hI58
               replace hr1 := hr10 _ hI58
               replace hrb104 := hrb1040.now hKb104
               replace hrb106 := hrb1060.now hKb106
               have hAb108 := hbb108.at
               have hKb108 : Evo w109 w109 ([]) := Evo.refl _ _
               have hrb1080 := rowLitRK ([]) hbb108 (by simp) (fun w9 h9 => hyr _ (Evo.trans hI24 h9 (fun y hy hlt => by cases hy))) (x := (⟨([⟨(List.replicate (ms % 3 + 63).toNat (122 : UInt8)), []⟩] : List Ende), [], [[97]]⟩ : TermL))
               have hrb108 := hrb1080.now hKb108
               have hbd_hrb108 := hrb108.bd
               refine h_next hCst29 ?_
               refine h_one (i := 9) (by kernel_rfl) ?_
               refine h_do (by exact rfl) ?_
               refine r_appendF (l := [(⟨([⟨(List.replicate (ms % 3 + 63).toNat (122 : UInt8)), []⟩] : List Ende), [], [[97]]⟩ : TermL)]) (l2 := [(⟨ws, qs, []⟩ : TermL)]) rfl Tryz.underlying22 ty_42 (by exact rfl) (by exact rfl) hr1 (by simp) (by exact rfl) hrb104 rfl (by simp) (show (1 + 1) * _ ≤ 140737488355328 by decide) (show 1 + 1 ≤ 140737488355328 by decide) ?_
               intro aoF110 gF110 cpF110 w110 hEw110 hrF110
               have hs_w110 := (hEw110).size
               replace hV := evo_step0 hV hEw110
               replace hI13 := evo_step0 hI13 hEw110
               replace hI32 := evo_step0 hI32 hEw110
               replace hI24 := evo_step0 hI24 hEw110
               replace hI58 := evo_step0 hI58 hEw110
               replace hCst29 := evo_step0 hCst29 hEw110
               replace hKb104 := evo_step0 hKb104 hEw110
               replace hKb106 := evo_step0 hKb106 hEw110
               replace hKb108 := evo_step0 hKb108 hEw110
               replace hrW := hrW0 _ hI13
               replace hrQ := hrQ0 _ hI32
               replace hbb1 := hbb10 _ hI24
               replace hAb1 := hAb10 _ hI24
               replace hrb43 := hrb430 _ hI24
               replace hrb45 := hrb450 _ hI24
               replace hbb47 := hbb470 _ hI24
               replace hAb47 := hAb470 _ hI24
               replace hoR := hoR.evo0 hEw110
               replace hr57 := hr570.now hI58
               replace hr1 := hr10 _ hI58
               replace hrb104 := hrb1040.now hKb104
               replace hrb106 := hrb1060.now hKb106
               replace hrb108 := hrb1080.now hKb108
               have hbd_hrF110 := hrF110.bd
               refine h_next hCst29 ?_
               refine h_one (i := 10) (by kernel_rfl) ?_
               refine h_do (by exact rfl) ?_
               refine r_bslice (pv := [(0, .slice (some ⟨b106, 0, none⟩) _ _), (1, .slice (some ⟨b108, 0, none⟩) _ _), (2, .slice _ _ _), (3, .slice aoF110 _ cpF110)]) (zs := [_]) (cs := [_, _, _, _]) Tryz.underlying62 ty_22 (by exact rfl) rfl (by exact rfl) rfl (by exact rfl) ?_
               intro b111 w112 heb111 hEw112 hbb111 hzb111
               have hs_w112 := (hEw112).size
               replace hV := evo_step0 hV hEw112
               replace hI13 := evo_step0 hI13 hEw112
               replace hI32 := evo_step0 hI32 hEw112
               replace hI24 := evo_step0 hI24 hEw112
               replace hI58 := evo_step0 hI58 hEw112
               replace hCst29 := evo_step0 hCst29 hEw112
               replace hKb104 := evo_step0 hKb104 hEw112
               replace hKb106 := evo_step0 hKb106 hEw112
               replace hKb108 := evo_step0 hKb108 hEw112
               replace hrW := hrW0 _ hI13
               replace hrQ := hrQ0 _ hI32
               replace hbb1 := hbb10 _ hI24
               replace hAb1 := hAb10 _ hI24
               replace hrb43 := hrb430 _ hI24
               replace hrb45 := hrb450 _ hI24
               replace hbb47 := hbb470 _ hI24
               replace hAb47 := hAb470 _ hI24
               replace hoR := hoR.evo0 hEw112
               replace hr57 := hr570.now hI58
               replace hr1 := hr10 _ hI58
               replace hrb104 := hrb1040.now hKb104
               replace hrb106 := hrb1060.now hKb106
               replace hrb108 := hrb1080.now hKb108
               replace hrF110 := hrF110.evo0 hEw112
               have hAb111 := hbb111.at
               have hrb111 : RowR w112 (some ⟨b111, 0, none⟩) b111 0 4 ([⟨[(⟨ws, qs, []⟩ : TermL)]⟩, ⟨[(⟨([⟨(List.replicate (ms % 3 + 63).toNat (122 : UInt8)), []⟩] : List Ende), [], [[97]]⟩ : TermL)]⟩, ⟨tl⟩, ⟨[(⟨([⟨(List.replicate (ms % 3 + 63).toNat (122 : UInt8)), []⟩] : List Ende), [], [[97]]⟩ : TermL)] ++ [(⟨ws, qs, []⟩ : TermL)]⟩] : List TmsL) := rowLitR [[_], [_], [_], [_]] ([⟨[(⟨ws, qs, []⟩ : TermL)]⟩, ⟨[(⟨([⟨(List.replicate (ms % 3 + 63).toNat (122 : UInt8)), []⟩] : List Ende), [], [[97]]⟩ : TermL)]⟩, ⟨tl⟩, ⟨[(⟨([⟨(List.replicate (ms % 3 + 63).toNat (122 : UInt8)), []⟩] : List Ende), [], [[97]]⟩ : TermL)] ++ [(⟨ws, qs, []⟩ : TermL)]⟩] : List TmsL) hbb111 rfl ((((RepL.one (tms_rep hrb106)).append (RepL.one (tms_rep hrb108))).append (RepL.one (tms_rep (hr570.now hI58)))).append (RepL.one (tms_rep hrF110))) rfl
               refine h_next hCst29 ?_
               refine h_take (i := 11) (by exact rfl) rfl rfl rfl (by kernel_rfl) (fun w' hC => run_lenSl rfl (by exact rfl) Tryz.underlying62) hCst29 ?_
               refine h_done (by kernel_rfl) ?_
               refine r_cut_end ?_ ?_
               ·refine ⟨_, rfl, rfl, rfl, hrb111, (by first | assumption | omega | (dsimp only; omega) | (simp; done)), hV, hI13, hI32, hI24, hI58⟩
               ·repeat (first | (with_reducible exact Agree.merge _ _ _) | (with_reducible exact Agree.refl _ _) | (with_reducible refine Agree.upd ?_ _ _ rfl) | ((with_reducible refine Agree.inner ?_ ?_); (kernel_rfl)))
              ·skip
               refine h_do (by exact rfl) ?_
               refine r_appendF (l := [(⟨([⟨(List.replicate (ms % 3 + 63).toNat (122 : UInt8)), []⟩] : List Ende), [], [[97]]⟩ : TermL)]) (l2 := [(⟨ws, qs, []⟩ : TermL)]) rfl Tryz.underlying22 ty_42 (by exact rfl) (by exact rfl) hr1 (by simp) (by exact rfl) hrb104 rfl (by simp) (show (1 + 1) * _ ≤ 140737488355328 by decide) (show 1 + 1 ≤ 140737488355328 by decide) ?_
               intro aoF113 gF113 cpF113 w113 hEw113 hrF113
               have hs_w113 := (hEw113).size
               replace hV := evo_step0 hV hEw113
               replace hI13 := evo_step0 hI13 hEw113
               replace hI32 := evo_step0 hI32 hEw113
               replace hI24 := evo_step0 hI24 hEw113
               replace hI58 := evo_step0 hI58 hEw113
               replace hCst29 := evo_step0 hCst29 hEw113
               replace hKb104 := evo_step0 hKb104 hEw113
               replace hKb106 := evo_step0 hKb106 hEw113
               replace hrW := hrW0 _ hI13
               replace hrQ := hrQ0 _ hI32
               replace hbb1 := hbb10 _ hI24
               replace hAb1 := hAb10 _ hI24
               replace hrb43 := hrb430 _ hI24
               replace hrb45 := hrb450 _ hI24
               replace hbb47 := hbb470 _ hI24
               replace hAb47 := hAb470 _ hI24
               replace hoR := hoR.evo0 hEw113
               replace hr57 := hr570.now hI58
               replace hr1 := hr10 _ hI58
               replace hrb104 := hrb1040.now hKb104
               replace hrb106 := hrb1060.now hKb106
               have hbd_hrF113 := hrF113.bd
               refine h_next hCst29 ?_
               refine h_one (i := 3) (by kernel_rfl) ?_
               refine h_do (by exact rfl) ?_
               refine r_bslice (pv := [(0, .agg _)]) (zs := [_, _, _]) (cs := [_, _, _]) Tryz.underlying22 ty_42 (by exact rfl) rfl (by exact rfl) rfl (by exact rfl) ?_
               intro b114 w115 heb114 hEw115 hbb114 hzb114
               have hs_w115 := (hEw115).size
               replace hV := evo_step0 hV hEw115
               replace hI13 := evo_step0 hI13 hEw115
               replace hI32 := evo_step0 hI32 hEw115
               replace hI24 := evo_step0 hI24 hEw115
               replace hI58 := evo_step0 hI58 hEw115
               replace hCst29 := evo_step0 hCst29 hEw115
               replace hKb104 := evo_step0 hKb104 hEw115
               replace hKb106 := evo_step0 hKb106 hEw115
               replace hrW := hrW0 _ hI13
               replace hrQ := hrQ0 _ hI32
               replace hbb1 := hbb10 _ hI24
               replace hAb1 := hAb10 _ hI24
               replace hrb43 := hrb430 _ hI24
               replace hrb45 := hrb450 _ hI24
               replace hbb47 := hbb470 _ hI24
               replace hAb47 := hAb470 _ hI24
               replace hoR := hoR.evo0 hEw115
               replace hr57 := hr570.now hI58
               replace hr1 := hr10 _ hI58
               replace hrb104 := hrb1040.now hKb104
               replace hrb106 := hrb1060.now hKb106
               replace hrF113 := hrF113.evo0 hEw115
               have hAb114 := hbb114.at
               have hKb114 : Evo w115 w115 ([]) := Evo.refl _ _
               have hrb1140 := rowLitRK ([]) hbb114 (by simp) (fun w9 h9 => hyr _ (Evo.trans hI24 h9 (fun y hy hlt => by cases hy))) (x := (⟨([⟨(List.replicate (ms % 3 + 63).toNat (122 : UInt8)), []⟩] : List Ende), [], [[97]]⟩ : TermL))
               have hrb114 := hrb1140.now hKb114
               have hbd_hrb114 := hrb114.bd
               refine h_next hCst29 ?_
               refine h_one (i := 10) (by kernel_rfl) ?_
               refine h_do (by exact rfl) ?_
               refine r_bslice (pv := [(0, .slice (some ⟨b106, 0, none⟩) _ _), (1, .slice (some ⟨b114, 0, none⟩) _ _), (2, .slice _ _ _), (3, .slice aoF113 _ cpF113)]) (zs := [_]) (cs := [_, _, _, _]) Tryz.underlying62 ty_22 (by exact rfl) rfl (by exact rfl) rfl (by exact rfl) ?_
               intro b116 w117 heb116 hEw117 hbb116 hzb116
               have hs_w117 := (hEw117).size
               replace hV := evo_step0 hV hEw117
               replace hI13 := evo_step0 hI13 hEw117
               replace hI32 := evo_step0 hI32 hEw117
               replace hI24 := evo_step0 hI24 hEw117
               replace hI58 := evo_step0 hI58 hEw117
               replace hCst29 := evo_step0 hCst29 hEw117
               replace hKb104 := evo_step0 hKb104 hEw117
               replace hKb106 := evo_step0 hKb106 hEw117
               replace hKb114 := evo_step0 hKb114 hEw117
               replace hrW := hrW0 _ hI13
               replace hrQ := hrQ0 _ hI32
               replace hbb1 := hbb10 _ hI24
               replace hAb1 := hAb10 _ hI24
               replace hrb43 := hrb430 _ hI24
               replace hrb45 := hrb450 _ hI24
               replace hbb47 := hbb470 _ hI24
               replace hAb47 := hAb470 _ hI24
               replace hoR := hoR.evo0 hEw117
               replace hr57 := hr570.now hI58
               replace hr1 := hr10 _ hI58
               replace hrb104 := hrb1040.now hKb104
               replace hrb106 := hrb1060.now hKb106
               replace hrF113 := hrF113.evo0 hEw117
               replace hrb114 := hrb1140.now hKb114
               have hAb116 := hbb116.at
               have hrb116 : RowR w117 (some ⟨b116, 0, none⟩) b116 0 4 ([⟨[(⟨ws, qs, []⟩ : TermL)]⟩, ⟨[(⟨([⟨(List.replicate (ms % 3 + 63).toNat (122 : UInt8)), []⟩] : List Ende), [], [[97]]⟩ : TermL)]⟩, ⟨tl⟩, ⟨[(⟨([⟨(List.replicate (ms % 3 + 63).toNat (122 : UInt8)), []⟩] : List Ende), [], [[97]]⟩ : TermL)] ++ [(⟨ws, qs, []⟩ : TermL)]⟩] : List TmsL) := rowLitR [[_], [_], [_], [_]] ([⟨[(⟨ws, qs, []⟩ : TermL)]⟩, ⟨[(⟨([⟨(List.replicate (ms % 3 + 63).toNat (122 : UInt8)), []⟩] : List Ende), [], [[97]]⟩ : TermL)]⟩, ⟨tl⟩, ⟨[(⟨([⟨(List.replicate (ms % 3 + 63).toNat (122 : UInt8)), []⟩] : List Ende), [], [[97]]⟩ : TermL)] ++ [(⟨ws, qs, []⟩ : TermL)]⟩] : List TmsL) hbb116 rfl ((((RepL.one (tms_rep hrb106)).append (RepL.one (tms_rep hrb114))).append (RepL.one (tms_rep (hr570.now hI58)))).append (RepL.one (tms_rep hrF113))) rfl
               refine h_next hCst29 ?_
               refine h_take (i := 11) (by exact rfl) rfl rfl rfl (by kernel_rfl) (fun w' hC => run_lenSl rfl (by exact rfl) Tryz.underlying62) hCst29 ?_
               refine h_done (by kernel_rfl) ?_
               refine r_cut_end ?_ ?_
               ·refine ⟨_, rfl, rfl, rfl, hrb116, (by first | assumption | omega | (dsimp only; omega) | (simp; done)), hV, hI13, hI32, hI24, hI58⟩
               ·repeat (first | (with_reducible exact Agree.merge _ _ _) | (with_reducible exact Agree.refl _ _) | (with_reducible refine Agree.upd ?_ _ _ rfl) | ((with_reducible refine Agree.inner ?_ ?_); (kernel_rfl)))
             ·skip
              refine h_do (by exact rfl) ?_
              refine r_bslice (pv := [(0, .agg _)]) (zs := [_, _, _]) (cs := [_, _, _]) Tryz.underlying22 ty_42 (by exact rfl) rfl (by exact rfl) rfl (by exact rfl) ?_
              intro b118 w119 heb118 hEw119 hbb118 hzb118
              have hs_w119 := (hEw119).size
              replace hV := evo_step0 hV hEw119
              replace hI13 := evo_step0 hI13 hEw119
              replace hI32 := evo_step0 hI32 hEw119
              replace hI24 := evo_step0 hI24 hEw119
              replace hI58 := evo_step0 hI58 hEw119
              replace hCst29 := evo_step0 hCst29 hEw119
              replace hKb104 := evo_step0 hKb104 hEw119
              replace hrW := hrW0 _ hI13
              replace hrQ := hrQ0 _ hI32
              replace hbb1 := hbb10 _ hI24
              replace hAb1 := hAb10 _ hI24
              replace hrb43 := hrb430 _ hI24
              replace hrb45 := hrb450 _ hI24
              replace hbb47 := hbb470 _ hI24
              replace hAb47 := hAb470 _ hI24
              replace hoR := hoR.evo0 hEw119
              replace hr57 := hr570.now hI58
              replace hr1 := hr10 _ hI58
              replace hrb104 := hrb1040.now hKb104
              have hAb118 := hbb118.at
              have hKb118 : Evo w119 w119 ([]) := Evo.refl _ _
              have hrb1180 := rowLitRK ([]) hbb118 (by simp) (fun w9 h9 => hyr _ (Evo.trans hI24 h9 (fun y hy hlt => by cases hy))) (x := (⟨([⟨(List.replicate (ms % 3 + 63).toNat (122 : UInt8)), []⟩] : List Ende), [], [[97]]⟩ : TermL))
              have hrb118 := hrb1180.now hKb118
              have hbd_hrb118 := hrb118.bd
              refine h_next hCst29 ?_
              refine h_two (i := 1) (j := 9) (by kernel_rfl) ?_ ?_
              ·skip
               refine h_do (by exact rfl) ?_
               refine r_bslice (pv := [(0, .agg _)]) (zs := [_, _, _]) (cs := [_, _, _]) Tryz.underlying22 ty_42 (by exact rfl) rfl (by exact rfl) rfl (by exact rfl) ?_
               intro b120 w121 heb120 hEw121 hbb120 hzb120
               have hs_w121 := (hEw121).size
               replace hV := evo_step0 hV hEw121
               replace hI13 := evo_step0 hI13 hEw121
               replace hI32 := evo_step0 hI32 hEw121
               replace hI24 := evo_step0 hI24 hEw121
               replace hI58 := evo_step0 hI58 hEw121
               replace hCst29 := evo_step0 hCst29 hEw121
               replace hKb104 := evo_step0 hKb104 hEw121
               replace hKb118 := evo_step0 hKb118 hEw121
               replace hrW := hrW0 _ hI13
               replace hrQ := hrQ0 _ hI32
               replace hbb1 := hbb10 _ hI24
               replace hAb1 := hAb10 _ hI24
               replace hrb43 := hrb430 _ hI24
               replace hrb45 := hrb450 _ hI24
               replace hbb47 := hbb470 _ hI24
               replace hAb47 := hAb470 _ hI24
               replace hoR := hoR.evo0 hEw121
               replace hr57 := hr570.now hI58
               replace hr1 := hr10 _ hI58
               replace hrb104 := hrb1040.now hKb104
               replace hrb118 := hrb1180.now hKb118
               have hAb120 := hbb120.at
               have hKb120 : Evo w121 w121 ([]) := Evo.refl _ _
               have hrb1200 := rowLitRK ([]) hbb120 (by simp) (fun w9 h9 => hxr _ (Evo.trans hI24 h9 (fun y hy hlt => by cases hy))) (x := (⟨ws, qs, []⟩ : TermL))
               have hrb120 := hrb1200.now hKb120
               have hbd_hrb120 := hrb120.bd
               refine h_next hCst29 ?_
               refine h_one (i := 9) (by kernel_rfl) ?_
               refine h_do (by exact rfl) ?_
               refine r_appendF (l := [(⟨([⟨(List.replicate (ms % 3 + 63).toNat (122 : UInt8)), []⟩] : List Ende), [], [[97]]⟩ : TermL)]) (l2 := [(⟨ws, qs, []⟩ : TermL)]) rfl Tryz.underlying22 ty_42 (by exact rfl) (by exact rfl) hr1 (by simp) (by exact rfl) hrb104 rfl (by simp) (show (1 + 1) * _ ≤ 140737488355328 by decide) (show 1 + 1 ≤ 140737488355328 by decide) ?_
               intro aoF122 gF122 cpF122 w122 hEw122 hrF122
               have hs_w122 := (hEw122).size
               replace hV := evo_step0 hV hEw122
               replace hI13 := evo_step0 hI13 hEw122
               replace hI32 := evo_step0 hI32 hEw122
               replace hI24 := evo_step0 hI24 hEw122
               replace hI58 := evo_step0 hI58 hEw122
               replace hCst29 := evo_step0 hCst29 hEw122
               replace hKb104 := evo_step0 hKb104 hEw122
               replace hKb118 := evo_step0 hKb118 hEw122
               replace hKb120 := evo_step0 hKb120 hEw122
               replace hrW := hrW0 _ hI13
               replace hrQ := hrQ0 _ hI32
               replace hbb1 := hbb10 _ hI24
               replace hAb1 := hAb10 _ hI24
               replace hrb43 := hrb430 _ hI24
               replace hrb45 := hrb450 _ hI24
               replace hbb47 := hbb470 _ hI24
               replace hAb47 := hAb470 _ hI24
               replace hoR := hoR.evo0 hEw122
               replace hr57 := hr570.now hI58
               replace hr1 := hr10 _ hI58
               replace hrb104 := hrb1040.now hKb104
               replace hrb118 := hrb1180.now hKb118
               replace hrb120 := hrb1200.now hKb120
               have hbd_hrF122 := hrF122.bd
               refine h_next hCst29 ?_
               refine h_one (i := 10) (by kernel_rfl) ?_
               refine h_do (by exact rfl) ?_
               refine r_bslice (pv := [(0, .slice (some ⟨b120, 0, none⟩) _ _), (1, .slice (some ⟨b118, 0, none⟩) _ _), (2, .slice _ _ _), (3, .slice aoF122 _ cpF122)]) (zs := [_]) (cs := [_, _, _, _]) Tryz.underlying62 ty_22 (by exact rfl) rfl (by exact rfl) rfl (by exact rfl) ?_
               intro b123 w124 heb123 hEw124 hbb123 hzb123
               have hs_w124 := (hEw124).size
               replace hV := evo_step0 hV hEw124
               replace hI13 := evo_step0 hI13 hEw124
               replace hI32 := evo_step0 hI32 hEw124
               replace hI24 := evo_step0 hI24 hEw124
               replace hI58 := evo_step0 hI58 hEw124
               replace hCst29 := evo_step0 hCst29 hEw124
               replace hKb104 := evo_step0 hKb104 hEw124
               replace hKb118 := evo_step0 hKb118 hEw124
               replace hKb120 := evo_step0 hKb120 hEw124
               replace hrW := hrW0 _ hI13
               replace hrQ := hrQ0 _ hI32
               replace hbb1 := hbb10 _ hI24
               replace hAb1 := hAb10 _ hI24
               replace hrb43 := hrb430 _ hI24
               replace hrb45 := hrb450 _ hI24
               replace hbb47 := hbb470 _ hI24
               replace hAb47 := hAb470 _ hI24
               replace hoR := hoR.evo0 hEw124
               replace hr57 := hr570.now hI58
               replace hr1 := hr10 _ hI58
               replace hrb104 := hrb1040.now hKb104
               replace hrb118 := hrb1180.now hKb118
               replace hrb120 := hrb1200.now hKb120
               replace hrF122 := hrF122.evo0 hEw124
               have hAb123 := hbb123.at
               have hrb123 : RowR w124 (some ⟨b123, 0, none⟩) b123 0 4 ([⟨[(⟨ws, qs, []⟩ : TermL)]⟩, ⟨[(⟨([⟨(List.replicate (ms % 3 + 63).toNat (122 : UInt8)), []⟩] : List Ende), [], [[97]]⟩ : TermL)]⟩, ⟨tl⟩, ⟨[(⟨([⟨(List.replicate (ms % 3 + 63).toNat (122 : UInt8)), []⟩] : List Ende), [], [[97]]⟩ : TermL)] ++ [(⟨ws, qs, []⟩ : TermL)]⟩] : List TmsL) := rowLitR [[_], [_], [_], [_]] ([⟨[(⟨ws, qs, []⟩ : TermL)]⟩, ⟨[(⟨([⟨(List.replicate (ms % 3 + 63).toNat (122 : UInt8)), []⟩] : List Ende), [], [[97]]⟩ : TermL)]⟩, ⟨tl⟩, ⟨[(⟨([⟨(List.replicate (ms % 3 + 63).toNat (122 : UInt8)), []⟩] : List Ende), [], [[97]]⟩ : TermL)] ++ [(⟨ws, qs, []⟩ : TermL)]⟩] : List TmsL) hbb123 rfl ((((RepL.one (tms_rep hrb120)).append (RepL.one (tms_rep hrb118))).append (RepL.one (tms_rep (hr570.now hI58)))).append (RepL.one (tms_rep hrF122))) rfl
               refine h_next hCst29 ?_
               refine h_take (i := 11) (by exact rfl) rfl rfl rfl (by kernel_rfl) (fun w' hC => run_lenSl rfl (by exact rfl) Tryz.underlying62) hCst29 ?_
               refine h_done (by kernel_rfl) ?_
               refine r_cut_end ?_ ?_
               ·refine ⟨_, rfl, rfl, rfl, hrb123, (by first | assumption | omega | (dsimp only; omega) | (simp; done)), hV, hI13, hI32, hI24, hI58⟩
               ·repeat (first | (with_reducible exact Agree.merge _ _ _) | (with_reducible exact Agree.refl _ _) | (with_reducible refine Agree.upd ?_ _ _ rfl) | ((with_reducible refine Agree.inner ?_ ?_); (kernel_rfl)))
              ·skip
               refine h_do (by exact rfl) ?_
               refine r_appendF (l := [(⟨([⟨(List.replicate (ms % 3 + 63).toNat (122 : UInt8)), []⟩] : List Ende), [], [[97]]⟩ : TermL)]) (l2 := [(⟨ws, qs, []⟩ : TermL)]) rfl Tryz.underlying22 ty_42 (by exact rfl) (by exact rfl) hr1 (by simp) (by exact rfl) hrb104 rfl (by simp) (show (1 + 1) * _ ≤ 140737488355328 by decide) (show 1 + 1 ≤ 140737488355328 by decide) ?_
               intro aoF125 gF125 cpF125 w125 hEw125 hrF125
               have hs_w125 := (hEw125).size
               replace hV := evo_step0 hV hEw125
               replace hI13 := evo_step0 hI13 hEw125
               replace hI32 := evo_step0 hI32 hEw125
               replace hI24 := evo_step0 hI24 hEw125
               replace hI58 := evo_step0 hI58 hEw125
               replace hCst29 := evo_step0 hCst29 hEw125
               replace hKb104 := evo_step0 hKb104 hEw125
               replace hKb118 := evo_step0 hKb118 hEw125
               replace hrW := hrW0 _ hI13
               replace hrQ := hrQ0 _ hI32
               replace hbb1 := hbb10 _ hI24
               replace hAb1 := hAb10 _ hI24
               replace hrb43 := hrb430 _ hI24
               replace hrb45 := hrb450 _ hI24
               replace hbb47 := hbb470 _ hI24
               replace hAb47 := hAb470 _ hI24
               replace hoR := hoR.evo0 hEw125
               replace hr57 := hr570.now hI58
               replace hr1 := hr10 _ hI58
               replace hrb104 := hrb1040.now hKb104
               replace hrb118 := hrb1180.now hKb118
               have hbd_hrF125 := hrF125.bd
               refine h_next hCst29 ?_
               refine h_one (i := 1) (by kernel_rfl) ?_
               refine h_do (by exact rfl) ?_
               refine r_bslice (pv := [(0, .agg _)]) (zs := [_, _, _]) (cs := [_, _, _]) Tryz.underlying22 ty_42 (by exact rfl) rfl (by exact rfl) rfl (by exact rfl) ?_
               intro b126 w127 heb126 hEw127 hbb126 hzb126
               have hs_w127 := (hEw127).size
               replace hV := evo_step0 hV hEw127
               replace hI13 := evo_step0 hI13 hEw127
               replace hI32 := evo_step0 hI32 hEw127
               replace hI24 := evo_step0 hI24 hEw127
               replace hI58 := evo_step0 hI58 hEw127
               replace hCst29 := evo_step0 hCst29 hEw127
               replace hKb104 := evo_step0 hKb104 hEw127
               replace hKb118 := evo_step0 hKb118 hEw127
               replace hrW := hrW0 _ hI13
               replace hrQ := hrQ0 _ hI32
               replace hbb1 := hbb10 _ hI24
               replace hAb1 := hAb10 _ hI24
               replace hrb43 := hrb430 _ hI24
               replace hrb45 := hrb450 _ hI24
               replace hbb47 := hbb470 _ hI24
               replace hAb47 := hAb470 _ hI24
               replace hoR := hoR.evo0 hEw127
               replace hr57 := hr570.now hI58
               replace hr1 := hr10 _ hI58
               replace hrb104 := hrb1040.now hKb104
               replace hrb118 := hrb1180.now hKb118
               replace hrF125 := hrF125.evo0 hEw127
               have hAb126 := hbb126.at
               have hKb126 : Evo w127 w127 ([]) := Evo.refl _ _
               have hrb1260 := rowLitRK ([]) hbb126 (by simp) (fun w9 h9 => hxr _ (Evo.trans hI24 h9 (fun y hy hlt => by cases hy))) (x := (⟨ws, qs, []⟩ : TermL))
               have hrb126 := hrb1260.now hKb126
               have hbd_hrb126 := hrb126.bd
               refine h_next hCst29 ?_
               refine h_one (i := 10) (by kernel_rfl) ?_
               refine h_do (by exact rfl) ?_
               refine r_bslice (pv := [(0, .slice (some ⟨b126, 0, none⟩) _ _), (1, .slice (some ⟨b118, 0, none⟩) _ _), (2, .slice _ _ _), (3, .slice aoF125 _ cpF125)]) (zs := [_]) (cs := [_, _, _, _]) Tryz.underlying62 ty_22 (by exact rfl) rfl (by exact rfl) rfl (by exact rfl) ?_
               intro b128 w129 heb128 hEw129 hbb128 hzb128
               have hs_w129 := (hEw129).size
               replace hV := evo_step0 hV hEw129
               replace hI13 := evo_step0 hI13 hEw129
               replace hI32 := evo_step0 hI32 hEw129
               replace hI24 := evo_step0 hI24 hEw129
               replace hI58 := evo_step0 hI58 hEw129
               replace hCst29 := evo_step0 hCst29 hEw129
               replace hKb104 := evo_step0 hKb104 hEw129
               replace hKb118 := evo_step0 hKb118 hEw129
               replace hKb126 := evo_step0 hKb126 hEw129
               replace hrW := hrW0 _ hI13
               replace hrQ := hrQ0 _ hI32
               replace hbb1 := hbb10 _ hI24
               replace hAb1 := hAb10 _ hI24
               replace hrb43 := hrb430 _ hI24
               replace hrb45 := hrb450 _ hI24
               replace hbb47 := hbb470 _ hI24
               replace hAb47 := hAb470 _ hI24
               replace hoR := hoR.evo0 hEw129
               replace hr57 := hr570.now hI58
               replace hr1 := hr10 _ hI58
               replace hrb104 := hrb1040.now hKb104
               replace hrb118 := hrb1180.now hKb118
               replace hrF125 := hrF125.evo0 hEw129
               replace hrb126 := hrb1260.now hKb126
               have hAb128 := hbb128.at
               have hrb128 : RowR w129 (some ⟨b128, 0, none⟩) b128 0 4 ([⟨[(⟨ws, qs, []⟩ : TermL)]⟩, ⟨[(⟨([⟨(List.replicate (ms % 3 + 63).toNat (122 : UInt8)), []⟩] : List Ende), [], [[97]]⟩ : TermL)]⟩, ⟨tl⟩, ⟨[(⟨([⟨(List.replicate (ms % 3 + 63).toNat (122 : UInt8)), []⟩] : List Ende), [], [[97]]⟩ : TermL)] ++ [(⟨ws, qs, []⟩ : TermL)]⟩] : List TmsL) := rowLitR [[_], [_], [_], [_]] ([⟨[(⟨ws, qs, []⟩ : TermL)]⟩, ⟨[(⟨([⟨(List.replicate (ms % 3 + 63).toNat (122 : UInt8)), []⟩] : List Ende), [], [[97]]⟩ : TermL)]⟩, ⟨tl⟩, ⟨[(⟨([⟨(List.replicate (ms % 3 + 63).toNat (122 : UInt8)), []⟩] : List Ende), [], [[97]]⟩ : TermL)] ++ [(⟨ws, qs, []⟩ : TermL)]⟩] : List TmsL) hbb128 rfl ((((RepL.one (tms_rep hrb126)).append (RepL.one (tms_rep hrb118))).append (RepL.one (tms_rep (hr570.now hI58)))).append (RepL.one (tms_rep hrF125))) rfl
               refine h_next hCst29 ?_
               refine h_take (i := 11) (by exact rfl) rfl rfl rfl (by kernel_rfl) (fun w' hC => run_lenSl rfl (by exact rfl) Tryz.underlying62) hCst29 ?_
               refine h_done (by kernel_rfl) ?_
               refine r_cut_end ?_ ?_
               ·refine ⟨_, rfl, rfl, rfl, hrb128, (by first | assumption | omega | (dsimp only; omega) | (simp; done)), hV, hI13, hI32, hI24, hI58⟩
               ·repeat (first | (with_reducible exact Agree.merge _ _ _) | (with_reducible exact Agree.refl _ _) | (with_reducible refine Agree.upd ?_ _ _ rfl) | ((with_reducible refine Agree.inner ?_ ?_); (kernel_rfl)))
             ·skip
              refine h_do (by exact rfl) ?_
              refine r_appendF (l := [(⟨([⟨(List.replicate (ms % 3 + 63).toNat (122 : UInt8)), []⟩] : List Ende), [], [[97]]⟩ : TermL)]) (l2 := [(⟨ws, qs, []⟩ : TermL)]) rfl Tryz.underlying22 ty_42 (by exact rfl) (by exact rfl) hr1 (by simp) (by exact rfl) hrb104 rfl (by simp) (show (1 + 1) * _ ≤ 140737488355328 by decide) (show 1 + 1 ≤ 140737488355328 by decide) ?_
              intro aoF130 gF130 cpF130 w130 hEw130 hrF130
              have hs_w130 := (hEw130).size
              replace hV := evo_step0 hV hEw130
              replace hI13 := evo_step0 hI13 hEw130
              replace hI32 := evo_step0 hI32 hEw130
              replace hI24 := evo_step0 hI24 hEw130
              replace hI58 := evo_step0 hI58 hEw130
              replace hCst29 := evo_step0 hCst29 hEw130
              replace hKb104 := evo_step0 hKb104 hEw130
              replace hrW := hrW0 _ hI13
              replace hrQ := hrQ0 _ hI32
              replace hbb1 := hbb10 _ hI24
              replace hAb1 := hAb10 _ hI24
              replace hrb43 := hrb430 _ hI24
              replace hrb45 := hrb450 _ hI24
              replace hbb47 := hbb470 _ hI24
              replace hAb47 := hAb470 _ hI24
              replace hoR := hoR.evo0 hEw130
              replace hr57 := hr570.now hI58
              replace hr1 := hr10 _ hI58
              replace hrb104 := hrb1040.now hKb104
              have hbd_hrF130 := hrF130.bd
              refine h_next hCst29 ?_
              refine h_two (i := 1) (j := 3) (by kernel_rfl) ?_ ?_
              ·skip
               refine h_do (by exact rfl) ?_
               refine r_bslice (pv := [(0, .agg _)]) (zs := [_, _, _]) (cs := [_, _, _]) Tryz.underlying22 ty_42 (by exact rfl) rfl (by exact rfl) rfl (by exact rfl) ?_
               intro b131 w132 heb131 hEw132 hbb131 hzb131
               have hs_w132 := (hEw132).size
               replace hV := evo_step0 hV hEw132
               replace hI13 := evo_step0 hI13 hEw132
               replace hI32 := evo_step0 hI32 hEw132
               replace hI24 := evo_step0 hI24 hEw132
               replace hI58 := evo_step0 hI58 hEw132
               replace hCst29 := evo_step0 hCst29 hEw132
               replace hKb104 := evo_step0 hKb104 hEw132
               replace hrW := hrW0 _ hI13
               replace hrQ := hrQ0 _ hI32
               replace hbb1 := hbb10 _ hI24
               replace hAb1 := hAb10 _ hI24
               replace hrb43 := hrb430 _ hI24
               replace hrb45 := hrb450 _ hI24
               replace hbb47 := hbb470 _ hI24
               replace hAb47 := hAb470 _ hI24
               replace hoR := hoR.evo0 hEw132
               replace hr57 := hr570.now hI58
               replace hr1 := hr10 _ hI58
               replace hrb104 := hrb1040.now hKb104
               replace hrF130 := hrF130.evo0 hEw132
               have hAb131 := hbb131.at
               have hKb131 : Evo w132 w132 ([]) := Evo.refl _ _
               have hrb1310 := rowLitRK ([]) hbb131 (by simp) (fun w9 h9 => hxr _ (Evo.trans hI24 h9 (fun y hy hlt => by cases hy))) (x := (⟨ws, qs, []⟩ : TermL))
               have hrb131 := hrb1310.now hKb131
               have hbd_hrb131 := hrb131.bd
               refine h_next hCst29 ?_
               refine h_one (i := 3) (by kernel_rfl) ?_
               refine h_do (by exact rfl) ?_
               refine r_bslice (pv := [(0, .agg _)]) (zs := [_, _, _]) (cs := [_, _, _]) Tryz.underlying22 ty_42 (by exact rfl) rfl (by exact rfl) rfl (by exact rfl) ?_
               intro b133 w134 heb133 hEw134 hbb133 hzb133
               have hs_w134 := (hEw134).size
               replace hV := evo_step0 hV hEw134
               replace hI13 := evo_step0 hI13 hEw134
               replace hI32 := evo_step0 hI32 hEw134
               replace hI24 := evo_step0 hI24 hEw134
               replace hI58 := evo_step0 hI58 hEw134
               replace hCst29 := evo_step0 hCst29 hEw134
               replace hKb104 := evo_step0 hKb104 hEw134
               replace hKb131 := evo_step0 hKb131 hEw134
               replace hrW := hrW0 _ hI13
               replace hrQ := hrQ0 _ hI32
               replace hbb1 := hbb10 _ hI24
               replace hAb1 := hAb10 _ hI24
               replace hrb43 := hrb430 _ hI24
               replace hrb45 := hrb450 _ hI24
               replace hbb47 := hbb470 _ hI24
               replace hAb47 := hAb470 _ hI24
               replace hoR := hoR.evo0 hEw134
               replace hr57 := hr570.now hI58
               replace hr1 := hr10 _ hI58
               replace hrb104 := hrb1040.now hKb104
               replace hrF130 := hrF130.evo0 hEw134
               replace hrb131 := hrb1310.now hKb131
               have hAb133 := hbb133.at
               have hKb133 : Evo w134 w134 ([]) := Evo.refl _ _
               have hrb1330 := rowLitRK ([]) hbb133 (by simp) (fun w9 h9 => hyr _ (Evo.trans hI24 h9 (fun y hy hlt => by cases hy))) (x := (⟨([⟨(List.replicate (ms % 3 + 63).toNat (122 : UInt8)), []⟩] : List Ende), [], [[97]]⟩ : TermL))
               have hrb133 := hrb1330.now hKb133
               have hbd_hrb133 := hrb133.bd
               refine h_next hCst29 ?_
               refine h_one (i := 10) (by kernel_rfl) ?_
               refine h_do (by exact rfl) ?_
               refine r_bslice (pv := [(0, .slice (some ⟨b131, 0, none⟩) _ _), (1, .slice (some ⟨b133, 0, none⟩) _ _), (2, .slice _ _ _), (3, .slice aoF130 _ cpF130)]) (zs := [_]) (cs := [_, _, _, _]) Tryz.underlying62 ty_22 (by exact rfl) rfl (by exact rfl) rfl (by exact rfl) ?_
               intro b135 w136 heb135 hEw136 hbb135 hzb135
               have hs_w136 := (hEw136).size
               replace hV := evo_step0 hV hEw136
               replace hI13 := evo_step0 hI13 hEw136
               replace hI32 := evo_step0 hI32 hEw136
               replace hI24 := evo_step0 hI24 hEw136
               replace hI58 := evo_step0 hI58 hEw136
               replace hCst29 := evo_step0 hCst29 hEw136
               replace hKb104 := evo_step0 hKb104 hEw136
               replace hKb131 := evo_step0 hKb131 hEw136
               replace hKb133 := evo_step0 hKb133 hEw136
               replace hrW := hrW0 _ hI13
               replace hrQ := hrQ0 _ hI32
               replace hbb1 := hbb10 _ hI24
               replace hAb1 := hAb10 _ hI24
               replace hrb43 := hrb430 _ hI24
               replace hrb45 := hrb450 _ hI24
               replace hbb47 := hbb470 _ hI24
               replace hAb47 := hAb470 _ hI24
               replace hoR := hoR.evo0 hEw136
               replace hr57 := hr570.now hI58
               replace hr1 := hr10 _ hI58
               replace hrb104 := hrb1040.now hKb104
               replace hrF130 := hrF130.evo0 hEw136
               replace hrb131 := hrb1310.now hKb131
               replace hrb133 := hrb1330.now hKb133
               have hAb135 := hbb135.at
               have hrb135 : RowR w136 (some ⟨b135, 0, none⟩) b135 0 4 ([⟨[(⟨ws, qs, []⟩ : TermL)]⟩, ⟨[(⟨([⟨(List.replicate (ms % 3 + 63).toNat (122 : UInt8)), []⟩] : List Ende), [], [[97]]⟩ : TermL)]⟩, ⟨tl⟩, ⟨[(⟨([⟨(List.replicate (ms % 3 + 63).toNat (122 : UInt8)), []⟩] : List Ende), [], [[97]]⟩ : TermL)] ++ [(⟨ws, qs, []⟩ : TermL)]⟩] : List TmsL) := rowLitR [[_], [_], [_], [_]] ([⟨[(⟨ws, qs, []⟩ : TermL)]⟩, ⟨[(⟨([⟨(List.replicate (ms % 3 + 63).toNat (122 : UInt8)), []⟩] : List Ende), [], [[97]]⟩ : TermL)]⟩, ⟨tl⟩, ⟨[(⟨([⟨(List.replicate (ms % 3 + 63).toNat (122 : UInt8)), []⟩] : List Ende), [], [[97]]⟩ : TermL)] ++ [(⟨ws, qs, []⟩ : TermL)]⟩] : List TmsL) hbb135 rfl ((((RepL.one (tms_rep hrb131)).append (RepL.one (tms_rep hrb133))).append (RepL.one (tms_rep (hr570.now hI58)))).append (RepL.one (tms_rep hrF130))) rfl
               refine h_next hCst29 ?_
               refine h_take (i := 11) (by exact rfl) rfl rfl rfl (by kernel_rfl) (fun w' hC => run_lenSl rfl (by exact rfl) Tryz.underlying62) hCst29 ?_
               refine h_done (by kernel_rfl) ?_
               refine r_cut_end ?_ ?_
               ·refine ⟨_, rfl, rfl, rfl, hrb135, (by first | assumption | omega | (dsimp only; omega) | (simp; done)), hV, hI13, hI32, hI24, hI58⟩
               ·repeat (first | (with_reducible exact Agree.merge _ _ _) | (with_reducible exact Agree.refl _ _) | (with_reducible refine Agree.upd ?_ _ _ rfl) | ((with_reducible refine Agree.inner ?_ ?_); (kernel_rfl)))
              ·skip
               refine h_do (by exact rfl) ?_
               refine r_bslice (pv := [(0, .agg _)]) (zs := [_, _, _]) (cs := [_, _, _]) Tryz.underlying22 ty_42 (by exact rfl) rfl (by exact rfl) rfl (by exact rfl) ?_
               intro b137 w138 heb137 hEw138 hbb137 hzb137
               have hs_w138 := (hEw138).size
               replace hV := evo_step0 hV hEw138
               replace hI13 := evo_step0 hI13 hEw138
               replace hI32 := evo_step0 hI32 hEw138
               replace hI24 := evo_step0 hI24 hEw138
               replace hI58 := evo_step0 hI58 hEw138
               replace hCst29 := evo_step0 hCst29 hEw138
               replace hKb104 := evo_step0 hKb104 hEw138
               replace hrW := hrW0 _ hI13
               replace hrQ := hrQ0 _ hI32
               replace hbb1 := hbb10 _ hI24
               replace hAb1 := hAb10 _ hI24
               replace hrb43 := hrb430 _ hI24
               replace hrb45 := hrb450 _ hI24
               replace hbb47 := hbb470 _ hI24
               replace hAb47 := hAb470 _ hI24
               replace hoR := hoR.evo0 hEw138
               replace hr57 := hr570.now hI58
               replace hr1 := hr10 _ hI58
               replace hrb104 := hrb1040.now hKb104
               replace hrF130 := hrF130.evo0 hEw138
               have hAb137 := hbb137.at
               have hKb137 : Evo w138 w138 ([]) := Evo.refl _ _
               have hrb1370 := rowLitRK ([]) hbb137 (by simp) (fun w9 h9 => hyr _ (Evo.trans hI24 h9 (fun y hy hlt => by cases hy))) (x := (⟨([⟨(List.replicate (ms % 3 + 63).toNat (122 : UInt8)), []⟩] : List Ende), [], [[97]]⟩ : TermL))
               have hrb137 := hrb1370.now hKb137
               have hbd_hrb137 := hrb137.bd
               refine h_next hCst29 ?_
               refine h_one (i := 1) (by kernel_rfl) ?_
               refine h_do (by exact rfl) ?_
               refine r_bslice (pv := [(0, .agg _)]) (zs := [_, _, _]) (cs := [_, _, _]) Tryz.underlying22 ty_42 (by exact rfl) rfl (by exact rfl) rfl (by exact rfl) ?_
               intro b139 w140 heb139 hEw140 hbb139 hzb139
               have hs_w140 := (hEw140).size
               replace hV := evo_step0 hV hEw140
               replace hI13 := evo_step0 hI13 hEw140
               replace hI32 := evo_step0 hI32 hEw140
               replace hI24 := evo_step0 hI24 hEw140
               replace hI58 := evo_step0 hI58 hEw140
               replace hCst29 := evo_step0 hCst29 hEw140
               replace hKb104 := evo_step0 hKb104 hEw140
               replace hKb137 := evo_step0 hKb137 hEw140
               replace hrW := hrW0 _ hI13
               replace hrQ := hrQ0 _ hI32
               replace hbb1 := hbb10 _ hI24
               replace hAb1 := hAb10 _ hI24
               replace hrb43 := hrb430 _ hI24
               replace hrb45 := hrb450 _ hI24
               replace hbb47 := hbb470 _ hI24
               replace hAb47 := hAb470 _ hI24
               replace hoR := hoR.evo0 hEw140
               replace hr57 := hr570.now hI58
               replace hr1 := hr10 _ hI58
               replace hrb104 := hrb1040.now hKb104
               replace hrF130 := hrF130.evo0 hEw140
               replace hrb137 := hrb1370.now hKb137
               have hAb139 := hbb139.at
               have hKb139 : Evo w140 w140 ([]) := Evo.refl _ _
               have hrb1390 := rowLitRK ([]) hbb139 (by simp) (fun w9 h9 => hxr _ (Evo.trans hI24 h9 (fun y hy hlt => by cases hy))) (x := (⟨ws, qs, []⟩ : TermL))
               have hrb139 := hrb1390.now hKb139
               have hbd_hrb139 := hrb139.bd
               refine h_next hCst29 ?_
               refine h_one (i := 10) (by kernel_rfl) ?_
               refine h_do (by exact rfl) ?_
               refine r_bslice (pv := [(0, .slice (some ⟨b139, 0, none⟩) _ _), (1, .slice (some ⟨b137, 0, none⟩) _ _), (2, .slice _ _ _), (3, .slice aoF130 _ cpF130)]) (zs := [_]) (cs := [_, _, _, _]) Tryz.underlying62 ty_22 (by exact rfl) rfl (by exact rfl) rfl (by exact rfl) ?_
               intro b141 w142 heb141 hEw142 hbb141 hzb141
               have hs_w142 := (hEw142).size
               replace hV := evo_step0 hV hEw142
               replace hI13 := evo_step0 hI13 hEw142
               replace hI32 := evo_step0 hI32 hEw142
               replace hI24 := evo_step0 hI24 hEw142
               replace hI58 := evo_step0 hI58 hEw142
               replace hCst29 := evo_step0 hCst29 hEw142
               replace hKb104 := evo_step0 hKb104 hEw142
               replace hKb137 := evo_step0 hKb137 hEw142
               replace hKb139 := evo_step0 hKb139 hEw142
               replace hrW := hrW0 _ hI13
               replace hrQ := hrQ0 _ hI32
               replace hbb1 := hbb10 _ hI24
               replace hAb1 := hAb10 _ hI24
               replace hrb43 := hrb430 _ hI24
               replace hrb45 := hrb450 _ hI24
               replace hbb47 := hbb470 _ hI24
               replace hAb47 := hAb470 _ hI24
               replace hoR := hoR.evo0 hEw142
               replace hr57 := hr570.now hI58
               replace hr1 := hr10 _ hI58
               replace hrb104 := hrb1040.now hKb104
               replace hrF130 := hrF130.evo0 hEw142
               replace hrb137 := hrb1370.now hKb137
               replace hrb139 := hrb1390.now hKb139
               have hAb141 := hbb141.at
               have hrb141 : RowR w142 (some ⟨b141, 0, none⟩) b141 0 4 ([⟨[(⟨ws, qs, []⟩ : TermL)]⟩, ⟨[(⟨([⟨(List.replicate (ms % 3 + 63).toNat (122 : UInt8)), []⟩] : List Ende), [], [[97]]⟩ : TermL)]⟩, ⟨tl⟩, ⟨[(⟨([⟨(List.replicate (ms % 3 + 63).toNat (122 : UInt8)), []⟩] : List Ende), [], [[97]]⟩ : TermL)] ++ [(⟨ws, qs, []⟩ : TermL)]⟩] : List TmsL) := rowLitR [[_], [_], [_], [_]] ([⟨[(⟨ws, qs, []⟩ : TermL)]⟩, ⟨[(⟨([⟨(List.replicate (ms % 3 + 63).toNat (122 : UInt8)), []⟩] : List Ende), [], [[97]]⟩ : TermL)]⟩, ⟨tl⟩, ⟨[(⟨([⟨(List.replicate (ms % 3 + 63).toNat (122 : UInt8)), []⟩] : List Ende), [], [[97]]⟩ : TermL)] ++ [(⟨ws, qs, []⟩ : TermL)]⟩] : List TmsL) hbb141 rfl ((((RepL.one (tms_rep hrb139)).append (RepL.one (tms_rep hrb137))).append (RepL.one (tms_rep (hr570.now hI58)))).append (RepL.one (tms_rep hrF130))) rfl
               refine h_next hCst29 ?_
               refine h_take (i := 11) (by exact rfl) rfl rfl rfl (by kernel_rfl) (fun w' hC => run_lenSl rfl (by exact rfl) Tryz.underlying62) hCst29 ?_
               refine h_done (by kernel_rfl) ?_
               refine r_cut_end ?_ ?_
               ·refine ⟨_, rfl, rfl, rfl, hrb141, (by first | assumption | omega | (dsimp only; omega) | (simp; done)), hV, hI13, hI32, hI24, hI58⟩
               ·repeat (first | (with_reducible exact Agree.merge _ _ _) | (with_reducible exact Agree.refl _ _) | (with_reducible refine Agree.upd ?_ _ _ rfl) | ((with_reducible refine Agree.inner ?_ ?_); (kernel_rfl)))
           ·rintro g w143 ⟨bw, hj144, hj145, hj146, hrw, hzl59, hV, hI13, hI32, hI24, hI58⟩
            have hs_w143hV := hV.size
            have hs_w143hI13 := hI13.size
            have hs_w143hI32 := hI32.size
            have hs_w143hI24 := hI24.size
            have hs_w143hI58 := hI58.size
            replace hrW := hrW0 _ hI13
            replace hrQ := hrQ0 _ hI32
            replace hbb1 := hbb10 _ hI24
            replace hAb1 := hAb10 _ hI24
            replace hrb43 := hrb430 _ hI24
            replace hrb45 := hrb450 _ hI24
            replace hbb47 := hbb470 _ hI24
            replace hAb47 := hAb470 _ hI24
            replace hr57 := hr570.now hI58
            replace hr1 := hr10 _ hI58
            refine r_know (i := 106) (v := .slice (some ⟨bw, 0, none⟩) 4 4) (by exact hj144) ?_
            refine r_know (i := 107) (v := .int .i64 ((4 : Nat) : Int)) (by exact hj145) ?_
            refine r_know (i := 108) (v := .int .i64 ((0 : Nat) : Int)) (by exact hj146) ?_
            refine r_block ?_
            refine r_loop (α := Nat) [8, 20, 108, 109, 110, 111, 112, 113, 114, 115, 116, 117] (fun i g w => g 108 = .int .i64 (i : Nat) ∧ i ≤ 4 ∧ RowR w (some ⟨bw, 0, none⟩) bw 0 4 ([⟨[(⟨ws, qs, []⟩ : TermL)]⟩, ⟨[(⟨([⟨(List.replicate (ms % 3 + 63).toNat (122 : UInt8)), []⟩] : List Ende), [], [[97]]⟩ : TermL)]⟩, ⟨tl⟩, ⟨[(⟨([⟨(List.replicate (ms % 3 + 63).toNat (122 : UInt8)), []⟩] : List Ende), [], [[97]]⟩ : TermL)] ++ [(⟨ws, qs, []⟩ : TermL)]⟩] : List TmsL) ∧ w143.heap.size ≤ w.heap.size ∧ Evo w0 w [] ∧ Evo w5 w [b1] ∧ Evo w24 w [b1] ∧ Evo w48 w [] ∧ Evo w51 w []) (fun i => 4 - i) 0 ?_ ?_
            ·refine ⟨(by first | exact rfl | exact congrArg (Value.int _) (by omega) | exact congrArg (Value.int _) (by dsimp only; omega) | exact congrArg (Value.int _) (by simp) | exact congrArg S (by simp)), (by first | assumption | omega | (dsimp only; omega) | (simp; done)), hrw, (by first | assumption | omega | (dsimp only; omega) | (simp; done)), hV, hI13, hI32, hI24, hI58⟩
            ·rintro i g w148 ⟨hj149, hk_i, hrw, hzl147, hV, hI13, hI32, hI24, hI58⟩
             have hs_w148hV := hV.size
             have hs_w148hI13 := hI13.size
             have hs_w148hI32 := hI32.size
             have hs_w148hI24 := hI24.size
             have hs_w148hI58 := hI58.size
             replace hrW := hrW0 _ hI13
             replace hrQ := hrQ0 _ hI32
             replace hbb1 := hbb10 _ hI24
             replace hAb1 := hAb10 _ hI24
             replace hrb43 := hrb430 _ hI24
             replace hrb45 := hrb450 _ hI24
             replace hbb47 := hbb470 _ hI24
             replace hAb47 := hAb470 _ hI24
             replace hr57 := hr570.now hI58
             replace hr1 := hr10 _ hI58
             refine r_know (i := 108) (v := .int .i64 (i : Nat)) (by exact hj149) ?_
             refine r_seq ?_
             refine r_region ?_
             refine r_op rfl rfl rfl (run_lss rfl (by exact rfl) (by exact rfl)) ?_
             refine r_nil ?_
             refine r_seq ?_
             refine r_cond (by exact rfl) (fun hc150 => ?_) (fun hc150 => ?_)
             ·skip
              refine r_skip ?_
              refine r_seq ?_
              refine r_block ?_
              refine r_seq ?_
              refine r_region ?_
              refine r_op rfl rfl rfl (run_ix (i) rfl Tryz.underlying62 ty_22 (by exact rfl) (by exact rfl) (by first | exact rfl | omega) (by omega) (hrw.addr (i := i) (by omega))) ?_
              obtain ⟨ao151, b151, off151, cap151, hA151, hR151⟩ := tms_at hrw (i) (by omega)
              have hbd_hR151 := hR151.bd
              refine r_op rfl rfl rfl (run_ld1 rfl ag_22 (by exact rfl) (hA151.cell 0 (by exact rfl))) ?_
              refine r_op rfl rfl rfl (run_asg (v := .slice _ _ _) rfl (by exact rfl)) ?_
              refine r_nil ?_
              refine r_seq ?_
              have hjb9 := hjL i
              refine r_region ?_
              refine r_op rfl rfl rfl (run_mv (v := .slice _ _ _) rfl (by exact rfl)) ?_
              refine r_opcall rfl rfl rfl (run_callf (vs := [.slice _ _ _, .slice _ _ _]) rfl (by exact rfl) Tryz.func30 rfl (by kernel_rfl)) (tvalidate_calls hR151 (RowR.nil _ _ 0 0 _)) ?_
              rintro e w152 ⟨rfl, hE152⟩
              refine ⟨_, rfl, ?_⟩
              have hs_w152 := (hE152).size
              replace hV := evo_step0 hV hE152
              replace hI13 := evo_step0 hI13 hE152
              replace hI32 := evo_step0 hI32 hE152
              replace hI24 := evo_step0 hI24 hE152
              replace hI58 := evo_step0 hI58 hE152
              replace hrW := hrW0 _ hI13
              replace hrQ := hrQ0 _ hI32
              replace hbb1 := hbb10 _ hI24
              replace hAb1 := hAb10 _ hI24
              replace hrb43 := hrb430 _ hI24
              replace hrb45 := hrb450 _ hI24
              replace hbb47 := hbb470 _ hI24
              replace hAb47 := hAb470 _ hI24
              replace hr57 := hr570.now hI58
              replace hr1 := hr10 _ hI58
              replace hrw := hrw.evo0 hE152
              replace hR151 := hR151.evo0 hE152
              refine r_op rfl rfl rfl (run_mv (v := .slice _ _ _) rfl (by exact rfl)) ?_
              refine r_opcall rfl rfl rfl (run_callf (vs := [.slice _ _ _, .slice _ _ _]) rfl (by exact rfl) Tryz.func31 rfl (by kernel_rfl)) (rtvalidate_calls hR151 (RowR.nil _ _ 0 0 _) hjb9) ?_
              rintro e w153 ⟨rfl, hE153⟩
              refine ⟨_, rfl, ?_⟩
              have hs_w153 := (hE153).size
              replace hV := evo_step0 hV hE153
              replace hI13 := evo_step0 hI13 hE153
              replace hI32 := evo_step0 hI32 hE153
              replace hI24 := evo_step0 hI24 hE153
              replace hI58 := evo_step0 hI58 hE153
              replace hrW := hrW0 _ hI13
              replace hrQ := hrQ0 _ hI32
              replace hbb1 := hbb10 _ hI24
              replace hAb1 := hAb10 _ hI24
              replace hrb43 := hrb430 _ hI24
              replace hrb45 := hrb450 _ hI24
              replace hbb47 := hbb470 _ hI24
              replace hAb47 := hAb470 _ hI24
              replace hr57 := hr570.now hI58
              replace hr1 := hr10 _ hI58
              replace hrw := hrw.evo0 hE153
              replace hR151 := hR151.evo0 hE153
              refine r_op rfl rfl rfl (run_neq rfl (by exact rfl) (by exact rfl)) ?_
              refine r_knowL (i := 116) (v := .bool false) (congrArg Value.bool (decide_eq_false (fun q9 => q9 rfl))) ?_
              refine r_nil ?_
              refine r_cond_no (by exact rfl) ?_
              refine r_skip ?_
              refine r_blk ?_
              refine r_region ?_
              refine r_op rfl rfl rfl (run_add rfl (by exact rfl) (by exact rfl) (by omega) (by omega)) ?_
              refine r_op rfl rfl rfl (run_mv (v := .int _ _) rfl (by exact rfl)) ?_
              refine r_nil ?_
              refine r_again (i + 1) ?_ ?_ ?_
              ·first | omega | (dsimp only; omega)
              ·refine ⟨(by first | exact rfl | exact congrArg (Value.int _) (by omega) | exact congrArg (Value.int _) (by dsimp only; omega) | exact congrArg (Value.int _) (by simp) | exact congrArg S (by simp)), (by first | assumption | omega | (dsimp only; omega) | (simp; done)), hrw, (by first | assumption | omega | (dsimp only; omega) | (simp; done)), hV, hI13, hI32, hI24, hI58⟩
              ·repeat (first | (with_reducible exact Agree.merge _ _ _) | (with_reducible exact Agree.refl _ _) | (with_reducible refine Agree.upd ?_ _ _ rfl) | ((with_reducible refine Agree.inner ?_ ?_); (kernel_rfl)))
             ·skip
              refine r_exit rfl ?_
              refine r_seq ?_
              refine r_region ?_
              refine r_op rfl rfl rfl (run_mv (v := S _) rfl (by exact rfl)) ?_
              refine r_opcall rfl rfl rfl (run_callf (vs := [S _, .slice _ _ _]) rfl (by exact rfl) Tryz.func21 rfl (by kernel_rfl)) (has_calls (RowE.nil _ _ 0 0 _) (fun x hx => absurd hx List.not_mem_nil) (Nat.zero_le _)) ?_
              rintro e w154 ⟨rfl, hE154⟩
              refine ⟨_, rfl, ?_⟩
              have hs_w154 := (hE154).size
              replace hV := evo_step0 hV hE154
              replace hI13 := evo_step0 hI13 hE154
              replace hI32 := evo_step0 hI32 hE154
              replace hI24 := evo_step0 hI24 hE154
              replace hI58 := evo_step0 hI58 hE154
              replace hrW := hrW0 _ hI13
              replace hrQ := hrQ0 _ hI32
              replace hbb1 := hbb10 _ hI24
              replace hAb1 := hAb10 _ hI24
              replace hrb43 := hrb430 _ hI24
              replace hrb45 := hrb450 _ hI24
              replace hbb47 := hbb470 _ hI24
              replace hAb47 := hAb470 _ hI24
              replace hr57 := hr570.now hI58
              replace hr1 := hr10 _ hI58
              replace hrw := hrw.evo0 hE154
              refine r_op rfl rfl rfl (run_mv (v := S _) rfl (by exact rfl)) ?_
              refine r_opcall rfl rfl rfl (run_callf (vs := [S _, .slice _ _ _]) rfl (by exact rfl) Tryz.func22 rfl (by kernel_rfl)) (rhas_calls (RowE.nil _ _ 0 0 _) (fun x hx => absurd hx List.not_mem_nil) (Nat.zero_le _) (Nat.le_trans (pS_len _) (by omega))) ?_
              rintro e w155 ⟨rfl, hE155⟩
              refine ⟨_, rfl, ?_⟩
              have hs_w155 := (hE155).size
              replace hV := evo_step0 hV hE155
              replace hI13 := evo_step0 hI13 hE155
              replace hI32 := evo_step0 hI32 hE155
              replace hI24 := evo_step0 hI24 hE155
              replace hI58 := evo_step0 hI58 hE155
              replace hrW := hrW0 _ hI13
              replace hrQ := hrQ0 _ hI32
              replace hbb1 := hbb10 _ hI24
              replace hAb1 := hAb10 _ hI24
              replace hrb43 := hrb430 _ hI24
              replace hrb45 := hrb450 _ hI24
              replace hbb47 := hbb470 _ hI24
              replace hAb47 := hAb470 _ hI24
              replace hr57 := hr570.now hI58
              replace hr1 := hr10 _ hI58
              replace hrw := hrw.evo0 hE155
              refine r_op rfl rfl rfl (run_beqlB rfl Tryz.underlying4 (by exact rfl) (by exact rfl)) ?_
              refine r_knowL (i := 122) (v := .bool true) (congrArg Value.bool (by simp)) ?_
              refine r_op rfl rfl rfl (run_mvb rfl (by exact rfl)) ?_
              refine r_gyes rfl (wantT (by exact rfl)) (by exact rfl) ?_
              refine r_opcall rfl rfl rfl (run_callf (vs := []) rfl (by exact rfl) Tryz.func13 rfl (by kernel_rfl)) known_calls ?_
              rintro e w156 ⟨rfl, hE156⟩
              refine ⟨_, rfl, ?_⟩
              have hs_w156 := (hE156).size
              replace hV := evo_step0 hV hE156
              replace hI13 := evo_step0 hI13 hE156
              replace hI32 := evo_step0 hI32 hE156
              replace hI24 := evo_step0 hI24 hE156
              replace hI58 := evo_step0 hI58 hE156
              replace hrW := hrW0 _ hI13
              replace hrQ := hrQ0 _ hI32
              replace hbb1 := hbb10 _ hI24
              replace hAb1 := hAb10 _ hI24
              replace hrb43 := hrb430 _ hI24
              replace hrb45 := hrb450 _ hI24
              replace hbb47 := hbb470 _ hI24
              replace hAb47 := hAb470 _ hI24
              replace hr57 := hr570.now hI58
              replace hr1 := hr10 _ hI58
              replace hrw := hrw.evo0 hE156
              refine r_op rfl rfl rfl (run_pick_andB rfl (by exact rfl) (fun _ => (by exact rfl)) rfl) ?_
              refine r_op rfl rfl rfl (run_asg (v := .bool _) rfl (by exact rfl)) ?_
              refine r_nil ?_
              refine r_ret (res1 (v := .bool _) rfl (by exact rfl)) ?_
              exact ⟨rfl, hV⟩
end Go.Proofs.YtkklomiipkipnaaGreatDoor
