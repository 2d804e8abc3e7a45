/-
  Library, plain laws and walks that the statements reach (joined by a program out of smaller texts).
-/
import Derived.Test.YtkklomiipkipnaaGreatDoorUh
import Derived.Test.YtkklomiipkipnaaGreatDoorUi
import Derived.Test.YtkklomiipkipnaaGreatDoorUd
import Derived.Test.YtkklomiipkipnaaGreatDoorUb
import Derived.Test.YtkklomiipkipnaaGreatDoorRows
namespace Go.Proofs.YtkklomiipkipnaaGreatDoor
open Go Go.RowKit Go.Vc
def firstM {α : Type} [Inhabited α] (f : α → Int) : List α → Int
  | [] => 0
  | x :: r => if f x ≠ 0 then f x else firstM f r
theorem firstM_at {α : Type} [Inhabited α] {f : α → Int} : ∀ {l : List α} {k : Nat} {e : Int}, k < l.length → (∀ j, j < k → f (l.getD j default) = 0) → f (l.getD k default) = e → e ≠ 0 → firstM f l = e
  | [], k, e, h, _, _, _ => by simp at h
  | x :: r, 0, e, _, _, he, h0 => by
    have he2 : f x = e := he
    unfold firstM; rw [if_pos (by rw [he2]; exact h0), he2]
  | x :: r, k + 1, e, h, hn, he, h0 => by
    have h1 : f x = 0 := hn 0 (by omega)
    unfold firstM; rw [if_neg (by rw [h1]; exact fun q => q rfl)]
    exact firstM_at (k := k) (by simpa using h) (fun j hj => by have := hn (j + 1) (by omega); simpa using this) (by simpa using he) h0
theorem firstM_ok {α : Type} [Inhabited α] {f : α → Int} : ∀ {l : List α}, (∀ j, j < l.length → f (l.getD j default) = 0) → firstM f l = 0
  | [], _ => rfl
  | x :: r, h => by
    have h1 : f x = 0 := h 0 (by simp)
    unfold firstM; rw [if_neg (by rw [h1]; exact fun q => q rfl)]
    exact firstM_ok (fun j hj => by have := h (j + 1) (by simpa using hj); simpa using this)
def wordE (c : List Clas) (w : Ende) : Int := if ¬ plainP w.strip then 1 else if w.add ≠ [] ∧ findC c w.add < 0 then 4 else 0
def phrE (s : Str) : Int := if phraseOk s then 0 else 1
def limT (x : TermL) : Prop := ((x.words.length = 0 ∨ 8 < x.words.length) ∨ 8 < x.req.length) ∨ 8 < x.forb.length
instance (x : TermL) : Decidable (limT x) := by unfold limT; infer_instance
def termE (c : List Clas) (x : TermL) : Int := if limT x then 3 else if firstM (wordE c) x.words ≠ 0 then firstM (wordE c) x.words else firstM (firstM phrE) [x.req, x.forb]
def validT (ts : List TermL) (c : List Clas) : Int := if validC c ≠ 0 then validC c else if 128 < ts.length then 3 else firstM (termE c) ts
theorem limT_z {x : TermL} (h : (((x.words.length : Int) = 0 ∨ (x.words.length : Int) > 8) ∨ (x.req.length : Int) > 8) ∨ (x.forb.length : Int) > 8) : limT x := by unfold limT; omega
theorem limT_n {x : TermL} (h : ¬ ((((x.words.length : Int) = 0 ∨ (x.words.length : Int) > 8) ∨ (x.req.length : Int) > 8) ∨ (x.forb.length : Int) > 8)) : ¬ limT x := by unfold limT; omega
theorem wordE_1 {c : List Clas} {w : Ende} (h : ¬ plainP w.strip) : wordE c w = 1 := if_pos h
theorem wordE_4 {c : List Clas} {w : Ende} (h : plainP w.strip) (h2 : w.add ≠ [] ∧ findC c w.add < 0) : wordE c w = 4 := by unfold wordE; rw [if_neg (fun q => q h), if_pos h2]
theorem wordE_0 {c : List Clas} {w : Ende} (h : plainP w.strip) (h2 : ¬ (w.add ≠ [] ∧ findC c w.add < 0)) : wordE c w = 0 := by unfold wordE; rw [if_neg (fun q => q h), if_neg h2]
theorem phrE_1 {s : Str} (h : ¬ phraseOk s) : phrE s = 1 := if_neg h
theorem phrE_0 {s : Str} (h : phraseOk s) : phrE s = 0 := if_pos h
theorem words_zero {s : Str} : (((wordsP s).length : Nat) : Int) = 0 ↔ ¬ phraseOk s := by
  constructor
  · intro h q
    rw [words_ok q] at h
    have := splitS_ne s
    have h2 : (splitS s).length ≠ 0 := fun e => this (List.length_eq_zero_iff.1 e)
    omega
  · intro h; rw [words_no h]; rfl
theorem termE_lim {c : List Clas} {x : TermL} (h : limT x) : termE c x = 3 := if_pos h
theorem termE_word {c : List Clas} {x : TermL} {k : Nat} {e : Int} (h : ¬ limT x) (hk : k < x.words.length) (hn : ∀ j, j < k → wordE c (x.words.getD j default) = 0) (he : wordE c (x.words.getD k default) = e) (h0 : e ≠ 0) : termE c x = e := by
  have h1 := firstM_at hk hn he h0
  unfold termE; rw [if_neg h, if_pos (by rw [h1]; exact h0), h1]
theorem termE_phr {c : List Clas} {x : TermL} {i k : Nat} (h : ¬ limT x) (hw : ∀ j, j < x.words.length → wordE c (x.words.getD j default) = 0) (hi : i < 2) (hn : ∀ j, j < i → firstM phrE ([x.req, x.forb].getD j default) = 0)
    (hk : k < ([x.req, x.forb].getD i default).length) (hp : ∀ j, j < k → phrE (([x.req, x.forb].getD i default).getD j default) = 0) (he : ¬ phraseOk (([x.req, x.forb].getD i default).getD k default)) : termE c x = 1 := by
  have h1 := firstM_ok hw
  have h2 := firstM_at hk hp (phrE_1 he) (by decide)
  unfold termE; rw [if_neg h, if_neg (by rw [h1]; exact fun q => q rfl)]
  exact firstM_at hi hn h2 (by decide)
theorem termE_ok {c : List Clas} {x : TermL} (h : ¬ limT x) (hw : ∀ j, j < x.words.length → wordE c (x.words.getD j default) = 0) (hn : ∀ j, j < 2 → firstM phrE ([x.req, x.forb].getD j default) = 0) : termE c x = 0 := by
  have h1 := firstM_ok hw
  unfold termE; rw [if_neg h, if_neg (by rw [h1]; exact fun q => q rfl)]
  exact firstM_ok hn
theorem validT_c {ts : List TermL} {c : List Clas} (h : validC c ≠ 0) : validT ts c = validC c := if_pos h
theorem validT_lim {ts : List TermL} {c : List Clas} (h : validC c = 0) (h2 : 128 < ts.length) : validT ts c = 3 := by unfold validT; rw [if_neg (fun q => q h), if_pos h2]
theorem validT_at {ts : List TermL} {c : List Clas} {k : Nat} {e : Int} (h : validC c = 0) (h2 : ¬ 128 < ts.length) (hk : k < ts.length) (hn : ∀ j, j < k → termE c (ts.getD j default) = 0) (he : termE c (ts.getD k default) = e) (h0 : e ≠ 0) : validT ts c = e := by
  unfold validT; rw [if_neg (fun q => q h), if_neg h2]; exact firstM_at hk hn he h0
theorem validT_ok {ts : List TermL} {c : List Clas} (h : validC c = 0) (h2 : ¬ 128 < ts.length) (hn : ∀ j, j < ts.length → termE c (ts.getD j default) = 0) : validT ts c = 0 := by
  unfold validT; rw [if_neg (fun q => q h), if_neg h2]; exact firstM_ok hn
end Go.Proofs.YtkklomiipkipnaaGreatDoor
namespace Go.Proofs.YtkklomiipkipnaaGreatDoor
open Go.RowKit Go.Vc
theorem pl_128 : placesP Tryz.prog 128 = some [(0, 1), (1, 1)] := by kernel_rfl
theorem ty_128 : tyP Tryz.prog 128 = some (2, 48, some (.agg #[(.slice none 0 0), (.slice none 0 0)])) := by kernel_rfl
theorem jud_two {x : TermL} (h : JudT x) {i k : Nat} (hi : i < 2) (hk : k < (([x.req, x.forb] : List (List Str)).getD i default).length) : ((([x.req, x.forb] : List (List Str)).getD i default).getD k default).length ≤ 1000000000 := by
  rcases (show i = 0 ∨ i = 1 by omega) with rfl | rfl
  · exact h.2.2.1 _ (getD_in hk)
  · exact h.2.2.2 _ (getD_in hk)
set_option maxHeartbeats 1000000 in
theorem checked_calls {aox : Option Addr} {bx offx capx : Nat} {aoq : Option Addr} {bq offq capq : Nat} {aof : Option Addr} {bf offf capf : Nat} {x : TermL} {ao : Option Addr} {b off cap : Nat} {c : List Clas} {w0 : World} (hw : RowE w0 aox bx offx capx x.words) (hq : RowE w0 aoq bq offq capq x.req) (hf : RowE w0 aof bf offf capf x.forb) (hc : RowR w0 ao b off cap c) :
    Calls Tryz.prog 55 #[.agg #[.slice aox x.words.length capx, .slice aoq x.req.length capq, .slice aof x.forb.length capf], .slice ao c.length cap] w0 fun e w' => e = .returned (.int .i64 (termE c x)) ∧ Evo w0 w' [] := by
 refine calls_enter (n := 75) (args := [.agg #[.slice aox x.words.length capx, .slice aoq x.req.length capq, .slice aof x.forb.length capf], .slice ao c.length cap]) Tryz.func55 rfl Tryz.ntmps55 rfl ?_
 have hV : Evo w0 w0 [] := Evo.refl _ _
 have hw0 := keepE hw
 have hbd_hw := hw.bd
 have hq0 := keepE hq
 have hbd_hq := hq.bd
 have hf0 := keepE hf
 have hbd_hf := hf.bd
 have hc0 := hc.keep
 have hbd_hc := hc.bd
 refine r_seq ?_
 refine r_region ?_
 refine r_box (vs := [_, _, _]) (by exact rfl) (by exact rfl) rfl ?_
 intro b1 w2 heb1 hEw2 hbb1 hzb1
 have hs_w2 := (hEw2).size
 replace hV := evo_step0 hV hEw2
 replace hw := hw0 _ hV
 replace hq := hq0 _ hV
 replace hf := hf0 _ hV
 replace hc := hc0.now hV
 have hAb1 := hbb1.at
 refine r_op rfl rfl rfl (run_asg (v := .int _ _) rfl (by exact rfl)) ?_
 refine r_nil ?_
 refine r_seq ?_
 refine r_seq ?_
 refine r_region ?_
 refine r_op rfl rfl rfl (run_fa rfl (by exact rfl) fo_42_0) ?_
 refine r_op rfl rfl rfl (run_ld1 rfl ag_39 (by exact rfl) (hAb1.cell 0 (by exact rfl))) ?_
 refine r_op rfl rfl rfl (run_lenSl rfl (by exact rfl) Tryz.underlying39) ?_
 refine r_op rfl rfl rfl (run_eql rfl (by exact rfl) (by exact rfl)) ?_
 refine r_op rfl rfl rfl (run_mv (v := .bool _) rfl (by exact rfl)) ?_
 refine r_g rfl (wantF (by exact rfl)) rfl (fun hg => run_fa rfl (by exact rfl) fo_42_0) ?_
 refine r_g rfl (wantF (by exact rfl)) rfl (fun hg => run_ld1 rfl ag_39 (glv (by exact rfl) (fun h => h) hg) (hAb1.cell 0 (by exact rfl))) ?_
 refine r_g rfl (wantF (by exact rfl)) rfl (fun hg => run_lenSl rfl (glv (by exact rfl) (fun h => h) hg) Tryz.underlying39) ?_
 refine r_g rfl (wantF (by exact rfl)) rfl (fun hg => run_gtr rfl (glv (by exact rfl) (fun h => h) hg) (by exact rfl)) ?_
 refine r_op rfl rfl rfl (run_pick_or rfl (by exact rfl) rfl (fun hq => glv (by exact rfl) (fun h => h) hq)) ?_
 refine r_op rfl rfl rfl (run_mv (v := .bool _) rfl (by exact rfl)) ?_
 refine r_g rfl (wantF (by exact rfl)) rfl (fun hg => run_fa rfl (by exact rfl) fo_42_1) ?_
 refine r_g rfl (wantF (by exact rfl)) rfl (fun hg => run_ld1 rfl ag_40 (glv (by exact rfl) (fun h => h) hg) (hAb1.cell 1 (by exact rfl))) ?_
 refine r_g rfl (wantF (by exact rfl)) rfl (fun hg => run_lenSl rfl (glv (by exact rfl) (fun h => h) hg) Tryz.underlying40) ?_
 refine r_g rfl (wantF (by exact rfl)) rfl (fun hg => run_gtr rfl (glv (by exact rfl) (fun h => h) hg) (by exact rfl)) ?_
 refine r_op rfl rfl rfl (run_pick_or rfl (by exact rfl) rfl (fun hq => glv (by exact rfl) (fun h => h) hq)) ?_
 refine r_op rfl rfl rfl (run_mv (v := .bool _) rfl (by exact rfl)) ?_
 refine r_g rfl (wantF (by exact rfl)) rfl (fun hg => run_fa rfl (by exact rfl) fo_42_2) ?_
 refine r_g rfl (wantF (by exact rfl)) rfl (fun hg => run_ld1 rfl ag_40 (glv (by exact rfl) (fun h => h) hg) (hAb1.cell 2 (by exact rfl))) ?_
 refine r_g rfl (wantF (by exact rfl)) rfl (fun hg => run_lenSl rfl (glv (by exact rfl) (fun h => h) hg) Tryz.underlying40) ?_
 refine r_g rfl (wantF (by exact rfl)) rfl (fun hg => run_gtr rfl (glv (by exact rfl) (fun h => h) hg) (by exact rfl)) ?_
 refine r_op rfl rfl rfl (run_pick_or rfl (by exact rfl) rfl (fun hq => glv (by exact rfl) (fun h => h) hq)) ?_
 refine r_nil ?_
 refine r_cond (by exact rfl) (fun hc3 => ?_) (fun hc3 => ?_)
 ·skip
  refine r_seq ?_
  refine r_region ?_
  refine r_op rfl rfl rfl (run_asg (v := .int _ _) rfl (by exact rfl)) ?_
  refine r_nil ?_
  refine r_ret (res1 (v := .int _ _) rfl (by exact rfl)) ?_
  exact ⟨ret_int (termE_lim (limT_z hc3)).symm, hV⟩
 ·skip
  refine r_skip ?_
  refine r_seq ?_
  refine r_seq ?_
  refine r_region ?_
  refine r_op rfl rfl rfl (run_fa rfl (by exact rfl) fo_42_0) ?_
  refine r_op rfl rfl rfl (run_ld1 rfl ag_39 (by exact rfl) (hAb1.cell 0 (by exact rfl))) ?_
  refine r_op rfl rfl rfl (run_lenSl rfl (by exact rfl) Tryz.underlying39) ?_
  refine r_op rfl rfl rfl (run_mv (v := .int _ _) rfl (by exact rfl)) ?_
  refine r_nil ?_
  refine r_block ?_
  have hnl : ¬ limT x := limT_n hc3
  refine r_loop (α := Nat) [4, 6, 36, 37, 38, 39, 40, 41, 42, 43, 44, 45, 46, 47, 48, 49, 50, 51, 52, 53, 54] (fun k g w => g 36 = .int .i64 (k : Nat) ∧ k ≤ x.words.length ∧ Blk w b1 42 [.slice aox x.words.length capx, .slice aoq x.req.length capq, .slice aof x.forb.length capf] ∧ At w b1 0 [.slice aox x.words.length capx, .slice aoq x.req.length capq, .slice aof x.forb.length capf] ∧ (∀ j, j < k → wordE c (x.words.getD j default) = 0) ∧ w2.heap.size ≤ w.heap.size ∧ Evo w0 w []) (fun k => x.words.length - k) 0 ?_ ?_
  ·refine ⟨(by first | exact rfl | exact congrArg (Value.int _) (by omega) | exact congrArg (Value.int _) (by dsimp only; omega) | exact congrArg (Value.int _) (by simp) | exact congrArg S (by simp)), (by first | assumption | omega | (dsimp only; omega) | (simp; done)), hbb1, hbb1.at, (fun j h => by omega), (by first | assumption | omega | (dsimp only; omega) | (simp; done)), hV⟩
  ·rintro k g w5 ⟨hj6, hk_k, hbb1, hAb1, hnw, hzl4, hV⟩
   have hs_w5hV := hV.size
   have hlt7 := hbb1.lt
   replace hw := hw0 _ hV
   replace hq := hq0 _ hV
   replace hf := hf0 _ hV
   replace hc := hc0.now hV
   refine r_know (i := 36) (v := .int .i64 (k : Nat)) (by exact hj6) ?_
   refine r_seq ?_
   refine r_region ?_
   refine r_op rfl rfl rfl (run_lss rfl (by exact rfl) (by exact rfl)) ?_
   refine r_nil ?_
   refine r_seq ?_
   refine r_cond (by exact rfl) (fun hc8 => ?_) (fun hc8 => ?_)
   ·skip
    refine r_skip ?_
    refine r_seq ?_
    refine r_block ?_
    refine r_seq ?_
    refine r_region ?_
    refine r_op rfl rfl rfl (run_ix (k) rfl Tryz.underlying39 ty_60 (by exact rfl) (by exact rfl) (by first | exact rfl | omega) (by omega) (hw.addr (i := k) (by omega))) ?_
    have hA90 := fun (w' : World) (h : Evo w0 w' []) => (hw0 w' h).atD (k) (by omega)
    have hA9 := hA90 _ hV
    refine r_op rfl rfl rfl (run_ldN rfl ag_60 ty_60 (by exact rfl) rfl hA9) ?_
    refine r_var (zs := [_, _]) (vs := [_, _]) ty_60 (by exact rfl) rfl (by exact rfl) (fun _ => rfl) (by exact rfl) rfl rfl (by exact rfl) ?_
    intro b10 w11 heb10 hEw11 hbb10 hzb10
    have hs_w11 := (hEw11).size
    replace hV := evo_step0 hV hEw11
    replace hw := hw0 _ hV
    replace hq := hq0 _ hV
    replace hf := hf0 _ hV
    replace hc := hc0.now hV
    replace hbb1 := hbb1.evo0 hEw11
    replace hAb1 := hAb1.evo0 hEw11
    have hAb10 := hbb10.at
    refine r_nil ?_
    refine r_seq ?_
    refine r_seq ?_
    refine r_region ?_
    refine r_op rfl rfl rfl (run_fa rfl (by exact rfl) fo_60_0) ?_
    refine r_op rfl rfl rfl (run_ld1 rfl ag_9 (by exact rfl) (hAb10.cell 0 (by exact rfl))) ?_
    refine r_opcall rfl rfl rfl (run_callf (vs := [S _]) rfl (by exact rfl) Tryz.func72 rfl (by kernel_rfl)) (tplain_calls ) ?_
    rintro e w12 ⟨rfl, hE12⟩
    refine ⟨_, rfl, ?_⟩
    have hs_w12 := (hE12).size
    replace hV := evo_step0 hV hE12
    replace hw := hw0 _ hV
    replace hq := hq0 _ hV
    replace hf := hf0 _ hV
    replace hc := hc0.now hV
    replace hbb1 := hbb1.evo0 hE12
    replace hAb1 := hAb1.evo0 hE12
    replace hbb10 := hbb10.evo0 hE12
    replace hAb10 := hAb10.evo0 hE12
    refine r_op rfl rfl rfl (run_not rfl (by exact rfl)) ?_
    refine r_nil ?_
    refine r_cond (by exact rfl) (fun hc13 => ?_) (fun hc13 => ?_)
    ·skip
     refine r_seq ?_
     refine r_region ?_
     refine r_op rfl rfl rfl (run_asg (v := .int _ _) rfl (by exact rfl)) ?_
     refine r_nil ?_
     refine r_ret (res1 (v := .int _ _) rfl (by exact rfl)) ?_
     exact ⟨ret_int (termE_word hnl (by omega) hnw (wordE_1 (by have h9 := hc13; simpa using h9)) (by decide)).symm, hV⟩
    ·skip
     refine r_skip ?_
     refine r_seq ?_
     have hpl : plainP (x.words.getD k default).strip := by have h9 := hc13; simpa using h9
     refine r_region ?_
     refine r_op rfl rfl rfl (run_fa rfl (by exact rfl) fo_60_1) ?_
     refine r_op rfl rfl rfl (run_ld1 rfl ag_9 (by exact rfl) (hAb10.cell 1 (by exact rfl))) ?_
     refine r_op rfl rfl rfl (run_sneq rfl (by exact rfl) (by exact rfl)) ?_
     refine r_op rfl rfl rfl (run_mv (v := .bool _) rfl (by exact rfl)) ?_
     refine r_g rfl (wantT (by exact rfl)) rfl (fun hg => run_mv (v := .slice _ _ _) rfl (by exact rfl)) ?_
     refine r_g rfl (wantT (by exact rfl)) rfl (fun hg => run_fa rfl (by exact rfl) fo_60_1) ?_
     refine r_g rfl (wantT (by exact rfl)) rfl (fun hg => run_ld1 rfl ag_9 (glv (by exact rfl) (fun h => h) hg) (hAb10.cell 1 (by exact rfl))) ?_
     refine r_gcall rfl (wantT (by exact rfl)) rfl (fun hg => run_callf rfl (argcons (v := .slice _ _ _) (glv (by exact rfl) (fun h => h) hg) (argcons (v := S _) (glv (by exact rfl) (fun h => h) hg) (rfl))) Tryz.func84 rfl (by kernel_rfl)) (fun hg => (find_calls hc).mono (fun e w' h => ⟨h.1, h.2⟩)) (fun w14 hE15 => ?_)
     have hs_w14 := (hE15).size
     replace hV := evo_step0 hV hE15
     replace hw := hw0 _ hV
     replace hq := hq0 _ hV
     replace hf := hf0 _ hV
     replace hc := hc0.now hV
     replace hbb1 := hbb1.evo0 hE15
     replace hAb1 := hAb1.evo0 hE15
     refine r_g rfl (wantT (by exact rfl)) rfl (fun hg => run_lss rfl (glv (by exact rfl) (fun h => h) hg) (by exact rfl)) ?_
     refine r_op rfl rfl rfl (run_pick_and rfl (by exact rfl) (fun hq => glv (by exact rfl) (fun h => h) hq) rfl) ?_
     refine r_nil ?_
     refine r_cond (by exact rfl) (fun hc16 => ?_) (fun hc16 => ?_)
     ·skip
      refine r_seq ?_
      refine r_region ?_
      refine r_op rfl rfl rfl (run_asg (v := .int _ _) rfl (by exact rfl)) ?_
      refine r_nil ?_
      refine r_ret (res1 (v := .int _ _) rfl (by exact rfl)) ?_
      exact ⟨ret_int (termE_word hnl (by omega) hnw (wordE_4 hpl hc16) (by decide)).symm, hV⟩
     ·skip
      refine r_skip ?_
      refine r_blk ?_
      refine r_region ?_
      refine r_op rfl rfl rfl (run_add rfl (by exact rfl) (by exact rfl) (by omega) (by omega)) ?_
      refine r_op rfl rfl rfl (run_mv (v := .int _ _) rfl (by exact rfl)) ?_
      refine r_nil ?_
      refine r_again (k + 1) ?_ ?_ ?_
      ·first | omega | (dsimp only; omega)
      ·refine ⟨(by first | exact rfl | exact congrArg (Value.int _) (by omega) | exact congrArg (Value.int _) (by dsimp only; omega) | exact congrArg (Value.int _) (by simp) | exact congrArg S (by simp)), (by first | assumption | omega | (dsimp only; omega) | (simp; done)), hbb1, hbb1.at, (upto0 hnw (wordE_0 hpl hc16)), (by first | assumption | omega | (dsimp only; omega) | (simp; done)), hV⟩
      ·repeat (first | (with_reducible exact Agree.merge _ _ _) | (with_reducible exact Agree.refl _ _) | (with_reducible refine Agree.upd ?_ _ _ rfl) | ((with_reducible refine Agree.inner ?_ ?_); (kernel_rfl)))
   ·skip
    refine r_exit rfl ?_
    refine r_seq ?_
    refine r_seq ?_
    refine r_region ?_
    refine r_op rfl rfl rfl (run_fa rfl (by exact rfl) fo_42_1) ?_
    refine r_op rfl rfl rfl (run_ld1 rfl ag_40 (by exact rfl) (hAb1.cell 1 (by exact rfl))) ?_
    refine r_op rfl rfl rfl (run_fa rfl (by exact rfl) fo_42_2) ?_
    refine r_op rfl rfl rfl (run_ld1 rfl ag_40 (by exact rfl) (hAb1.cell 2 (by exact rfl))) ?_
    refine r_op rfl rfl rfl (run_bld (pv := [(0, .slice aoq x.req.length capq), (1, .slice aof x.forb.length capf)]) (zs := [_, _]) (cells := [_, _]) rfl ty_128 (by exact rfl) pl_128 (by exact rfl) (by exact rfl)) ?_
    refine r_op rfl rfl rfl (run_mv (v := .int _ _) rfl (by exact rfl)) ?_
    refine r_nil ?_
    refine r_block ?_
    have hnw2 : ∀ j, j < x.words.length → wordE c (x.words.getD j default) = 0 := fun j hj => hnw j (by omega)
    refine r_loop (α := Nat) [4, 8, 10, 60, 61, 62, 63, 64, 65, 66, 67, 68, 69, 70, 71, 72, 73, 74] (fun i g w => g 60 = .int .i64 (i : Nat) ∧ i ≤ 2 ∧ (∀ j, j < i → firstM phrE (([x.req, x.forb] : List (List Str)).getD j default) = 0) ∧ w5.heap.size ≤ w.heap.size ∧ Evo w0 w []) (fun i => 2 - i) 0 ?_ ?_
    ·refine ⟨(by first | exact rfl | exact congrArg (Value.int _) (by omega) | exact congrArg (Value.int _) (by dsimp only; omega) | exact congrArg (Value.int _) (by simp) | exact congrArg S (by simp)), (by first | assumption | omega | (dsimp only; omega) | (simp; done)), (fun j h => by omega), (by first | assumption | omega | (dsimp only; omega) | (simp; done)), hV⟩
    ·rintro i g w18 ⟨hj19, hk_i, hno, hzl17, hV⟩
     have hs_w18hV := hV.size
     replace hw := hw0 _ hV
     replace hq := hq0 _ hV
     replace hf := hf0 _ hV
     replace hc := hc0.now hV
     refine r_know (i := 60) (v := .int .i64 (i : Nat)) (by exact hj19) ?_
     refine r_seq ?_
     refine r_region ?_
     refine r_op rfl rfl rfl (run_lss rfl (by exact rfl) (by exact rfl)) ?_
     refine r_nil ?_
     refine r_seq ?_
     refine r_cond (by exact rfl) (fun hc20 => ?_) (fun hc20 => ?_)
     ·skip
      refine r_skip ?_
      refine r_seq ?_
      refine r_block ?_
      refine r_seq ?_
      obtain ⟨aoL, bL, offL, capL, hvL, hL0⟩ : ∃ ao9 b9 off9 cap9, ([.slice aoq x.req.length capq, .slice aof x.forb.length capf] : List Value)[i]? = some (.slice ao9 (([x.req, x.forb] : List (List Str)).getD i default).length cap9) ∧ ∀ w9, Evo w0 w9 [] → RowE w9 ao9 b9 off9 cap9 (([x.req, x.forb] : List (List Str)).getD i default) := by
        rcases (show i = 0 ∨ i = 1 by omega) with rfl | rfl
        · exact ⟨_, _, _, _, rfl, hq0⟩
        · exact ⟨_, _, _, _, rfl, hf0⟩
      have hL := hL0 _ hV; have hbd_hL := hL.bd
      refine r_region ?_
      refine r_op rfl rfl rfl (run_ixA1 (v := .slice aoL (([x.req, x.forb] : List (List Str)).getD i default).length capL) (i) rfl Tryz.underlying128 ty_40 ag_40 (by exact rfl) (by exact rfl) (by first | exact rfl | omega) (by omega) (by exact hvL)) ?_
      refine r_op rfl rfl rfl (run_asg (v := .slice aoL (([x.req, x.forb] : List (List Str)).getD i default).length capL) rfl (by exact rfl)) ?_
      refine r_nil ?_
      refine r_seq ?_
      refine r_region ?_
      refine r_op rfl rfl rfl (run_mv (v := .slice aoL (([x.req, x.forb] : List (List Str)).getD i default).length capL) rfl (by exact rfl)) ?_
      refine r_op rfl rfl rfl (run_lenSl rfl (by exact rfl) Tryz.underlying40) ?_
      refine r_op rfl rfl rfl (run_mv (v := .int _ _) rfl (by exact rfl)) ?_
      refine r_nil ?_
      refine r_block ?_
      refine r_loop (α := Nat) [4, 10, 65, 66, 67, 68, 69, 70, 71, 72, 73] (fun k g w => g 65 = .int .i64 (k : Nat) ∧ k ≤ (([x.req, x.forb] : List (List Str)).getD i default).length ∧ (∀ j, j < k → phrE ((([x.req, x.forb] : List (List Str)).getD i default).getD j default) = 0) ∧ w18.heap.size ≤ w.heap.size ∧ Evo w0 w []) (fun k => (([x.req, x.forb] : List (List Str)).getD i default).length - k) 0 ?_ ?_
      ·refine ⟨(by first | exact rfl | exact congrArg (Value.int _) (by omega) | exact congrArg (Value.int _) (by dsimp only; omega) | exact congrArg (Value.int _) (by simp) | exact congrArg S (by simp)), (by first | assumption | omega | (dsimp only; omega) | (simp; done)), (fun j h => by omega), (by first | assumption | omega | (dsimp only; omega) | (simp; done)), hV⟩
      ·rintro k g w22 ⟨hj23, hk_k, hnp, hzl21, hV⟩
       have hs_w22hV := hV.size
       replace hw := hw0 _ hV
       replace hq := hq0 _ hV
       replace hf := hf0 _ hV
       replace hc := hc0.now hV
       replace hL := hL0 _ hV
       refine r_know (i := 65) (v := .int .i64 (k : Nat)) (by exact hj23) ?_
       refine r_seq ?_
       refine r_region ?_
       refine r_op rfl rfl rfl (run_lss rfl (by exact rfl) (by exact rfl)) ?_
       refine r_nil ?_
       refine r_seq ?_
       refine r_cond (by exact rfl) (fun hc24 => ?_) (fun hc24 => ?_)
       ·skip
        refine r_skip ?_
        refine r_seq ?_
        refine r_block ?_
        refine r_seq ?_
        refine r_region ?_
        refine r_op rfl rfl rfl (run_ix (k) rfl Tryz.underlying40 ty_9 (by exact rfl) (by exact rfl) (by first | exact rfl | omega) (by omega) (hL.addr (i := k) (by omega))) ?_
        have hA250 := fun (w' : World) (h : Evo w0 w' []) => (hL0 w' h).atD (k) (by omega)
        have hA25 := hA250 _ hV
        refine r_op rfl rfl rfl (run_ld1 rfl ag_9 (by exact rfl) (hA25.cell 0 (by exact rfl))) ?_
        refine r_op rfl rfl rfl (run_asg (v := S _) rfl (by exact rfl)) ?_
        refine r_nil ?_
        refine r_seq ?_
        refine r_region ?_
        refine r_op rfl rfl rfl (run_mv (v := S _) rfl (by exact rfl)) ?_
        refine r_opcall rfl rfl rfl (run_callf (vs := [S _]) rfl (by exact rfl) Tryz.func42 rfl (by kernel_rfl)) twords_calls ?_
        rintro e w26 ⟨ao26, bs26, off26, cap26, rfl, hE26, hr26⟩
        refine ⟨_, rfl, ?_⟩
        have hs_w26 := (hE26).size
        replace hV := evo_step0 hV hE26
        replace hw := hw0 _ hV
        replace hq := hq0 _ hV
        replace hf := hf0 _ hV
        replace hc := hc0.now hV
        replace hL := hL0 _ hV
        refine r_op rfl rfl rfl (run_lenSl rfl (by exact rfl) Tryz.underlying40) ?_
        refine r_op rfl rfl rfl (run_eql rfl (by exact rfl) (by exact rfl)) ?_
        refine r_nil ?_
        refine r_cond (by exact rfl) (fun hc27 => ?_) (fun hc27 => ?_)
        ·skip
         refine r_seq ?_
         refine r_region ?_
         refine r_op rfl rfl rfl (run_asg (v := .int _ _) rfl (by exact rfl)) ?_
         refine r_nil ?_
         refine r_ret (res1 (v := .int _ _) rfl (by exact rfl)) ?_
         exact ⟨ret_int (termE_phr hnl hnw2 (by omega) hno (by omega) hnp (words_zero.1 hc27)).symm, hV⟩
        ·skip
         refine r_skip ?_
         refine r_blk ?_
         refine r_region ?_
         refine r_op rfl rfl rfl (run_add rfl (by exact rfl) (by exact rfl) (by omega) (by omega)) ?_
         refine r_op rfl rfl rfl (run_mv (v := .int _ _) rfl (by exact rfl)) ?_
         refine r_nil ?_
         refine r_again (k + 1) ?_ ?_ ?_
         ·first | omega | (dsimp only; omega)
         ·refine ⟨(by first | exact rfl | exact congrArg (Value.int _) (by omega) | exact congrArg (Value.int _) (by dsimp only; omega) | exact congrArg (Value.int _) (by simp) | exact congrArg S (by simp)), (by first | assumption | omega | (dsimp only; omega) | (simp; done)), (upto0 hnp (phrE_0 (Classical.not_not.1 (fun q => hc27 (words_zero.2 q))))), (by first | assumption | omega | (dsimp only; omega) | (simp; done)), hV⟩
         ·repeat (first | (with_reducible exact Agree.merge _ _ _) | (with_reducible exact Agree.refl _ _) | (with_reducible refine Agree.upd ?_ _ _ rfl) | ((with_reducible refine Agree.inner ?_ ?_); (kernel_rfl)))
       ·skip
        refine r_exit rfl ?_
        refine r_blk ?_
        refine r_region ?_
        refine r_op rfl rfl rfl (run_add rfl (by exact rfl) (by exact rfl) (by omega) (by omega)) ?_
        refine r_op rfl rfl rfl (run_mv (v := .int _ _) rfl (by exact rfl)) ?_
        refine r_nil ?_
        refine r_again (i + 1) ?_ ?_ ?_
        ·first | omega | (dsimp only; omega)
        ·refine ⟨(by first | exact rfl | exact congrArg (Value.int _) (by omega) | exact congrArg (Value.int _) (by dsimp only; omega) | exact congrArg (Value.int _) (by simp) | exact congrArg S (by simp)), (by first | assumption | omega | (dsimp only; omega) | (simp; done)), (upto0 hno (firstM_ok (fun j hj => hnp j (by omega)))), (by first | assumption | omega | (dsimp only; omega) | (simp; done)), hV⟩
        ·repeat (first | (with_reducible exact Agree.merge _ _ _) | (with_reducible exact Agree.refl _ _) | (with_reducible refine Agree.upd ?_ _ _ rfl) | ((with_reducible refine Agree.inner ?_ ?_); (kernel_rfl)))
     ·skip
      refine r_exit rfl ?_
      refine r_seq ?_
      refine r_region ?_
      refine r_op rfl rfl rfl (run_asg (v := .int _ _) rfl (by exact rfl)) ?_
      refine r_nil ?_
      refine r_ret (res1 (v := .int _ _) rfl (by exact rfl)) ?_
      exact ⟨ret_int (termE_ok hnl hnw2 (fun j hj => hno j (by omega))).symm, hV⟩
set_option maxHeartbeats 1000000 in
theorem tvalidate_calls {aot : Option Addr} {btt offt capt : Nat} {ts : List TermL} {ao : Option Addr} {b off cap : Nat} {c : List Clas} {w0 : World} (ht : RowR w0 aot btt offt capt ts) (hc : RowR w0 ao b off cap c) :
    Calls Tryz.prog 30 #[.slice aot ts.length capt, .slice ao c.length cap] w0 fun e w' => e = .returned (.int .i64 (validT ts c)) ∧ Evo w0 w' [] := by
 refine calls_enter (n := 30) (args := [.slice aot ts.length capt, .slice ao c.length cap]) Tryz.func30 rfl Tryz.ntmps30 rfl ?_
 have hV : Evo w0 w0 [] := Evo.refl _ _
 have ht0 := ht.keep
 have hbd_ht := ht.bd
 have hc0 := hc.keep
 have hbd_hc := hc.bd
 refine r_seq ?_
 refine r_region ?_
 refine r_op rfl rfl rfl (run_asg (v := .int _ _) rfl (by exact rfl)) ?_
 refine r_nil ?_
 refine r_seq ?_
 refine r_seq ?_
 refine r_region ?_
 refine r_op rfl rfl rfl (run_mv (v := .slice _ _ _) rfl (by exact rfl)) ?_
 refine r_opcall rfl rfl rfl (run_callf (vs := [.slice _ _ _]) rfl (by exact rfl) Tryz.func54 rfl (by kernel_rfl)) (validate_calls hc) ?_
 rintro e w1 ⟨rfl, hE1⟩
 refine ⟨_, rfl, ?_⟩
 have hs_w1 := (hE1).size
 replace hV := evo_step0 hV hE1
 replace ht := ht0.now hV
 replace hc := hc0.now hV
 refine r_op rfl rfl rfl (run_asg (v := .int _ _) rfl (by exact rfl)) ?_
 refine r_nil ?_
 refine r_seq ?_
 refine r_region ?_
 refine r_op rfl rfl rfl (run_mv (v := .int _ _) rfl (by exact rfl)) ?_
 refine r_op rfl rfl rfl (run_neq rfl (by exact rfl) (by exact rfl)) ?_
 refine r_nil ?_
 refine r_cond (by exact rfl) (fun hc2 => ?_) (fun hc2 => ?_)
 ·skip
  refine r_seq ?_
  refine r_region ?_
  refine r_op rfl rfl rfl (run_mv (v := .int _ _) rfl (by exact rfl)) ?_
  refine r_op rfl rfl rfl (run_asg (v := .int _ _) rfl (by exact rfl)) ?_
  refine r_nil ?_
  refine r_ret (res1 (v := .int _ _) rfl (by exact rfl)) ?_
  exact ⟨ret_int (validT_c hc2).symm, hV⟩
 ·skip
  refine r_skip ?_
  refine r_seq ?_
  refine r_seq ?_
  have hvc := hc2
  refine r_region ?_
  refine r_op rfl rfl rfl (run_mv (v := .slice _ _ _) rfl (by exact rfl)) ?_
  refine r_op rfl rfl rfl (run_lenSl rfl (by exact rfl) Tryz.underlying22) ?_
  refine r_op rfl rfl rfl (run_gtr rfl (by exact rfl) (by exact rfl)) ?_
  refine r_nil ?_
  refine r_cond (by exact rfl) (fun hc3 => ?_) (fun hc3 => ?_)
  ·skip
   refine r_seq ?_
   refine r_region ?_
   refine r_op rfl rfl rfl (run_asg (v := .int _ _) rfl (by exact rfl)) ?_
   refine r_nil ?_
   refine r_ret (res1 (v := .int _ _) rfl (by exact rfl)) ?_
   exact ⟨ret_int (validT_lim (Classical.not_not.1 hvc) (by omega)).symm, hV⟩
  ·skip
   refine r_skip ?_
   refine r_seq ?_
   refine r_seq ?_
   refine r_region ?_
   refine r_op rfl rfl rfl (run_mv (v := .slice _ _ _) rfl (by exact rfl)) ?_
   refine r_op rfl rfl rfl (run_lenSl rfl (by exact rfl) Tryz.underlying22) ?_
   refine r_op rfl rfl rfl (run_mv (v := .int _ _) rfl (by exact rfl)) ?_
   refine r_nil ?_
   refine r_block ?_
   refine r_loop (α := Nat) [4, 7, 8, 19, 20, 21, 22, 23, 24, 25, 26, 27, 28, 29] (fun k g w => g 19 = .int .i64 (k : Nat) ∧ k ≤ ts.length ∧ (∀ j, j < k → termE c (ts.getD j default) = 0) ∧ w1.heap.size ≤ w.heap.size ∧ Evo w0 w []) (fun k => ts.length - k) 0 ?_ ?_
   ·refine ⟨(by first | exact rfl | exact congrArg (Value.int _) (by omega) | exact congrArg (Value.int _) (by dsimp only; omega) | exact congrArg (Value.int _) (by simp) | exact congrArg S (by simp)), (by first | assumption | omega | (dsimp only; omega) | (simp; done)), (fun j h => by omega), (by first | assumption | omega | (dsimp only; omega) | (simp; done)), hV⟩
   ·rintro k g w5 ⟨hj6, hk_k, hno, hzl4, hV⟩
    have hs_w5hV := hV.size
    replace ht := ht0.now hV
    replace hc := hc0.now hV
    refine r_know (i := 19) (v := .int .i64 (k : Nat)) (by exact hj6) ?_
    refine r_seq ?_
    refine r_region ?_
    refine r_op rfl rfl rfl (run_lss rfl (by exact rfl) (by exact rfl)) ?_
    refine r_nil ?_
    refine r_seq ?_
    refine r_cond (by exact rfl) (fun hc7 => ?_) (fun hc7 => ?_)
    ·skip
     refine r_skip ?_
     refine r_seq ?_
     refine r_block ?_
     refine r_seq ?_
     refine r_region ?_
     refine r_op rfl rfl rfl (run_ix (k) rfl Tryz.underlying22 ty_42 (by exact rfl) (by exact rfl) (by first | exact rfl | omega) (by omega) (ht.addr (i := k) (by omega))) ?_
     obtain ⟨aoW8, bW8, offW8, capW8, aoQ8, bQ8, offQ8, capQ8, aoF8, bF8, offF8, capF8, hX⟩ := term_atK ht0 (k) (by omega)
     have hA80 := fun (w' : World) (h : Evo w0 w' []) => (hX w' h).1
     have hA8 := hA80 _ hV
     have hW80 := fun (w' : World) (h : Evo w0 w' []) => (hX w' h).2.1
     have hW8 := hW80 _ hV
     have hQ80 := fun (w' : World) (h : Evo w0 w' []) => (hX w' h).2.2.1
     have hQ8 := hQ80 _ hV
     have hF80 := fun (w' : World) (h : Evo w0 w' []) => (hX w' h).2.2.2
     have hF8 := hF80 _ hV
     clear hX
     have hbd_hW8 := hW8.bd
     have hbd_hQ8 := hQ8.bd
     have hbd_hF8 := hF8.bd
     refine r_op rfl rfl rfl (run_ldN rfl ag_42 ty_42 (by exact rfl) rfl hA8) ?_
     refine r_var (zs := [_, _, _]) (vs := [_, _, _]) ty_42 (by exact rfl) rfl (by exact rfl) (fun _ => rfl) (by exact rfl) rfl rfl (by exact rfl) ?_
     intro b9 w10 heb9 hEw10 hbb9 hzb9
     have hs_w10 := (hEw10).size
     replace hV := evo_step0 hV hEw10
     replace ht := ht0.now hV
     replace hc := hc0.now hV
     replace hW8 := hW80 _ hV
     replace hQ8 := hQ80 _ hV
     replace hF8 := hF80 _ hV
     have hAb9 := hbb9.at
     refine r_nil ?_
     refine r_seq ?_
     refine r_region ?_
     refine r_op rfl rfl rfl (run_ldN rfl ag_42 ty_42 (by exact rfl) rfl hAb9) ?_
     refine r_op rfl rfl rfl (run_mv (v := .slice _ _ _) rfl (by exact rfl)) ?_
     refine r_opcall rfl rfl rfl (run_callf (vs := [.agg _, .slice _ _ _]) rfl (by exact rfl) Tryz.func55 rfl (by kernel_rfl)) (checked_calls hW8 hQ8 hF8 hc) ?_
     rintro e w11 ⟨rfl, hE11⟩
     refine ⟨_, rfl, ?_⟩
     have hs_w11 := (hE11).size
     replace hV := evo_step0 hV hE11
     replace ht := ht0.now hV
     replace hc := hc0.now hV
     refine r_op rfl rfl rfl (run_asg (v := .int _ _) rfl (by exact rfl)) ?_
     refine r_nil ?_
     refine r_seq ?_
     refine r_region ?_
     refine r_op rfl rfl rfl (run_mv (v := .int _ _) rfl (by exact rfl)) ?_
     refine r_op rfl rfl rfl (run_neq rfl (by exact rfl) (by exact rfl)) ?_
     refine r_nil ?_
     refine r_cond (by exact rfl) (fun hc12 => ?_) (fun hc12 => ?_)
     ·skip
      refine r_seq ?_
      refine r_region ?_
      refine r_op rfl rfl rfl (run_mv (v := .int _ _) rfl (by exact rfl)) ?_
      refine r_op rfl rfl rfl (run_asg (v := .int _ _) rfl (by exact rfl)) ?_
      refine r_nil ?_
      refine r_ret (res1 (v := .int _ _) rfl (by exact rfl)) ?_
      exact ⟨ret_int (validT_at (k := k) (Classical.not_not.1 hvc) (by omega) (by omega) hno rfl hc12).symm, hV⟩
     ·skip
      refine r_skip ?_
      refine r_blk ?_
      refine r_region ?_
      refine r_op rfl rfl rfl (run_add rfl (by exact rfl) (by exact rfl) (by omega) (by omega)) ?_
      refine r_op rfl rfl rfl (run_mv (v := .int _ _) rfl (by exact rfl)) ?_
      refine r_nil ?_
      refine r_again (k + 1) ?_ ?_ ?_
      ·first | omega | (dsimp only; omega)
      ·refine ⟨(by first | exact rfl | exact congrArg (Value.int _) (by omega) | exact congrArg (Value.int _) (by dsimp only; omega) | exact congrArg (Value.int _) (by simp) | exact congrArg S (by simp)), (by first | assumption | omega | (dsimp only; omega) | (simp; done)), (upto0 hno (Classical.not_not.1 hc12)), (by first | assumption | omega | (dsimp only; omega) | (simp; done)), hV⟩
      ·repeat (first | (with_reducible exact Agree.merge _ _ _) | (with_reducible exact Agree.refl _ _) | (with_reducible refine Agree.upd ?_ _ _ rfl) | ((with_reducible refine Agree.inner ?_ ?_); (kernel_rfl)))
    ·skip
     refine r_exit rfl ?_
     refine r_seq ?_
     refine r_region ?_
     refine r_op rfl rfl rfl (run_asg (v := .int _ _) rfl (by exact rfl)) ?_
     refine r_nil ?_
     refine r_ret (res1 (v := .int _ _) rfl (by exact rfl)) ?_
     exact ⟨ret_int (validT_ok (Classical.not_not.1 hvc) (by omega) (fun j hj => hno j (by omega))).symm, hV⟩
set_option maxHeartbeats 1000000 in
theorem rtvalidate_calls {aot : Option Addr} {btt offt capt : Nat} {ts : List TermL} {ao : Option Addr} {b off cap : Nat} {c : List Clas} {w0 : World} (ht : RowR w0 aot btt offt capt ts) (hc : RowR w0 ao b off cap c) (hjb : ∀ x ∈ ts, JudT x) :
    Calls Tryz.prog 31 #[.slice aot ts.length capt, .slice ao c.length cap] w0 fun e w' => e = .returned (.int .i64 (validT ts c)) ∧ Evo w0 w' [] := by
 refine calls_enter (n := 100) (args := [.slice aot ts.length capt, .slice ao c.length cap]) Tryz.func31 rfl Tryz.ntmps31 rfl ?_
 have hV : Evo w0 w0 [] := Evo.refl _ _
 have ht0 := ht.keep
 have hbd_ht := ht.bd
 have hc0 := hc.keep
 have hbd_hc := hc.bd
 refine r_seq ?_
 refine r_region ?_
 refine r_op rfl rfl rfl (run_asg (v := .int _ _) rfl (by exact rfl)) ?_
 refine r_nil ?_
 refine r_seq ?_
 refine r_seq ?_
 refine r_region ?_
 refine r_op rfl rfl rfl (run_mv (v := .slice _ _ _) rfl (by exact rfl)) ?_
 refine r_opcall rfl rfl rfl (run_callf (vs := [.slice _ _ _]) rfl (by exact rfl) Tryz.func56 rfl (by kernel_rfl)) (rvalidate_calls hc) ?_
 rintro e w1 ⟨rfl, hE1⟩
 refine ⟨_, rfl, ?_⟩
 have hs_w1 := (hE1).size
 replace hV := evo_step0 hV hE1
 replace ht := ht0.now hV
 replace hc := hc0.now hV
 refine r_op rfl rfl rfl (run_asg (v := .int _ _) rfl (by exact rfl)) ?_
 refine r_nil ?_
 refine r_seq ?_
 refine r_region ?_
 refine r_op rfl rfl rfl (run_mv (v := .int _ _) rfl (by exact rfl)) ?_
 refine r_op rfl rfl rfl (run_neq rfl (by exact rfl) (by exact rfl)) ?_
 refine r_nil ?_
 refine r_cond (by exact rfl) (fun hc2 => ?_) (fun hc2 => ?_)
 ·skip
  refine r_seq ?_
  refine r_region ?_
  refine r_op rfl rfl rfl (run_mv (v := .int _ _) rfl (by exact rfl)) ?_
  refine r_op rfl rfl rfl (run_asg (v := .int _ _) rfl (by exact rfl)) ?_
  refine r_nil ?_
  refine r_ret (res1 (v := .int _ _) rfl (by exact rfl)) ?_
  exact ⟨ret_int (validT_c hc2).symm, hV⟩
 ·skip
  refine r_skip ?_
  refine r_seq ?_
  refine r_seq ?_
  have hvc := hc2
  refine r_region ?_
  refine r_op rfl rfl rfl (run_mv (v := .slice _ _ _) rfl (by exact rfl)) ?_
  refine r_op rfl rfl rfl (run_lenSl rfl (by exact rfl) Tryz.underlying22) ?_
  refine r_op rfl rfl rfl (run_gtr rfl (by exact rfl) (by exact rfl)) ?_
  refine r_nil ?_
  refine r_cond (by exact rfl) (fun hc3 => ?_) (fun hc3 => ?_)
  ·skip
   refine r_seq ?_
   refine r_region ?_
   refine r_op rfl rfl rfl (run_asg (v := .int _ _) rfl (by exact rfl)) ?_
   refine r_nil ?_
   refine r_ret (res1 (v := .int _ _) rfl (by exact rfl)) ?_
   exact ⟨ret_int (validT_lim (Classical.not_not.1 hvc) (by omega)).symm, hV⟩
  ·skip
   refine r_skip ?_
   refine r_seq ?_
   refine r_seq ?_
   refine r_region ?_
   refine r_op rfl rfl rfl (run_mv (v := .slice _ _ _) rfl (by exact rfl)) ?_
   refine r_op rfl rfl rfl (run_lenSl rfl (by exact rfl) Tryz.underlying22) ?_
   refine r_op rfl rfl rfl (run_mv (v := .int _ _) rfl (by exact rfl)) ?_
   refine r_nil ?_
   refine r_block ?_
   refine r_loop (α := Nat) [4, 7, 9, 11, 13, 14, 15, 26, 27, 28, 29, 30, 31, 32, 33, 34, 35, 36, 37, 38, 39, 40, 41, 42, 43, 44, 45, 46, 47, 48, 49, 50, 51, 52, 53, 54, 55, 56, 57, 58, 59, 60, 61, 62, 63, 64, 65, 66, 67, 68, 69, 70, 71, 72, 73, 74, 75, 76, 77, 78, 79, 80, 81, 82, 83, 84, 85, 86, 87, 88, 89, 90, 91, 92, 93, 94, 95, 96, 97, 98, 99] (fun k g w => g 26 = .int .i64 (k : Nat) ∧ k ≤ ts.length ∧ (∀ j, j < k → termE c (ts.getD j default) = 0) ∧ w1.heap.size ≤ w.heap.size ∧ Evo w0 w []) (fun k => ts.length - k) 0 ?_ ?_
   ·refine ⟨(by first | exact rfl | exact congrArg (Value.int _) (by omega) | exact congrArg (Value.int _) (by dsimp only; omega) | exact congrArg (Value.int _) (by simp) | exact congrArg S (by simp)), (by first | assumption | omega | (dsimp only; omega) | (simp; done)), (fun j h => by omega), (by first | assumption | omega | (dsimp only; omega) | (simp; done)), hV⟩
   ·rintro k g w5 ⟨hj6, hk_k, hno, hzl4, hV⟩
    have hs_w5hV := hV.size
    replace ht := ht0.now hV
    replace hc := hc0.now hV
    refine r_know (i := 26) (v := .int .i64 (k : Nat)) (by exact hj6) ?_
    refine r_seq ?_
    refine r_region ?_
    refine r_op rfl rfl rfl (run_lss rfl (by exact rfl) (by exact rfl)) ?_
    refine r_nil ?_
    refine r_seq ?_
    refine r_cond (by exact rfl) (fun hc7 => ?_) (fun hc7 => ?_)
    ·skip
     refine r_skip ?_
     refine r_seq ?_
     refine r_block ?_
     refine r_seq ?_
     refine r_region ?_
     refine r_op rfl rfl rfl (run_ix (k) rfl Tryz.underlying22 ty_42 (by exact rfl) (by exact rfl) (by first | exact rfl | omega) (by omega) (ht.addr (i := k) (by omega))) ?_
     obtain ⟨aoW8, bW8, offW8, capW8, aoQ8, bQ8, offQ8, capQ8, aoF8, bF8, offF8, capF8, hX⟩ := term_atK ht0 (k) (by omega)
     have hA80 := fun (w' : World) (h : Evo w0 w' []) => (hX w' h).1
     have hA8 := hA80 _ hV
     have hW80 := fun (w' : World) (h : Evo w0 w' []) => (hX w' h).2.1
     have hW8 := hW80 _ hV
     have hQ80 := fun (w' : World) (h : Evo w0 w' []) => (hX w' h).2.2.1
     have hQ8 := hQ80 _ hV
     have hF80 := fun (w' : World) (h : Evo w0 w' []) => (hX w' h).2.2.2
     have hF8 := hF80 _ hV
     clear hX
     have hbd_hW8 := hW8.bd
     have hbd_hQ8 := hQ8.bd
     have hbd_hF8 := hF8.bd
     refine r_op rfl rfl rfl (run_ldN rfl ag_42 ty_42 (by exact rfl) rfl hA8) ?_
     refine r_var (zs := [_, _, _]) (vs := [_, _, _]) ty_42 (by exact rfl) rfl (by exact rfl) (fun _ => rfl) (by exact rfl) rfl rfl (by exact rfl) ?_
     intro b9 w10 heb9 hEw10 hbb9 hzb9
     have hs_w10 := (hEw10).size
     replace hV := evo_step0 hV hEw10
     replace ht := ht0.now hV
     replace hc := hc0.now hV
     replace hW8 := hW80 _ hV
     replace hQ8 := hQ80 _ hV
     replace hF8 := hF80 _ hV
     have hAb9 := hbb9.at
     refine r_nil ?_
     refine r_seq ?_
     refine r_seq ?_
     have hjk := jud_get hjb k
     refine r_region ?_
     refine r_op rfl rfl rfl (run_fa rfl (by exact rfl) fo_42_0) ?_
     refine r_op rfl rfl rfl (run_ld1 rfl ag_39 (by exact rfl) (hAb9.cell 0 (by exact rfl))) ?_
     refine r_op rfl rfl rfl (run_lenSl rfl (by exact rfl) Tryz.underlying39) ?_
     refine r_op rfl rfl rfl (run_eql rfl (by exact rfl) (by exact rfl)) ?_
     refine r_op rfl rfl rfl (run_mv (v := .bool _) rfl (by exact rfl)) ?_
     refine r_g rfl (wantF (by exact rfl)) rfl (fun hg => run_fa rfl (by exact rfl) fo_42_0) ?_
     refine r_g rfl (wantF (by exact rfl)) rfl (fun hg => run_ld1 rfl ag_39 (glv (by exact rfl) (fun h => h) hg) (hAb9.cell 0 (by exact rfl))) ?_
     refine r_g rfl (wantF (by exact rfl)) rfl (fun hg => run_lenSl rfl (glv (by exact rfl) (fun h => h) hg) Tryz.underlying39) ?_
     refine r_g rfl (wantF (by exact rfl)) rfl (fun hg => run_gtr rfl (glv (by exact rfl) (fun h => h) hg) (by exact rfl)) ?_
     refine r_op rfl rfl rfl (run_pick_or rfl (by exact rfl) rfl (fun hq => glv (by exact rfl) (fun h => h) hq)) ?_
     refine r_op rfl rfl rfl (run_mv (v := .bool _) rfl (by exact rfl)) ?_
     refine r_g rfl (wantF (by exact rfl)) rfl (fun hg => run_fa rfl (by exact rfl) fo_42_1) ?_
     refine r_g rfl (wantF (by exact rfl)) rfl (fun hg => run_ld1 rfl ag_40 (glv (by exact rfl) (fun h => h) hg) (hAb9.cell 1 (by exact rfl))) ?_
     refine r_g rfl (wantF (by exact rfl)) rfl (fun hg => run_lenSl rfl (glv (by exact rfl) (fun h => h) hg) Tryz.underlying40) ?_
     refine r_g rfl (wantF (by exact rfl)) rfl (fun hg => run_gtr rfl (glv (by exact rfl) (fun h => h) hg) (by exact rfl)) ?_
     refine r_op rfl rfl rfl (run_pick_or rfl (by exact rfl) rfl (fun hq => glv (by exact rfl) (fun h => h) hq)) ?_
     refine r_op rfl rfl rfl (run_mv (v := .bool _) rfl (by exact rfl)) ?_
     refine r_g rfl (wantF (by exact rfl)) rfl (fun hg => run_fa rfl (by exact rfl) fo_42_2) ?_
     refine r_g rfl (wantF (by exact rfl)) rfl (fun hg => run_ld1 rfl ag_40 (glv (by exact rfl) (fun h => h) hg) (hAb9.cell 2 (by exact rfl))) ?_
     refine r_g rfl (wantF (by exact rfl)) rfl (fun hg => run_lenSl rfl (glv (by exact rfl) (fun h => h) hg) Tryz.underlying40) ?_
     refine r_g rfl (wantF (by exact rfl)) rfl (fun hg => run_gtr rfl (glv (by exact rfl) (fun h => h) hg) (by exact rfl)) ?_
     refine r_op rfl rfl rfl (run_pick_or rfl (by exact rfl) rfl (fun hq => glv (by exact rfl) (fun h => h) hq)) ?_
     refine r_nil ?_
     refine r_cond (by exact rfl) (fun hc11 => ?_) (fun hc11 => ?_)
     ·skip
      refine r_seq ?_
      refine r_region ?_
      refine r_op rfl rfl rfl (run_asg (v := .int _ _) rfl (by exact rfl)) ?_
      refine r_nil ?_
      refine r_ret (res1 (v := .int _ _) rfl (by exact rfl)) ?_
      exact ⟨ret_int (validT_at (k := k) (Classical.not_not.1 hvc) (by omega) (by omega) hno (termE_lim (limT_z hc11)) (by decide)).symm, hV⟩
     ·skip
      refine r_skip ?_
      refine r_seq ?_
      refine r_seq ?_
      refine r_region ?_
      refine r_op rfl rfl rfl (run_fa rfl (by exact rfl) fo_42_0) ?_
      refine r_op rfl rfl rfl (run_ld1 rfl ag_39 (by exact rfl) (hAb9.cell 0 (by exact rfl))) ?_
      refine r_op rfl rfl rfl (run_lenSl rfl (by exact rfl) Tryz.underlying39) ?_
      refine r_op rfl rfl rfl (run_mv (v := .int _ _) rfl (by exact rfl)) ?_
      refine r_nil ?_
      refine r_block ?_
      have hnl : ¬ limT (ts.getD k default) := limT_n hc11
      refine r_loop (α := Nat) [4, 9, 55, 56, 57, 58, 59, 60, 61, 62, 63, 64, 65, 66, 67, 68, 69, 70, 71, 72, 73] (fun kw g w => g 55 = .int .i64 (kw : Nat) ∧ kw ≤ (ts.getD k default).words.length ∧ Blk w b9 42 [.slice aoW8 (ts.getD k default).words.length capW8, .slice aoQ8 (ts.getD k default).req.length capQ8, .slice aoF8 (ts.getD k default).forb.length capF8] ∧ At w b9 0 [.slice aoW8 (ts.getD k default).words.length capW8, .slice aoQ8 (ts.getD k default).req.length capQ8, .slice aoF8 (ts.getD k default).forb.length capF8] ∧ (∀ j, j < kw → wordE c ((ts.getD k default).words.getD j default) = 0) ∧ w10.heap.size ≤ w.heap.size ∧ Evo w0 w []) (fun kw => (ts.getD k default).words.length - kw) 0 ?_ ?_
      ·refine ⟨(by first | exact rfl | exact congrArg (Value.int _) (by omega) | exact congrArg (Value.int _) (by dsimp only; omega) | exact congrArg (Value.int _) (by simp) | exact congrArg S (by simp)), (by first | assumption | omega | (dsimp only; omega) | (simp; done)), hbb9, hbb9.at, (fun j h => by omega), (by first | assumption | omega | (dsimp only; omega) | (simp; done)), hV⟩
      ·rintro kw g w13 ⟨hj14, hk_kw, hbb9, hAb9, hnw, hzl12, hV⟩
       have hs_w13hV := hV.size
       have hlt15 := hbb9.lt
       replace ht := ht0.now hV
       replace hc := hc0.now hV
       replace hA8 := hA80 _ hV
       replace hW8 := hW80 _ hV
       replace hQ8 := hQ80 _ hV
       replace hF8 := hF80 _ hV
       refine r_know (i := 55) (v := .int .i64 (kw : Nat)) (by exact hj14) ?_
       refine r_seq ?_
       refine r_region ?_
       refine r_op rfl rfl rfl (run_lss rfl (by exact rfl) (by exact rfl)) ?_
       refine r_nil ?_
       refine r_seq ?_
       refine r_cond (by exact rfl) (fun hc16 => ?_) (fun hc16 => ?_)
       ·skip
        refine r_skip ?_
        refine r_seq ?_
        refine r_block ?_
        refine r_seq ?_
        refine r_region ?_
        refine r_op rfl rfl rfl (run_ix (kw) rfl Tryz.underlying39 ty_60 (by exact rfl) (by exact rfl) (by first | exact rfl | omega) (by omega) (hW8.addr (i := kw) (by omega))) ?_
        have hA170 := fun (w' : World) (h : Evo w0 w' []) => (hW80 w' h).atD (kw) (by omega)
        have hA17 := hA170 _ hV
        refine r_op rfl rfl rfl (run_ldN rfl ag_60 ty_60 (by exact rfl) rfl hA17) ?_
        refine r_var (zs := [_, _]) (vs := [_, _]) ty_60 (by exact rfl) rfl (by exact rfl) (fun _ => rfl) (by exact rfl) rfl rfl (by exact rfl) ?_
        intro b18 w19 heb18 hEw19 hbb18 hzb18
        have hs_w19 := (hEw19).size
        replace hV := evo_step0 hV hEw19
        replace ht := ht0.now hV
        replace hc := hc0.now hV
        replace hW8 := hW80 _ hV
        replace hQ8 := hQ80 _ hV
        replace hF8 := hF80 _ hV
        replace hbb9 := hbb9.evo0 hEw19
        replace hAb9 := hAb9.evo0 hEw19
        have hAb18 := hbb18.at
        refine r_nil ?_
        refine r_seq ?_
        refine r_seq ?_
        refine r_region ?_
        refine r_op rfl rfl rfl (run_fa rfl (by exact rfl) fo_60_0) ?_
        refine r_op rfl rfl rfl (run_ld1 rfl ag_9 (by exact rfl) (hAb18.cell 0 (by exact rfl))) ?_
        refine r_opcall rfl rfl rfl (run_callf (vs := [S _]) rfl (by exact rfl) Tryz.func57 rfl (by kernel_rfl)) (rplain_calls ) ?_
        rintro e w20 ⟨rfl, hE20⟩
        refine ⟨_, rfl, ?_⟩
        have hs_w20 := (hE20).size
        replace hV := evo_step0 hV hE20
        replace ht := ht0.now hV
        replace hc := hc0.now hV
        replace hW8 := hW80 _ hV
        replace hQ8 := hQ80 _ hV
        replace hF8 := hF80 _ hV
        replace hbb9 := hbb9.evo0 hE20
        replace hAb9 := hAb9.evo0 hE20
        replace hbb18 := hbb18.evo0 hE20
        replace hAb18 := hAb18.evo0 hE20
        refine r_op rfl rfl rfl (run_not rfl (by exact rfl)) ?_
        refine r_nil ?_
        refine r_cond (by exact rfl) (fun hc21 => ?_) (fun hc21 => ?_)
        ·skip
         refine r_seq ?_
         refine r_region ?_
         refine r_op rfl rfl rfl (run_asg (v := .int _ _) rfl (by exact rfl)) ?_
         refine r_nil ?_
         refine r_ret (res1 (v := .int _ _) rfl (by exact rfl)) ?_
         exact ⟨ret_int (validT_at (k := k) (Classical.not_not.1 hvc) (by omega) (by omega) hno (termE_word hnl (by omega) hnw (wordE_1 (by have h9 := hc21; simpa using h9)) (by decide)) (by decide)).symm, hV⟩
        ·skip
         refine r_skip ?_
         refine r_seq ?_
         have hpl : plainP ((ts.getD k default).words.getD kw default).strip := by have h9 := hc21; simpa using h9
         refine r_region ?_
         refine r_op rfl rfl rfl (run_fa rfl (by exact rfl) fo_60_1) ?_
         refine r_op rfl rfl rfl (run_ld1 rfl ag_9 (by exact rfl) (hAb18.cell 1 (by exact rfl))) ?_
         refine r_op rfl rfl rfl (run_sneq rfl (by exact rfl) (by exact rfl)) ?_
         refine r_op rfl rfl rfl (run_mv (v := .bool _) rfl (by exact rfl)) ?_
         refine r_g rfl (wantT (by exact rfl)) rfl (fun hg => run_mv (v := .slice _ _ _) rfl (by exact rfl)) ?_
         refine r_g rfl (wantT (by exact rfl)) rfl (fun hg => run_fa rfl (by exact rfl) fo_60_1) ?_
         refine r_g rfl (wantT (by exact rfl)) rfl (fun hg => run_ld1 rfl ag_9 (glv (by exact rfl) (fun h => h) hg) (hAb18.cell 1 (by exact rfl))) ?_
         refine r_gcall rfl (wantT (by exact rfl)) rfl (fun hg => run_callf rfl (argcons (v := .slice _ _ _) (glv (by exact rfl) (fun h => h) hg) (argcons (v := S _) (glv (by exact rfl) (fun h => h) hg) (rfl))) Tryz.func58 rfl (by kernel_rfl)) (fun hg => (rfind_calls hc).mono (fun e w' h => ⟨h.1, h.2⟩)) (fun w22 hE23 => ?_)
         have hs_w22 := (hE23).size
         replace hV := evo_step0 hV hE23
         replace ht := ht0.now hV
         replace hc := hc0.now hV
         replace hW8 := hW80 _ hV
         replace hQ8 := hQ80 _ hV
         replace hF8 := hF80 _ hV
         replace hbb9 := hbb9.evo0 hE23
         replace hAb9 := hAb9.evo0 hE23
         refine r_g rfl (wantT (by exact rfl)) rfl (fun hg => run_lss rfl (glv (by exact rfl) (fun h => h) hg) (by exact rfl)) ?_
         refine r_op rfl rfl rfl (run_pick_and rfl (by exact rfl) (fun hq => glv (by exact rfl) (fun h => h) hq) rfl) ?_
         refine r_nil ?_
         refine r_cond (by exact rfl) (fun hc24 => ?_) (fun hc24 => ?_)
         ·skip
          refine r_seq ?_
          refine r_region ?_
          refine r_op rfl rfl rfl (run_asg (v := .int _ _) rfl (by exact rfl)) ?_
          refine r_nil ?_
          refine r_ret (res1 (v := .int _ _) rfl (by exact rfl)) ?_
          exact ⟨ret_int (validT_at (k := k) (Classical.not_not.1 hvc) (by omega) (by omega) hno (termE_word hnl (by omega) hnw (wordE_4 hpl hc24) (by decide)) (by decide)).symm, hV⟩
         ·skip
          refine r_skip ?_
          refine r_blk ?_
          refine r_region ?_
          refine r_op rfl rfl rfl (run_add rfl (by exact rfl) (by exact rfl) (by omega) (by omega)) ?_
          refine r_op rfl rfl rfl (run_mv (v := .int _ _) rfl (by exact rfl)) ?_
          refine r_nil ?_
          refine r_again (kw + 1) ?_ ?_ ?_
          ·first | omega | (dsimp only; omega)
          ·refine ⟨(by first | exact rfl | exact congrArg (Value.int _) (by omega) | exact congrArg (Value.int _) (by dsimp only; omega) | exact congrArg (Value.int _) (by simp) | exact congrArg S (by simp)), (by first | assumption | omega | (dsimp only; omega) | (simp; done)), hbb9, hbb9.at, (upto0 hnw (wordE_0 hpl hc24)), (by first | assumption | omega | (dsimp only; omega) | (simp; done)), hV⟩
          ·repeat (first | (with_reducible exact Agree.merge _ _ _) | (with_reducible exact Agree.refl _ _) | (with_reducible refine Agree.upd ?_ _ _ rfl) | ((with_reducible refine Agree.inner ?_ ?_); (kernel_rfl)))
       ·skip
        refine r_exit rfl ?_
        refine r_seq ?_
        refine r_region ?_
        refine r_op rfl rfl rfl (run_fa rfl (by exact rfl) fo_42_1) ?_
        refine r_op rfl rfl rfl (run_ld1 rfl ag_40 (by exact rfl) (hAb9.cell 1 (by exact rfl))) ?_
        refine r_op rfl rfl rfl (run_fa rfl (by exact rfl) fo_42_2) ?_
        refine r_op rfl rfl rfl (run_ld1 rfl ag_40 (by exact rfl) (hAb9.cell 2 (by exact rfl))) ?_
        refine r_bslice (pv := [(0, .slice _ _ _), (1, .slice _ _ _)]) (zs := [_]) (cs := [_, _]) Tryz.underlying82 ty_40 (by exact rfl) rfl (by exact rfl) rfl (by exact rfl) ?_
        intro b25 w26 heb25 hEw26 hbb25 hzb25
        have hs_w26 := (hEw26).size
        replace hV := evo_step0 hV hEw26
        replace ht := ht0.now hV
        replace hc := hc0.now hV
        have hAb25 := hbb25.at
        have hrb25 : RowR w26 (some ⟨b25, 0, none⟩) b25 0 2 ([(ts.getD k default).req, (ts.getD k default).forb] : List (List Str)) := rowLitR [[_], [_]] ([(ts.getD k default).req, (ts.getD k default).forb] : List (List Str)) hbb25 rfl ((RepL.one (sl_rep (hQ80 _ hV))).append (RepL.one (sl_rep (hF80 _ hV)))) rfl
        refine r_op rfl rfl rfl (run_lenSl rfl (by exact rfl) Tryz.underlying82) ?_
        refine r_op rfl rfl rfl (run_mv (v := .int _ _) rfl (by exact rfl)) ?_
        refine r_nil ?_
        refine r_block ?_
        have hnw2 : ∀ j, j < (ts.getD k default).words.length → wordE c ((ts.getD k default).words.getD j default) = 0 := fun j hj => hnw j (by omega)
        have hlk : ([(ts.getD k default).req, (ts.getD k default).forb] : List (List Str)).length = 2 := rfl
        refine r_loop (α := Nat) [4, 11, 13, 14, 15, 80, 81, 82, 83, 84, 85, 86, 87, 88, 89, 90, 91, 92, 93, 94, 95, 96, 97, 98] (fun i g w => g 80 = .int .i64 (i : Nat) ∧ i ≤ 2 ∧ RowR w (some ⟨b25, 0, none⟩) b25 0 2 ([(ts.getD k default).req, (ts.getD k default).forb] : List (List Str)) ∧ (∀ j, j < i → firstM phrE (([(ts.getD k default).req, (ts.getD k default).forb] : List (List Str)).getD j default) = 0) ∧ w26.heap.size ≤ w.heap.size ∧ Evo w0 w []) (fun i => 2 - i) 0 ?_ ?_
        ·refine ⟨(by first | exact rfl | exact congrArg (Value.int _) (by omega) | exact congrArg (Value.int _) (by dsimp only; omega) | exact congrArg (Value.int _) (by simp) | exact congrArg S (by simp)), (by first | assumption | omega | (dsimp only; omega) | (simp; done)), hrb25, (fun j h => by omega), (by first | assumption | omega | (dsimp only; omega) | (simp; done)), hV⟩
        ·rintro i g w28 ⟨hj29, hk_i, hrl, hno2, hzl27, hV⟩
         have hs_w28hV := hV.size
         replace ht := ht0.now hV
         replace hc := hc0.now hV
         replace hA8 := hA80 _ hV
         replace hW8 := hW80 _ hV
         replace hQ8 := hQ80 _ hV
         replace hF8 := hF80 _ hV
         refine r_know (i := 80) (v := .int .i64 (i : Nat)) (by exact hj29) ?_
         refine r_seq ?_
         refine r_region ?_
         refine r_op rfl rfl rfl (run_lss rfl (by exact rfl) (by exact rfl)) ?_
         refine r_nil ?_
         refine r_seq ?_
         refine r_cond (by exact rfl) (fun hc30 => ?_) (fun hc30 => ?_)
         ·skip
          refine r_skip ?_
          refine r_seq ?_
          refine r_block ?_
          refine r_seq ?_
          refine r_region ?_
          refine r_op rfl rfl rfl (run_ix (i) rfl Tryz.underlying82 ty_40 (by exact rfl) (by exact rfl) (by first | exact rfl | omega) (by omega) (hrl.addr (i := i) (by omega))) ?_
          obtain ⟨ao31, b31, off31, cap31, hA31, hR31⟩ := sl_at hrl (i) (by omega)
          have hbd_hR31 := hR31.bd
          refine r_op rfl rfl rfl (run_ld1 rfl ag_40 (by exact rfl) (hA31.cell 0 (by exact rfl))) ?_
          refine r_op rfl rfl rfl (run_asg (v := .slice _ _ _) rfl (by exact rfl)) ?_
          refine r_nil ?_
          refine r_seq ?_
          refine r_region ?_
          refine r_op rfl rfl rfl (run_mv (v := .slice _ _ _) rfl (by exact rfl)) ?_
          refine r_op rfl rfl rfl (run_lenSl rfl (by exact rfl) Tryz.underlying40) ?_
          refine r_op rfl rfl rfl (run_mv (v := .int _ _) rfl (by exact rfl)) ?_
          refine r_nil ?_
          refine r_block ?_
          refine r_loop (α := Nat) [4, 13, 14, 15, 86, 87, 88, 89, 90, 91, 92, 93, 94, 95, 96, 97] (fun kp g w => g 86 = .int .i64 (kp : Nat) ∧ kp ≤ (([(ts.getD k default).req, (ts.getD k default).forb] : List (List Str)).getD i default).length ∧ RowR w (some ⟨b25, 0, none⟩) b25 0 2 ([(ts.getD k default).req, (ts.getD k default).forb] : List (List Str)) ∧ RowE w ao31 b31 off31 cap31 (([(ts.getD k default).req, (ts.getD k default).forb] : List (List Str)).getD i default) ∧ (∀ j, j < kp → phrE ((([(ts.getD k default).req, (ts.getD k default).forb] : List (List Str)).getD i default).getD j default) = 0) ∧ w28.heap.size ≤ w.heap.size ∧ Evo w0 w []) (fun kp => (([(ts.getD k default).req, (ts.getD k default).forb] : List (List Str)).getD i default).length - kp) 0 ?_ ?_
          ·refine ⟨(by first | exact rfl | exact congrArg (Value.int _) (by omega) | exact congrArg (Value.int _) (by dsimp only; omega) | exact congrArg (Value.int _) (by simp) | exact congrArg S (by simp)), (by first | assumption | omega | (dsimp only; omega) | (simp; done)), hrl, hR31, (fun j h => by omega), (by first | assumption | omega | (dsimp only; omega) | (simp; done)), hV⟩
          ·rintro kp g w33 ⟨hj34, hk_kp, hrl, hR31, hnp, hzl32, hV⟩
           have hs_w33hV := hV.size
           replace ht := ht0.now hV
           replace hc := hc0.now hV
           replace hA8 := hA80 _ hV
           replace hW8 := hW80 _ hV
           replace hQ8 := hQ80 _ hV
           replace hF8 := hF80 _ hV
           refine r_know (i := 86) (v := .int .i64 (kp : Nat)) (by exact hj34) ?_
           refine r_seq ?_
           refine r_region ?_
           refine r_op rfl rfl rfl (run_lss rfl (by exact rfl) (by exact rfl)) ?_
           refine r_nil ?_
           refine r_seq ?_
           refine r_cond (by exact rfl) (fun hc35 => ?_) (fun hc35 => ?_)
           ·skip
            refine r_skip ?_
            refine r_seq ?_
            refine r_block ?_
            refine r_seq ?_
            refine r_region ?_
            refine r_op rfl rfl rfl (run_ix (kp) rfl Tryz.underlying40 ty_9 (by exact rfl) (by exact rfl) (by first | exact rfl | omega) (by omega) (hR31.addr (i := kp) (by omega))) ?_
            have hA36 := hR31.atD (kp) (by omega)
            refine r_op rfl rfl rfl (run_ld1 rfl ag_9 (by exact rfl) (hA36.cell 0 (by exact rfl))) ?_
            refine r_op rfl rfl rfl (run_asg (v := S _) rfl (by exact rfl)) ?_
            refine r_nil ?_
            refine r_seq ?_
            refine r_region ?_
            refine r_op rfl rfl rfl (run_mv (v := S _) rfl (by exact rfl)) ?_
            refine r_opcall rfl rfl rfl (run_callf (vs := [S _]) rfl (by exact rfl) Tryz.func44 rfl (by kernel_rfl)) (rphrase_calls (jud_two hjk (by omega) (by omega))) ?_
            rintro e w37 ⟨vp37, lp37, rfl, hE37, hop37, hlp37⟩
            refine ⟨_, rfl, ?_⟩
            have hs_w37 := (hE37).size
            replace hV := evo_step0 hV hE37
            replace ht := ht0.now hV
            replace hc := hc0.now hV
            replace hrl := hrl.evo0 hE37
            replace hR31 := hR31.evo0 hE37
            refine r_op rfl rfl rfl (run_mv (v := .tuple _) rfl (by exact rfl)) ?_
            refine r_op rfl rfl rfl (run_extract (v := vp37) rfl (by exact rfl) (by exact rfl)) ?_
            refine r_op rfl rfl rfl (run_extract (v := .bool _) rfl (by exact rfl) (by exact rfl)) ?_
            refine r_op rfl rfl rfl (run_asg (v := vp37) rfl (by exact rfl)) ?_
            refine r_op rfl rfl rfl (run_asg (v := .bool _) rfl (by exact rfl)) ?_
            refine r_nil ?_
            refine r_seq ?_
            refine r_region ?_
            refine r_op rfl rfl rfl (run_mv (v := .bool _) rfl (by exact rfl)) ?_
            refine r_op rfl rfl rfl (run_not rfl (by exact rfl)) ?_
            refine r_nil ?_
            refine r_cond (by exact rfl) (fun hc38 => ?_) (fun hc38 => ?_)
            ·skip
             refine r_seq ?_
             refine r_region ?_
             refine r_op rfl rfl rfl (run_asg (v := .int _ _) rfl (by exact rfl)) ?_
             refine r_nil ?_
             refine r_ret (res1 (v := .int _ _) rfl (by exact rfl)) ?_
             exact ⟨ret_int (validT_at (k := k) (Classical.not_not.1 hvc) (by omega) (by omega) hno (termE_phr hnl hnw2 (by omega) hno2 (by omega) hnp (by have h9 := hc38; simpa using h9)) (by decide)).symm, hV⟩
            ·skip
             refine r_skip ?_
             refine r_blk ?_
             refine r_region ?_
             refine r_op rfl rfl rfl (run_add rfl (by exact rfl) (by exact rfl) (by omega) (by omega)) ?_
             refine r_op rfl rfl rfl (run_mv (v := .int _ _) rfl (by exact rfl)) ?_
             refine r_nil ?_
             refine r_again (kp + 1) ?_ ?_ ?_
             ·first | omega | (dsimp only; omega)
             ·refine ⟨(by first | exact rfl | exact congrArg (Value.int _) (by omega) | exact congrArg (Value.int _) (by dsimp only; omega) | exact congrArg (Value.int _) (by simp) | exact congrArg S (by simp)), (by first | assumption | omega | (dsimp only; omega) | (simp; done)), hrl, hR31, (upto0 hnp (phrE_0 (by have h9 := hc38; simpa using h9))), (by first | assumption | omega | (dsimp only; omega) | (simp; done)), hV⟩
             ·repeat (first | (with_reducible exact Agree.merge _ _ _) | (with_reducible exact Agree.refl _ _) | (with_reducible refine Agree.upd ?_ _ _ rfl) | ((with_reducible refine Agree.inner ?_ ?_); (kernel_rfl)))
           ·skip
            refine r_exit rfl ?_
            refine r_blk ?_
            refine r_region ?_
            refine r_op rfl rfl rfl (run_add rfl (by exact rfl) (by exact rfl) (by omega) (by omega)) ?_
            refine r_op rfl rfl rfl (run_mv (v := .int _ _) rfl (by exact rfl)) ?_
            refine r_nil ?_
            refine r_again (i + 1) ?_ ?_ ?_
            ·first | omega | (dsimp only; omega)
            ·refine ⟨(by first | exact rfl | exact congrArg (Value.int _) (by omega) | exact congrArg (Value.int _) (by dsimp only; omega) | exact congrArg (Value.int _) (by simp) | exact congrArg S (by simp)), (by first | assumption | omega | (dsimp only; omega) | (simp; done)), hrl, (upto0 hno2 (firstM_ok (fun j hj => hnp j (by omega)))), (by first | assumption | omega | (dsimp only; omega) | (simp; done)), hV⟩
            ·repeat (first | (with_reducible exact Agree.merge _ _ _) | (with_reducible exact Agree.refl _ _) | (with_reducible refine Agree.upd ?_ _ _ rfl) | ((with_reducible refine Agree.inner ?_ ?_); (kernel_rfl)))
         ·skip
          refine r_exit rfl ?_
          refine r_blk ?_
          refine r_region ?_
          refine r_op rfl rfl rfl (run_add rfl (by exact rfl) (by exact rfl) (by omega) (by omega)) ?_
          refine r_op rfl rfl rfl (run_mv (v := .int _ _) rfl (by exact rfl)) ?_
          refine r_nil ?_
          refine r_again (k + 1) ?_ ?_ ?_
          ·first | omega | (dsimp only; omega)
          ·refine ⟨(by first | exact rfl | exact congrArg (Value.int _) (by omega) | exact congrArg (Value.int _) (by dsimp only; omega) | exact congrArg (Value.int _) (by simp) | exact congrArg S (by simp)), (by first | assumption | omega | (dsimp only; omega) | (simp; done)), (upto0 hno (termE_ok hnl hnw2 (fun j hj => hno2 j (by simp at *; omega)))), (by first | assumption | omega | (dsimp only; omega) | (simp; done)), hV⟩
          ·repeat (first | (with_reducible exact Agree.merge _ _ _) | (with_reducible exact Agree.refl _ _) | (with_reducible refine Agree.upd ?_ _ _ rfl) | ((with_reducible refine Agree.inner ?_ ?_); (kernel_rfl)))
    ·skip
     refine r_exit rfl ?_
     refine r_seq ?_
     refine r_region ?_
     refine r_op rfl rfl rfl (run_asg (v := .int _ _) rfl (by exact rfl)) ?_
     refine r_nil ?_
     refine r_ret (res1 (v := .int _ _) rfl (by exact rfl)) ?_
     exact ⟨ret_int (validT_ok (Classical.not_not.1 hvc) (by omega) (fun j hj => hno j (by omega))).symm, hV⟩
end Go.Proofs.YtkklomiipkipnaaGreatDoor
namespace Go.Proofs.YtkklomiipkipnaaGreatDoor
open Go.RowKit Go.Vc
theorem ag_22 : aggP Tryz.prog 22 = some false := by kernel_rfl
theorem ty_22 : tyP Tryz.prog 22 = some (1, 24, some (.slice none 0 0)) := by kernel_rfl
theorem tms_jud {a b : List TermL} {x : TermL} (ha : ∀ y ∈ a, JudT y) (hb : ∀ y ∈ b, JudT y) (hx : JudT x) (i : Nat) : ∀ y ∈ (([⟨a⟩, ⟨b⟩, ⟨b ++ [x]⟩] : List TmsL).getD i default).ts, JudT y := by
  match i with
  | 0 => exact ha
  | 1 => exact hb
  | 2 => exact mem_snoc hb hx
  | k + 3 => intro y hy; cases hy
set_option maxHeartbeats 2000000 in
theorem tvalidates_law {aot : Option Addr} {btt offt capt : Nat} {ts : List TermL} {ao : Option Addr} {b off cap : Nat} {c : List Clas} {aon : Option Addr} {bn offn capn : Nat} {nn : List Int} {aox : Option Addr} {bx offx capx : Nat} {aoq : Option Addr} {bq offq capq : Nat} {aof : Option Addr} {bf offf capf : Nat} {x : TermL} {w0 : World} (ht : RowR w0 aot btt offt capt ts) (hc : RowR w0 ao b off cap c) (hjb : ∀ x ∈ ts, JudT x) (hn : RowE w0 aon bn offn capn nn) (hw : RowE w0 aox bx offx capx x.words) (hq : RowE w0 aoq bq offq capq x.req) (hf : RowE w0 aof bf offf capf x.forb) (hjx : JudT x) (hxb : x.words.length ≤ 4398046510976 ∧ ∀ y ∈ x.words, BdE y) (htl : ts.length ≤ 1048576) :
    Calls Tryz.prog 10 #[.slice aot ts.length capt, .slice ao c.length cap, .slice aon nn.length capn, .agg #[.slice aox x.words.length capx, .slice aoq x.req.length capq, .slice aof x.forb.length capf]] w0 fun e w' => e = .returned (.bool true) ∧ Evo w0 w' [] := by
 refine calls_enter (n := 66) (args := [.slice aot ts.length capt, .slice ao c.length cap, .slice aon nn.length capn, .agg #[.slice aox x.words.length capx, .slice aoq x.req.length capq, .slice aof x.forb.length capf]]) Tryz.func10 rfl Tryz.ntmps10 rfl ?_
 have hV : Evo w0 w0 [] := Evo.refl _ _
 have ht0 := ht.keep
 have hbd_ht := ht.bd
 have hc0 := hc.keep
 have hbd_hc := hc.bd
 have hn0 := keepE hn
 have hbd_hn := hn.bd
 have hw0 := keepE hw
 have hbd_hw := hw.bd
 have hq0 := keepE hq
 have hbd_hq := hq.bd
 have hf0 := keepE hf
 have hbd_hf := hf.bd
 refine r_seq ?_
 refine r_region ?_
 refine r_box (vs := [_, _, _]) (by exact rfl) (by exact rfl) rfl ?_
 intro b1 w2 heb1 hEw2 hbb1 hzb1
 have hs_w2 := (hEw2).size
 replace hV := evo_step0 hV hEw2
 replace ht := ht0.now hV
 replace hc := hc0.now hV
 replace hn := hn0 _ hV
 replace hw := hw0 _ hV
 replace hq := hq0 _ hV
 replace hf := hf0 _ hV
 have hAb1 := hbb1.at
 refine r_op rfl rfl rfl (run_asg (v := .bool _) rfl (by exact rfl)) ?_
 refine r_nil ?_
 refine r_seq ?_
 refine r_seq ?_
 have hxr : ∀ w9, Evo w0 w9 [] → Rep.rep w9 [.slice aox x.words.length capx, .slice aoq x.req.length capq, .slice aof x.forb.length capf] x := fun w9 h9 => term_reps (hw0 _ h9) (hq0 _ h9) (hf0 _ h9) hxb
 refine r_cut [14, 15, 16, 17, 18, 19, 20, 21, 22, 23, 24, 25, 26] (fun g w => ∃ bx : Bool, g 26 = .bool bx ∧ Blk w b1 42 [.slice aox x.words.length capx, .slice aoq x.req.length capq, .slice aof x.forb.length capf] ∧ At w b1 0 [.slice aox x.words.length capx, .slice aoq x.req.length capq, .slice aof x.forb.length capf] ∧ w2.heap.size ≤ w.heap.size ∧ Evo w0 w []) ?_ ?_
 ·skip
  have hbb1_q := hbb1
  have hAb1_q := hAb1
  have hV_q := hV
  refine h_region ([]) (by kernel_rfl) ?_
  intro w4 hE5 hCst1
  have hs_w4 := (hE5).size
  replace hV := evo_step0 hV hE5
  replace ht := ht0.now hV
  replace hc := hc0.now hV
  replace hn := hn0 _ hV
  replace hw := hw0 _ hV
  replace hq := hq0 _ hV
  replace hf := hf0 _ hV
  replace hbb1 := hbb1.evo0 hE5
  replace hAb1 := hAb1.evo0 hE5
  refine h_take (i := 0) (by exact rfl) rfl rfl rfl (by kernel_rfl) (fun w' hC => run_mv (v := .slice _ _ _) rfl (by exact rfl)) hCst1 ?_
  refine h_one (i := 1) (by kernel_rfl) ?_
  refine h_do (by exact rfl) ?_
  refine r_bslice (pv := [(0, .slice _ _ _)]) (zs := [_]) (cs := [_]) Tryz.underlying67 ty_25 (by exact rfl) rfl (by exact rfl) rfl (by exact rfl) ?_
  intro b6 w7 heb6 hEw7 hbb6 hzb6
  have hs_w7 := (hEw7).size
  replace hV := evo_step0 hV hEw7
  replace hCst1 := evo_step0 hCst1 hEw7
  replace ht := ht0.now hV
  replace hc := hc0.now hV
  replace hn := hn0 _ hV
  replace hw := hw0 _ hV
  replace hq := hq0 _ hV
  replace hf := hf0 _ hV
  replace hbb1 := hbb1.evo0 hEw7
  replace hAb1 := hAb1.evo0 hEw7
  have hAb6 := hbb6.at
  have hrb6 : RowR w7 (some ⟨b6, 0, none⟩) b6 0 1 ([nn] : List (List Int)) := rowLitR [[_]] ([nn] : List (List Int)) hbb6 rfl (RepL.one (sl_rep hn)) rfl
  refine h_next hCst1 ?_
  refine h_one (i := 2) (by kernel_rfl) ?_
  refine h_do (by exact rfl) ?_
  refine r_opcall rfl rfl rfl (run_callf (vs := [.slice (some ⟨b6, 0, none⟩) _ _]) rfl (by exact rfl) Tryz.func11 rfl (by kernel_rfl)) (long_calls hrb6 (by simp only [List.flatten_cons, List.flatten_nil, List.append_nil]; omega)) ?_
  rintro e w8 ⟨rfl, hE8⟩
  refine ⟨_, rfl, ?_⟩
  have hs_w8 := (hE8).size
  replace hV := evo_step0 hV hE8
  replace hCst1 := evo_step0 hCst1 hE8
  replace ht := ht0.now hV
  replace hc := hc0.now hV
  replace hn := hn0 _ hV
  replace hw := hw0 _ hV
  replace hq := hq0 _ hV
  replace hf := hf0 _ hV
  replace hbb1 := hbb1.evo0 hE8
  replace hAb1 := hAb1.evo0 hE8
  replace hrb6 := hrb6.evo0 hE8
  refine h_next hCst1 ?_
  refine h_take (i := 3) (by exact rfl) rfl rfl rfl (by kernel_rfl) (fun w' hC => run_mvb rfl (by exact rfl)) hCst1 ?_
  refine h_split (i := 17) (by exact rfl) (fun hs9 => ?_) (fun hs9 => ?_)
  ·skip
   refine h_takeN (i := 5) (by exact rfl) (by exact rfl) (by exact rfl) (by exact rfl) (by exact rfl) rfl rfl (by kernel_rfl) hCst1 ?_
   refine h_takeN (i := 10) (by exact rfl) (by exact rfl) (by exact rfl) (by exact rfl) (by exact rfl) rfl rfl (by kernel_rfl) hCst1 ?_
   refine h_two (i := 4) (j := 7) (by kernel_rfl) ?_ ?_
   ·skip
    refine h_do (by exact rfl) ?_
    refine r_guard_no (by exact rfl) (by exact rfl) rfl rfl ?_
    refine h_next hCst1 ?_
    refine h_two (i := 6) (j := 7) (by kernel_rfl) ?_ ?_
    ·skip
     refine h_do (by exact rfl) ?_
     refine r_guard_no (by exact rfl) (by exact rfl) rfl rfl ?_
     refine h_next hCst1 ?_
     refine h_one (i := 7) (by kernel_rfl) ?_
     refine h_do (by exact rfl) ?_
     refine r_guard_no (by exact rfl) (by exact rfl) rfl rfl ?_
     refine h_next hCst1 ?_
     refine h_one (i := 8) (by kernel_rfl) ?_
     refine h_do (by exact rfl) ?_
     refine r_guard_no (by exact rfl) (by exact rfl) rfl rfl ?_
     refine h_next hCst1 ?_
     refine h_one (i := 9) (by kernel_rfl) ?_
     refine h_do (by exact rfl) ?_
     refine r_guard_no (by exact rfl) (by exact rfl) rfl rfl ?_
     refine h_next hCst1 ?_
     refine h_one (i := 11) (by kernel_rfl) ?_
     refine h_do (by exact rfl) ?_
     refine r_guard_no (by exact rfl) (by exact rfl) rfl rfl ?_
     refine h_next hCst1 ?_
     refine h_take (i := 12) (by exact rfl) rfl rfl rfl (by kernel_rfl) (fun w' hC => run_pick_yes (v := .bool true) rfl (by exact rfl) (by exact rfl)) hCst1 ?_
     refine h_done (by kernel_rfl) ?_
     refine r_cut_end ?_ ?_
     ·refine ⟨_, rfl, hbb1, hbb1.at, (by first | assumption | omega | (dsimp only; omega) | (simp; done)), hV⟩
     ·repeat (first | (with_reducible exact Agree.merge _ _ _) | (with_reducible exact Agree.refl _ _) | (with_reducible refine Agree.upd ?_ _ _ rfl) | ((with_reducible refine Agree.inner ?_ ?_); (kernel_rfl)))
    ·skip
     refine h_do (by exact rfl) ?_
     refine r_guard_no (by exact rfl) (by exact rfl) rfl rfl ?_
     refine h_next hCst1 ?_
     refine h_two (i := 6) (j := 8) (by kernel_rfl) ?_ ?_
     ·skip
      refine h_do (by exact rfl) ?_
      refine r_guard_no (by exact rfl) (by exact rfl) rfl rfl ?_
      refine h_next hCst1 ?_
      refine h_one (i := 8) (by kernel_rfl) ?_
      refine h_do (by exact rfl) ?_
      refine r_guard_no (by exact rfl) (by exact rfl) rfl rfl ?_
      refine h_next hCst1 ?_
      refine h_one (i := 9) (by kernel_rfl) ?_
      refine h_do (by exact rfl) ?_
      refine r_guard_no (by exact rfl) (by exact rfl) rfl rfl ?_
      refine h_next hCst1 ?_
      refine h_one (i := 11) (by kernel_rfl) ?_
      refine h_do (by exact rfl) ?_
      refine r_guard_no (by exact rfl) (by exact rfl) rfl rfl ?_
      refine h_next hCst1 ?_
      refine h_take (i := 12) (by exact rfl) rfl rfl rfl (by kernel_rfl) (fun w' hC => run_pick_yes (v := .bool true) rfl (by exact rfl) (by exact rfl)) hCst1 ?_
      refine h_done (by kernel_rfl) ?_
      refine r_cut_end ?_ ?_
      ·refine ⟨_, rfl, hbb1, hbb1.at, (by first | assumption | omega | (dsimp only; omega) | (simp; done)), hV⟩
      ·repeat (first | (with_reducible exact Agree.merge _ _ _) | (with_reducible exact Agree.refl _ _) | (with_reducible refine Agree.upd ?_ _ _ rfl) | ((with_reducible refine Agree.inner ?_ ?_); (kernel_rfl)))
     ·skip
      refine h_do (by exact rfl) ?_
      refine r_guard_no (by exact rfl) (by exact rfl) rfl rfl ?_
      refine h_next hCst1 ?_
      refine h_one (i := 6) (by kernel_rfl) ?_
      refine h_do (by exact rfl) ?_
      refine r_guard_no (by exact rfl) (by exact rfl) rfl rfl ?_
      refine h_next hCst1 ?_
      refine h_one (i := 9) (by kernel_rfl) ?_
      refine h_do (by exact rfl) ?_
      refine r_guard_no (by exact rfl) (by exact rfl) rfl rfl ?_
      refine h_next hCst1 ?_
      refine h_one (i := 11) (by kernel_rfl) ?_
      refine h_do (by exact rfl) ?_
      refine r_guard_no (by exact rfl) (by exact rfl) rfl rfl ?_
      refine h_next hCst1 ?_
      refine h_take (i := 12) (by exact rfl) rfl rfl rfl (by kernel_rfl) (fun w' hC => run_pick_yes (v := .bool true) rfl (by exact rfl) (by exact rfl)) hCst1 ?_
      refine h_done (by kernel_rfl) ?_
      refine r_cut_end ?_ ?_
      ·refine ⟨_, rfl, hbb1, hbb1.at, (by first | assumption | omega | (dsimp only; omega) | (simp; done)), hV⟩
      ·repeat (first | (with_reducible exact Agree.merge _ _ _) | (with_reducible exact Agree.refl _ _) | (with_reducible refine Agree.upd ?_ _ _ rfl) | ((with_reducible refine Agree.inner ?_ ?_); (kernel_rfl)))
   ·skip
    refine h_do (by exact rfl) ?_
    refine r_guard_no (by exact rfl) (by exact rfl) rfl rfl ?_
    refine h_next hCst1 ?_
    refine h_two (i := 4) (j := 8) (by kernel_rfl) ?_ ?_
    ·skip
     refine h_do (by exact rfl) ?_
     refine r_guard_no (by exact rfl) (by exact rfl) rfl rfl ?_
     refine h_next hCst1 ?_
     refine h_two (i := 6) (j := 8) (by kernel_rfl) ?_ ?_
     ·skip
      refine h_do (by exact rfl) ?_
      refine r_guard_no (by exact rfl) (by exact rfl) rfl rfl ?_
      refine h_next hCst1 ?_
      refine h_one (i := 8) (by kernel_rfl) ?_
      refine h_do (by exact rfl) ?_
      refine r_guard_no (by exact rfl) (by exact rfl) rfl rfl ?_
      refine h_next hCst1 ?_
      refine h_one (i := 9) (by kernel_rfl) ?_
      refine h_do (by exact rfl) ?_
      refine r_guard_no (by exact rfl) (by exact rfl) rfl rfl ?_
      refine h_next hCst1 ?_
      refine h_one (i := 11) (by kernel_rfl) ?_
      refine h_do (by exact rfl) ?_
      refine r_guard_no (by exact rfl) (by exact rfl) rfl rfl ?_
      refine h_next hCst1 ?_
      refine h_take (i := 12) (by exact rfl) rfl rfl rfl (by kernel_rfl) (fun w' hC => run_pick_yes (v := .bool true) rfl (by exact rfl) (by exact rfl)) hCst1 ?_
      refine h_done (by kernel_rfl) ?_
      refine r_cut_end ?_ ?_
      ·refine ⟨_, rfl, hbb1, hbb1.at, (by first | assumption | omega | (dsimp only; omega) | (simp; done)), hV⟩
      ·repeat (first | (with_reducible exact Agree.merge _ _ _) | (with_reducible exact Agree.refl _ _) | (with_reducible refine Agree.upd ?_ _ _ rfl) | ((with_reducible refine Agree.inner ?_ ?_); (kernel_rfl)))
     ·skip
      refine h_do (by exact rfl) ?_
      refine r_guard_no (by exact rfl) (by exact rfl) rfl rfl ?_
      refine h_next hCst1 ?_
      refine h_one (i := 6) (by kernel_rfl) ?_
      refine h_do (by exact rfl) ?_
      refine r_guard_no (by exact rfl) (by exact rfl) rfl rfl ?_
      refine h_next hCst1 ?_
      refine h_one (i := 9) (by kernel_rfl) ?_
      refine h_do (by exact rfl) ?_
      refine r_guard_no (by exact rfl) (by exact rfl) rfl rfl ?_
      refine h_next hCst1 ?_
      refine h_one (i := 11) (by kernel_rfl) ?_
      refine h_do (by exact rfl) ?_
      refine r_guard_no (by exact rfl) (by exact rfl) rfl rfl ?_
      refine h_next hCst1 ?_
      refine h_take (i := 12) (by exact rfl) rfl rfl rfl (by kernel_rfl) (fun w' hC => run_pick_yes (v := .bool true) rfl (by exact rfl) (by exact rfl)) hCst1 ?_
      refine h_done (by kernel_rfl) ?_
      refine r_cut_end ?_ ?_
      ·refine ⟨_, rfl, hbb1, hbb1.at, (by first | assumption | omega | (dsimp only; omega) | (simp; done)), hV⟩
      ·repeat (first | (with_reducible exact Agree.merge _ _ _) | (with_reducible exact Agree.refl _ _) | (with_reducible refine Agree.upd ?_ _ _ rfl) | ((with_reducible refine Agree.inner ?_ ?_); (kernel_rfl)))
    ·skip
     refine h_do (by exact rfl) ?_
     refine r_guard_no (by exact rfl) (by exact rfl) rfl rfl ?_
     refine h_next hCst1 ?_
     refine h_one (i := 4) (by kernel_rfl) ?_
     refine h_do (by exact rfl) ?_
     refine r_guard_no (by exact rfl) (by exact rfl) rfl rfl ?_
     refine h_next hCst1 ?_
     refine h_one (i := 6) (by kernel_rfl) ?_
     refine h_do (by exact rfl) ?_
     refine r_guard_no (by exact rfl) (by exact rfl) rfl rfl ?_
     refine h_next hCst1 ?_
     refine h_one (i := 9) (by kernel_rfl) ?_
     refine h_do (by exact rfl) ?_
     refine r_guard_no (by exact rfl) (by exact rfl) rfl rfl ?_
     refine h_next hCst1 ?_
     refine h_one (i := 11) (by kernel_rfl) ?_
     refine h_do (by exact rfl) ?_
     refine r_guard_no (by exact rfl) (by exact rfl) rfl rfl ?_
     refine h_next hCst1 ?_
     refine h_take (i := 12) (by exact rfl) rfl rfl rfl (by kernel_rfl) (fun w' hC => run_pick_yes (v := .bool true) rfl (by exact rfl) (by exact rfl)) hCst1 ?_
     refine h_done (by kernel_rfl) ?_
     refine r_cut_end ?_ ?_
     ·refine ⟨_, rfl, hbb1, hbb1.at, (by first | assumption | omega | (dsimp only; omega) | (simp; done)), hV⟩
     ·repeat (first | (with_reducible exact Agree.merge _ _ _) | (with_reducible exact Agree.refl _ _) | (with_reducible refine Agree.upd ?_ _ _ rfl) | ((with_reducible refine Agree.inner ?_ ?_); (kernel_rfl)))
  ·skip
   refine h_takeK (i := 5) (by exact rfl) (by exact rfl) (by exact rfl) (by exact rfl) rfl rfl (by kernel_rfl) (fun w' hC => run_mv (v := .slice _ _ _) rfl (by exact rfl)) hCst1 ?_
   refine h_takeK (i := 7) (by exact rfl) (by exact rfl) (by exact rfl) (by exact rfl) rfl rfl (by kernel_rfl) (fun w' hC => run_ldN rfl ag_42 ty_42 (by exact rfl) rfl (hAb1_q.evo0 hC)) hCst1 ?_
   refine h_takeK (i := 10) (by exact rfl) (by exact rfl) (by exact rfl) (by exact rfl) rfl rfl (by kernel_rfl) (fun w' hC => run_mv (v := .slice _ _ _) rfl (by exact rfl)) hCst1 ?_
   refine h_two (i := 4) (j := 8) (by kernel_rfl) ?_ ?_
   ·skip
    refine h_do (by exact rfl) ?_
    refine r_guard_yes (by exact rfl) (by exact rfl) ?_
    refine r_bslice (pv := []) (zs := [_, _, _]) (cs := []) Tryz.underlying22 ty_42 (by exact rfl) rfl (by exact rfl) rfl (by exact rfl) ?_
    intro b10 w11 heb10 hEw11 hbb10 hzb10
    have hs_w11 := (hEw11).size
    replace hV := evo_step0 hV hEw11
    replace hCst1 := evo_step0 hCst1 hEw11
    replace ht := ht0.now hV
    replace hc := hc0.now hV
    replace hn := hn0 _ hV
    replace hw := hw0 _ hV
    replace hq := hq0 _ hV
    replace hf := hf0 _ hV
    replace hbb1 := hbb1.evo0 hEw11
    replace hAb1 := hAb1.evo0 hEw11
    replace hrb6 := hrb6.evo0 hEw11
    have hAb10 := hbb10.at
    have hob10 : OwnR (α := TermL) w11 w2.heap.size 42 [] (.slice (some ⟨b10, 0, none⟩) 0 0) [] := ownR_lit0 hbb10 (by omega)
    refine h_next hCst1 ?_
    refine h_two (i := 6) (j := 8) (by kernel_rfl) ?_ ?_
    ·skip
     refine h_do (by exact rfl) ?_
     refine r_guard_yes (by exact rfl) (by exact rfl) ?_
     refine r_appendR (w1 := w0) (E' := []) rfl Tryz.underlying22 ty_42 (by exact rfl) term_one hob10 (by exact rfl) (by exact rfl) ht0 ((fun w9 h9 => Evo.trans hV h9 (fun x hx hlt => by simp [Value.ownBlock] at hx; omega))) rfl (by simp only [List.length_nil]; omega) (by simp only [List.length_nil]; omega) (by omega) ?_
     intro v12 w13 hEw13 hov12 hlv12
     have hs_w13 := (hEw13).size
     replace hV := evo_stepo hV hEw13 (fun g hg => .inl (by first | exact (hob10.block hg).1 | (have := hob10.block hg; omega)))
     replace hCst1 := evo_stepo hCst1 hEw13 (fun g hg => .inl (by first | exact (hob10.block hg).1 | (have := hob10.block hg; omega)))
     replace ht := ht0.now hV
     replace hc := hc0.now hV
     replace hn := hn0 _ hV
     replace hw := hw0 _ hV
     replace hq := hq0 _ hV
     replace hf := hf0 _ hV
     replace hbb1 := hbb1.evo hEw13 (by intro hm; have hm2 := Option.mem_toList.1 hm; first | (have := hob10.block hm2; omega) | (simp [Value.ownBlock] at hm2; omega))
     replace hAb1 := hAb1.evo hEw13 (by intro hm; have hm2 := Option.mem_toList.1 hm; first | (have := hob10.block hm2; omega) | (simp [Value.ownBlock] at hm2; omega))
     refine h_next hCst1 ?_
     refine h_one (i := 8) (by kernel_rfl) ?_
     refine h_do (by exact rfl) ?_
     refine r_guard_yes (by exact rfl) (by exact rfl) ?_
     have hob20 := fun g hg => (hov12.block (g := g) hg)
     refine r_bslice (pv := [(0, .agg _)]) (zs := [_, _, _]) (cs := [_, _, _]) Tryz.underlying22 ty_42 (by exact rfl) rfl (by exact rfl) rfl (by exact rfl) ?_
     intro b14 w15 heb14 hEw15 hbb14 hzb14
     have hs_w15 := (hEw15).size
     replace hV := evo_step0 hV hEw15
     replace hCst1 := evo_step0 hCst1 hEw15
     replace ht := ht0.now hV
     replace hc := hc0.now hV
     replace hn := hn0 _ hV
     replace hw := hw0 _ hV
     replace hq := hq0 _ hV
     replace hf := hf0 _ hV
     replace hbb1 := hbb1.evo0 hEw15
     replace hAb1 := hAb1.evo0 hEw15
     replace hov12 := hov12.evo0 hEw15
     have hAb14 := hbb14.at
     have hKb14 : Evo w15 w15 ([] ++ v12.ownBlock.toList) := Evo.refl _ _
     have hrb140 := rowLitRK ([] ++ v12.ownBlock.toList) hbb14 (fun hm => by have h8 := hob20 _ (Option.mem_toList.1 (by simpa using hm)); omega) (fun w9 h9 => hxr _ (Evo.trans hV h9 (fun y hy hlt => by have h8 := hob20 _ (Option.mem_toList.1 (by simpa using hy)); omega))) (x := x)
     have hrb14 := hrb140.now hKb14
     have hbd_hrb14 := hrb14.bd
     refine h_next hCst1 ?_
     refine h_one (i := 9) (by kernel_rfl) ?_
     refine h_do (by exact rfl) ?_
     refine r_guard_yes (by exact rfl) (by exact rfl) ?_
     refine r_appendR (w1 := w15) (E' := [] ++ v12.ownBlock.toList) rfl Tryz.underlying22 ty_42 (by exact rfl) term_one hov12 (by exact rfl) (by exact rfl) hrb140 ((fun w9 h9 => Evo.trans hKb14 h9 (fun x hx hlt => by simpa using hx))) rfl (by simp only [List.length_append, List.length_nil, List.length_singleton]; omega) (by simp only [List.length_append, List.length_nil, List.length_singleton]; omega) (by omega) ?_
     intro v16 w17 hEw17 hov16 hlv16
     have hs_w17 := (hEw17).size
     replace hV := evo_stepo hV hEw17 (fun g hg => .inl (by first | exact (hov12.block hg).1 | (have := hov12.block hg; omega)))
     replace hCst1 := evo_stepo hCst1 hEw17 (fun g hg => .inl (by first | exact (hov12.block hg).1 | (have := hov12.block hg; omega)))
     replace hKb14 := evo_stepo hKb14 hEw17 (fun g hg => .inr (by simpa using hg))
     replace ht := ht0.now hV
     replace hc := hc0.now hV
     replace hn := hn0 _ hV
     replace hw := hw0 _ hV
     replace hq := hq0 _ hV
     replace hf := hf0 _ hV
     replace hbb1 := hbb1.evo hEw17 (by intro hm; have hm2 := Option.mem_toList.1 hm; first | (have := hov12.block hm2; omega) | (simp [Value.ownBlock] at hm2; omega))
     replace hAb1 := hAb1.evo hEw17 (by intro hm; have hm2 := Option.mem_toList.1 hm; first | (have := hov12.block hm2; omega) | (simp [Value.ownBlock] at hm2; omega))
     replace hrb14 := hrb140.now hKb14
     refine h_next hCst1 ?_
     refine h_one (i := 11) (by kernel_rfl) ?_
     refine h_do (by exact rfl) ?_
     refine r_guard_yes (by exact rfl) (by exact rfl) ?_
     obtain ⟨ao18, g18, cp18, hv18, hr18⟩ := hov16.rowOf
     subst hv18
     have hbd_hr18 := hr18.bd
     refine r_opcall rfl rfl rfl (run_callf (vs := [.slice _ _ _, .slice _ _ _, .slice _ _ _]) rfl (by exact rfl) Tryz.func12 rfl (by kernel_rfl)) (bigx_calls hr18 hc (RowE.nil _ none 0 0 0)) ?_
     rintro e w19 ⟨bg19, rfl, _, hE19⟩
     refine ⟨_, rfl, ?_⟩
     have hs_w19 := (hE19).size
     replace hV := evo_step0 hV hE19
     replace hCst1 := evo_step0 hCst1 hE19
     replace hKb14 := evo_step0 hKb14 hE19
     replace ht := ht0.now hV
     replace hc := hc0.now hV
     replace hn := hn0 _ hV
     replace hw := hw0 _ hV
     replace hq := hq0 _ hV
     replace hf := hf0 _ hV
     replace hbb1 := hbb1.evo0 hE19
     replace hAb1 := hAb1.evo0 hE19
     replace hrb14 := hrb140.now hKb14
     replace hov16 := hov16.evo0 hE19
     replace hr18 := hr18.evo0 hE19
     refine h_next hCst1 ?_
     refine h_take (i := 12) (by exact rfl) rfl rfl rfl (by kernel_rfl) (fun w' hC => run_pick_no (v := .bool _) rfl (by exact rfl) (by exact rfl)) hCst1 ?_
     refine h_done (by kernel_rfl) ?_
     refine r_cut_end ?_ ?_
     ·refine ⟨_, rfl, hbb1, hbb1.at, (by first | assumption | omega | (dsimp only; omega) | (simp; done)), hV⟩
     ·repeat (first | (with_reducible exact Agree.merge _ _ _) | (with_reducible exact Agree.refl _ _) | (with_reducible refine Agree.upd ?_ _ _ rfl) | ((with_reducible refine Agree.inner ?_ ?_); (kernel_rfl)))
    ·skip
     refine h_do (by exact rfl) ?_
     refine r_guard_yes (by exact rfl) (by exact rfl) ?_
     refine r_bslice (pv := [(0, .agg _)]) (zs := [_, _, _]) (cs := [_, _, _]) Tryz.underlying22 ty_42 (by exact rfl) rfl (by exact rfl) rfl (by exact rfl) ?_
     intro b20 w21 heb20 hEw21 hbb20 hzb20
     have hs_w21 := (hEw21).size
     replace hV := evo_step0 hV hEw21
     replace hCst1 := evo_step0 hCst1 hEw21
     replace ht := ht0.now hV
     replace hc := hc0.now hV
     replace hn := hn0 _ hV
     replace hw := hw0 _ hV
     replace hq := hq0 _ hV
     replace hf := hf0 _ hV
     replace hbb1 := hbb1.evo0 hEw21
     replace hAb1 := hAb1.evo0 hEw21
     replace hrb6 := hrb6.evo0 hEw21
     replace hob10 := hob10.evo0 hEw21
     have hAb20 := hbb20.at
     have hKb20 : Evo w21 w21 ([b10]) := Evo.refl _ _
     have hrb200 := rowLitRK ([b10]) hbb20 (by simp; omega) (fun w9 h9 => hxr _ (Evo.trans hV h9 (fun y hy hlt => by simp at hy; omega))) (x := x)
     have hrb20 := hrb200.now hKb20
     have hbd_hrb20 := hrb20.bd
     refine h_next hCst1 ?_
     refine h_one (i := 6) (by kernel_rfl) ?_
     refine h_do (by exact rfl) ?_
     refine r_guard_yes (by exact rfl) (by exact rfl) ?_
     refine r_appendR (w1 := w0) (E' := []) rfl Tryz.underlying22 ty_42 (by exact rfl) term_one hob10 (by exact rfl) (by exact rfl) ht0 ((fun w9 h9 => Evo.trans hV h9 (fun x hx hlt => by simp [Value.ownBlock] at hx; omega))) rfl (by simp only [List.length_nil]; omega) (by simp only [List.length_nil]; omega) (by omega) ?_
     intro v22 w23 hEw23 hov22 hlv22
     have hs_w23 := (hEw23).size
     replace hV := evo_stepo hV hEw23 (fun g hg => .inl (by first | exact (hob10.block hg).1 | (have := hob10.block hg; omega)))
     replace hCst1 := evo_stepo hCst1 hEw23 (fun g hg => .inl (by first | exact (hob10.block hg).1 | (have := hob10.block hg; omega)))
     replace hKb20 := evo_stepo hKb20 hEw23 (fun g hg => .inr (by simp [Value.ownBlock] at hg; simp [hg]))
     replace ht := ht0.now hV
     replace hc := hc0.now hV
     replace hn := hn0 _ hV
     replace hw := hw0 _ hV
     replace hq := hq0 _ hV
     replace hf := hf0 _ hV
     replace hbb1 := hbb1.evo hEw23 (by intro hm; have hm2 := Option.mem_toList.1 hm; first | (have := hob10.block hm2; omega) | (simp [Value.ownBlock] at hm2; omega))
     replace hAb1 := hAb1.evo hEw23 (by intro hm; have hm2 := Option.mem_toList.1 hm; first | (have := hob10.block hm2; omega) | (simp [Value.ownBlock] at hm2; omega))
     replace hrb20 := hrb200.now hKb20
     refine h_next hCst1 ?_
     refine h_one (i := 9) (by kernel_rfl) ?_
     refine h_do (by exact rfl) ?_
     refine r_guard_yes (by exact rfl) (by exact rfl) ?_
     refine r_appendR (w1 := w21) (E' := [b10]) rfl Tryz.underlying22 ty_42 (by exact rfl) term_one hov22 (by exact rfl) (by exact rfl) hrb200 ((fun w9 h9 => Evo.trans hKb20 h9 (fun y hy hlt => (by have hg := Option.mem_toList.1 (show y ∈ (v22).ownBlock.toList by simpa using hy); rcases hlv22 with h7 | h7; (rw [h7] at hg; simp [Value.ownBlock] at hg; first | (exfalso; omega) | simp [hg]); (rw [h7] at hg; simp at hg; exfalso; omega))))) rfl (by simp only [List.length_append, List.length_nil, List.length_singleton]; omega) (by simp only [List.length_append, List.length_nil, List.length_singleton]; omega) (by omega) ?_
     intro v24 w25 hEw25 hov24 hlv24
     have hs_w25 := (hEw25).size
     replace hV := evo_stepo hV hEw25 (fun g hg => .inl (by first | exact (hov22.block hg).1 | (have := hov22.block hg; omega)))
     replace hCst1 := evo_stepo hCst1 hEw25 (fun g hg => .inl (by first | exact (hov22.block hg).1 | (have := hov22.block hg; omega)))
     replace hKb20 := evo_stepo hKb20 hEw25 (fun g hg => (by rcases hlv22 with h7 | h7; (rw [h7] at hg; simp [Value.ownBlock] at hg; first | (left; omega) | (right; simp [hg])); (rw [h7] at hg; simp at hg; left; omega)))
     replace ht := ht0.now hV
     replace hc := hc0.now hV
     replace hn := hn0 _ hV
     replace hw := hw0 _ hV
     replace hq := hq0 _ hV
     replace hf := hf0 _ hV
     replace hbb1 := hbb1.evo hEw25 (by intro hm; have hm2 := Option.mem_toList.1 hm; first | (have := hov22.block hm2; omega) | (simp [Value.ownBlock] at hm2; omega))
     replace hAb1 := hAb1.evo hEw25 (by intro hm; have hm2 := Option.mem_toList.1 hm; first | (have := hov22.block hm2; omega) | (simp [Value.ownBlock] at hm2; omega))
     replace hrb20 := hrb200.now hKb20
     refine h_next hCst1 ?_
     refine h_one (i := 11) (by kernel_rfl) ?_
     refine h_do (by exact rfl) ?_
     refine r_guard_yes (by exact rfl) (by exact rfl) ?_
     obtain ⟨ao26, g26, cp26, hv26, hr26⟩ := hov24.rowOf
     subst hv26
     have hbd_hr26 := hr26.bd
     refine r_opcall rfl rfl rfl (run_callf (vs := [.slice _ _ _, .slice _ _ _, .slice _ _ _]) rfl (by exact rfl) Tryz.func12 rfl (by kernel_rfl)) (bigx_calls hr26 hc (RowE.nil _ none 0 0 0)) ?_
     rintro e w27 ⟨bg27, rfl, _, hE27⟩
     refine ⟨_, rfl, ?_⟩
     have hs_w27 := (hE27).size
     replace hV := evo_step0 hV hE27
     replace hCst1 := evo_step0 hCst1 hE27
     replace hKb20 := evo_step0 hKb20 hE27
     replace ht := ht0.now hV
     replace hc := hc0.now hV
     replace hn := hn0 _ hV
     replace hw := hw0 _ hV
     replace hq := hq0 _ hV
     replace hf := hf0 _ hV
     replace hbb1 := hbb1.evo0 hE27
     replace hAb1 := hAb1.evo0 hE27
     replace hrb20 := hrb200.now hKb20
     replace hov24 := hov24.evo0 hE27
     replace hr26 := hr26.evo0 hE27
     refine h_next hCst1 ?_
     refine h_take (i := 12) (by exact rfl) rfl rfl rfl (by kernel_rfl) (fun w' hC => run_pick_no (v := .bool _) rfl (by exact rfl) (by exact rfl)) hCst1 ?_
     refine h_done (by kernel_rfl) ?_
     refine r_cut_end ?_ ?_
     ·refine ⟨_, rfl, hbb1, hbb1.at, (by first | assumption | omega | (dsimp only; omega) | (simp; done)), hV⟩
     ·repeat (first | (with_reducible exact Agree.merge _ _ _) | (with_reducible exact Agree.refl _ _) | (with_reducible refine Agree.upd ?_ _ _ rfl) | ((with_reducible refine Agree.inner ?_ ?_); (kernel_rfl)))
   ·skip
    refine h_do (by exact rfl) ?_
    refine r_guard_yes (by exact rfl) (by exact rfl) ?_
    refine r_bslice (pv := [(0, .agg _)]) (zs := [_, _, _]) (cs := [_, _, _]) Tryz.underlying22 ty_42 (by exact rfl) rfl (by exact rfl) rfl (by exact rfl) ?_
    intro b28 w29 heb28 hEw29 hbb28 hzb28
    have hs_w29 := (hEw29).size
    replace hV := evo_step0 hV hEw29
    replace hCst1 := evo_step0 hCst1 hEw29
    replace ht := ht0.now hV
    replace hc := hc0.now hV
    replace hn := hn0 _ hV
    replace hw := hw0 _ hV
    replace hq := hq0 _ hV
    replace hf := hf0 _ hV
    replace hbb1 := hbb1.evo0 hEw29
    replace hAb1 := hAb1.evo0 hEw29
    replace hrb6 := hrb6.evo0 hEw29
    have hAb28 := hbb28.at
    have hKb28 : Evo w29 w29 ([]) := Evo.refl _ _
    have hrb280 := rowLitRK ([]) hbb28 (by simp) (fun w9 h9 => hxr _ (Evo.trans hV h9 (fun y hy hlt => by cases hy))) (x := x)
    have hrb28 := hrb280.now hKb28
    have hbd_hrb28 := hrb28.bd
    refine h_next hCst1 ?_
    refine h_one (i := 4) (by kernel_rfl) ?_
    refine h_do (by exact rfl) ?_
    refine r_guard_yes (by exact rfl) (by exact rfl) ?_
    refine r_bslice (pv := []) (zs := [_, _, _]) (cs := []) Tryz.underlying22 ty_42 (by exact rfl) rfl (by exact rfl) rfl (by exact rfl) ?_
    intro b30 w31 heb30 hEw31 hbb30 hzb30
    have hs_w31 := (hEw31).size
    replace hV := evo_step0 hV hEw31
    replace hCst1 := evo_step0 hCst1 hEw31
    replace hKb28 := evo_step0 hKb28 hEw31
    replace ht := ht0.now hV
    replace hc := hc0.now hV
    replace hn := hn0 _ hV
    replace hw := hw0 _ hV
    replace hq := hq0 _ hV
    replace hf := hf0 _ hV
    replace hbb1 := hbb1.evo0 hEw31
    replace hAb1 := hAb1.evo0 hEw31
    replace hrb6 := hrb6.evo0 hEw31
    replace hrb28 := hrb280.now hKb28
    have hAb30 := hbb30.at
    have hob30 : OwnR (α := TermL) w31 w2.heap.size 42 [] (.slice (some ⟨b30, 0, none⟩) 0 0) [] := ownR_lit0 hbb30 (by omega)
    refine h_next hCst1 ?_
    refine h_one (i := 6) (by kernel_rfl) ?_
    refine h_do (by exact rfl) ?_
    refine r_guard_yes (by exact rfl) (by exact rfl) ?_
    refine r_appendR (w1 := w0) (E' := []) rfl Tryz.underlying22 ty_42 (by exact rfl) term_one hob30 (by exact rfl) (by exact rfl) ht0 ((fun w9 h9 => Evo.trans hV h9 (fun x hx hlt => by simp [Value.ownBlock] at hx; omega))) rfl (by simp only [List.length_nil]; omega) (by simp only [List.length_nil]; omega) (by omega) ?_
    intro v32 w33 hEw33 hov32 hlv32
    have hs_w33 := (hEw33).size
    replace hV := evo_stepo hV hEw33 (fun g hg => .inl (by first | exact (hob30.block hg).1 | (have := hob30.block hg; omega)))
    replace hCst1 := evo_stepo hCst1 hEw33 (fun g hg => .inl (by first | exact (hob30.block hg).1 | (have := hob30.block hg; omega)))
    replace hKb28 := evo_stepo hKb28 hEw33 (fun g hg => .inl (by simp [Value.ownBlock] at hg; omega))
    replace ht := ht0.now hV
    replace hc := hc0.now hV
    replace hn := hn0 _ hV
    replace hw := hw0 _ hV
    replace hq := hq0 _ hV
    replace hf := hf0 _ hV
    replace hbb1 := hbb1.evo hEw33 (by intro hm; have hm2 := Option.mem_toList.1 hm; first | (have := hob30.block hm2; omega) | (simp [Value.ownBlock] at hm2; omega))
    replace hAb1 := hAb1.evo hEw33 (by intro hm; have hm2 := Option.mem_toList.1 hm; first | (have := hob30.block hm2; omega) | (simp [Value.ownBlock] at hm2; omega))
    replace hrb28 := hrb280.now hKb28
    refine h_next hCst1 ?_
    refine h_one (i := 9) (by kernel_rfl) ?_
    refine h_do (by exact rfl) ?_
    refine r_guard_yes (by exact rfl) (by exact rfl) ?_
    refine r_appendR (w1 := w29) (E' := []) rfl Tryz.underlying22 ty_42 (by exact rfl) term_one hov32 (by exact rfl) (by exact rfl) hrb280 ((fun w9 h9 => Evo.trans hKb28 h9 (fun y hy hlt => (by have hg := Option.mem_toList.1 (show y ∈ (v32).ownBlock.toList by simpa using hy); rcases hlv32 with h7 | h7; (rw [h7] at hg; simp [Value.ownBlock] at hg; first | (exfalso; omega) | simp [hg]); (rw [h7] at hg; simp at hg; exfalso; omega))))) rfl (by simp only [List.length_append, List.length_nil, List.length_singleton]; omega) (by simp only [List.length_append, List.length_nil, List.length_singleton]; omega) (by omega) ?_
    intro v34 w35 hEw35 hov34 hlv34
    have hs_w35 := (hEw35).size
    replace hV := evo_stepo hV hEw35 (fun g hg => .inl (by first | exact (hov32.block hg).1 | (have := hov32.block hg; omega)))
    replace hCst1 := evo_stepo hCst1 hEw35 (fun g hg => .inl (by first | exact (hov32.block hg).1 | (have := hov32.block hg; omega)))
    replace hKb28 := evo_stepo hKb28 hEw35 (fun g hg => (by rcases hlv32 with h7 | h7; (rw [h7] at hg; simp [Value.ownBlock] at hg; first | (left; omega) | (right; simp [hg])); (rw [h7] at hg; simp at hg; left; omega)))
    replace ht := ht0.now hV
    replace hc := hc0.now hV
    replace hn := hn0 _ hV
    replace hw := hw0 _ hV
    replace hq := hq0 _ hV
    replace hf := hf0 _ hV
    replace hbb1 := hbb1.evo hEw35 (by intro hm; have hm2 := Option.mem_toList.1 hm; first | (have := hov32.block hm2; omega) | (simp [Value.ownBlock] at hm2; omega))
    replace hAb1 := hAb1.evo hEw35 (by intro hm; have hm2 := Option.mem_toList.1 hm; first | (have := hov32.block hm2; omega) | (simp [Value.ownBlock] at hm2; omega))
    replace hrb28 := hrb280.now hKb28
    refine h_next hCst1 ?_
    refine h_one (i := 11) (by kernel_rfl) ?_
    refine h_do (by exact rfl) ?_
    refine r_guard_yes (by exact rfl) (by exact rfl) ?_
    obtain ⟨ao36, g36, cp36, hv36, hr36⟩ := hov34.rowOf
    subst hv36
    have hbd_hr36 := hr36.bd
    refine r_opcall rfl rfl rfl (run_callf (vs := [.slice _ _ _, .slice _ _ _, .slice _ _ _]) rfl (by exact rfl) Tryz.func12 rfl (by kernel_rfl)) (bigx_calls hr36 hc (RowE.nil _ none 0 0 0)) ?_
    rintro e w37 ⟨bg37, rfl, _, hE37⟩
    refine ⟨_, rfl, ?_⟩
    have hs_w37 := (hE37).size
    replace hV := evo_step0 hV hE37
    replace hCst1 := evo_step0 hCst1 hE37
    replace hKb28 := evo_step0 hKb28 hE37
    replace ht := ht0.now hV
    replace hc := hc0.now hV
    replace hn := hn0 _ hV
    replace hw := hw0 _ hV
    replace hq := hq0 _ hV
    replace hf := hf0 _ hV
    replace hbb1 := hbb1.evo0 hE37
    replace hAb1 := hAb1.evo0 hE37
    replace hrb28 := hrb280.now hKb28
    replace hov34 := hov34.evo0 hE37
    replace hr36 := hr36.evo0 hE37
    refine h_next hCst1 ?_
    refine h_take (i := 12) (by exact rfl) rfl rfl rfl (by kernel_rfl) (fun w' hC => run_pick_no (v := .bool _) rfl (by exact rfl) (by exact rfl)) hCst1 ?_
    refine h_done (by kernel_rfl) ?_
    refine r_cut_end ?_ ?_
    ·refine ⟨_, rfl, hbb1, hbb1.at, (by first | assumption | omega | (dsimp only; omega) | (simp; done)), hV⟩
    ·repeat (first | (with_reducible exact Agree.merge _ _ _) | (with_reducible exact Agree.refl _ _) | (with_reducible refine Agree.upd ?_ _ _ rfl) | ((with_reducible refine Agree.inner ?_ ?_); (kernel_rfl)))
 ·rintro g w38 ⟨bx, hj39, hbb1, hAb1, hzl3, hV⟩
  have hs_w38hV := hV.size
  have hlt40 := hbb1.lt
  replace ht := ht0.now hV
  replace hc := hc0.now hV
  replace hn := hn0 _ hV
  replace hw := hw0 _ hV
  replace hq := hq0 _ hV
  replace hf := hf0 _ hV
  refine r_know (i := 26) (v := .bool bx) (by exact hj39) ?_
  refine r_condb (by exact rfl) (fun hc41 => ?_) (fun hc41 => ?_)
  ·skip
   refine r_seq ?_
   refine r_region ?_
   refine r_opcall rfl rfl rfl (run_callf (vs := []) rfl (by exact rfl) Tryz.func13 rfl (by kernel_rfl)) known_calls ?_
   rintro e w42 ⟨rfl, hE42⟩
   refine ⟨_, rfl, ?_⟩
   have hs_w42 := (hE42).size
   replace hV := evo_step0 hV hE42
   replace ht := ht0.now hV
   replace hc := hc0.now hV
   replace hn := hn0 _ hV
   replace hw := hw0 _ hV
   replace hq := hq0 _ hV
   replace hf := hf0 _ hV
   replace hbb1 := hbb1.evo0 hE42
   replace hAb1 := hAb1.evo0 hE42
   refine r_op rfl rfl rfl (run_asg (v := .bool _) rfl (by exact rfl)) ?_
   refine r_nil ?_
   refine r_ret (res1 (v := .bool _) rfl (by exact rfl)) ?_
   exact ⟨rfl, hV⟩
  ·skip
   refine r_skip ?_
   refine r_seq ?_
   refine r_region ?_
   refine r_op rfl rfl rfl (run_mv (v := .slice _ _ _) rfl (by exact rfl)) ?_
   refine r_opcall rfl rfl rfl (run_callf (vs := [.slice _ _ _]) rfl (by exact rfl) Tryz.func14 rfl (by kernel_rfl)) (scene_calls hn) ?_
   rintro e w43 ⟨vc43, vt43, vk43, cl43, ts43, fi43, mc43, rfl, zMC43, zMT43, zF43, hE43, zC43, zT43, zK43⟩
   refine ⟨_, rfl, ?_⟩
   have hs_w43 := (hE43).size
   replace hV := evo_step0 hV hE43
   replace ht := ht0.now hV
   replace hc := hc0.now hV
   replace hn := hn0 _ hV
   replace hw := hw0 _ hV
   replace hq := hq0 _ hV
   replace hf := hf0 _ hV
   replace hbb1 := hbb1.evo0 hE43
   replace hAb1 := hAb1.evo0 hE43
   have hMt := made_text zF43.2.2; have hMl := made_tl zF43.2.2 zF43.2.1; have hMn := zMT43.2
   refine r_op rfl rfl rfl (run_mv (v := .tuple _) rfl (by exact rfl)) ?_
   refine r_op rfl rfl rfl (run_extract (v := vc43) rfl (by exact rfl) (by exact rfl)) ?_
   refine r_op rfl rfl rfl (run_extract (v := vt43) rfl (by exact rfl) (by exact rfl)) ?_
   refine r_op rfl rfl rfl (run_extract (v := vk43) rfl (by exact rfl) (by exact rfl)) ?_
   refine r_op rfl rfl rfl (run_asg (v := vc43) rfl (by exact rfl)) ?_
   refine r_op rfl rfl rfl (run_asg (v := vt43) rfl (by exact rfl)) ?_
   refine r_op rfl rfl rfl (run_asg (v := vk43) rfl (by exact rfl)) ?_
   refine r_nil ?_
   refine r_seq ?_
   refine r_seq ?_
   obtain ⟨ao44, g44, cp44, hv44, hr44⟩ := zC43.rowOf
   subst hv44
   have hbd_hr44 := hr44.bd
   have hI45 : Evo w43 w43 [] := Evo.refl _ _
   have hr440 := hr44.keep
   have hbd_hr44 := hr44.bd
   obtain ⟨ao46, g46, cp46, hv46, hr46⟩ := zT43.rowOf
   subst hv46
   have hbd_hr46 := hr46.bd
   have hI47 : Evo w43 w43 [] := Evo.refl _ _
   have hr460 := hr46.keep
   have hbd_hr46 := hr46.bd
   have hI48 : Evo w43 w43 [] := Evo.refl _ _
   obtain ⟨ao49, g49, cp49, hv49, hr49, hg49⟩ := zK43.rowOf
   subst hv49
   have hr490 := keepE hr49
   have hjL : ∀ i, ∀ y ∈ (([⟨ts⟩, ⟨ts43⟩, ⟨ts43 ++ [x]⟩] : List TmsL).getD i default).ts, JudT y := tms_jud hjb (fun x hx => (zMT43.1 x hx).jud) hjx; have hlw : ([⟨ts⟩, ⟨ts43⟩, ⟨ts43 ++ [x]⟩] : List TmsL).length = 3 := rfl
   refine r_cut [34, 35, 36, 37, 38, 39, 40, 41, 42, 43, 44] (fun g w => ∃ bw : Nat, g 42 = .slice (some ⟨bw, 0, none⟩) 3 3 ∧ g 43 = .int .i64 ((3 : Nat) : Int) ∧ g 44 = .int .i64 ((0 : Nat) : Int) ∧ RowR w (some ⟨bw, 0, none⟩) bw 0 3 ([⟨ts⟩, ⟨ts43⟩, ⟨ts43 ++ [x]⟩] : List TmsL) ∧ w43.heap.size ≤ w.heap.size ∧ Evo w0 w [] ∧ Evo w43 w [] ∧ Evo w43 w [] ∧ Evo w43 w []) ?_ ?_
   ·skip
    have hbb1_q := hbb1
    have hAb1_q := hAb1
    have hV_q := hV
    have hI45_q := hI45
    have hI47_q := hI47
    have hI48_q := hI48
    refine h_region ([]) (by kernel_rfl) ?_
    intro w51 hE52 hCst4
    have hs_w51 := (hE52).size
    replace hV := evo_step0 hV hE52
    replace hI45 := evo_step0 hI45 hE52
    replace hI47 := evo_step0 hI47 hE52
    replace hI48 := evo_step0 hI48 hE52
    replace ht := ht0.now hV
    replace hc := hc0.now hV
    replace hn := hn0 _ hV
    replace hw := hw0 _ hV
    replace hq := hq0 _ hV
    replace hf := hf0 _ hV
    replace hbb1 := hbb1.evo0 hE52
    replace hAb1 := hAb1.evo0 hE52
    replace hr44 := hr440.now hI45
    replace hr46 := hr460.now hI47
    replace hr49 := hr490 _ hI48
    refine h_take (i := 0) (by exact rfl) rfl rfl rfl (by kernel_rfl) (fun w' hC => run_mv (v := .slice _ _ _) rfl (by exact rfl)) hCst4 ?_
    refine h_take (i := 1) (by exact rfl) rfl rfl rfl (by kernel_rfl) (fun w' hC => run_mv (v := .slice _ _ _) rfl (by exact rfl)) hCst4 ?_
    refine h_take (i := 3) (by exact rfl) rfl rfl rfl (by kernel_rfl) (fun w' hC => run_mv (v := .slice _ _ _) rfl (by exact rfl)) hCst4 ?_
    refine h_take (i := 5) (by exact rfl) rfl rfl rfl (by kernel_rfl) (fun w' hC => run_ldN rfl ag_42 ty_42 (by exact rfl) rfl (hAb1_q.evo0 hC)) hCst4 ?_
    refine h_take (i := 10) (by exact rfl) rfl rfl rfl (by kernel_rfl) (fun w' hC => run_mv (v := .int _ _) rfl (by exact rfl)) hCst4 ?_
    refine h_two (i := 2) (j := 6) (by kernel_rfl) ?_ ?_
    ·skip
     refine h_do (by exact rfl) ?_
     refine r_bslice (pv := []) (zs := [_, _, _]) (cs := []) Tryz.underlying22 ty_42 (by exact rfl) rfl (by exact rfl) rfl (by exact rfl) ?_
     intro b53 w54 heb53 hEw54 hbb53 hzb53
     have hs_w54 := (hEw54).size
     replace hV := evo_step0 hV hEw54
     replace hI45 := evo_step0 hI45 hEw54
     replace hI47 := evo_step0 hI47 hEw54
     replace hI48 := evo_step0 hI48 hEw54
     replace hCst4 := evo_step0 hCst4 hEw54
     replace ht := ht0.now hV
     replace hc := hc0.now hV
     replace hn := hn0 _ hV
     replace hw := hw0 _ hV
     replace hq := hq0 _ hV
     replace hf := hf0 _ hV
     replace hbb1 := hbb1.evo0 hEw54
     replace hAb1 := hAb1.evo0 hEw54
     replace hr44 := hr440.now hI45
     replace hr46 := hr460.now hI47
     replace hr49 := hr490 _ hI48
     have hAb53 := hbb53.at
     have hob53 : OwnR (α := TermL) w54 w43.heap.size 42 [] (.slice (some ⟨b53, 0, none⟩) 0 0) [] := ownR_lit0 hbb53 (by omega)
     refine h_next hCst4 ?_
     refine h_two (i := 4) (j := 6) (by kernel_rfl) ?_ ?_
     ·skip
      refine h_do (by exact rfl) ?_
      refine r_appendR (w1 := w43) (E' := []) rfl Tryz.underlying22 ty_42 (by exact rfl) term_one hob53 (by exact rfl) (by exact rfl) hr460 ((fun w9 h9 => Evo.trans hI47 h9 (fun x hx hlt => by simp [Value.ownBlock] at hx; omega))) rfl (by simp only [List.length_nil]; omega) (by simp only [List.length_nil]; omega) (by omega) ?_
      intro v55 w56 hEw56 hov55 hlv55
      have hs_w56 := (hEw56).size
      replace hV := evo_stepo hV hEw56 (fun g hg => .inl (by first | exact (hob53.block hg).1 | (have := hob53.block hg; omega)))
      replace hI45 := evo_stepo hI45 hEw56 (fun g hg => .inl (by first | exact (hob53.block hg).1 | (have := hob53.block hg; omega)))
      replace hI47 := evo_stepo hI47 hEw56 (fun g hg => .inl (by first | exact (hob53.block hg).1 | (have := hob53.block hg; omega)))
      replace hI48 := evo_stepo hI48 hEw56 (fun g hg => .inl (by first | exact (hob53.block hg).1 | (have := hob53.block hg; omega)))
      replace hCst4 := evo_stepo hCst4 hEw56 (fun g hg => .inl (by first | exact (hob53.block hg).1 | (have := hob53.block hg; omega)))
      replace ht := ht0.now hV
      replace hc := hc0.now hV
      replace hn := hn0 _ hV
      replace hw := hw0 _ hV
      replace hq := hq0 _ hV
      replace hf := hf0 _ hV
      replace hbb1 := hbb1.evo hEw56 (by intro hm; have hm2 := Option.mem_toList.1 hm; first | (have := hob53.block hm2; omega) | (simp [Value.ownBlock] at hm2; omega))
      replace hAb1 := hAb1.evo hEw56 (by intro hm; have hm2 := Option.mem_toList.1 hm; first | (have := hob53.block hm2; omega) | (simp [Value.ownBlock] at hm2; omega))
      replace hr44 := hr440.now hI45
      replace hr46 := hr460.now hI47
      replace hr49 := hr490 _ hI48
      refine h_next hCst4 ?_
      refine h_one (i := 6) (by kernel_rfl) ?_
      refine h_do (by exact rfl) ?_
      have hob20 := fun g hg => (hov55.block (g := g) hg)
      refine r_bslice (pv := [(0, .agg _)]) (zs := [_, _, _]) (cs := [_, _, _]) Tryz.underlying22 ty_42 (by exact rfl) rfl (by exact rfl) rfl (by exact rfl) ?_
      intro b57 w58 heb57 hEw58 hbb57 hzb57
      have hs_w58 := (hEw58).size
      replace hV := evo_step0 hV hEw58
      replace hI45 := evo_step0 hI45 hEw58
      replace hI47 := evo_step0 hI47 hEw58
      replace hI48 := evo_step0 hI48 hEw58
      replace hCst4 := evo_step0 hCst4 hEw58
      replace ht := ht0.now hV
      replace hc := hc0.now hV
      replace hn := hn0 _ hV
      replace hw := hw0 _ hV
      replace hq := hq0 _ hV
      replace hf := hf0 _ hV
      replace hbb1 := hbb1.evo0 hEw58
      replace hAb1 := hAb1.evo0 hEw58
      replace hr44 := hr440.now hI45
      replace hr46 := hr460.now hI47
      replace hr49 := hr490 _ hI48
      replace hov55 := hov55.evo0 hEw58
      have hAb57 := hbb57.at
      have hKb57 : Evo w58 w58 ([] ++ v55.ownBlock.toList) := Evo.refl _ _
      have hrb570 := rowLitRK ([] ++ v55.ownBlock.toList) hbb57 (fun hm => by have h8 := hob20 _ (Option.mem_toList.1 (by simpa using hm)); omega) (fun w9 h9 => hxr _ (Evo.trans hV h9 (fun y hy hlt => by have h8 := hob20 _ (Option.mem_toList.1 (by simpa using hy)); omega))) (x := x)
      have hrb57 := hrb570.now hKb57
      have hbd_hrb57 := hrb57.bd
      refine h_next hCst4 ?_
      refine h_one (i := 7) (by kernel_rfl) ?_
      refine h_do (by exact rfl) ?_
      refine r_appendR (w1 := w58) (E' := [] ++ v55.ownBlock.toList) rfl Tryz.underlying22 ty_42 (by exact rfl) term_one hov55 (by exact rfl) (by exact rfl) hrb570 ((fun w9 h9 => Evo.trans hKb57 h9 (fun x hx hlt => by simpa using hx))) rfl (by simp only [List.length_append, List.length_nil, List.length_singleton]; omega) (by simp only [List.length_append, List.length_nil, List.length_singleton]; omega) (by omega) ?_
      intro v59 w60 hEw60 hov59 hlv59
      have hs_w60 := (hEw60).size
      replace hV := evo_stepo hV hEw60 (fun g hg => .inl (by first | exact (hov55.block hg).1 | (have := hov55.block hg; omega)))
      replace hI45 := evo_stepo hI45 hEw60 (fun g hg => .inl (by first | exact (hov55.block hg).1 | (have := hov55.block hg; omega)))
      replace hI47 := evo_stepo hI47 hEw60 (fun g hg => .inl (by first | exact (hov55.block hg).1 | (have := hov55.block hg; omega)))
      replace hI48 := evo_stepo hI48 hEw60 (fun g hg => .inl (by first | exact (hov55.block hg).1 | (have := hov55.block hg; omega)))
      replace hCst4 := evo_stepo hCst4 hEw60 (fun g hg => .inl (by first | exact (hov55.block hg).1 | (have := hov55.block hg; omega)))
      replace hKb57 := evo_stepo hKb57 hEw60 (fun g hg => .inr (by simpa using hg))
      replace ht := ht0.now hV
      replace hc := hc0.now hV
      replace hn := hn0 _ hV
      replace hw := hw0 _ hV
      replace hq := hq0 _ hV
      replace hf := hf0 _ hV
      replace hbb1 := hbb1.evo hEw60 (by intro hm; have hm2 := Option.mem_toList.1 hm; first | (have := hov55.block hm2; omega) | (simp [Value.ownBlock] at hm2; omega))
      replace hAb1 := hAb1.evo hEw60 (by intro hm; have hm2 := Option.mem_toList.1 hm; first | (have := hov55.block hm2; omega) | (simp [Value.ownBlock] at hm2; omega))
      replace hr44 := hr440.now hI45
      replace hr46 := hr460.now hI47
      replace hr49 := hr490 _ hI48
      replace hrb57 := hrb570.now hKb57
      refine h_next hCst4 ?_
      refine h_one (i := 8) (by kernel_rfl) ?_
      refine h_do (by exact rfl) ?_
      obtain ⟨ao61, g61, cp61, hv61, hr61⟩ := hov59.rowOf
      subst hv61
      have hbd_hr61 := hr61.bd
      refine r_bslice (pv := [(0, .slice _ _ _), (1, .slice _ _ _), (2, .slice _ _ _)]) (zs := [_]) (cs := [_, _, _]) Tryz.underlying62 ty_22 (by exact rfl) rfl (by exact rfl) rfl (by exact rfl) ?_
      intro b62 w63 heb62 hEw63 hbb62 hzb62
      have hs_w63 := (hEw63).size
      replace hV := evo_step0 hV hEw63
      replace hI45 := evo_step0 hI45 hEw63
      replace hI47 := evo_step0 hI47 hEw63
      replace hI48 := evo_step0 hI48 hEw63
      replace hCst4 := evo_step0 hCst4 hEw63
      replace hKb57 := evo_step0 hKb57 hEw63
      replace ht := ht0.now hV
      replace hc := hc0.now hV
      replace hn := hn0 _ hV
      replace hw := hw0 _ hV
      replace hq := hq0 _ hV
      replace hf := hf0 _ hV
      replace hbb1 := hbb1.evo0 hEw63
      replace hAb1 := hAb1.evo0 hEw63
      replace hr44 := hr440.now hI45
      replace hr46 := hr460.now hI47
      replace hr49 := hr490 _ hI48
      replace hrb57 := hrb570.now hKb57
      replace hov59 := hov59.evo0 hEw63
      replace hr61 := hr61.evo0 hEw63
      have hAb62 := hbb62.at
      have hrb62 : RowR w63 (some ⟨b62, 0, none⟩) b62 0 3 ([⟨ts⟩, ⟨ts43⟩, ⟨ts43 ++ [x]⟩] : List TmsL) := rowLitR [[_], [_], [_]] ([⟨ts⟩, ⟨ts43⟩, ⟨ts43 ++ [x]⟩] : List TmsL) hbb62 rfl (((RepL.one (tms_rep (ht0.now hV))).append (RepL.one (tms_rep (hr460.now hI47)))).append (RepL.one (tms_rep hr61))) rfl
      refine h_next hCst4 ?_
      refine h_take (i := 9) (by exact rfl) rfl rfl rfl (by kernel_rfl) (fun w' hC => run_lenSl rfl (by exact rfl) Tryz.underlying62) hCst4 ?_
      refine h_done (by kernel_rfl) ?_
      refine r_cut_end ?_ ?_
      ·refine ⟨_, rfl, rfl, rfl, hrb62, (by first | assumption | omega | (dsimp only; omega) | (simp; done)), hV, hI45, hI47, hI48⟩
      ·repeat (first | (with_reducible exact Agree.merge _ _ _) | (with_reducible exact Agree.refl _ _) | (with_reducible refine Agree.upd ?_ _ _ rfl) | ((with_reducible refine Agree.inner ?_ ?_); (kernel_rfl)))
     ·skip
      refine h_do (by exact rfl) ?_
      refine r_bslice (pv := [(0, .agg _)]) (zs := [_, _, _]) (cs := [_, _, _]) Tryz.underlying22 ty_42 (by exact rfl) rfl (by exact rfl) rfl (by exact rfl) ?_
      intro b64 w65 heb64 hEw65 hbb64 hzb64
      have hs_w65 := (hEw65).size
      replace hV := evo_step0 hV hEw65
      replace hI45 := evo_step0 hI45 hEw65
      replace hI47 := evo_step0 hI47 hEw65
      replace hI48 := evo_step0 hI48 hEw65
      replace hCst4 := evo_step0 hCst4 hEw65
      replace ht := ht0.now hV
      replace hc := hc0.now hV
      replace hn := hn0 _ hV
      replace hw := hw0 _ hV
      replace hq := hq0 _ hV
      replace hf := hf0 _ hV
      replace hbb1 := hbb1.evo0 hEw65
      replace hAb1 := hAb1.evo0 hEw65
      replace hr44 := hr440.now hI45
      replace hr46 := hr460.now hI47
      replace hr49 := hr490 _ hI48
      replace hob53 := hob53.evo0 hEw65
      have hAb64 := hbb64.at
      have hKb64 : Evo w65 w65 ([b53]) := Evo.refl _ _
      have hrb640 := rowLitRK ([b53]) hbb64 (by simp; omega) (fun w9 h9 => hxr _ (Evo.trans hV h9 (fun y hy hlt => by simp at hy; omega))) (x := x)
      have hrb64 := hrb640.now hKb64
      have hbd_hrb64 := hrb64.bd
      refine h_next hCst4 ?_
      refine h_one (i := 4) (by kernel_rfl) ?_
      refine h_do (by exact rfl) ?_
      refine r_appendR (w1 := w43) (E' := []) rfl Tryz.underlying22 ty_42 (by exact rfl) term_one hob53 (by exact rfl) (by exact rfl) hr460 ((fun w9 h9 => Evo.trans hI47 h9 (fun x hx hlt => by simp [Value.ownBlock] at hx; omega))) rfl (by simp only [List.length_nil]; omega) (by simp only [List.length_nil]; omega) (by omega) ?_
      intro v66 w67 hEw67 hov66 hlv66
      have hs_w67 := (hEw67).size
      replace hV := evo_stepo hV hEw67 (fun g hg => .inl (by first | exact (hob53.block hg).1 | (have := hob53.block hg; omega)))
      replace hI45 := evo_stepo hI45 hEw67 (fun g hg => .inl (by first | exact (hob53.block hg).1 | (have := hob53.block hg; omega)))
      replace hI47 := evo_stepo hI47 hEw67 (fun g hg => .inl (by first | exact (hob53.block hg).1 | (have := hob53.block hg; omega)))
      replace hI48 := evo_stepo hI48 hEw67 (fun g hg => .inl (by first | exact (hob53.block hg).1 | (have := hob53.block hg; omega)))
      replace hCst4 := evo_stepo hCst4 hEw67 (fun g hg => .inl (by first | exact (hob53.block hg).1 | (have := hob53.block hg; omega)))
      replace hKb64 := evo_stepo hKb64 hEw67 (fun g hg => .inr (by simp [Value.ownBlock] at hg; simp [hg]))
      replace ht := ht0.now hV
      replace hc := hc0.now hV
      replace hn := hn0 _ hV
      replace hw := hw0 _ hV
      replace hq := hq0 _ hV
      replace hf := hf0 _ hV
      replace hbb1 := hbb1.evo hEw67 (by intro hm; have hm2 := Option.mem_toList.1 hm; first | (have := hob53.block hm2; omega) | (simp [Value.ownBlock] at hm2; omega))
      replace hAb1 := hAb1.evo hEw67 (by intro hm; have hm2 := Option.mem_toList.1 hm; first | (have := hob53.block hm2; omega) | (simp [Value.ownBlock] at hm2; omega))
      replace hr44 := hr440.now hI45
      replace hr46 := hr460.now hI47
      replace hr49 := hr490 _ hI48
      replace hrb64 := hrb640.now hKb64
      refine h_next hCst4 ?_
      refine h_one (i := 7) (by kernel_rfl) ?_
      refine h_do (by exact rfl) ?_
      refine r_appendR (w1 := w65) (E' := [b53]) rfl Tryz.underlying22 ty_42 (by exact rfl) term_one hov66 (by exact rfl) (by exact rfl) hrb640 ((fun w9 h9 => Evo.trans hKb64 h9 (fun y hy hlt => (by have hg := Option.mem_toList.1 (show y ∈ (v66).ownBlock.toList by simpa using hy); rcases hlv66 with h7 | h7; (rw [h7] at hg; simp [Value.ownBlock] at hg; first | (exfalso; omega) | simp [hg]); (rw [h7] at hg; simp at hg; exfalso; omega))))) rfl (by simp only [List.length_append, List.length_nil, List.length_singleton]; omega) (by simp only [List.length_append, List.length_nil, List.length_singleton]; omega) (by omega) ?_
      intro v68 w69 hEw69 hov68 hlv68
      have hs_w69 := (hEw69).size
      replace hV := evo_stepo hV hEw69 (fun g hg => .inl (by first | exact (hov66.block hg).1 | (have := hov66.block hg; omega)))
      replace hI45 := evo_stepo hI45 hEw69 (fun g hg => .inl (by first | exact (hov66.block hg).1 | (have := hov66.block hg; omega)))
      replace hI47 := evo_stepo hI47 hEw69 (fun g hg => .inl (by first | exact (hov66.block hg).1 | (have := hov66.block hg; omega)))
      replace hI48 := evo_stepo hI48 hEw69 (fun g hg => .inl (by first | exact (hov66.block hg).1 | (have := hov66.block hg; omega)))
      replace hCst4 := evo_stepo hCst4 hEw69 (fun g hg => .inl (by first | exact (hov66.block hg).1 | (have := hov66.block hg; omega)))
      replace hKb64 := evo_stepo hKb64 hEw69 (fun g hg => (by rcases hlv66 with h7 | h7; (rw [h7] at hg; simp [Value.ownBlock] at hg; first | (left; omega) | (right; simp [hg])); (rw [h7] at hg; simp at hg; left; omega)))
      replace ht := ht0.now hV
      replace hc := hc0.now hV
      replace hn := hn0 _ hV
      replace hw := hw0 _ hV
      replace hq := hq0 _ hV
      replace hf := hf0 _ hV
      replace hbb1 := hbb1.evo hEw69 (by intro hm; have hm2 := Option.mem_toList.1 hm; first | (have := hov66.block hm2; omega) | (simp [Value.ownBlock] at hm2; omega))
      replace hAb1 := hAb1.evo hEw69 (by intro hm; have hm2 := Option.mem_toList.1 hm; first | (have := hov66.block hm2; omega) | (simp [Value.ownBlock] at hm2; omega))
      replace hr44 := hr440.now hI45
      replace hr46 := hr460.now hI47
      replace hr49 := hr490 _ hI48
      replace hrb64 := hrb640.now hKb64
      refine h_next hCst4 ?_
      refine h_one (i := 8) (by kernel_rfl) ?_
      refine h_do (by exact rfl) ?_
      obtain ⟨ao70, g70, cp70, hv70, hr70⟩ := hov68.rowOf
      subst hv70
      have hbd_hr70 := hr70.bd
      refine r_bslice (pv := [(0, .slice _ _ _), (1, .slice _ _ _), (2, .slice _ _ _)]) (zs := [_]) (cs := [_, _, _]) Tryz.underlying62 ty_22 (by exact rfl) rfl (by exact rfl) rfl (by exact rfl) ?_
      intro b71 w72 heb71 hEw72 hbb71 hzb71
      have hs_w72 := (hEw72).size
      replace hV := evo_step0 hV hEw72
      replace hI45 := evo_step0 hI45 hEw72
      replace hI47 := evo_step0 hI47 hEw72
      replace hI48 := evo_step0 hI48 hEw72
      replace hCst4 := evo_step0 hCst4 hEw72
      replace hKb64 := evo_step0 hKb64 hEw72
      replace ht := ht0.now hV
      replace hc := hc0.now hV
      replace hn := hn0 _ hV
      replace hw := hw0 _ hV
      replace hq := hq0 _ hV
      replace hf := hf0 _ hV
      replace hbb1 := hbb1.evo0 hEw72
      replace hAb1 := hAb1.evo0 hEw72
      replace hr44 := hr440.now hI45
      replace hr46 := hr460.now hI47
      replace hr49 := hr490 _ hI48
      replace hrb64 := hrb640.now hKb64
      replace hov68 := hov68.evo0 hEw72
      replace hr70 := hr70.evo0 hEw72
      have hAb71 := hbb71.at
      have hrb71 : RowR w72 (some ⟨b71, 0, none⟩) b71 0 3 ([⟨ts⟩, ⟨ts43⟩, ⟨ts43 ++ [x]⟩] : List TmsL) := rowLitR [[_], [_], [_]] ([⟨ts⟩, ⟨ts43⟩, ⟨ts43 ++ [x]⟩] : List TmsL) hbb71 rfl (((RepL.one (tms_rep (ht0.now hV))).append (RepL.one (tms_rep (hr460.now hI47)))).append (RepL.one (tms_rep hr70))) rfl
      refine h_next hCst4 ?_
      refine h_take (i := 9) (by exact rfl) rfl rfl rfl (by kernel_rfl) (fun w' hC => run_lenSl rfl (by exact rfl) Tryz.underlying62) hCst4 ?_
      refine h_done (by kernel_rfl) ?_
      refine r_cut_end ?_ ?_
      ·refine ⟨_, rfl, rfl, rfl, hrb71, (by first | assumption | omega | (dsimp only; omega) | (simp; done)), hV, hI45, hI47, hI48⟩
      ·repeat (first | (with_reducible exact Agree.merge _ _ _) | (with_reducible exact Agree.refl _ _) | (with_reducible refine Agree.upd ?_ _ _ rfl) | ((with_reducible refine Agree.inner ?_ ?_); (kernel_rfl)))
    ·skip
     refine h_do (by exact rfl) ?_
     refine r_bslice (pv := [(0, .agg _)]) (zs := [_, _, _]) (cs := [_, _, _]) Tryz.underlying22 ty_42 (by exact rfl) rfl (by exact rfl) rfl (by exact rfl) ?_
     intro b73 w74 heb73 hEw74 hbb73 hzb73
     have hs_w74 := (hEw74).size
     replace hV := evo_step0 hV hEw74
     replace hI45 := evo_step0 hI45 hEw74
     replace hI47 := evo_step0 hI47 hEw74
     replace hI48 := evo_step0 hI48 hEw74
     replace hCst4 := evo_step0 hCst4 hEw74
     replace ht := ht0.now hV
     replace hc := hc0.now hV
     replace hn := hn0 _ hV
     replace hw := hw0 _ hV
     replace hq := hq0 _ hV
     replace hf := hf0 _ hV
     replace hbb1 := hbb1.evo0 hEw74
     replace hAb1 := hAb1.evo0 hEw74
     replace hr44 := hr440.now hI45
     replace hr46 := hr460.now hI47
     replace hr49 := hr490 _ hI48
     have hAb73 := hbb73.at
     have hKb73 : Evo w74 w74 ([]) := Evo.refl _ _
     have hrb730 := rowLitRK ([]) hbb73 (by simp) (fun w9 h9 => hxr _ (Evo.trans hV h9 (fun y hy hlt => by cases hy))) (x := x)
     have hrb73 := hrb730.now hKb73
     have hbd_hrb73 := hrb73.bd
     refine h_next hCst4 ?_
     refine h_one (i := 2) (by kernel_rfl) ?_
     refine h_do (by exact rfl) ?_
     refine r_bslice (pv := []) (zs := [_, _, _]) (cs := []) Tryz.underlying22 ty_42 (by exact rfl) rfl (by exact rfl) rfl (by exact rfl) ?_
     intro b75 w76 heb75 hEw76 hbb75 hzb75
     have hs_w76 := (hEw76).size
     replace hV := evo_step0 hV hEw76
     replace hI45 := evo_step0 hI45 hEw76
     replace hI47 := evo_step0 hI47 hEw76
     replace hI48 := evo_step0 hI48 hEw76
     replace hCst4 := evo_step0 hCst4 hEw76
     replace hKb73 := evo_step0 hKb73 hEw76
     replace ht := ht0.now hV
     replace hc := hc0.now hV
     replace hn := hn0 _ hV
     replace hw := hw0 _ hV
     replace hq := hq0 _ hV
     replace hf := hf0 _ hV
     replace hbb1 := hbb1.evo0 hEw76
     replace hAb1 := hAb1.evo0 hEw76
     replace hr44 := hr440.now hI45
     replace hr46 := hr460.now hI47
     replace hr49 := hr490 _ hI48
     replace hrb73 := hrb730.now hKb73
     have hAb75 := hbb75.at
     have hob75 : OwnR (α := TermL) w76 w43.heap.size 42 [] (.slice (some ⟨b75, 0, none⟩) 0 0) [] := ownR_lit0 hbb75 (by omega)
     refine h_next hCst4 ?_
     refine h_one (i := 4) (by kernel_rfl) ?_
     refine h_do (by exact rfl) ?_
     refine r_appendR (w1 := w43) (E' := []) rfl Tryz.underlying22 ty_42 (by exact rfl) term_one hob75 (by exact rfl) (by exact rfl) hr460 ((fun w9 h9 => Evo.trans hI47 h9 (fun x hx hlt => by simp [Value.ownBlock] at hx; omega))) rfl (by simp only [List.length_nil]; omega) (by simp only [List.length_nil]; omega) (by omega) ?_
     intro v77 w78 hEw78 hov77 hlv77
     have hs_w78 := (hEw78).size
     replace hV := evo_stepo hV hEw78 (fun g hg => .inl (by first | exact (hob75.block hg).1 | (have := hob75.block hg; omega)))
     replace hI45 := evo_stepo hI45 hEw78 (fun g hg => .inl (by first | exact (hob75.block hg).1 | (have := hob75.block hg; omega)))
     replace hI47 := evo_stepo hI47 hEw78 (fun g hg => .inl (by first | exact (hob75.block hg).1 | (have := hob75.block hg; omega)))
     replace hI48 := evo_stepo hI48 hEw78 (fun g hg => .inl (by first | exact (hob75.block hg).1 | (have := hob75.block hg; omega)))
     replace hCst4 := evo_stepo hCst4 hEw78 (fun g hg => .inl (by first | exact (hob75.block hg).1 | (have := hob75.block hg; omega)))
     replace hKb73 := evo_stepo hKb73 hEw78 (fun g hg => .inl (by simp [Value.ownBlock] at hg; omega))
     replace ht := ht0.now hV
     replace hc := hc0.now hV
     replace hn := hn0 _ hV
     replace hw := hw0 _ hV
     replace hq := hq0 _ hV
     replace hf := hf0 _ hV
     replace hbb1 := hbb1.evo hEw78 (by intro hm; have hm2 := Option.mem_toList.1 hm; first | (have := hob75.block hm2; omega) | (simp [Value.ownBlock] at hm2; omega))
     replace hAb1 := hAb1.evo hEw78 (by intro hm; have hm2 := Option.mem_toList.1 hm; first | (have := hob75.block hm2; omega) | (simp [Value.ownBlock] at hm2; omega))
     replace hr44 := hr440.now hI45
     replace hr46 := hr460.now hI47
     replace hr49 := hr490 _ hI48
     replace hrb73 := hrb730.now hKb73
     refine h_next hCst4 ?_
     refine h_one (i := 7) (by kernel_rfl) ?_
     refine h_do (by exact rfl) ?_
     refine r_appendR (w1 := w74) (E' := []) rfl Tryz.underlying22 ty_42 (by exact rfl) term_one hov77 (by exact rfl) (by exact rfl) hrb730 ((fun w9 h9 => Evo.trans hKb73 h9 (fun y hy hlt => (by have hg := Option.mem_toList.1 (show y ∈ (v77).ownBlock.toList by simpa using hy); rcases hlv77 with h7 | h7; (rw [h7] at hg; simp [Value.ownBlock] at hg; first | (exfalso; omega) | simp [hg]); (rw [h7] at hg; simp at hg; exfalso; omega))))) rfl (by simp only [List.length_append, List.length_nil, List.length_singleton]; omega) (by simp only [List.length_append, List.length_nil, List.length_singleton]; omega) (by omega) ?_
     intro v79 w80 hEw80 hov79 hlv79
     have hs_w80 := (hEw80).size
     replace hV := evo_stepo hV hEw80 (fun g hg => .inl (by first | exact (hov77.block hg).1 | (have := hov77.block hg; omega)))
     replace hI45 := evo_stepo hI45 hEw80 (fun g hg => .inl (by first | exact (hov77.block hg).1 | (have := hov77.block hg; omega)))
     replace hI47 := evo_stepo hI47 hEw80 (fun g hg => .inl (by first | exact (hov77.block hg).1 | (have := hov77.block hg; omega)))
     replace hI48 := evo_stepo hI48 hEw80 (fun g hg => .inl (by first | exact (hov77.block hg).1 | (have := hov77.block hg; omega)))
     replace hCst4 := evo_stepo hCst4 hEw80 (fun g hg => .inl (by first | exact (hov77.block hg).1 | (have := hov77.block hg; omega)))
     replace hKb73 := evo_stepo hKb73 hEw80 (fun g hg => (by rcases hlv77 with h7 | h7; (rw [h7] at hg; simp [Value.ownBlock] at hg; first | (left; omega) | (right; simp [hg])); (rw [h7] at hg; simp at hg; left; omega)))
     replace ht := ht0.now hV
     replace hc := hc0.now hV
     replace hn := hn0 _ hV
     replace hw := hw0 _ hV
     replace hq := hq0 _ hV
     replace hf := hf0 _ hV
     replace hbb1 := hbb1.evo hEw80 (by intro hm; have hm2 := Option.mem_toList.1 hm; first | (have := hov77.block hm2; omega) | (simp [Value.ownBlock] at hm2; omega))
     replace hAb1 := hAb1.evo hEw80 (by intro hm; have hm2 := Option.mem_toList.1 hm; first | (have := hov77.block hm2; omega) | (simp [Value.ownBlock] at hm2; omega))
     replace hr44 := hr440.now hI45
     replace hr46 := hr460.now hI47
     replace hr49 := hr490 _ hI48
     replace hrb73 := hrb730.now hKb73
     refine h_next hCst4 ?_
     refine h_one (i := 8) (by kernel_rfl) ?_
     refine h_do (by exact rfl) ?_
     obtain ⟨ao81, g81, cp81, hv81, hr81⟩ := hov79.rowOf
     subst hv81
     have hbd_hr81 := hr81.bd
     refine r_bslice (pv := [(0, .slice _ _ _), (1, .slice _ _ _), (2, .slice _ _ _)]) (zs := [_]) (cs := [_, _, _]) Tryz.underlying62 ty_22 (by exact rfl) rfl (by exact rfl) rfl (by exact rfl) ?_
     intro b82 w83 heb82 hEw83 hbb82 hzb82
     have hs_w83 := (hEw83).size
     replace hV := evo_step0 hV hEw83
     replace hI45 := evo_step0 hI45 hEw83
     replace hI47 := evo_step0 hI47 hEw83
     replace hI48 := evo_step0 hI48 hEw83
     replace hCst4 := evo_step0 hCst4 hEw83
     replace hKb73 := evo_step0 hKb73 hEw83
     replace ht := ht0.now hV
     replace hc := hc0.now hV
     replace hn := hn0 _ hV
     replace hw := hw0 _ hV
     replace hq := hq0 _ hV
     replace hf := hf0 _ hV
     replace hbb1 := hbb1.evo0 hEw83
     replace hAb1 := hAb1.evo0 hEw83
     replace hr44 := hr440.now hI45
     replace hr46 := hr460.now hI47
     replace hr49 := hr490 _ hI48
     replace hrb73 := hrb730.now hKb73
     replace hov79 := hov79.evo0 hEw83
     replace hr81 := hr81.evo0 hEw83
     have hAb82 := hbb82.at
     have hrb82 : RowR w83 (some ⟨b82, 0, none⟩) b82 0 3 ([⟨ts⟩, ⟨ts43⟩, ⟨ts43 ++ [x]⟩] : List TmsL) := rowLitR [[_], [_], [_]] ([⟨ts⟩, ⟨ts43⟩, ⟨ts43 ++ [x]⟩] : List TmsL) hbb82 rfl (((RepL.one (tms_rep (ht0.now hV))).append (RepL.one (tms_rep (hr460.now hI47)))).append (RepL.one (tms_rep hr81))) rfl
     refine h_next hCst4 ?_
     refine h_take (i := 9) (by exact rfl) rfl rfl rfl (by kernel_rfl) (fun w' hC => run_lenSl rfl (by exact rfl) Tryz.underlying62) hCst4 ?_
     refine h_done (by kernel_rfl) ?_
     refine r_cut_end ?_ ?_
     ·refine ⟨_, rfl, rfl, rfl, hrb82, (by first | assumption | omega | (dsimp only; omega) | (simp; done)), hV, hI45, hI47, hI48⟩
     ·repeat (first | (with_reducible exact Agree.merge _ _ _) | (with_reducible exact Agree.refl _ _) | (with_reducible refine Agree.upd ?_ _ _ rfl) | ((with_reducible refine Agree.inner ?_ ?_); (kernel_rfl)))
   ·rintro g w84 ⟨bw, hj85, hj86, hj87, hrw, hzl50, hV, hI45, hI47, hI48⟩
    have hs_w84hV := hV.size
    have hs_w84hI45 := hI45.size
    have hs_w84hI47 := hI47.size
    have hs_w84hI48 := hI48.size
    replace ht := ht0.now hV
    replace hc := hc0.now hV
    replace hn := hn0 _ hV
    replace hw := hw0 _ hV
    replace hq := hq0 _ hV
    replace hf := hf0 _ hV
    replace hr44 := hr440.now hI45
    replace hr46 := hr460.now hI47
    replace hr49 := hr490 _ hI48
    refine r_know (i := 42) (v := .slice (some ⟨bw, 0, none⟩) 3 3) (by exact hj85) ?_
    refine r_know (i := 43) (v := .int .i64 ((3 : Nat) : Int)) (by exact hj86) ?_
    refine r_know (i := 44) (v := .int .i64 ((0 : Nat) : Int)) (by exact hj87) ?_
    refine r_block ?_
    refine r_loop (α := Nat) [8, 13, 44, 45, 46, 47, 48, 49, 50, 51, 52, 53, 54, 55, 56, 57, 58, 59, 60, 61, 62, 63, 64] (fun i g w => g 44 = .int .i64 (i : Nat) ∧ i ≤ 3 ∧ RowR w (some ⟨bw, 0, none⟩) bw 0 3 ([⟨ts⟩, ⟨ts43⟩, ⟨ts43 ++ [x]⟩] : List TmsL) ∧ w84.heap.size ≤ w.heap.size ∧ Evo w0 w [] ∧ Evo w43 w [] ∧ Evo w43 w [] ∧ Evo w43 w []) (fun i => 3 - i) 0 ?_ ?_
    ·refine ⟨(by first | exact rfl | exact congrArg (Value.int _) (by omega) | exact congrArg (Value.int _) (by dsimp only; omega) | exact congrArg (Value.int _) (by simp) | exact congrArg S (by simp)), (by first | assumption | omega | (dsimp only; omega) | (simp; done)), hrw, (by first | assumption | omega | (dsimp only; omega) | (simp; done)), hV, hI45, hI47, hI48⟩
    ·rintro i g w89 ⟨hj90, hk_i, hrw, hzl88, hV, hI45, hI47, hI48⟩
     have hs_w89hV := hV.size
     have hs_w89hI45 := hI45.size
     have hs_w89hI47 := hI47.size
     have hs_w89hI48 := hI48.size
     replace ht := ht0.now hV
     replace hc := hc0.now hV
     replace hn := hn0 _ hV
     replace hw := hw0 _ hV
     replace hq := hq0 _ hV
     replace hf := hf0 _ hV
     replace hr44 := hr440.now hI45
     replace hr46 := hr460.now hI47
     replace hr49 := hr490 _ hI48
     refine r_know (i := 44) (v := .int .i64 (i : Nat)) (by exact hj90) ?_
     refine r_seq ?_
     refine r_region ?_
     refine r_op rfl rfl rfl (run_lss rfl (by exact rfl) (by exact rfl)) ?_
     refine r_nil ?_
     refine r_seq ?_
     refine r_cond (by exact rfl) (fun hc91 => ?_) (fun hc91 => ?_)
     ·skip
      refine r_skip ?_
      refine r_seq ?_
      refine r_block ?_
      refine r_seq ?_
      refine r_region ?_
      refine r_op rfl rfl rfl (run_ix (i) rfl Tryz.underlying62 ty_22 (by exact rfl) (by exact rfl) (by first | exact rfl | omega) (by omega) (hrw.addr (i := i) (by omega))) ?_
      obtain ⟨ao92, b92, off92, cap92, hA92, hR92⟩ := tms_at hrw (i) (by omega)
      have hbd_hR92 := hR92.bd
      refine r_op rfl rfl rfl (run_ld1 rfl ag_22 (by exact rfl) (hA92.cell 0 (by exact rfl))) ?_
      refine r_op rfl rfl rfl (run_asg (v := .slice _ _ _) rfl (by exact rfl)) ?_
      refine r_nil ?_
      refine r_seq ?_
      have hjb9 := hjL i
      refine r_region ?_
      refine r_op rfl rfl rfl (run_mv (v := .slice _ _ _) rfl (by exact rfl)) ?_
      refine r_op rfl rfl rfl (run_mv (v := .slice _ _ _) rfl (by exact rfl)) ?_
      refine r_opcall rfl rfl rfl (run_callf (vs := [.slice _ _ _, .slice _ _ _]) rfl (by exact rfl) Tryz.func30 rfl (by kernel_rfl)) (tvalidate_calls hR92 hc) ?_
      rintro e w93 ⟨rfl, hE93⟩
      refine ⟨_, rfl, ?_⟩
      have hs_w93 := (hE93).size
      replace hV := evo_step0 hV hE93
      replace hI45 := evo_step0 hI45 hE93
      replace hI47 := evo_step0 hI47 hE93
      replace hI48 := evo_step0 hI48 hE93
      replace ht := ht0.now hV
      replace hc := hc0.now hV
      replace hn := hn0 _ hV
      replace hw := hw0 _ hV
      replace hq := hq0 _ hV
      replace hf := hf0 _ hV
      replace hr44 := hr440.now hI45
      replace hr46 := hr460.now hI47
      replace hr49 := hr490 _ hI48
      replace hrw := hrw.evo0 hE93
      replace hR92 := hR92.evo0 hE93
      refine r_op rfl rfl rfl (run_mv (v := .slice _ _ _) rfl (by exact rfl)) ?_
      refine r_op rfl rfl rfl (run_mv (v := .slice _ _ _) rfl (by exact rfl)) ?_
      refine r_opcall rfl rfl rfl (run_callf (vs := [.slice _ _ _, .slice _ _ _]) rfl (by exact rfl) Tryz.func31 rfl (by kernel_rfl)) (rtvalidate_calls hR92 hc hjb9) ?_
      rintro e w94 ⟨rfl, hE94⟩
      refine ⟨_, rfl, ?_⟩
      have hs_w94 := (hE94).size
      replace hV := evo_step0 hV hE94
      replace hI45 := evo_step0 hI45 hE94
      replace hI47 := evo_step0 hI47 hE94
      replace hI48 := evo_step0 hI48 hE94
      replace ht := ht0.now hV
      replace hc := hc0.now hV
      replace hn := hn0 _ hV
      replace hw := hw0 _ hV
      replace hq := hq0 _ hV
      replace hf := hf0 _ hV
      replace hr44 := hr440.now hI45
      replace hr46 := hr460.now hI47
      replace hr49 := hr490 _ hI48
      replace hrw := hrw.evo0 hE94
      replace hR92 := hR92.evo0 hE94
      refine r_op rfl rfl rfl (run_neq rfl (by exact rfl) (by exact rfl)) ?_
      refine r_knowL (i := 54) (v := .bool false) (congrArg Value.bool (decide_eq_false (fun q9 => q9 rfl))) ?_
      refine r_op rfl rfl rfl (run_mvb rfl (by exact rfl)) ?_
      refine r_gyes rfl (wantF (by exact rfl)) (by exact Bool.noConfusion) ?_
      refine r_op rfl rfl rfl (run_mv (v := .slice _ _ _) rfl (by exact rfl)) ?_
      refine r_gyes rfl (wantF (by exact rfl)) (by exact Bool.noConfusion) ?_
      refine r_op rfl rfl rfl (run_mv (v := .slice _ _ _) rfl (by exact rfl)) ?_
      refine r_gyes rfl (wantF (by exact rfl)) (by exact Bool.noConfusion) ?_
      refine r_opcall rfl rfl rfl (run_callf (vs := [.slice _ _ _, .slice _ _ _]) rfl (by exact rfl) Tryz.func30 rfl (by kernel_rfl)) (tvalidate_calls hR92 hr44) ?_
      rintro e w95 ⟨rfl, hE95⟩
      refine ⟨_, rfl, ?_⟩
      have hs_w95 := (hE95).size
      replace hV := evo_step0 hV hE95
      replace hI45 := evo_step0 hI45 hE95
      replace hI47 := evo_step0 hI47 hE95
      replace hI48 := evo_step0 hI48 hE95
      replace ht := ht0.now hV
      replace hc := hc0.now hV
      replace hn := hn0 _ hV
      replace hw := hw0 _ hV
      replace hq := hq0 _ hV
      replace hf := hf0 _ hV
      replace hr44 := hr440.now hI45
      replace hr46 := hr460.now hI47
      replace hr49 := hr490 _ hI48
      replace hrw := hrw.evo0 hE95
      replace hR92 := hR92.evo0 hE95
      refine r_gyes rfl (wantF (by exact rfl)) (by exact Bool.noConfusion) ?_
      refine r_op rfl rfl rfl (run_mv (v := .slice _ _ _) rfl (by exact rfl)) ?_
      refine r_gyes rfl (wantF (by exact rfl)) (by exact Bool.noConfusion) ?_
      refine r_op rfl rfl rfl (run_mv (v := .slice _ _ _) rfl (by exact rfl)) ?_
      refine r_gyes rfl (wantF (by exact rfl)) (by exact Bool.noConfusion) ?_
      refine r_opcall rfl rfl rfl (run_callf (vs := [.slice _ _ _, .slice _ _ _]) rfl (by exact rfl) Tryz.func31 rfl (by kernel_rfl)) (rtvalidate_calls hR92 hr44 hjb9) ?_
      rintro e w96 ⟨rfl, hE96⟩
      refine ⟨_, rfl, ?_⟩
      have hs_w96 := (hE96).size
      replace hV := evo_step0 hV hE96
      replace hI45 := evo_step0 hI45 hE96
      replace hI47 := evo_step0 hI47 hE96
      replace hI48 := evo_step0 hI48 hE96
      replace ht := ht0.now hV
      replace hc := hc0.now hV
      replace hn := hn0 _ hV
      replace hw := hw0 _ hV
      replace hq := hq0 _ hV
      replace hf := hf0 _ hV
      replace hr44 := hr440.now hI45
      replace hr46 := hr460.now hI47
      replace hr49 := hr490 _ hI48
      replace hrw := hrw.evo0 hE96
      replace hR92 := hR92.evo0 hE96
      refine r_gyes rfl (wantF (by exact rfl)) (by exact Bool.noConfusion) ?_
      refine r_op rfl rfl rfl (run_neq rfl (by exact rfl) (by exact rfl)) ?_
      refine r_knowL (i := 62) (v := .bool false) (congrArg Value.bool (decide_eq_false (fun q9 => q9 rfl))) ?_
      refine r_op rfl rfl rfl (run_pick_orB rfl (by exact rfl) rfl (fun _ => (by exact rfl))) ?_
      refine r_knowL (i := 63) (v := .bool false) rfl ?_
      refine r_nil ?_
      refine r_cond_no (by exact rfl) ?_
      refine r_skip ?_
      refine r_blk ?_
      refine r_region ?_
      refine r_op rfl rfl rfl (run_add rfl (by exact rfl) (by exact rfl) (by omega) (by omega)) ?_
      refine r_op rfl rfl rfl (run_mv (v := .int _ _) rfl (by exact rfl)) ?_
      refine r_nil ?_
      refine r_again (i + 1) ?_ ?_ ?_
      ·first | omega | (dsimp only; omega)
      ·refine ⟨(by first | exact rfl | exact congrArg (Value.int _) (by omega) | exact congrArg (Value.int _) (by dsimp only; omega) | exact congrArg (Value.int _) (by simp) | exact congrArg S (by simp)), (by first | assumption | omega | (dsimp only; omega) | (simp; done)), hrw, (by first | assumption | omega | (dsimp only; omega) | (simp; done)), hV, hI45, hI47, hI48⟩
      ·repeat (first | (with_reducible exact Agree.merge _ _ _) | (with_reducible exact Agree.refl _ _) | (with_reducible refine Agree.upd ?_ _ _ rfl) | ((with_reducible refine Agree.inner ?_ ?_); (kernel_rfl)))
     ·skip
      refine r_exit rfl ?_
      refine r_seq ?_
      refine r_region ?_
      refine r_opcall rfl rfl rfl (run_callf (vs := []) rfl (by exact rfl) Tryz.func13 rfl (by kernel_rfl)) known_calls ?_
      rintro e w97 ⟨rfl, hE97⟩
      refine ⟨_, rfl, ?_⟩
      have hs_w97 := (hE97).size
      replace hV := evo_step0 hV hE97
      replace hI45 := evo_step0 hI45 hE97
      replace hI47 := evo_step0 hI47 hE97
      replace hI48 := evo_step0 hI48 hE97
      replace ht := ht0.now hV
      replace hc := hc0.now hV
      replace hn := hn0 _ hV
      replace hw := hw0 _ hV
      replace hq := hq0 _ hV
      replace hf := hf0 _ hV
      replace hr44 := hr440.now hI45
      replace hr46 := hr460.now hI47
      replace hr49 := hr490 _ hI48
      replace hrw := hrw.evo0 hE97
      refine r_op rfl rfl rfl (run_asg (v := .bool _) rfl (by exact rfl)) ?_
      refine r_nil ?_
      refine r_ret (res1 (v := .bool _) rfl (by exact rfl)) ?_
      exact ⟨rfl, hV⟩
end Go.Proofs.YtkklomiipkipnaaGreatDoor
namespace Go.Proofs.YtkklomiipkipnaaGreatDoor
open Go Go.RowKit Go.Vc Go.IntWalk Go.Deep
theorem bulk_pos {H : Type} (d : DataW H) : 1 ≤ Rows.uptoBulk d := by
  cases d with
  | lit l => cases l <;> simp [Rows.uptoBulk]
  | _ => simp [Rows.uptoBulk]
theorem bulk_bound {H : Type} {l : List (DataW H)} (hk : Rows.uptoSmall H l = true) : Rows.uptoBulkAll l ≤ 1048576 := of_decide_eq_true hk
theorem bulk_part {H : Type} {d : DataW H} {l : List (DataW H)} (h : d ∈ l) : Rows.uptoBulk d ≤ Rows.uptoBulkAll l := by
  induction l with
  | nil => cases h
  | cons x r ih =>
    simp only [Rows.uptoBulkAll]
    rcases List.mem_cons.1 h with e | e
    · subst e; omega
    · have := ih e; omega
theorem bulk_len {H : Type} (l : List (DataW H)) : l.length ≤ Rows.uptoBulkAll l := by
  induction l with
  | nil => exact Nat.le_refl _
  | cons x r ih => simp only [Rows.uptoBulkAll, List.length_cons]; have := bulk_pos x; omega
theorem bulk_slice {H : Type} {D : Nat → DataW H} {D2 : List (DataW H)} {len i : Nat} (hi : i < len) : Rows.uptoBulk (D i) ≤ Rows.uptoBulk (.slice ((List.range len).map D) D2) := by
  have h1 := bulk_part (d := D i) (l := (List.range len).map D) (List.mem_map.2 ⟨i, List.mem_range.2 hi, rfl⟩)
  simp only [Rows.uptoBulk]; omega
theorem bulk_slen {H : Type} {D : Nat → DataW H} {D2 : List (DataW H)} {len : Nat} : len ≤ Rows.uptoBulk (.slice ((List.range len).map D) D2) := by
  have h1 := bulk_len ((List.range len).map D)
  simp only [List.length_map, List.length_range] at h1
  simp only [Rows.uptoBulk]; omega
section
variable {P : Program} {H : Type} {enc : TypeId × Value → H} {w : World} {base : Nat} {sp : Nat → Bool} {hd : Bool} {t e : TypeId}
theorem openEBQ {α : Type} [Enc α] {Q : Nat → α → Prop} (mono : ∀ {B B' : Nat} {x : α}, B ≤ B' → Q B x → Q B' x) (hu : P.underlying t = some (.slice e)) (hc : P.cellsOf e = Enc.n α) (hb : 1 ≤ P.bytesOf e)
    (hel : ∀ (n : Nat) (cs : List Value) (d : DataW H) (pl : List MemPlace), DataW.trod enc P w base sp hd n e cs = some (d, pl) → ∃ x : α, cs = Enc.enc x ∧ Q (Rows.uptoBulk d) x)
    {fuel : Nat} {ao : Option Addr} {len cap : Nat} {d : DataW H} {pl : List MemPlace}
    (h : DataW.trod enc P w base sp hd fuel t [.slice ao len cap] = some (d, pl)) (hw : ∀ m ∈ d.weights P t, m ≤ reachBytes) : ∃ b off, ∃ l : List α, len = l.length ∧ RowE w ao b off cap l ∧ l.length ≤ Rows.uptoBulk d ∧ ∀ x ∈ l, Q (Rows.uptoBulk d) x := by
  rcases open_slice hu h with ⟨h1, _⟩ | ⟨a, len', cap', m, n, D, Pl, h1, _, hl, _, hm, hx, hall⟩
  · simp only [List.cons.injEq, Value.slice.injEq, and_true] at h1
    obtain ⟨rfl, rfl, rfl⟩ := h1
    exact ⟨0, 0, [], rfl, RowE.nil _ _ _ _ _, Nat.zero_le _, fun x hx => by cases hx⟩
  · simp only [List.cons.injEq, Value.slice.injEq, and_true] at h1
    obtain ⟨rfl, rfl, rfl⟩ := h1
    have hlm : len ≤ m := by rw [hm]; split <;> omega
    have hd2 : d = _ := congrArg Prod.fst hx
    have ha : 0 < len → a = ⟨a.block, a.off, none⟩ := fun h0 => by
      obtain ⟨cs, h2, _⟩ := hall 0 (by omega)
      rw [Nat.zero_mul, show a.add 0 = a by unfold Addr.add; rw [if_pos rfl], hc] at h2
      exact (at_of_cells h2 (Enc.pos (α := α))).1
    have hex : ∀ i, i < len → ∃ x : α, At w a.block (a.off + i * Enc.n α) (Enc.enc x) ∧ Q (Rows.uptoBulk (D i)) x := fun i hi => by
      obtain ⟨cs, h2, h3⟩ := hall i (by omega)
      obtain ⟨x, hx2, hq⟩ := hel n cs _ _ h3
      rw [hc, ha (by omega), add_lit] at h2
      exact ⟨x, by rw [← hx2]; exact (at_of_cells h2 (Enc.pos (α := α))).2, hq⟩
    have hbd : len ≤ 140737488355328 := by
      have h3 := hw ((((List.range len).map D).length + ((List.range (m - len)).map fun j => D (len + j)).length) * P.bytesOf e) (by rw [hd2]; simp [DataW.weights, hu])
      simp only [List.length_map, List.length_range] at h3
      have h4 : len * 1 ≤ (len + (m - len)) * P.bytesOf e := Nat.mul_le_mul (by omega) hb
      have h5 := reachBytes_lt
      omega
    by_cases h0 : len = 0
    · subst h0; exact ⟨0, 0, [], rfl, ⟨by simp, by simp, by simp⟩, Nat.zero_le _, fun x hx => by cases hx⟩
    · obtain ⟨x0, _⟩ := hex 0 (by omega)
      obtain ⟨f, hf⟩ : ∃ f : Nat → α, ∀ i, i < len → At w a.block (a.off + i * Enc.n α) (Enc.enc (f i)) ∧ Q (Rows.uptoBulk (D i)) (f i) := by
        classical
        exact ⟨fun i => if hi : i < len then Classical.choose (hex i hi) else x0, fun i hi => by simp only [dif_pos hi]; exact Classical.choose_spec (hex i hi)⟩
      refine ⟨a.block, a.off, (List.range len).map f, by simp, ⟨by simp; omega, fun _ => congrArg some (ha (by omega)), fun i cs hi => ?_⟩, ?_, fun x hx => ?_⟩
      · have hil : i < len := by
          rcases Nat.lt_or_ge i len with h6 | h6
          · exact h6
          · rw [List.getElem?_eq_none (by simpa using h6)] at hi; cases hi
        simp [hil] at hi
        subst hi
        exact ⟨Enc.len _, (hf i hil).1⟩
      · rw [hd2, List.length_map, List.length_range]; exact bulk_slen
      · obtain ⟨i, hi, rfl⟩ := List.mem_map.1 hx
        have hil := List.mem_range.1 hi
        rw [hd2]; exact mono (bulk_slice hil) (hf i hil).2
theorem openRB {α : Type} [Rep α] {Q : Nat → α → Prop} (mono : ∀ {B B' : Nat} {x : α}, B ≤ B' → Q B x → Q B' x) (hu : P.underlying t = some (.slice e)) (hc : P.cellsOf e = Rep.n α) (hb : 1 ≤ P.bytesOf e)
    (hel : ∀ (n : Nat) (cs : List Value) (d : DataW H) (pl : List MemPlace), DataW.trod enc P w base sp hd n e cs = some (d, pl) → (∀ m ∈ d.weights P e, m ≤ reachBytes) → ∃ x : α, Rep.rep w cs x ∧ Q (Rows.uptoBulk d) x)
    {fuel : Nat} {ao : Option Addr} {len cap : Nat} {d : DataW H} {pl : List MemPlace}
    (h : DataW.trod enc P w base sp hd fuel t [.slice ao len cap] = some (d, pl)) (hw : ∀ m ∈ d.weights P t, m ≤ reachBytes) : ∃ b off, ∃ l : List α, len = l.length ∧ RowR w ao b off cap l ∧ l.length ≤ Rows.uptoBulk d ∧ ∀ x ∈ l, Q (Rows.uptoBulk d) x := by
  rcases open_slice hu h with ⟨h1, _⟩ | ⟨a, len', cap', m, n, D, Pl, h1, _, hl, _, hm, hx, hall⟩
  · simp only [List.cons.injEq, Value.slice.injEq, and_true] at h1
    obtain ⟨rfl, rfl, rfl⟩ := h1
    exact ⟨0, 0, [], rfl, RowR.nil _ _ _ _ _, Nat.zero_le _, fun x hx => by cases hx⟩
  · simp only [List.cons.injEq, Value.slice.injEq, and_true] at h1
    obtain ⟨rfl, rfl, rfl⟩ := h1
    have hlm : len ≤ m := by rw [hm]; split <;> omega
    have hd2 : d = _ := congrArg Prod.fst hx
    have ha : 0 < len → a = ⟨a.block, a.off, none⟩ := fun h0 => by
      obtain ⟨cs, h2, _⟩ := hall 0 (by omega)
      rw [Nat.zero_mul, show a.add 0 = a by unfold Addr.add; rw [if_pos rfl], hc] at h2
      exact (at_of_cells h2 (Rep.pos (α := α))).1
    have hex : ∀ i, i < len → ∃ y : List Value × α, At w a.block (a.off + i * Rep.n α) y.1 ∧ Rep.rep w y.1 y.2 ∧ Q (Rows.uptoBulk (D i)) y.2 := fun i hi => by
      obtain ⟨cs, h2, h3⟩ := hall i (by omega)
      obtain ⟨x, hx2, hq⟩ := hel n cs _ _ h3 (fun q hq => hw q (by
        rw [hd2]
        simp only [DataW.weights, hu, List.mem_cons, List.mem_append]
        exact .inr (.inl (weights_elem (List.mem_map.2 ⟨i, List.mem_range.2 hi, rfl⟩) hq))))
      rw [hc, ha (by omega), add_lit] at h2
      exact ⟨(cs, x), (at_of_cells h2 (Rep.pos (α := α))).2, hx2, hq⟩
    have hbd : len ≤ 140737488355328 := by
      have h3 := hw ((((List.range len).map D).length + ((List.range (m - len)).map fun j => D (len + j)).length) * P.bytesOf e) (by rw [hd2]; simp [DataW.weights, hu])
      simp only [List.length_map, List.length_range] at h3
      have h4 : len * 1 ≤ (len + (m - len)) * P.bytesOf e := Nat.mul_le_mul (by omega) hb
      have h5 := reachBytes_lt
      omega
    by_cases h0 : len = 0
    · subst h0; exact ⟨0, 0, [], rfl, RowR.nil _ _ _ _ _, Nat.zero_le _, fun x hx => by cases hx⟩
    · obtain ⟨y0, _⟩ := hex 0 (by omega)
      obtain ⟨f, hf⟩ : ∃ f : Nat → List Value × α, ∀ i, i < len → At w a.block (a.off + i * Rep.n α) (f i).1 ∧ Rep.rep w (f i).1 (f i).2 ∧ Q (Rows.uptoBulk (D i)) (f i).2 := by
        classical
        exact ⟨fun i => if hi : i < len then Classical.choose (hex i hi) else y0, fun i hi => by simp only [dif_pos hi]; exact Classical.choose_spec (hex i hi)⟩
      have hgl : ∀ (i : Nat) {β : Type} (g : Nat → β) (z : β), ((List.range len).map g)[i]? = some z → i < len ∧ g i = z := by
        intro i β g z hz
        have hil : i < len := by
          rcases Nat.lt_or_ge i len with h6 | h6
          · exact h6
          · rw [List.getElem?_eq_none (by simpa using h6)] at hz; cases hz
        simp [hil] at hz
        exact ⟨hil, hz⟩
      refine ⟨a.block, a.off, (List.range len).map (fun i => (f i).2), by simp, ⟨(List.range len).map (fun i => (f i).1), ⟨by simp; omega, fun _ => congrArg some (ha (by omega)), fun i cs hi => ?_⟩, by simp, fun i cs x h1 h2 => ?_⟩, ?_, fun x hx => ?_⟩
      · obtain ⟨hil, rfl⟩ := hgl i _ _ hi
        exact ⟨Rep.len (hf i hil).2.1, (hf i hil).1⟩
      · obtain ⟨hil, rfl⟩ := hgl i _ _ h1
        obtain ⟨_, rfl⟩ := hgl i _ _ h2
        exact (hf i hil).2.1
      · rw [hd2, List.length_map, List.length_range]; exact bulk_slen
      · obtain ⟨i, hi, rfl⟩ := List.mem_map.1 hx
        have hil := List.mem_range.1 hi
        rw [hd2]; exact mono (bulk_slice hil) (hf i hil).2.2
end
def QT (B : Nat) (x : TermL) : Prop := (x.words.length ≤ B ∧ x.req.length ≤ B ∧ x.forb.length ≤ B) ∧ (∀ s ∈ x.req, s.length ≤ B) ∧ ∀ s ∈ x.forb, s.length ≤ B
theorem QT_mono {B B' : Nat} {x : TermL} (h : B ≤ B') (q : QT B x) : QT B' x :=
  ⟨⟨Nat.le_trans q.1.1 h, Nat.le_trans q.1.2.1 h, Nat.le_trans q.1.2.2 h⟩, fun s hs => Nat.le_trans (q.2.1 s hs) h, fun s hs => Nat.le_trans (q.2.2 s hs) h⟩
theorem QT_jud {B : Nat} {x : TermL} (q : QT B x) (h : B ≤ 1048576) : JudT x :=
  ⟨Nat.le_trans q.1.2.1 h, Nat.le_trans q.1.2.2 h, fun s hs => Nat.le_trans (q.2.1 s hs) (by omega), fun s hs => Nat.le_trans (q.2.2 s hs) (by omega)⟩
theorem elem_termB {P : Program} {e se ss : TypeId} {f0 f1 f2 g0 g1 : Field} (ht : P.underlying e = some (.struct #[f0, f1, f2])) (h2 : P.cellsOf e = 3) (o0 : f0.offset = 0) (c0 : P.cellsOf f0.type = 1) (o1 : f1.offset = 1) (c1 : P.cellsOf f1.type = 1) (o2 : f2.offset = 2) (c2 : P.cellsOf f2.type = 1)
    (u0 : P.underlying f0.type = some (.slice se)) (u1 : P.underlying f1.type = some (.slice ss)) (u2 : P.underlying f2.type = some (.slice ss)) (cs0 : P.cellsOf se = 2) (bs0 : P.bytesOf se = 32) (cs1 : P.cellsOf ss = 1) (bs1 : P.bytesOf ss = 16) (us : P.underlying ss = some .string)
    (ht2 : P.underlying se = some (.struct #[g0, g1])) (p2 : g0.offset = 0) (d2 : P.cellsOf g0.type = 1) (p3 : g1.offset = 1) (d3 : P.cellsOf g1.type = 1) (v2 : P.underlying g0.type = some .string) (v3 : P.underlying g1.type = some .string)
    {H : Type} {enc : TypeId × Value → H} {w : World} {base : Nat} {sp : Nat → Bool} {hd : Bool} {n : Nat} {cs : List Value} {d : DataW H} {pl : List MemPlace} (h : DataW.trod enc P w base sp hd n e cs = some (d, pl)) (hw : ∀ m ∈ d.weights P e, m ≤ reachBytes) :
    ∃ x : TermL, Rep.rep w cs x ∧ QT (Rows.uptoBulk d) x := by
  obtain ⟨y0, y1, y2, m, hx, hl, h3, h4, h5⟩ := Go.Deep.trod_struct3 ht h
  rw [o0, c0] at h3
  rw [o1, c1] at h4
  rw [o2, c2] at h5
  rw [h2] at hl
  have hd2 : d = .agg [y0.1, y1.1, y2.1] := congrArg Prod.fst hx
  have hw0 : ∀ q ∈ y0.1.weights P f0.type, q ≤ reachBytes := fun q hq => hw q (by rw [hd2]; simp [DataW.weights, ht, DataW.weightsEach, hq])
  have hw1 : ∀ q ∈ y1.1.weights P f1.type, q ≤ reachBytes := fun q hq => hw q (by rw [hd2]; simp [DataW.weights, ht, DataW.weightsEach, hq])
  have hw2 : ∀ q ∈ y2.1.weights P f2.type, q ≤ reachBytes := fun q hq => hw q (by rw [hd2]; simp [DataW.weights, ht, DataW.weightsEach, hq])
  have hB : Rows.uptoBulk y0.1 ≤ Rows.uptoBulk d ∧ Rows.uptoBulk y1.1 ≤ Rows.uptoBulk d ∧ Rows.uptoBulk y2.1 ≤ Rows.uptoBulk d := by
    rw [hd2]; simp only [Rows.uptoBulk, Rows.uptoBulkAll]; omega
  have strs : ∀ (f : Field) (u : Value) (y : DataW H × List MemPlace), P.underlying f.type = some (.slice ss) → DataW.trod enc P w base sp hd m f.type [u] = some y → (∀ q ∈ y.1.weights P f.type, q ≤ reachBytes) →
      ∃ ao b off cap, ∃ l : List Str, u = .slice ao l.length cap ∧ RowE w ao b off cap l ∧ l.length ≤ Rows.uptoBulk y.1 ∧ ∀ s ∈ l, s.length ≤ Rows.uptoBulk y.1 := fun f u y uf hy hwf => by
    rcases open_slice uf hy with ⟨h6, _⟩ | ⟨a, len, cap, _, _, _, _, h6, _⟩
    · simp only [List.cons.injEq, and_true] at h6
      subst h6
      exact ⟨none, 0, 0, 0, [], rfl, RowE.nil _ _ _ _ _, Nat.zero_le _, fun s hs => absurd hs List.not_mem_nil⟩
    · simp only [List.cons.injEq, and_true] at h6
      subst h6
      obtain ⟨b, off, l, rfl, hr, hq⟩ := openEBQ (α := Str) (Q := fun B s => s.length ≤ B) (fun h h9 => Nat.le_trans h9 h) uf cs1 (by omega) (fun n cs d pl h => by
        obtain ⟨s, e1, e2, _⟩ := DataW.trod_string us h
        have hy0 : d = .lit (.string s.data.toList) := congrArg Prod.fst e2
        exact ⟨s.data.toList, by rw [e1]; cases s; rfl, by rw [hy0]; simp only [Rows.uptoBulk]; omega⟩) (d := y.1) (pl := y.2) hy hwf
      exact ⟨_, b, off, cap, l, rfl, hr, hq⟩
  match cs, hl with
  | [u, v, z], _ =>
    simp only [List.drop_succ_cons, List.drop_zero, List.take_succ_cons, List.take_zero] at h3 h4 h5
    obtain ⟨ao1, b1, off1, cap1, l1, rfl, hr1, hn1, hq1⟩ := strs f1 v y1 u1 h4 hw1
    obtain ⟨ao2, b2, off2, cap2, l2, rfl, hr2, hn2, hq2⟩ := strs f2 z y2 u2 h5 hw2
    have hQ1 : ∀ s ∈ l1, s.length ≤ Rows.uptoBulk d := fun s hs => Nat.le_trans (hq1 s hs) hB.2.1
    have hQ2 : ∀ s ∈ l2, s.length ≤ Rows.uptoBulk d := fun s hs => Nat.le_trans (hq2 s hs) hB.2.2
    rcases open_slice u0 h3 with ⟨h6, _⟩ | ⟨a, len, cap, _, _, _, _, h6, _⟩
    · simp only [List.cons.injEq, and_true] at h6
      subst h6
      exact ⟨⟨[], l1, l2⟩, ⟨⟨none, 0, 0, 0, _, b1, off1, cap1, _, b2, off2, cap2, rfl, RowE.nil _ _ _ _ _, hr1, hr2⟩, Nat.zero_le _, fun y hy => absurd hy List.not_mem_nil⟩, ⟨Nat.zero_le _, Nat.le_trans hn1 hB.2.1, Nat.le_trans hn2 hB.2.2⟩, hQ1, hQ2⟩
    · simp only [List.cons.injEq, and_true] at h6
      subst h6
      have h8 : reachBytes = 140737488351232 := rfl
      have hln := open_len u0 (d := y0.1) (pl := y0.2) (by simpa using h3) hw0
      rw [bs0] at hln
      obtain ⟨b, off, l, rfl, hr, hq⟩ := openEQ (α := Ende) u0 cs0 (by omega) (fun n cs d pl h hw => elem_ende ht2 cs0 p2 d2 p3 d3 v2 v3 h hw) (d := y0.1) (pl := y0.2) (by simpa using h3) hw0
      obtain ⟨_, _, l', hl', _, hn', _⟩ := openEBQ (enc := enc) (w := w) (base := base) (sp := sp) (hd := hd) (α := Ende) (Q := fun _ _ => True) (fun _ _ => trivial) u0 cs0 (by omega) (fun n cs d pl h => by
        obtain ⟨a9, b9, m9, _, hl9, h39, h49⟩ := ChangeShapes.trod_struct2 ht2 h
        rw [p2, d2] at h39
        rw [p3, d3] at h49
        rw [cs0] at hl9
        match cs, hl9 with
        | [va, vb], _ =>
          obtain ⟨s1, e1, _, _⟩ := DataW.trod_string v2 (by simpa using h39)
          obtain ⟨s2, e2, _, _⟩ := DataW.trod_string v3 (by simpa using h49)
          simp only [List.cons.injEq, and_true] at e1 e2
          subst e1; subst e2
          exact ⟨⟨s1.data.toList, s2.data.toList⟩, by cases s1; cases s2; rfl, trivial⟩) (d := y0.1) (pl := y0.2) (by simpa using h3) hw0
      exact ⟨⟨l, l1, l2⟩, ⟨⟨_, b, off, cap, _, b1, off1, cap1, _, b2, off2, cap2, rfl, hr, hr1, hr2⟩, by show l.length ≤ _; omega, hq⟩, ⟨by show l.length ≤ _; omega, Nat.le_trans hn1 hB.2.1, Nat.le_trans hn2 hB.2.2⟩, hQ1, hQ2⟩
end Go.Proofs.YtkklomiipkipnaaGreatDoor
