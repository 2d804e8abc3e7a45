import Derived.Test.YtomklacppmaljaaX20
namespace Go.Proofs.Ytomklacppmaljaa
open Go.RowKit Go.Vc

theorem pos_all {α : Type} [Inhabited α] {l : List α} {x : α} {k : Nat} (h : ∀ j, j < k → ¬ x = l.getD j default) (hk : l.length ≤ k) : ¬ x ∈ l := fun hx => by
  obtain ⟨j, hj, rfl⟩ := List.mem_iff_getElem.1 hx
  exact h j (by omega) (by simp [List.getD, hj])
theorem pos_at {α : Type} [Inhabited α] {l : List α} {x : α} {k : Nat} (hk : k < l.length) (h : x = l.getD k default) : x ∈ l := by rw [h]; exact getD_in hk
def endedL (b : List Ende) (x : Ende) : Int := if (smallL x.strip = true ∧ x.strip.length ≤ 8) ∧ (smallL x.add = true ∧ x.add.length ≤ 8) then (if x ∈ b then 5 else 0) else 1
/-- the first number that is not 0 -/
def firstE (f : Nat → Int) : Nat → Int
  | 0 => 0
  | n + 1 => if firstE f n = 0 then f n else firstE f n
theorem firstE_none {f : Nat → Int} : ∀ {n : Nat}, (∀ j, j < n → f j = 0) → firstE f n = 0
  | 0, _ => rfl
  | n + 1, h => by unfold firstE; rw [if_pos (firstE_none (fun j hj => h j (by omega)))]; exact h n (by omega)
theorem firstE_at {f : Nat → Int} {k : Nat} (h : ∀ j, j < k → f j = 0) (hk : ¬ f k = 0) : ∀ {n : Nat}, k < n → firstE f n = f k
  | 0, h1 => by omega
  | n + 1, h1 => by
    by_cases e : k = n
    · subst e; unfold firstE; rw [if_pos (firstE_none h)]
    · have := firstE_at h hk (n := n) (by omega)
      unfold firstE; rw [this, if_neg hk]
def endsErr (es : List Ende) : Int := firstE (fun k => endedL (es.take k) (es.getD k default)) es.length
def classErr (c : List Clas) (i : Nat) : Int := if namedL (c.take i) (c.getD i default).name = 0 then (if 16 < (c.getD i default).ends.length then 3 else endsErr (c.getD i default).ends) else namedL (c.take i) (c.getD i default).name
def validC (c : List Clas) : Int := if 32 < c.length then 3 else firstE (classErr c) c.length
theorem cls_named {c : List Clas} {i : Nat} (h : ¬ namedL (c.take i) (c.getD i default).name = 0) : classErr c i = namedL (c.take i) (c.getD i default).name := by unfold classErr; rw [if_neg h]
theorem cls_many {c : List Clas} {i : Nat} (h : namedL (c.take i) (c.getD i default).name = 0) (h2 : 16 < (c.getD i default).ends.length) : classErr c i = 3 := by unfold classErr; rw [if_pos h, if_pos h2]
theorem cls_ends {c : List Clas} {i : Nat} (h : namedL (c.take i) (c.getD i default).name = 0) (h2 : ¬ 16 < (c.getD i default).ends.length) : classErr c i = endsErr (c.getD i default).ends := by unfold classErr; rw [if_pos h, if_neg h2]
theorem valid_at {c : List Clas} {i : Nat} {e : Int} (h : ¬ 32 < c.length) (h1 : ∀ j, j < i → classErr c j = 0) (h2 : classErr c i = e) (h3 : ¬ e = 0) (hi : i < c.length) : validC c = e := by
  unfold validC; rw [if_neg h, firstE_at h1 (by rw [h2]; exact h3) hi, h2]
theorem valid_ok {c : List Clas} {i : Nat} (h : ¬ 32 < c.length) (h1 : ∀ j, j < i → classErr c j = 0) (hi : c.length ≤ i) : validC c = 0 := by
  unfold validC; rw [if_neg h, firstE_none (fun j hj => h1 j (by omega))]
theorem ends_err {es : List Ende} {k : Nat} (h : ∀ j, j < k → endedL (es.take j) (es.getD j default) = 0) (h2 : ¬ endedL (es.take k) (es.getD k default) = 0) (hk : k < es.length) : endsErr es = endedL (es.take k) (es.getD k default) := firstE_at h h2 hk
theorem ends_ok {es : List Ende} {k : Nat} (h : ∀ j, j < k → endedL (es.take j) (es.getD j default) = 0) (hk : es.length ≤ k) : endsErr es = 0 := firstE_none (fun j hj => h j (by omega))

theorem ixende_calls {ao : Option Addr} {b off cap : Nat} {es : List Ende} {x : Ende} {w0 : World} (he : RowE w0 ao b off cap es) :
    Calls Try.prog 152 #[.slice ao es.length cap, (.agg (Enc.enc x).toArray)] w0 fun e w' => ∃ z : Int, e = .returned (.int .i64 z) ∧ (0 ≤ z ↔ x ∈ es) ∧ Evo w0 w' [] := by
 refine calls_enter (n := 19) (args := [.slice ao es.length cap, (.agg (Enc.enc x).toArray)]) Try.func152 rfl Try.ntmps152 rfl ?_
 have hV : Evo w0 w0 [] := Evo.refl _ _
 have he0 := keepE he
 have hbd_he := he.bd
 refine r_seq ?_
 refine r_region ?_
 refine r_box (vs := [_, _]) (by exact rfl) (by exact rfl) rfl ?_
 intro b1 w2 heb1 hEw2 hbb1 hzb1
 have hs_w2 := (hEw2).size
 replace hV := evo_step0 hV hEw2
 replace he := he0 _ hV
 have hAb1 := hbb1.at
 refine r_op rfl rfl rfl (run_asg (v := .int _ _) rfl (by exact rfl)) ?_
 refine r_nil ?_
 refine r_seq ?_
 refine r_seq ?_
 refine r_region ?_
 refine r_op rfl rfl rfl (run_mv (v := .slice _ _ _) rfl (by exact rfl)) ?_
 refine r_op rfl rfl rfl (run_lenSl rfl (by exact rfl) Try.underlying41) ?_
 refine r_op rfl rfl rfl (run_mv (v := .int _ _) rfl (by exact rfl)) ?_
 refine r_nil ?_
 refine r_block ?_
 refine r_loop (α := Nat) [4, 5, 8, 9, 10, 11, 12, 13, 14, 15, 16, 17, 18] (fun k g w => g 8 = .int .i64 (k : Nat) ∧ k ≤ es.length ∧ Blk w b1 46 (Enc.enc x) ∧ At w b1 0 (Enc.enc x) ∧ (∀ j, j < k → ¬ x = es.getD j default) ∧ w2.heap.size ≤ w.heap.size ∧ Evo w0 w []) (fun k => es.length - k) 0 ?_ ?_
 ·refine ⟨(by first | exact rfl | exact congrArg (Value.int _) (by omega) | exact congrArg (Value.int _) (by dsimp only; omega) | exact congrArg (Value.int _) (by simp) | exact congrArg S (by simp)), (by first | assumption | omega | (dsimp only; omega) | (simp; done)), hbb1, hAb1, (fun j h => by omega), (by first | assumption | omega | (dsimp only; omega) | (simp; done)), hV⟩
 ·rintro k g w4 ⟨hj5, hk_k, hbb1, hAb1, hno, hzl3, hV⟩
  have hs_w4hV := hV.size
  have hlt6 := hbb1.lt
  replace he := he0 _ hV
  refine r_know (i := 8) (v := .int .i64 (k : Nat)) (by exact hj5) ?_
  refine r_seq ?_
  refine r_region ?_
  refine r_op rfl rfl rfl (run_lss rfl (by exact rfl) (by exact rfl)) ?_
  refine r_nil ?_
  refine r_seq ?_
  refine r_cond (by exact rfl) (fun hc7 => ?_) (fun hc7 => ?_)
  ·skip
   refine r_skip ?_
   refine r_seq ?_
   refine r_block ?_
   refine r_seq ?_
   refine r_region ?_
   refine r_op rfl rfl rfl (run_mv (v := .int _ _) rfl (by exact rfl)) ?_
   refine r_op rfl rfl rfl (run_asg (v := .int _ _) rfl (by exact rfl)) ?_
   refine r_nil ?_
   refine r_seq ?_
   have hbb1_q := hbb1
   have hAb1_q := hAb1
   have hV_q := hV
   refine h_region ([]) (by kernel_rfl) ?_
   intro w8 hE9 hCst4
   have hs_w8 := (hE9).size
   replace hV := evo_step0 hV hE9
   replace he := he0 _ hV
   replace hbb1 := hbb1.evo0 hE9
   replace hAb1 := hAb1.evo0 hE9
   refine h_take (i := 0) (by exact rfl) rfl rfl rfl (by kernel_rfl) (fun w' hC => run_ldN rfl ag_46 ty_46 (by exact rfl) rfl (hAb1_q.evo0 hC)) hCst4 ?_
   refine h_take (i := 1) (by exact rfl) rfl rfl rfl (by kernel_rfl) (fun w' hC => run_mv (v := .slice _ _ _) rfl (by exact rfl)) hCst4 ?_
   refine h_take (i := 2) (by exact rfl) rfl rfl rfl (by kernel_rfl) (fun w' hC => run_mv (v := .int _ _) rfl (by exact rfl)) hCst4 ?_
   refine h_take (i := 3) (by exact rfl) rfl rfl rfl (by kernel_rfl) (fun w' hC => run_ix (k) rfl Try.underlying41 ty_46 (by exact rfl) (by exact rfl) (by first | exact rfl | omega) (by omega) (he.addr (i := k) (by omega))) hCst4 ?_
   have hA100 := fun (w' : World) (h : Evo w0 w' []) => (he0 w' h).atD (k) (by omega)
   have hA10 := hA100 _ hV
   refine h_take (i := 4) (by exact rfl) rfl rfl rfl (by kernel_rfl) (fun w' hC => run_ldN rfl ag_46 ty_46 (by exact rfl) rfl (hA100 _ (evo_step0 hV_q hC))) hCst4 ?_
   refine h_take (i := 5) (by exact rfl) rfl rfl rfl (by kernel_rfl) (fun w' hC => run_eqlG (α := Ende) _ _ rfl Try.eqGuardType46 ee_46 (by exact rfl) (by exact rfl)) hCst4 ?_
   refine h_done (by kernel_rfl) ?_
   refine r_cond (by exact rfl) (fun hc11 => ?_) (fun hc11 => ?_)
   ·skip
    refine r_seq ?_
    refine r_region ?_
    refine r_op rfl rfl rfl (run_mv (v := .int _ _) rfl (by exact rfl)) ?_
    refine r_op rfl rfl rfl (run_asg (v := .int _ _) rfl (by exact rfl)) ?_
    refine r_nil ?_
    refine r_ret (res1 (v := .int _ _) rfl (by exact rfl)) ?_
    exact ⟨_, rfl, ⟨fun _ => pos_at (by omega) hc11, fun _ => by omega⟩, hV⟩
   ·skip
    refine r_skip ?_
    refine r_blk ?_
    refine r_region ?_
    refine r_op rfl rfl rfl (run_add rfl (by exact rfl) (by exact rfl) (by omega) (by omega)) ?_
    refine r_op rfl rfl rfl (run_mv (v := .int _ _) rfl (by exact rfl)) ?_
    refine r_nil ?_
    refine r_again (k + 1) ?_ ?_ ?_
    ·first | omega | (dsimp only; omega)
    ·refine ⟨(by first | exact rfl | exact congrArg (Value.int _) (by omega) | exact congrArg (Value.int _) (by dsimp only; omega) | exact congrArg (Value.int _) (by simp) | exact congrArg S (by simp)), (by first | assumption | omega | (dsimp only; omega) | (simp; done)), hbb1, hAb1, (upto0 hno hc11), (by first | assumption | omega | (dsimp only; omega) | (simp; done)), hV⟩
    ·repeat (first | (with_reducible exact Agree.merge _ _ _) | (with_reducible exact Agree.refl _ _) | (with_reducible refine Agree.upd ?_ _ _ rfl) | ((with_reducible refine Agree.inner ?_ ?_); (kernel_rfl)))
  ·skip
   refine r_exit rfl ?_
   refine r_seq ?_
   refine r_region ?_
   refine r_op rfl rfl rfl (run_asg (v := .int _ _) rfl (by exact rfl)) ?_
   refine r_nil ?_
   refine r_ret (res1 (v := .int _ _) rfl (by exact rfl)) ?_
   exact ⟨_, rfl, ⟨fun h => by omega, fun h => absurd h (pos_all hno (by omega))⟩, hV⟩

theorem contende_calls {ao : Option Addr} {b off cap : Nat} {es : List Ende} {x : Ende} {w0 : World} (he : RowE w0 ao b off cap es) :
    Calls Try.prog 118 #[.slice ao es.length cap, (.agg (Enc.enc x).toArray)] w0 fun e w' => e = .returned (.bool (decide (x ∈ es))) ∧ Evo w0 w' [] := by
 refine calls_enter (n := 9) (args := [.slice ao es.length cap, (.agg (Enc.enc x).toArray)]) Try.func118 rfl Try.ntmps118 rfl ?_
 have hV : Evo w0 w0 [] := Evo.refl _ _
 have he0 := keepE he
 have hbd_he := he.bd
 refine r_seq ?_
 refine r_region ?_
 refine r_box (vs := [_, _]) (by exact rfl) (by exact rfl) rfl ?_
 intro b1 w2 heb1 hEw2 hbb1 hzb1
 have hs_w2 := (hEw2).size
 replace hV := evo_step0 hV hEw2
 replace he := he0 _ hV
 have hAb1 := hbb1.at
 refine r_op rfl rfl rfl (run_asg (v := .bool _) rfl (by exact rfl)) ?_
 refine r_nil ?_
 refine r_seq ?_
 refine r_region ?_
 refine r_op rfl rfl rfl (run_mv (v := .slice _ _ _) rfl (by exact rfl)) ?_
 refine r_op rfl rfl rfl (run_ldN rfl ag_46 ty_46 (by exact rfl) rfl hAb1) ?_
 refine r_opcall rfl rfl rfl (run_callf (vs := [.slice _ _ _, .agg _]) rfl (by exact rfl) Try.func152 rfl (by kernel_rfl)) (ixende_calls he) ?_
 rintro e w3 ⟨zx3, rfl, hzx3, hE3⟩
 refine ⟨_, rfl, ?_⟩
 have hs_w3 := (hE3).size
 replace hV := evo_step0 hV hE3
 replace he := he0 _ hV
 refine r_op rfl rfl rfl (run_geq rfl (by exact rfl) (by exact rfl)) ?_
 refine r_op rfl rfl rfl (run_asg (v := .bool _) rfl (by exact rfl)) ?_
 refine r_nil ?_
 refine r_ret (res1 (v := .bool _) rfl (by exact rfl)) ?_
 exact ⟨ret_bool (decide_eq_decide.2 hzx3), hV⟩

theorem ended_bad {b : List Ende} {p q : Str} (h : ¬ ((smallL p = true ∧ p.length ≤ 8) ∧ (smallL q = true ∧ q.length ≤ 8))) : endedL b ⟨p, q⟩ = 1 := if_neg h
theorem ended_dup {b : List Ende} {p q : Str} (h : (smallL p = true ∧ p.length ≤ 8) ∧ (smallL q = true ∧ q.length ≤ 8)) (h2 : (⟨p, q⟩ : Ende) ∈ b) : endedL b ⟨p, q⟩ = 5 := by unfold endedL; rw [if_pos h, if_pos h2]
theorem ended_ok {b : List Ende} {p q : Str} (h : (smallL p = true ∧ p.length ≤ 8) ∧ (smallL q = true ∧ q.length ≤ 8)) (h2 : ¬ (⟨p, q⟩ : Ende) ∈ b) : endedL b ⟨p, q⟩ = 0 := by unfold endedL; rw [if_pos h, if_neg h2]

theorem end_c1 {p q : Str} : ((8 : Int) < (p.length : Int) ∨ (8 : Int) < (q.length : Int) ∨ smallL p = false ∨ smallL q = false) ↔ ¬ ((smallL p = true ∧ p.length ≤ 8) ∧ (smallL q = true ∧ q.length ≤ 8)) := by
  by_cases h1 : smallL p = true <;> by_cases h2 : smallL q = true <;> simp [h1, h2] <;> omega
theorem end_n1 {p q : Str} (h : (((p.length : Int) ≤ 8 ∧ (q.length : Int) ≤ 8) ∧ smallL p = true) ∧ smallL q = true) : (smallL p = true ∧ p.length ≤ 8) ∧ (smallL q = true ∧ q.length ≤ 8) := ⟨⟨h.1.2, by omega⟩, h.2, by omega⟩
theorem end_n2 {p q : Str} (h : (smallL p = true ∧ p.length ≤ 8) ∧ smallL q = true ∧ q.length ≤ 8) : (smallL p = true ∧ p.length ≤ 8) ∧ (smallL q = true ∧ q.length ≤ 8) := h
theorem end_c2 {p q : Str} : ((smallL p = false ∨ 8 < p.length) ∨ smallL q = false ∨ 8 < q.length) ↔ ¬ ((smallL p = true ∧ p.length ≤ 8) ∧ (smallL q = true ∧ q.length ≤ 8)) := by
  by_cases h1 : smallL p = true <;> by_cases h2 : smallL q = true <;> simp [h1, h2] <;> omega

theorem ending_calls {ao : Option Addr} {b off cap : Nat} {es : List Ende} {p q : Str} {w0 : World} (he : RowE w0 ao b off cap es) (hp : p.length ≤ 140737488355328) (hq : q.length ≤ 140737488355328) :
    Calls Try.prog 79 #[.slice ao es.length cap, (.agg #[S p, S q])] w0 fun e w' => e = .returned (.int .i64 (endedL es ⟨p, q⟩)) ∧ Evo w0 w' [] := by
 refine calls_enter (n := 32) (args := [.slice ao es.length cap, (.agg #[S p, S q])]) Try.func79 rfl Try.ntmps79 rfl ?_
 have hV : Evo w0 w0 [] := Evo.refl _ _
 have he0 := keepE he
 have hbd_he := he.bd
 refine r_seq ?_
 refine r_region ?_
 refine r_box (vs := [_, _]) (by exact rfl) (by exact rfl) rfl ?_
 intro b1 w2 heb1 hEw2 hbb1 hzb1
 have hs_w2 := (hEw2).size
 replace hV := evo_step0 hV hEw2
 replace he := he0 _ hV
 have hAb1 := hbb1.at
 refine r_op rfl rfl rfl (run_asg (v := .int _ _) rfl (by exact rfl)) ?_
 refine r_nil ?_
 refine r_seq ?_
 refine r_block ?_
 refine r_seq ?_
 refine r_region ?_
 refine r_op rfl rfl rfl (run_fa rfl (by exact rfl) fo_46_0) ?_
 refine r_op rfl rfl rfl (run_ld1 rfl ag_9 (by exact rfl) (hAb1.cell 0 (by exact rfl))) ?_
 refine r_op rfl rfl rfl (run_lenS rfl (by exact rfl) Try.underlying9) ?_
 refine r_op rfl rfl rfl (run_gtr rfl (by exact rfl) (by exact rfl)) ?_
 refine r_op rfl rfl rfl (run_mv (v := .bool _) rfl (by exact rfl)) ?_
 refine r_g rfl (wantF (by exact rfl)) rfl (fun hg => run_fa rfl (by exact rfl) fo_46_1) ?_
 refine r_g rfl (wantF (by exact rfl)) rfl (fun hg => run_ld1 rfl ag_9 (glv (by exact rfl) (fun h => h) hg) (hAb1.cell 1 (by exact rfl))) ?_
 refine r_g rfl (wantF (by exact rfl)) rfl (fun hg => run_lenS rfl (glv (by exact rfl) (fun h => h) hg) Try.underlying9) ?_
 refine r_g rfl (wantF (by exact rfl)) rfl (fun hg => run_gtr rfl (glv (by exact rfl) (fun h => h) hg) (by exact rfl)) ?_
 refine r_op rfl rfl rfl (run_pick_or rfl (by exact rfl) rfl (fun hq => glv (by exact rfl) (fun h => h) hq)) ?_
 refine r_op rfl rfl rfl (run_mv (v := .bool _) rfl (by exact rfl)) ?_
 refine r_g rfl (wantF (by exact rfl)) rfl (fun hg => run_fa rfl (by exact rfl) fo_46_0) ?_
 refine r_g rfl (wantF (by exact rfl)) rfl (fun hg => run_ld1 rfl ag_9 (glv (by exact rfl) (fun h => h) hg) (hAb1.cell 0 (by exact rfl))) ?_
 refine r_gcall rfl (wantF (by exact rfl)) rfl (fun hg => run_callf rfl (argcons (v := S _) (glv (by exact rfl) (fun h => h) hg) (rfl)) Try.func117 rfl (by kernel_rfl)) (fun hg => (small_calls (by first | omega | (simp; omega))).mono (fun e w' h => ⟨h.1, h.2⟩)) (fun w3 hE4 => ?_)
 have hs_w3 := (hE4).size
 replace hV := evo_step0 hV hE4
 replace he := he0 _ hV
 replace hbb1 := hbb1.evo0 hE4
 replace hAb1 := hAb1.evo0 hE4
 refine r_g rfl (wantF (by exact rfl)) rfl (fun hg => run_notb rfl (glv (by exact rfl) (fun h => h) hg)) ?_
 refine r_op rfl rfl rfl (run_pick_orB rfl (by exact rfl) rfl (fun hq => glv (by exact rfl) (fun h => h) hq)) ?_
 refine r_op rfl rfl rfl (run_mv (v := .bool _) rfl (by exact rfl)) ?_
 refine r_g rfl (wantF (by exact rfl)) rfl (fun hg => run_fa rfl (by exact rfl) fo_46_1) ?_
 refine r_g rfl (wantF (by exact rfl)) rfl (fun hg => run_ld1 rfl ag_9 (glv (by exact rfl) (fun h => h) hg) (hAb1.cell 1 (by exact rfl))) ?_
 refine r_gcall rfl (wantF (by exact rfl)) rfl (fun hg => run_callf rfl (argcons (v := S _) (glv (by exact rfl) (fun h => h) hg) (rfl)) Try.func117 rfl (by kernel_rfl)) (fun hg => (small_calls (by first | omega | (simp; omega))).mono (fun e w' h => ⟨h.1, h.2⟩)) (fun w5 hE6 => ?_)
 have hs_w5 := (hE6).size
 replace hV := evo_step0 hV hE6
 replace he := he0 _ hV
 replace hbb1 := hbb1.evo0 hE6
 replace hAb1 := hAb1.evo0 hE6
 refine r_g rfl (wantF (by exact rfl)) rfl (fun hg => run_notb rfl (glv (by exact rfl) (fun h => h) hg)) ?_
 refine r_op rfl rfl rfl (run_pick_orB rfl (by exact rfl) rfl (fun hq => glv (by exact rfl) (fun h => h) hq)) ?_
 refine r_op rfl rfl rfl (run_asg (v := .bool _) rfl (by exact rfl)) ?_
 refine r_nil ?_
 refine r_cond (by exact rfl) (fun hc7 => ?_) (fun hc7 => ?_)
 ·skip
  refine r_seq ?_
  refine r_region ?_
  refine r_op rfl rfl rfl (run_asg (v := .int _ _) rfl (by exact rfl)) ?_
  refine r_nil ?_
  refine r_ret (res1 (v := .int _ _) rfl (by exact rfl)) ?_
  exact ⟨ret_int (by rw [ended_bad (end_c1.1 (by simpa [or_assoc] using hc7))]), hV⟩
 ·skip
  refine r_seq ?_
  refine r_region ?_
  refine r_op rfl rfl rfl (run_mv (v := .slice _ _ _) rfl (by exact rfl)) ?_
  refine r_op rfl rfl rfl (run_ldN rfl ag_46 ty_46 (by exact rfl) rfl hAb1) ?_
  refine r_opcall rfl rfl rfl (run_callf (vs := [.slice _ _ _, .agg _]) rfl (by exact rfl) Try.func118 rfl (by kernel_rfl)) (contende_calls (x := ⟨p, q⟩) he) ?_
  rintro e w8 ⟨rfl, hE8⟩
  refine ⟨_, rfl, ?_⟩
  have hs_w8 := (hE8).size
  replace hV := evo_step0 hV hE8
  replace he := he0 _ hV
  refine r_op rfl rfl rfl (run_asg (v := .bool _) rfl (by exact rfl)) ?_
  refine r_nil ?_
  refine r_condb (by exact rfl) (fun hc9 => ?_) (fun hc9 => ?_)
  ·skip
   refine r_seq ?_
   refine r_region ?_
   refine r_op rfl rfl rfl (run_asg (v := .int _ _) rfl (by exact rfl)) ?_
   refine r_nil ?_
   refine r_ret (res1 (v := .int _ _) rfl (by exact rfl)) ?_
   exact ⟨ret_int (by rw [ended_dup (end_n1 (by simpa using hc7)) (of_decide_eq_true hc9)]), hV⟩
  ·skip
   refine r_skip ?_
   refine r_blk ?_
   refine r_seq ?_
   refine r_region ?_
   refine r_op rfl rfl rfl (run_asg (v := .int _ _) rfl (by exact rfl)) ?_
   refine r_nil ?_
   refine r_ret (res1 (v := .int _ _) rfl (by exact rfl)) ?_
   exact ⟨ret_int (by rw [ended_ok (end_n1 (by simpa using hc7)) (of_decide_eq_false hc9)]), hV⟩

theorem rended_calls {ao : Option Addr} {b off cap : Nat} {es : List Ende} {p q : Str} {w0 : World} (he : RowE w0 ao b off cap es) (hp : p.length ≤ 140737488355328) (hq : q.length ≤ 140737488355328) :
    Calls Try.prog 81 #[.slice ao es.length cap, (.agg #[S p, S q])] w0 fun e w' => e = .returned (.int .i64 (endedL es ⟨p, q⟩)) ∧ Evo w0 w' [] := by
 refine calls_enter (n := 27) (args := [.slice ao es.length cap, (.agg #[S p, S q])]) Try.func81 rfl Try.ntmps81 rfl ?_
 have hV : Evo w0 w0 [] := Evo.refl _ _
 have he0 := keepE he
 have hbd_he := he.bd
 refine r_seq ?_
 refine r_region ?_
 refine r_box (vs := [_, _]) (by exact rfl) (by exact rfl) rfl ?_
 intro b1 w2 heb1 hEw2 hbb1 hzb1
 have hs_w2 := (hEw2).size
 replace hV := evo_step0 hV hEw2
 replace he := he0 _ hV
 have hAb1 := hbb1.at
 refine r_op rfl rfl rfl (run_asg (v := .int _ _) rfl (by exact rfl)) ?_
 refine r_nil ?_
 refine r_seq ?_
 refine r_seq ?_
 refine r_region ?_
 refine r_op rfl rfl rfl (run_fa rfl (by exact rfl) fo_46_0) ?_
 refine r_op rfl rfl rfl (run_ld1 rfl ag_9 (by exact rfl) (hAb1.cell 0 (by exact rfl))) ?_
 refine r_opcall rfl rfl rfl (run_callf (vs := [S _]) rfl (by exact rfl) Try.func120 rfl (by kernel_rfl)) (rsmall_calls (by first | omega | (simp; omega))) ?_
 rintro e w3 ⟨rfl, hE3⟩
 refine ⟨_, rfl, ?_⟩
 have hs_w3 := (hE3).size
 replace hV := evo_step0 hV hE3
 replace he := he0 _ hV
 replace hbb1 := hbb1.evo0 hE3
 replace hAb1 := hAb1.evo0 hE3
 refine r_op rfl rfl rfl (run_notb rfl (by exact rfl)) ?_
 refine r_op rfl rfl rfl (run_mvb rfl (by exact rfl)) ?_
 refine r_g rfl (wantF (by exact rfl)) rfl (fun hg => run_fa rfl (by exact rfl) fo_46_1) ?_
 refine r_g rfl (wantF (by exact rfl)) rfl (fun hg => run_ld1 rfl ag_9 (glv (by exact rfl) (fun h => h) hg) (hAb1.cell 1 (by exact rfl))) ?_
 refine r_gcall rfl (wantF (by exact rfl)) rfl (fun hg => run_callf rfl (argcons (v := S _) (glv (by exact rfl) (fun h => h) hg) (rfl)) Try.func120 rfl (by kernel_rfl)) (fun hg => (rsmall_calls (by first | omega | (simp; omega))).mono (fun e w' h => ⟨h.1, h.2⟩)) (fun w4 hE5 => ?_)
 have hs_w4 := (hE5).size
 replace hV := evo_step0 hV hE5
 replace he := he0 _ hV
 replace hbb1 := hbb1.evo0 hE5
 replace hAb1 := hAb1.evo0 hE5
 refine r_g rfl (wantF (by exact rfl)) rfl (fun hg => run_notb rfl (glv (by exact rfl) (fun h => h) hg)) ?_
 refine r_op rfl rfl rfl (run_pick_orB rfl (by exact rfl) rfl (fun hq => glv (by exact rfl) (fun h => h) hq)) ?_
 refine r_nil ?_
 refine r_cond (by exact rfl) (fun hc6 => ?_) (fun hc6 => ?_)
 ·skip
  refine r_seq ?_
  refine r_region ?_
  refine r_op rfl rfl rfl (run_asg (v := .int _ _) rfl (by exact rfl)) ?_
  refine r_nil ?_
  refine r_ret (res1 (v := .int _ _) rfl (by exact rfl)) ?_
  exact ⟨ret_int (by rw [ended_bad (end_c2.1 (by simpa using hc6))]), hV⟩
 ·skip
  refine r_skip ?_
  refine r_seq ?_
  refine r_seq ?_
  refine r_region ?_
  refine r_op rfl rfl rfl (run_mv (v := .slice _ _ _) rfl (by exact rfl)) ?_
  refine r_op rfl rfl rfl (run_lenSl rfl (by exact rfl) Try.underlying41) ?_
  refine r_op rfl rfl rfl (run_mv (v := .int _ _) rfl (by exact rfl)) ?_
  refine r_nil ?_
  refine r_block ?_
  refine r_loop (α := Nat) [4, 6, 19, 20, 21, 22, 23, 24, 25, 26] (fun k g w => g 19 = .int .i64 (k : Nat) ∧ k ≤ es.length ∧ Blk w b1 46 (Enc.enc (⟨p, q⟩ : Ende)) ∧ At w b1 0 (Enc.enc (⟨p, q⟩ : Ende)) ∧ (∀ j, j < k → ¬ (⟨p, q⟩ : Ende) = es.getD j default) ∧ w4.heap.size ≤ w.heap.size ∧ Evo w0 w []) (fun k => es.length - k) 0 ?_ ?_
  ·refine ⟨(by first | exact rfl | exact congrArg (Value.int _) (by omega) | exact congrArg (Value.int _) (by dsimp only; omega) | exact congrArg (Value.int _) (by simp) | exact congrArg S (by simp)), (by first | assumption | omega | (dsimp only; omega) | (simp; done)), hbb1, hAb1, (fun j h => by omega), (by first | assumption | omega | (dsimp only; omega) | (simp; done)), hV⟩
  ·rintro k g w8 ⟨hj9, hk_k, hbb1, hAb1, hno, hzl7, hV⟩
   have hs_w8hV := hV.size
   have hlt10 := hbb1.lt
   replace he := he0 _ hV
   refine r_know (i := 19) (v := .int .i64 (k : Nat)) (by exact hj9) ?_
   refine r_seq ?_
   refine r_region ?_
   refine r_op rfl rfl rfl (run_lss rfl (by exact rfl) (by exact rfl)) ?_
   refine r_nil ?_
   refine r_seq ?_
   refine r_cond (by exact rfl) (fun hc11 => ?_) (fun hc11 => ?_)
   ·skip
    refine r_skip ?_
    refine r_seq ?_
    refine r_block ?_
    refine r_seq ?_
    refine r_region ?_
    refine r_op rfl rfl rfl (run_ix (k) rfl Try.underlying41 ty_46 (by exact rfl) (by exact rfl) (by first | exact rfl | omega) (by omega) (he.addr (i := k) (by omega))) ?_
    have hA120 := fun (w' : World) (h : Evo w0 w' []) => (he0 w' h).atD (k) (by omega)
    have hA12 := hA120 _ hV
    refine r_op rfl rfl rfl (run_ldN rfl ag_46 ty_46 (by exact rfl) rfl hA12) ?_
    refine r_var (zs := [_, _]) (vs := [_, _]) ty_46 (by exact rfl) rfl (by exact rfl) (fun _ => rfl) (by exact rfl) rfl rfl (by exact rfl) ?_
    intro b13 w14 heb13 hEw14 hbb13 hzb13
    have hs_w14 := (hEw14).size
    replace hV := evo_step0 hV hEw14
    replace he := he0 _ hV
    replace hbb1 := hbb1.evo0 hEw14
    replace hAb1 := hAb1.evo0 hEw14
    have hAb13 := hbb13.at
    refine r_nil ?_
    refine r_seq ?_
    refine r_region ?_
    refine r_op rfl rfl rfl (run_ldN rfl ag_46 ty_46 (by exact rfl) rfl hAb1) ?_
    refine r_op rfl rfl rfl (run_ldN rfl ag_46 ty_46 (by exact rfl) rfl hAb13) ?_
    refine r_op rfl rfl rfl (run_eqlG (α := Ende) _ _ rfl Try.eqGuardType46 ee_46 (by exact rfl) (by exact rfl)) ?_
    refine r_nil ?_
    refine r_cond (by exact rfl) (fun hc15 => ?_) (fun hc15 => ?_)
    ·skip
     refine r_seq ?_
     refine r_region ?_
     refine r_op rfl rfl rfl (run_asg (v := .int _ _) rfl (by exact rfl)) ?_
     refine r_nil ?_
     refine r_ret (res1 (v := .int _ _) rfl (by exact rfl)) ?_
     exact ⟨ret_int (by rw [ended_dup (end_n2 (by simpa using hc6)) (pos_at (by omega) hc15)]), hV⟩
    ·skip
     refine r_skip ?_
     refine r_blk ?_
     refine r_region ?_
     refine r_op rfl rfl rfl (run_add rfl (by exact rfl) (by exact rfl) (by omega) (by omega)) ?_
     refine r_op rfl rfl rfl (run_mv (v := .int _ _) rfl (by exact rfl)) ?_
     refine r_nil ?_
     refine r_again (k + 1) ?_ ?_ ?_
     ·first | omega | (dsimp only; omega)
     ·refine ⟨(by first | exact rfl | exact congrArg (Value.int _) (by omega) | exact congrArg (Value.int _) (by dsimp only; omega) | exact congrArg (Value.int _) (by simp) | exact congrArg S (by simp)), (by first | assumption | omega | (dsimp only; omega) | (simp; done)), hbb1, hAb1, (upto0 hno hc15), (by first | assumption | omega | (dsimp only; omega) | (simp; done)), hV⟩
     ·repeat (first | (with_reducible exact Agree.merge _ _ _) | (with_reducible exact Agree.refl _ _) | (with_reducible refine Agree.upd ?_ _ _ rfl) | ((with_reducible refine Agree.inner ?_ ?_); (kernel_rfl)))
   ·skip
    refine r_exit rfl ?_
    refine r_seq ?_
    refine r_region ?_
    refine r_op rfl rfl rfl (run_asg (v := .int _ _) rfl (by exact rfl)) ?_
    refine r_nil ?_
    refine r_ret (res1 (v := .int _ _) rfl (by exact rfl)) ?_
    exact ⟨ret_int (by rw [ended_ok (end_n2 (by simpa using hc6)) (pos_all hno (by omega))]), hV⟩

end Go.Proofs.Ytomklacppmaljaa
