/-
  Walks of functions that the statement reaches (joined by a program out of smaller texts).
-/
import Derived.Test.YtomklacppmaljaaNb
import Derived.Test.YtomklacppmaljaaPy
import Derived.Test.YtomklacppmaljaaFbr
import Derived.Test.YtomklacppmaljaaPcl
import Derived.Test.YtomklacppmaljaaBld
namespace Go.Proofs.Ytomklacppmaljaa
open Go.RowKit Go.Vc

def stepE (cl : List Clas) (s : Str) : Int :=
  if clsW <+: s then (if (32 : UInt8) ∈ nameOf s then 2 else if 32 ≤ cl.length then 3 else namedL cl (nameOf s))
  else if ¬ twoW <+: s ∨ ¬ onceB (bodyOf s) 62 = true ∨ cl = [] then 2 else if 16 ≤ (lastC cl).ends.length then 3 else endedL (lastC cl).ends (endOf s)
def stepC (cl : List Clas) (s : Str) : List Clas := if clsW <+: s then cl ++ [⟨nameOf s, []⟩] else cl.take (cl.length - 1) ++ [⟨(lastC cl).name, (lastC cl).ends ++ [endOf s]⟩]
theorem mem_ix {s : Str} {c : UInt8} : (0 ≤ Lib.indexByte s c) ↔ c ∈ s := by
  rcases index_spec c s with ⟨h1, h2⟩ | ⟨k, h1, h2, h3, _⟩
  · rw [h1]
    refine ⟨fun h => by omega, fun h => ?_⟩
    obtain ⟨j, hj, rfl⟩ := List.mem_iff_getElem.1 h
    exact absurd (by simp [List.getD, hj]) (h2 j hj)
  · rw [h1]
    refine ⟨fun _ => ?_, fun _ => by omega⟩
    rw [← h3]
    have e : s.getD k 0 = s[k] := by simp [List.getD, h2]
    rw [e]; exact List.getElem_mem _
theorem has_at {s : Str} {c : UInt8} {k : Nat} (hk : k < s.length) (h : s.getD k 0 = c) : c ∈ s := by
  have e : s.getD k 0 = s[k] := by simp [List.getD, hk]
  rw [← h, e]; exact List.getElem_mem _
theorem has_no {s : Str} {c : UInt8} {k : Nat} (hk : s.length ≤ k) (h : ∀ j, j < k → ¬ s.getD j 0 = c) : ¬ c ∈ s := fun hm => by
  obtain ⟨j, hj, rfl⟩ := List.mem_iff_getElem.1 hm
  exact h j (by omega) (by simp [List.getD, hj])

theorem sl_hp_calls {s t : Str} {w0 : World} (hs : s.length ≤ 140737488355328) (ht : t.length ≤ 140737488355328) :
    Calls Try.prog 197 #[S s, S t] w0 fun e w' => e = .returned (.bool (decide (t <+: s))) ∧ Evo w0 w' [] := by
 refine calls_enter (n := 18) (args := [S s, S t]) Try.func197 rfl Try.ntmps197 rfl ?_
 have hV : Evo w0 w0 [] := Evo.refl _ _
 refine r_seq ?_
 refine r_region ?_
 refine r_op rfl rfl rfl (run_asg (v := .bool _) rfl (by exact rfl)) ?_
 refine r_nil ?_
 refine r_seq ?_
 refine r_region ?_
 refine r_op rfl rfl rfl (run_mv (v := S _) rfl (by exact rfl)) ?_
 refine r_op rfl rfl rfl (run_lenS rfl (by exact rfl) Try.underlying9) ?_
 refine r_op rfl rfl rfl (run_mv (v := S _) rfl (by exact rfl)) ?_
 refine r_op rfl rfl rfl (run_lenS rfl (by exact rfl) Try.underlying9) ?_
 refine r_op rfl rfl rfl (run_geq rfl (by exact rfl) (by exact rfl)) ?_
 refine r_op rfl rfl rfl (run_mv (v := .bool _) rfl (by exact rfl)) ?_
 refine r_g rfl (wantT (by exact rfl)) rfl (fun hg => run_mv (v := S _) rfl (by exact rfl)) ?_
 refine r_g rfl (wantT (by exact rfl)) rfl (fun hg => run_mv (v := S _) rfl (by exact rfl)) ?_
 refine r_g rfl (wantT (by exact rfl)) rfl (fun hg => run_lenS rfl (glv (by exact rfl) (fun h => h) hg) Try.underlying9) ?_
 refine r_g rfl (wantT (by exact rfl)) rfl (fun hg => run_slS (0) (t.length) rfl Try.underlying9 (glv (by exact rfl) (fun h => h) hg) lo0 (at1 (glv (by exact rfl) (fun h => h) hg) (by omega)) (by first | omega | (simp; omega)) (by first | omega | (simp; omega))) ?_
 refine r_g rfl (wantT (by exact rfl)) rfl (fun hg => run_mv (v := S _) rfl (by exact rfl)) ?_
 refine r_g rfl (wantT (by exact rfl)) rfl (fun hg => run_seql rfl (glv (by exact rfl) (fun h => h) hg) (glv (by exact rfl) (fun h => h) hg)) ?_
 refine r_op rfl rfl rfl (run_pick_and rfl (by exact rfl) (fun hq => glv (by exact rfl) (fun h => h) hq) rfl) ?_
 refine r_op rfl rfl rfl (run_asg (v := .bool _) rfl (by exact rfl)) ?_
 refine r_nil ?_
 refine r_ret (res1 (v := .bool _) rfl (by exact rfl)) ?_
 exact ⟨ret_bool (decide_eq_decide.2 (by rw [prefix_iff]; constructor <;> (rintro ⟨h1, h2⟩; exact ⟨by omega, by simpa using h2⟩))), hV⟩

theorem sl_cp_calls {s t : Str} {w0 : World} (hs : s.length ≤ 140737488355328) (ht : t.length ≤ 140737488355328) :
    Calls Try.prog 155 #[S s, S t] w0 fun e w' => e = .returned (.tuple #[S (if t <+: s then s.drop t.length else s), .bool (decide (t <+: s))]) ∧ Evo w0 w' [] := by
 refine calls_enter (n := 15) (args := [S s, S t]) Try.func155 rfl Try.ntmps155 rfl ?_
 have hV : Evo w0 w0 [] := Evo.refl _ _
 refine r_seq ?_
 refine r_region ?_
 refine r_op rfl rfl rfl (run_asg (v := S _) rfl (by exact rfl)) ?_
 refine r_op rfl rfl rfl (run_asg (v := .bool _) rfl (by exact rfl)) ?_
 refine r_nil ?_
 refine r_seq ?_
 refine r_seq ?_
 refine r_region ?_
 refine r_op rfl rfl rfl (run_mv (v := S _) rfl (by exact rfl)) ?_
 refine r_op rfl rfl rfl (run_mv (v := S _) rfl (by exact rfl)) ?_
 refine r_opcall rfl rfl rfl (run_callf (vs := [S _, S _]) rfl (by exact rfl) Try.func197 rfl (by kernel_rfl)) (sl_hp_calls (by first | omega | (simp; omega)) (by first | omega | (simp; omega))) ?_
 rintro e w1 ⟨rfl, hE1⟩
 refine ⟨_, rfl, ?_⟩
 have hs_w1 := (hE1).size
 replace hV := evo_step0 hV hE1
 refine r_op rfl rfl rfl (run_notb rfl (by exact rfl)) ?_
 refine r_nil ?_
 refine r_condb (by exact rfl) (fun hc2 => ?_) (fun hc2 => ?_)
 ·skip
  refine r_seq ?_
  refine r_region ?_
  refine r_op rfl rfl rfl (run_mv (v := S _) rfl (by exact rfl)) ?_
  refine r_op rfl rfl rfl (run_asg (v := S _) rfl (by exact rfl)) ?_
  refine r_op rfl rfl rfl (run_asg (v := .bool _) rfl (by exact rfl)) ?_
  refine r_nil ?_
  refine r_ret (res2 (v := S _) (u := .bool _) rfl (by exact rfl) (by exact rfl)) ?_
  exact ⟨by rw [if_neg (by simpa using hc2), decide_eq_false (by simpa using hc2)], hV⟩
 ·skip
  refine r_skip ?_
  refine r_seq ?_
  have hpx : t <+: s := by simpa using hc2
  have hpl := (prefix_iff.1 hpx).1
  refine r_region ?_
  refine r_op rfl rfl rfl (run_mv (v := S _) rfl (by exact rfl)) ?_
  refine r_op rfl rfl rfl (run_mv (v := S _) rfl (by exact rfl)) ?_
  refine r_op rfl rfl rfl (run_lenS rfl (by exact rfl) Try.underlying9) ?_
  refine r_op rfl rfl rfl (by exact run_slS (t.length) (_) rfl Try.underlying9 (by exact rfl) (at1 (by exact rfl) (by omega)) hi0 (by first | omega | (simp; omega)) (by first | omega | (simp; omega))) ?_
  refine r_op rfl rfl rfl (run_asg (v := S _) rfl (by exact rfl)) ?_
  refine r_op rfl rfl rfl (run_asg (v := .bool _) rfl (by exact rfl)) ?_
  refine r_nil ?_
  refine r_ret (res2 (v := S _) (u := .bool _) rfl (by exact rfl) (by exact rfl)) ?_
  exact ⟨by rw [if_pos hpx, decide_eq_true hpx]; congr 4; exact congrArg S (List.take_of_length_le (by simp)), hV⟩

theorem s_cp_calls {s t : Str} {w0 : World} (hs : s.length ≤ 140737488355328) (ht : t.length ≤ 140737488355328) :
    Calls Try.prog 122 #[S s, S t] w0 fun e w' => e = .returned (.tuple #[S (if t <+: s then s.drop t.length else s), .bool (decide (t <+: s))]) ∧ Evo w0 w' [] := by
 refine calls_enter (n := 11) (args := [S s, S t]) Try.func122 rfl Try.ntmps122 rfl ?_
 have hV : Evo w0 w0 [] := Evo.refl _ _
 refine r_seq ?_
 refine r_region ?_
 refine r_op rfl rfl rfl (run_asg (v := S _) rfl (by exact rfl)) ?_
 refine r_op rfl rfl rfl (run_asg (v := .bool _) rfl (by exact rfl)) ?_
 refine r_nil ?_
 refine r_seq ?_
 refine r_region ?_
 refine r_op rfl rfl rfl (run_mv (v := S _) rfl (by exact rfl)) ?_
 refine r_op rfl rfl rfl (run_mv (v := S _) rfl (by exact rfl)) ?_
 refine r_opcall rfl rfl rfl (run_callf (vs := [S _, S _]) rfl (by exact rfl) Try.func155 rfl (by kernel_rfl)) (sl_cp_calls (by first | omega | (simp; omega)) (by first | omega | (simp; omega))) ?_
 rintro e w1 ⟨rfl, hE1⟩
 refine ⟨_, rfl, ?_⟩
 have hs_w1 := (hE1).size
 replace hV := evo_step0 hV hE1
 refine r_op rfl rfl rfl (run_extract (v := S _) rfl (by exact rfl) (by exact rfl)) ?_
 refine r_op rfl rfl rfl (run_extract (v := .bool _) rfl (by exact rfl) (by exact rfl)) ?_
 refine r_op rfl rfl rfl (run_asg (v := S _) rfl (by exact rfl)) ?_
 refine r_op rfl rfl rfl (run_asg (v := .bool _) rfl (by exact rfl)) ?_
 refine r_nil ?_
 refine r_ret (res2 (v := S _) (u := .bool _) rfl (by exact rfl) (by exact rfl)) ?_
 exact ⟨rfl, hV⟩

theorem s_ix_calls {s : Str} {c : UInt8} {w0 : World}  :
    Calls Try.prog 156 #[S s, S [c]] w0 fun e w' => e = .returned (.int .i64 (Lib.indexByte s c)) ∧ Evo w0 w' [] := by
 refine calls_enter (n := 8) (args := [S s, S [c]]) Try.func156 rfl Try.ntmps156 rfl ?_
 have hV : Evo w0 w0 [] := Evo.refl _ _
 refine r_seq ?_
 refine r_region ?_
 refine r_op rfl rfl rfl (run_asg (v := .int _ _) rfl (by exact rfl)) ?_
 refine r_nil ?_
 refine r_seq ?_
 refine r_region ?_
 refine r_op rfl rfl rfl (run_mv (v := S _) rfl (by exact rfl)) ?_
 refine r_op rfl rfl rfl (run_mv (v := S _) rfl (by exact rfl)) ?_
 refine r_opcall rfl rfl rfl (run_callf (vs := [S _, S _]) rfl (by exact rfl) Try.func154 rfl (by kernel_rfl)) sl_ix_calls ?_
 rintro e w1 ⟨rfl, hE1⟩
 refine ⟨_, rfl, ?_⟩
 have hs_w1 := (hE1).size
 replace hV := evo_step0 hV hE1
 refine r_op rfl rfl rfl (run_asg (v := .int _ _) rfl (by exact rfl)) ?_
 refine r_nil ?_
 refine r_ret (res1 (v := .int _ _) rfl (by exact rfl)) ?_
 exact ⟨rfl, hV⟩

theorem s_has_calls {s : Str} {c : UInt8} {w0 : World}  :
    Calls Try.prog 123 #[S s, S [c]] w0 fun e w' => e = .returned (.bool (decide (c ∈ s))) ∧ Evo w0 w' [] := by
 refine calls_enter (n := 9) (args := [S s, S [c]]) Try.func123 rfl Try.ntmps123 rfl ?_
 have hV : Evo w0 w0 [] := Evo.refl _ _
 refine r_seq ?_
 refine r_region ?_
 refine r_op rfl rfl rfl (run_asg (v := .bool _) rfl (by exact rfl)) ?_
 refine r_nil ?_
 refine r_seq ?_
 refine r_region ?_
 refine r_op rfl rfl rfl (run_mv (v := S _) rfl (by exact rfl)) ?_
 refine r_op rfl rfl rfl (run_mv (v := S _) rfl (by exact rfl)) ?_
 refine r_opcall rfl rfl rfl (run_callf (vs := [S _, S _]) rfl (by exact rfl) Try.func156 rfl (by kernel_rfl)) s_ix_calls ?_
 rintro e w1 ⟨rfl, hE1⟩
 refine ⟨_, rfl, ?_⟩
 have hs_w1 := (hE1).size
 replace hV := evo_step0 hV hE1
 refine r_op rfl rfl rfl (run_geq rfl (by exact rfl) (by exact rfl)) ?_
 refine r_op rfl rfl rfl (run_asg (v := .bool _) rfl (by exact rfl)) ?_
 refine r_nil ?_
 refine r_ret (res1 (v := .bool _) rfl (by exact rfl)) ?_
 exact ⟨ret_bool (decide_eq_decide.2 mem_ix), hV⟩

theorem af_no {s t : Str} (h : (s.length : Int) < (t.length : Int) ∨ ¬ (s.take t.length) = t) : ¬ t <+: s := fun h2 => by
  have h3 := prefix_iff.1 h2
  rcases h with h | h
  · omega
  · exact h h3.2
theorem af_yes {s t : Str} (h : ¬ ((s.length : Int) < (t.length : Int) ∨ ¬ (s.take t.length) = t)) : t <+: s := prefix_iff.2 ⟨by omega, Classical.not_not.1 fun e => h (.inr e)⟩

theorem after_calls {s t : Str} {w0 : World} (hs : s.length ≤ 140737488355328) (ht : t.length ≤ 140737488355328) :
    Calls Try.prog 157 #[S s, S t] w0 fun e w' => e = .returned (.tuple #[S (if t <+: s then s.drop t.length else []), .bool (decide (t <+: s))]) ∧ Evo w0 w' [] := by
 refine calls_enter (n := 23) (args := [S s, S t]) Try.func157 rfl Try.ntmps157 rfl ?_
 have hV : Evo w0 w0 [] := Evo.refl _ _
 refine r_seq ?_
 refine r_region ?_
 refine r_op rfl rfl rfl (run_asg (v := S _) rfl (by exact rfl)) ?_
 refine r_op rfl rfl rfl (run_asg (v := .bool _) rfl (by exact rfl)) ?_
 refine r_nil ?_
 refine r_seq ?_
 refine r_seq ?_
 refine r_region ?_
 refine r_op rfl rfl rfl (run_mv (v := S _) rfl (by exact rfl)) ?_
 refine r_op rfl rfl rfl (run_lenS rfl (by exact rfl) Try.underlying9) ?_
 refine r_op rfl rfl rfl (run_mv (v := S _) rfl (by exact rfl)) ?_
 refine r_op rfl rfl rfl (run_lenS rfl (by exact rfl) Try.underlying9) ?_
 refine r_op rfl rfl rfl (run_lss rfl (by exact rfl) (by exact rfl)) ?_
 refine r_op rfl rfl rfl (run_mv (v := .bool _) rfl (by exact rfl)) ?_
 refine r_g rfl (wantF (by exact rfl)) rfl (fun hg => run_mv (v := S _) rfl (by exact rfl)) ?_
 refine r_g rfl (wantF (by exact rfl)) rfl (fun hg => run_mv (v := S _) rfl (by exact rfl)) ?_
 refine r_g rfl (wantF (by exact rfl)) rfl (fun hg => run_lenS rfl (glv (by exact rfl) (fun h => h) hg) Try.underlying9) ?_
 refine r_g rfl (wantF (by exact rfl)) rfl (fun hg => run_slS (0) (t.length) rfl Try.underlying9 (glv (by exact rfl) (fun h => h) hg) lo0 (at1 (glv (by exact rfl) (fun h => h) hg) (by omega)) (by first | omega | (simp; omega)) (by first | omega | (simp; omega))) ?_
 refine r_g rfl (wantF (by exact rfl)) rfl (fun hg => run_mv (v := S _) rfl (by exact rfl)) ?_
 refine r_g rfl (wantF (by exact rfl)) rfl (fun hg => run_sneq rfl (glv (by exact rfl) (fun h => h) hg) (glv (by exact rfl) (fun h => h) hg)) ?_
 refine r_op rfl rfl rfl (run_pick_or rfl (by exact rfl) rfl (fun hq => glv (by exact rfl) (fun h => h) hq)) ?_
 refine r_nil ?_
 refine r_cond (by exact rfl) (fun hc1 => ?_) (fun hc1 => ?_)
 ·skip
  refine r_seq ?_
  refine r_region ?_
  refine r_op rfl rfl rfl (run_asg (v := S _) rfl (by exact rfl)) ?_
  refine r_op rfl rfl rfl (run_asg (v := .bool _) rfl (by exact rfl)) ?_
  refine r_nil ?_
  refine r_ret (res2 (v := S _) (u := .bool _) rfl (by exact rfl) (by exact rfl)) ?_
  exact ⟨by rw [if_neg (af_no (by simpa using hc1)), decide_eq_false (af_no (by simpa using hc1))], hV⟩
 ·skip
  refine r_skip ?_
  refine r_seq ?_
  refine r_region ?_
  refine r_op rfl rfl rfl (run_mv (v := S _) rfl (by exact rfl)) ?_
  refine r_op rfl rfl rfl (run_mv (v := S _) rfl (by exact rfl)) ?_
  refine r_op rfl rfl rfl (run_lenS rfl (by exact rfl) Try.underlying9) ?_
  refine r_op rfl rfl rfl (by exact run_slS (t.length) (_) rfl Try.underlying9 (by exact rfl) (at1 (by exact rfl) (by omega)) hi0 (by first | omega | (simp; omega)) (by first | omega | (simp; omega))) ?_
  refine r_op rfl rfl rfl (run_asg (v := S _) rfl (by exact rfl)) ?_
  refine r_op rfl rfl rfl (run_asg (v := .bool _) rfl (by exact rfl)) ?_
  refine r_nil ?_
  refine r_ret (res2 (v := S _) (u := .bool _) rfl (by exact rfl) (by exact rfl)) ?_
  exact ⟨by rw [if_pos (af_yes (by simpa using hc1)), decide_eq_true (af_yes (by simpa using hc1))]; congr 4; exact congrArg S (List.take_of_length_le (by simp)), hV⟩

theorem rhas_calls {s : Str} {c : UInt8} {w0 : World} (hs : s.length ≤ 140737488355328) :
    Calls Try.prog 158 #[S s, .int .u8 ((c.toNat : Nat) : Int)] w0 fun e w' => e = .returned (.bool (decide (c ∈ s))) ∧ Evo w0 w' [] := by
 refine calls_enter (n := 17) (args := [S s, .int .u8 ((c.toNat : Nat) : Int)]) Try.func158 rfl Try.ntmps158 rfl ?_
 have hV : Evo w0 w0 [] := Evo.refl _ _
 refine r_seq ?_
 refine r_region ?_
 refine r_op rfl rfl rfl (run_asg (v := .bool _) rfl (by exact rfl)) ?_
 refine r_nil ?_
 refine r_seq ?_
 refine r_seq ?_
 refine r_region ?_
 refine r_op rfl rfl rfl (run_asg (v := .int _ _) rfl (by exact rfl)) ?_
 refine r_nil ?_
 refine r_block ?_
 refine r_loop (α := Nat) [4, 5, 6, 7, 8, 9, 10, 11, 12, 13, 14, 15, 16] (fun k g w => g 5 = .int .i64 (k : Nat) ∧ k ≤ s.length ∧ (∀ j, j < k → ¬ s.getD j 0 = c) ∧ w0.heap.size ≤ w.heap.size ∧ Evo w0 w []) (fun k => s.length - k) 0 ?_ ?_
 ·refine ⟨rfl, (by first | assumption | omega | (dsimp only; omega) | (simp; done)), (fun j h => by omega), (by first | assumption | omega | (dsimp only; omega) | (simp; done)), hV⟩
 ·rintro k g w2 ⟨hj3, hk1, hno, hzl1, hV⟩
  have hs_w2hV := hV.size
  refine r_know (i := 5) (v := .int .i64 (k : Nat)) (by exact hj3) ?_
  refine r_seq ?_
  refine r_seq ?_
  refine r_region ?_
  refine r_op rfl rfl rfl (run_mv (v := .int _ _) rfl (by exact rfl)) ?_
  refine r_op rfl rfl rfl (run_mv (v := S _) rfl (by exact rfl)) ?_
  refine r_op rfl rfl rfl (run_lenS rfl (by exact rfl) Try.underlying9) ?_
  refine r_op rfl rfl rfl (run_lss rfl (by exact rfl) (by exact rfl)) ?_
  refine r_nil ?_
  refine r_cond (by exact rfl) (fun hc4 => ?_) (fun hc4 => ?_)
  ·skip
   refine r_skip ?_
   refine r_seq ?_
   refine r_block ?_
   refine r_seq ?_
   refine r_region ?_
   refine r_op rfl rfl rfl (run_mv (v := S _) rfl (by exact rfl)) ?_
   refine r_op rfl rfl rfl (run_mv (v := .int _ _) rfl (by exact rfl)) ?_
   refine r_op rfl rfl rfl (run_ixS (k) rfl Try.underlying9 (by exact rfl) (by exact rfl) (by first | exact rfl | omega) (by omega)) ?_
   refine r_op rfl rfl rfl (run_mv (v := .int _ _) rfl (by exact rfl)) ?_
   refine r_op rfl rfl rfl (run_eql rfl (by exact rfl) (by exact rfl)) ?_
   refine r_nil ?_
   refine r_cond (by exact rfl) (fun hc5 => ?_) (fun hc5 => ?_)
   ·skip
    refine r_seq ?_
    refine r_region ?_
    refine r_op rfl rfl rfl (run_asg (v := .bool _) rfl (by exact rfl)) ?_
    refine r_nil ?_
    refine r_ret (res1 (v := .bool _) rfl (by exact rfl)) ?_
    exact ⟨ret_bool (by rw [decide_eq_true (has_at (by omega) (u8i.1 hc5))]), hV⟩
   ·skip
    refine r_skip ?_
    refine r_blk ?_
    refine r_region ?_
    refine r_op rfl rfl rfl (run_mv (v := .int _ _) rfl (by exact rfl)) ?_
    refine r_op rfl rfl rfl (run_add rfl (by exact rfl) (by exact rfl) (by omega) (by omega)) ?_
    refine r_op rfl rfl rfl (run_asg (v := .int _ _) rfl (by exact rfl)) ?_
    refine r_nil ?_
    refine r_again (k + 1) ?_ ?_ ?_
    ·first | omega | (dsimp only; omega)
    ·refine ⟨(by first | exact rfl | exact congrArg (Value.int _) (by omega) | exact congrArg (Value.int _) (by dsimp only; omega) | exact congrArg (Value.int _) (by simp) | exact congrArg S (by simp)), (by first | assumption | omega | (dsimp only; omega) | (simp; done)), (upto0 hno (fun h => hc5 (u8i.2 h))), (by first | assumption | omega | (dsimp only; omega) | (simp; done)), hV⟩
    ·repeat (first | (with_reducible exact Agree.merge _ _ _) | (with_reducible exact Agree.refl _ _) | (with_reducible refine Agree.upd ?_ _ _ rfl) | ((with_reducible refine Agree.inner ?_ ?_); (kernel_rfl)))
  ·skip
   refine r_exit rfl ?_
   refine r_seq ?_
   refine r_region ?_
   refine r_op rfl rfl rfl (run_asg (v := .bool _) rfl (by exact rfl)) ?_
   refine r_nil ?_
   refine r_ret (res1 (v := .bool _) rfl (by exact rfl)) ?_
   exact ⟨ret_bool (by rw [decide_eq_false (has_no (by omega) hno)]), hV⟩

end Go.Proofs.Ytomklacppmaljaa

namespace Go.Proofs.Ytomklacppmaljaa
open Go.RowKit Go.Vc

theorem ahead_at {c : UInt8} : ∀ {s : Str} {p : Nat}, p < s.length → s.getD p 0 = c → (∀ j, j < p → ¬ s.getD j 0 = c) → aheadB s c = s.take p
  | [], p, h, _, _ => by simp at h
  | d :: t, 0, _, h, _ => by
    have : d = c := h
    unfold aheadB; rw [List.takeWhile_cons, if_neg (by simpa using this)]; rfl
  | d :: t, p + 1, h, h2, h3 => by
    have h0 : ¬ d = c := h3 0 (by omega)
    have := ahead_at (s := t) (p := p) (by simp at h; omega) h2 (fun j hj => h3 (j + 1) (by omega))
    unfold aheadB at *
    rw [List.takeWhile_cons, if_pos (by simpa using h0), this]; rfl
theorem no_in {s : Str} {c : UInt8} (h : ∀ j, j < s.length → ¬ s.getD j 0 = c) : ¬ c ∈ s := has_no (Nat.le_refl _) h
theorem once_at {s : Str} {c : UInt8} {p : Nat} (h : p < s.length) (h1 : s.getD p 0 = c) (h2 : ∀ j, j < s.length → s.getD j 0 = c → j = p) : onceB s c = true ∧ aheadB s c = s.take p ∧ behindB s c = s.drop (p + 1) := by
  have ha := ahead_at h h1 (fun j hj e => by have := h2 j (by omega) e; omega)
  have hb : behindB s c = s.drop (p + 1) := by unfold behindB; rw [ha, List.length_take, Nat.min_eq_left (by omega)]
  refine ⟨?_, ha, hb⟩
  unfold onceB
  refine decide_eq_true (once_iff.2 ⟨has_at h h1, ?_⟩)
  rw [hb]
  refine no_in fun j hj e => ?_
  rw [List.length_drop] at hj
  have e2 : (s.drop (p + 1)).getD j 0 = s.getD (p + 1 + j) 0 := by simp [List.getD, List.getElem?_drop]
  rw [e2] at e
  have := h2 (p + 1 + j) (by omega) e
  omega
theorem once_none {s : Str} {c : UInt8} (h : ∀ j, j < s.length → ¬ s.getD j 0 = c) : onceB s c = false := by
  unfold onceB; rw [List.count_eq_zero.2 (no_in h)]; rfl
theorem once_two {s : Str} {c : UInt8} {p k : Nat} (hp : p < k) (hk : k < s.length) (h1 : s.getD p 0 = c) (h2 : s.getD k 0 = c) : onceB s c = false := by
  unfold onceB
  refine decide_eq_false fun h => ?_
  have h3 := once_iff.1 h
  obtain ⟨q, hq1, hq2, hq3⟩ : ∃ q, q ≤ p ∧ s.getD q 0 = c ∧ ∀ j, j < q → ¬ s.getD j 0 = c := by
    have : ∀ n p, p ≤ n → s.getD p 0 = c → ∃ q, q ≤ p ∧ s.getD q 0 = c ∧ ∀ j, j < q → ¬ s.getD j 0 = c := by
      intro n
      induction n with
      | zero => intro p hp h; exact ⟨p, Nat.le_refl _, h, fun j hj => by omega⟩
      | succ n ih =>
        intro p hp h
        by_cases hx : ∃ j, j < p ∧ s.getD j 0 = c
        · obtain ⟨j, hj, e⟩ := hx
          obtain ⟨q, h4, h5, h6⟩ := ih j (by omega) e
          exact ⟨q, by omega, h5, h6⟩
        · exact ⟨p, Nat.le_refl _, h, fun j hj e => hx ⟨j, hj, e⟩⟩
    exact this p p (Nat.le_refl _) h1
  have ha := ahead_at (s := s) (p := q) (by omega) hq2 hq3
  refine h3.2 ?_
  unfold behindB
  rw [ha, List.length_take, Nat.min_eq_left (by omega)]
  have e2 : (s.drop (q + 1)).getD (k - (q + 1)) 0 = s.getD k 0 := by simp only [List.getD, List.getElem?_drop]; congr 2; omega
  exact has_at (k := k - (q + 1)) (by rw [List.length_drop]; omega) (e2.trans h2)
theorem line_at {s : Str} {fr k : Nat} (hfr : fr ≤ k) (hk : k < s.length) (h : s.getD k 0 = 10) (hno : ∀ j, fr ≤ j → j < k → ¬ s.getD j 0 = 10) : linesL (s.drop fr) = (s.drop fr).take (k - fr) :: linesL (s.drop (k + 1)) ∧ wholeL (s.drop fr) = wholeL (s.drop (k + 1)) := by
  have hg : ∀ j, (s.drop fr).getD j 0 = s.getD (fr + j) 0 := fun j => by simp [List.getD, List.getElem?_drop]
  have hl : k - fr < (s.drop fr).length := by rw [List.length_drop]; omega
  have h1 : (s.drop fr).getD (k - fr) 0 = 10 := by rw [hg, show fr + (k - fr) = k by omega]; exact h
  have ha : headL (s.drop fr) = (s.drop fr).take (k - fr) := ahead_at hl h1 (fun j hj => by rw [hg]; exact hno _ (by omega) (by omega))
  have hm : (10 : UInt8) ∈ s.drop fr := has_at hl h1
  have ht : tailL (s.drop fr) = s.drop (k + 1) := by
    unfold tailL; rw [ha, List.length_take, Nat.min_eq_left (by omega), List.drop_drop]; congr 1; omega
  rw [lines_yes hm, whole_yes hm, ha, ht]; exact ⟨rfl, rfl⟩
theorem ret_cut {a a' b b' : Str} {t t' : Bool} (ha : a = a') (hb : b = b') (ht : t = t') : Ending.returned (.tuple #[S a, S b, .bool t]) = .returned (.tuple #[S a', S b', .bool t']) := by rw [ha, hb, ht]
theorem line_none {s : Str} {fr : Nat} (hno : ∀ j, fr ≤ j → j < s.length → ¬ s.getD j 0 = 10) : ¬ (10 : UInt8) ∈ s.drop fr := by
  refine no_in fun j hj => ?_
  have e : (s.drop fr).getD j 0 = s.getD (fr + j) 0 := by simp [List.getD, List.getElem?_drop]
  rw [List.length_drop] at hj
  rw [e]; exact hno _ (by omega) (by omega)

theorem at_skip {s : Str} {c : UInt8} {at9 : Int} {k : Nat} (h : ((at9 = -1 ∧ ∀ j, j < k → ¬ s.getD j 0 = c) ∨ ∃ p : Nat, at9 = (p : Int) ∧ p < k ∧ s.getD p 0 = c ∧ ∀ j, j < k → s.getD j 0 = c → j = p)) (hc : ¬ s.getD k 0 = c) : ((at9 = -1 ∧ ∀ j, j < k + 1 → ¬ s.getD j 0 = c) ∨ ∃ p : Nat, at9 = (p : Int) ∧ p < k + 1 ∧ s.getD p 0 = c ∧ ∀ j, j < k + 1 → s.getD j 0 = c → j = p) := by
  rcases h with ⟨h1, h2⟩ | ⟨p, h1, h2, h3, h4⟩
  · exact .inl ⟨h1, upto0 h2 hc⟩
  · exact .inr ⟨p, h1, by omega, h3, fun j hj e => by
      rcases Nat.lt_or_ge j k with h5 | h5
      · exact h4 j h5 e
      · have : j = k := by omega
        rw [this] at e; exact absurd e hc⟩
theorem at_take {s : Str} {c : UInt8} {at9 : Int} {k : Nat} (h : ((at9 = -1 ∧ ∀ j, j < k → ¬ s.getD j 0 = c) ∨ ∃ p : Nat, at9 = (p : Int) ∧ p < k ∧ s.getD p 0 = c ∧ ∀ j, j < k → s.getD j 0 = c → j = p)) (h0 : ¬ 0 ≤ at9) (hc : s.getD k 0 = c) : ((((k : Nat) : Int) = -1 ∧ ∀ j, j < k + 1 → ¬ s.getD j 0 = c) ∨ ∃ p : Nat, ((k : Nat) : Int) = (p : Int) ∧ p < k + 1 ∧ s.getD p 0 = c ∧ ∀ j, j < k + 1 → s.getD j 0 = c → j = p) := by
  rcases h with ⟨h1, h2⟩ | ⟨p, h1, h2, h3, h4⟩
  · exact .inr ⟨k, rfl, by omega, hc, fun j hj e => by
      rcases Nat.lt_or_ge j k with h5 | h5
      · exact absurd e (h2 j h5)
      · omega⟩
  · omega

theorem rcut23_calls {s : Str} {c : UInt8} {w0 : World} (hs : s.length ≤ 140737488355328) :
    Calls Try.prog 159 #[S s, .int .u8 ((c.toNat : Nat) : Int)] w0 fun e w' => e = .returned (.tuple #[S (if onceB s c = true then aheadB s c else []), S (if onceB s c = true then behindB s c else []), .bool (onceB s c)]) ∧ Evo w0 w' [] := by
 refine calls_enter (n := 32) (args := [S s, .int .u8 ((c.toNat : Nat) : Int)]) Try.func159 rfl Try.ntmps159 rfl ?_
 have hV : Evo w0 w0 [] := Evo.refl _ _
 refine r_seq ?_
 refine r_region ?_
 refine r_op rfl rfl rfl (run_asg (v := S _) rfl (by exact rfl)) ?_
 refine r_op rfl rfl rfl (run_asg (v := S _) rfl (by exact rfl)) ?_
 refine r_op rfl rfl rfl (run_asg (v := .bool _) rfl (by exact rfl)) ?_
 refine r_nil ?_
 refine r_seq ?_
 refine r_region ?_
 refine r_op rfl rfl rfl (run_asg (v := .int _ _) rfl (by exact rfl)) ?_
 refine r_nil ?_
 refine r_seq ?_
 refine r_seq ?_
 refine r_region ?_
 refine r_op rfl rfl rfl (run_asg (v := .int _ _) rfl (by exact rfl)) ?_
 refine r_nil ?_
 refine r_block ?_
 refine r_loop (α := Nat) [4, 5, 6, 7, 8, 9, 10, 11, 12, 13, 14, 15, 16, 17, 18, 19, 20, 21, 22] (fun k g w => ∃ at9 : Int, g 8 = .int .i64 (k : Nat) ∧ g 7 = .int .i64 at9 ∧ k ≤ s.length ∧ ((at9 = -1 ∧ ∀ j, j < k → ¬ s.getD j 0 = c) ∨ ∃ p : Nat, at9 = (p : Int) ∧ p < k ∧ s.getD p 0 = c ∧ ∀ j, j < k → s.getD j 0 = c → j = p) ∧ w0.heap.size ≤ w.heap.size ∧ Evo w0 w []) (fun k => s.length - k) 0 ?_ ?_
 ·refine ⟨_, rfl, rfl, (by first | assumption | omega | (dsimp only; omega) | (simp; done)), (.inl ⟨rfl, fun j h => by omega⟩), (by first | assumption | omega | (dsimp only; omega) | (simp; done)), hV⟩
 ·rintro k g w2 ⟨at9, hj3, hj4, hk1, hat, hzl1, hV⟩
  have hs_w2hV := hV.size
  refine r_know (i := 8) (v := .int .i64 (k : Nat)) (by exact hj3) ?_
  refine r_know (i := 7) (v := .int .i64 at9) (by exact hj4) ?_
  refine r_seq ?_
  refine r_seq ?_
  refine r_region ?_
  refine r_op rfl rfl rfl (run_mv (v := .int _ _) rfl (by exact rfl)) ?_
  refine r_op rfl rfl rfl (run_mv (v := S _) rfl (by exact rfl)) ?_
  refine r_op rfl rfl rfl (run_lenS rfl (by exact rfl) Try.underlying9) ?_
  refine r_op rfl rfl rfl (run_lss rfl (by exact rfl) (by exact rfl)) ?_
  refine r_nil ?_
  refine r_cond (by exact rfl) (fun hc5 => ?_) (fun hc5 => ?_)
  ·skip
   refine r_skip ?_
   refine r_seq ?_
   refine r_block ?_
   refine r_seq ?_
   refine r_region ?_
   refine r_op rfl rfl rfl (run_mv (v := S _) rfl (by exact rfl)) ?_
   refine r_op rfl rfl rfl (run_mv (v := .int _ _) rfl (by exact rfl)) ?_
   refine r_op rfl rfl rfl (run_ixS (k) rfl Try.underlying9 (by exact rfl) (by exact rfl) (by first | exact rfl | omega) (by omega)) ?_
   refine r_op rfl rfl rfl (run_mv (v := .int _ _) rfl (by exact rfl)) ?_
   refine r_op rfl rfl rfl (run_eql rfl (by exact rfl) (by exact rfl)) ?_
   refine r_nil ?_
   refine r_cond (by exact rfl) (fun hc6 => ?_) (fun hc6 => ?_)
   ·skip
    refine r_seq ?_
    refine r_seq ?_
    refine r_region ?_
    refine r_op rfl rfl rfl (run_mv (v := .int _ _) rfl (by exact rfl)) ?_
    refine r_op rfl rfl rfl (run_geq rfl (by exact rfl) (by exact rfl)) ?_
    refine r_nil ?_
    refine r_cond (by exact rfl) (fun hc7 => ?_) (fun hc7 => ?_)
    ·skip
     refine r_seq ?_
     obtain ⟨p, hp1, hp2, hp3, hp4⟩ := hat.resolve_left (fun h => by omega)
     refine r_region ?_
     refine r_op rfl rfl rfl (run_asg (v := S _) rfl (by exact rfl)) ?_
     refine r_op rfl rfl rfl (run_asg (v := S _) rfl (by exact rfl)) ?_
     refine r_op rfl rfl rfl (run_asg (v := .bool _) rfl (by exact rfl)) ?_
     refine r_nil ?_
     refine r_ret (res3 (v := S _) (u := S _) (x := .bool _) rfl (by exact rfl) (by exact rfl) (by exact rfl)) ?_
     exact ⟨by rw [once_two hp2 (by omega) hp3 (u8i.1 (by assumption))]; rfl, hV⟩
    ·skip
     refine r_skip ?_
     refine r_region ?_
     refine r_op rfl rfl rfl (run_mv (v := .int _ _) rfl (by exact rfl)) ?_
     refine r_op rfl rfl rfl (run_asg (v := .int _ _) rfl (by exact rfl)) ?_
     refine r_nil ?_
     refine r_blk ?_
     refine r_region ?_
     refine r_op rfl rfl rfl (run_mv (v := .int _ _) rfl (by exact rfl)) ?_
     refine r_op rfl rfl rfl (run_add rfl (by exact rfl) (by exact rfl) (by omega) (by omega)) ?_
     refine r_op rfl rfl rfl (run_asg (v := .int _ _) rfl (by exact rfl)) ?_
     refine r_nil ?_
     refine r_again (k + 1) ?_ ?_ ?_
     ·first | omega | (dsimp only; omega)
     ·refine ⟨_, (by first | exact rfl | exact congrArg (Value.int _) (by omega) | exact congrArg (Value.int _) (by dsimp only; omega) | exact congrArg (Value.int _) (by simp) | exact congrArg S (by simp)), rfl, (by first | assumption | omega | (dsimp only; omega) | (simp; done)), (by first | exact at_skip hat (fun h => hc7 (u8i.2 h)) | exact at_take hat hc7 (u8i.1 (by assumption))), (by first | assumption | omega | (dsimp only; omega) | (simp; done)), hV⟩
     ·repeat (first | (with_reducible exact Agree.merge _ _ _) | (with_reducible exact Agree.refl _ _) | (with_reducible refine Agree.upd ?_ _ _ rfl) | ((with_reducible refine Agree.inner ?_ ?_); (kernel_rfl)))
   ·skip
    refine r_skip ?_
    refine r_blk ?_
    refine r_region ?_
    refine r_op rfl rfl rfl (run_mv (v := .int _ _) rfl (by exact rfl)) ?_
    refine r_op rfl rfl rfl (run_add rfl (by exact rfl) (by exact rfl) (by omega) (by omega)) ?_
    refine r_op rfl rfl rfl (run_asg (v := .int _ _) rfl (by exact rfl)) ?_
    refine r_nil ?_
    refine r_again (k + 1) ?_ ?_ ?_
    ·first | omega | (dsimp only; omega)
    ·refine ⟨_, (by first | exact rfl | exact congrArg (Value.int _) (by omega) | exact congrArg (Value.int _) (by dsimp only; omega) | exact congrArg (Value.int _) (by simp) | exact congrArg S (by simp)), rfl, (by first | assumption | omega | (dsimp only; omega) | (simp; done)), (by first | exact at_skip hat (fun h => hc6 (u8i.2 h)) | exact at_take hat hc6 (u8i.1 (by assumption))), (by first | assumption | omega | (dsimp only; omega) | (simp; done)), hV⟩
    ·repeat (first | (with_reducible exact Agree.merge _ _ _) | (with_reducible exact Agree.refl _ _) | (with_reducible refine Agree.upd ?_ _ _ rfl) | ((with_reducible refine Agree.inner ?_ ?_); (kernel_rfl)))
  ·skip
   refine r_exit rfl ?_
   refine r_seq ?_
   refine r_seq ?_
   refine r_region ?_
   refine r_op rfl rfl rfl (run_mv (v := .int _ _) rfl (by exact rfl)) ?_
   refine r_op rfl rfl rfl (run_lss rfl (by exact rfl) (by exact rfl)) ?_
   refine r_nil ?_
   refine r_cond (by exact rfl) (fun hc8 => ?_) (fun hc8 => ?_)
   ·skip
    refine r_seq ?_
    refine r_region ?_
    refine r_op rfl rfl rfl (run_asg (v := S _) rfl (by exact rfl)) ?_
    refine r_op rfl rfl rfl (run_asg (v := S _) rfl (by exact rfl)) ?_
    refine r_op rfl rfl rfl (run_asg (v := .bool _) rfl (by exact rfl)) ?_
    refine r_nil ?_
    refine r_ret (res3 (v := S _) (u := S _) (x := .bool _) rfl (by exact rfl) (by exact rfl) (by exact rfl)) ?_
    exact ⟨by rw [once_none (fun j hj => (hat.resolve_right (fun ⟨p, h1, _⟩ => by omega)).2 j (by omega))]; rfl, hV⟩
   ·skip
    refine r_skip ?_
    refine r_seq ?_
    obtain ⟨p, hp1, hp2, hp3, hp4⟩ := hat.resolve_left (fun h => by omega); subst hp1; have hon := once_at (s := s) (p := p) (by omega) hp3 (fun j hj => hp4 j (by omega))
    refine r_qregion (by kernel_rfl) (by kernel_rfl) ?_
    refine q_op rfl rfl rfl (fun w' hC => run_mv (v := S _) rfl (by exact rfl)) ?_
    refine q_op rfl rfl rfl (fun w' hC => run_mv (v := .int _ _) rfl (by exact rfl)) ?_
    refine q_op rfl rfl rfl (fun w' hC => run_slS (0) (p) rfl Try.underlying9 (by exact rfl) lo0 (at1 (by exact rfl) (by omega)) (by first | omega | (simp; omega)) (by first | omega | (simp; omega))) ?_
    refine q_op rfl rfl rfl (fun w' hC => run_mv (v := S _) rfl (by exact rfl)) ?_
    refine q_op rfl rfl rfl (fun w' hC => run_mv (v := .int _ _) rfl (by exact rfl)) ?_
    refine q_op rfl rfl rfl (fun w' hC => run_add rfl (by exact rfl) (by exact rfl) (by omega) (by omega)) ?_
    refine q_op rfl rfl rfl (fun w' hC => run_slS ((p + 1)) (_) rfl Try.underlying9 (by exact rfl) (at1 (by exact rfl) (by omega)) hi0 (by first | omega | (simp; omega)) (by first | omega | (simp; omega))) ?_
    refine q_op rfl rfl rfl (fun w' hC => run_asg (v := S _) rfl (by exact rfl)) ?_
    refine q_op rfl rfl rfl (fun w' hC => run_asg (v := S _) rfl (by exact rfl)) ?_
    refine q_op rfl rfl rfl (fun w' hC => run_asg (v := .bool _) rfl (by exact rfl)) ?_
    refine q_nil (fun w9 hE10 => ?_)
    have hs_w9 := (hE10).size
    replace hV := evo_step0 hV hE10
    refine r_ret (res3 (v := S _) (u := S _) (x := .bool _) rfl (by exact rfl) (by exact rfl) (by exact rfl)) ?_
    exact ⟨ret_cut (by rw [if_pos hon.1, hon.2.1]; first | rfl | simp) (by rw [if_pos hon.1, hon.2.2]; exact List.take_of_length_le (by simp)) hon.1.symm, hV⟩

theorem upto_fr {s : Str} {fr k : Nat} (h : ∀ j, fr ≤ j → j < k → ¬ s.getD j 0 = 10) (hk : ¬ s.getD k 0 = 10) : ∀ j, fr ≤ j → j < k + 1 → ¬ s.getD j 0 = 10 := fun j h1 h2 => by
  rcases Nat.lt_or_ge j k with h3 | h3
  · exact h j h1 h3
  · have : j = k := by omega
    rw [this]; exact hk

theorem lines_calls {s : Str} {w0 : World} (hs : s.length ≤ 1000000) :
    Calls Try.prog 124 #[S s] w0 fun e w' => ∃ v, e = .returned (.tuple #[v, .bool (wholeL s)]) ∧ Evo w0 w' [] ∧ OwnE w' w0.heap.size 9 v (linesL s) := by
 refine calls_enter (n := 36) (args := [S s]) Try.func124 rfl Try.ntmps124 rfl ?_
 have hV : Evo w0 w0 [] := Evo.refl _ _
 refine r_seq ?_
 refine r_region ?_
 refine r_op rfl rfl rfl (run_asg (v := .slice _ _ _) rfl (by exact rfl)) ?_
 refine r_op rfl rfl rfl (run_asg (v := .bool _) rfl (by exact rfl)) ?_
 refine r_nil ?_
 refine r_seq ?_
 refine r_region ?_
 refine r_op rfl rfl rfl (run_asg (v := .int _ _) rfl (by exact rfl)) ?_
 refine r_nil ?_
 refine r_seq ?_
 refine r_seq ?_
 refine r_region ?_
 refine r_op rfl rfl rfl (run_asg (v := .int _ _) rfl (by exact rfl)) ?_
 refine r_nil ?_
 refine r_block ?_
 refine r_loop (α := Nat) [2, 4, 5, 6, 7, 8, 9, 10, 11, 12, 13, 14, 15, 16, 17, 18, 19, 20, 21, 22, 23, 24] (fun k g w => ∃ vo : Value, ∃ fr : Nat, ∃ ls : List Str, g 5 = .int .i64 (k : Nat) ∧ g 4 = .int .i64 (fr : Nat) ∧ g 2 = vo ∧ k ≤ s.length ∧ OwnE w w0.heap.size 9 vo ls ∧ ls ++ linesL (s.drop fr) = linesL s ∧ wholeL (s.drop fr) = wholeL s ∧ fr ≤ k ∧ (∀ j, fr ≤ j → j < k → ¬ s.getD j 0 = 10) ∧ w0.heap.size ≤ w.heap.size ∧ Evo w0 w []) (fun k => s.length - k) 0 ?_ ?_
 ·refine ⟨_, 0, [], rfl, rfl, rfl, (by first | assumption | omega | (dsimp only; omega) | (simp; done)), (OwnE.nil _ _ _), (by simp), (by simp), (Nat.le_refl _), (fun j h1 h2 => by omega), (by first | assumption | omega | (dsimp only; omega) | (simp; done)), hV⟩
 ·rintro k g w2 ⟨vo, fr, ls, hj3, hj4, hj5, hk1, hoo, hls, hwh, hfr, hno, hzl1, hV⟩
  have hs_w2hV := hV.size
  refine r_know (i := 5) (v := .int .i64 (k : Nat)) (by exact hj3) ?_
  refine r_know (i := 4) (v := .int .i64 (fr : Nat)) (by exact hj4) ?_
  refine r_know (i := 2) (v := vo) (by exact hj5) ?_
  have hll := congrArg List.length hls
  rw [List.length_append] at hll
  have hlb := lines_len _ s (Nat.le_refl _)
  have hla := fun h1 h2 => line_at (s := s) (fr := fr) (k := k) hfr h1 h2 hno
  refine r_seq ?_
  refine r_seq ?_
  refine r_region ?_
  refine r_op rfl rfl rfl (run_mv (v := .int _ _) rfl (by exact rfl)) ?_
  refine r_op rfl rfl rfl (run_mv (v := S _) rfl (by exact rfl)) ?_
  refine r_op rfl rfl rfl (run_lenS rfl (by exact rfl) Try.underlying9) ?_
  refine r_op rfl rfl rfl (run_lss rfl (by exact rfl) (by exact rfl)) ?_
  refine r_nil ?_
  refine r_cond (by exact rfl) (fun hc6 => ?_) (fun hc6 => ?_)
  ·skip
   refine r_skip ?_
   refine r_seq ?_
   refine r_block ?_
   refine r_seq ?_
   refine r_region ?_
   refine r_op rfl rfl rfl (run_mv (v := S _) rfl (by exact rfl)) ?_
   refine r_op rfl rfl rfl (run_mv (v := .int _ _) rfl (by exact rfl)) ?_
   refine r_op rfl rfl rfl (run_ixS (k) rfl Try.underlying9 (by exact rfl) (by exact rfl) (by first | exact rfl | omega) (by omega)) ?_
   refine r_op rfl rfl rfl (run_eql rfl (by exact rfl) (by exact rfl)) ?_
   refine r_nil ?_
   refine r_cond (by exact rfl) (fun hc7 => ?_) (fun hc7 => ?_)
   ·skip
    refine r_seq ?_
    refine r_region ?_
    refine r_op rfl rfl rfl (run_mv (v := vo) rfl (by exact rfl)) ?_
    refine r_op rfl rfl rfl (run_mv (v := S _) rfl (by exact rfl)) ?_
    refine r_op rfl rfl rfl (run_mv (v := .int _ _) rfl (by exact rfl)) ?_
    refine r_op rfl rfl rfl (run_mv (v := .int _ _) rfl (by exact rfl)) ?_
    refine r_op rfl rfl rfl (by exact run_slS (fr) (k) rfl Try.underlying9 (by exact rfl) (at1 (by exact rfl) (by omega)) (at1 (by exact rfl) (by omega)) (by first | omega | (simp; omega)) (by first | omega | (simp; omega))) ?_
    refine r_append1E (u := S _) (y := _) rfl rfl Try.underlying34 ty_9 (by exact rfl) hoo (fun _ => (by exact rfl)) (by exact rfl) (by first | exact rfl | (show _ = List.toArray [_]; first | (dsimp only; done) | exact rfl | (dsimp only; exact rfl))) ((by first | omega | (simp; omega))) ((by first | omega | (simp; omega))) (by omega) ?_
    intro q_v8 v8 w9 hEw9 hov8 hlv8
    have hs_w9 := (hEw9).size
    replace hV := evo_stepo hV hEw9 (fun g hg => .inl (by first | exact (hoo.block hg).1 | (have := hoo.block hg; omega)))
    refine r_op rfl rfl rfl (run_asg (v := v8) rfl (by exact rfl)) ?_
    refine r_nil ?_
    refine r_region ?_
    refine r_op rfl rfl rfl (run_mv (v := .int _ _) rfl (by exact rfl)) ?_
    refine r_op rfl rfl rfl (run_add rfl (by exact rfl) (by exact rfl) (by omega) (by omega)) ?_
    refine r_knowL (i := 24) (v := .int .i64 ((k + 1 : Nat) : Int)) (congrArg (Value.int _) (by omega)) ?_
    refine r_op rfl rfl rfl (run_asg (v := .int _ _) rfl (by exact rfl)) ?_
    refine r_nil ?_
    refine r_blk ?_
    refine r_region ?_
    refine r_op rfl rfl rfl (run_mv (v := .int _ _) rfl (by exact rfl)) ?_
    refine r_op rfl rfl rfl (run_add rfl (by exact rfl) (by exact rfl) (by omega) (by omega)) ?_
    refine r_op rfl rfl rfl (run_asg (v := .int _ _) rfl (by exact rfl)) ?_
    refine r_nil ?_
    refine r_again (k + 1) ?_ ?_ ?_
    ·first | omega | (dsimp only; omega)
    ·refine ⟨_, _, _, (by first | exact rfl | exact congrArg (Value.int _) (by omega) | exact congrArg (Value.int _) (by dsimp only; omega) | exact congrArg (Value.int _) (by simp) | exact congrArg S (by simp)), (by first | exact rfl | exact congrArg (Value.int _) (by omega)), rfl, (by first | assumption | omega | (dsimp only; omega) | (simp; done)), (by first | exact hov8 | exact hoo), (by first | (have h8 := (hla (by omega) (u8i.1 hc7)).1; rw [h8] at hls; rw [List.append_assoc]; exact hls) | exact hls), (by first | (have h8 := (hla (by omega) (u8i.1 hc7)).2; rw [← h8]; exact hwh) | exact hwh), (by omega), (by first | (intro j h1 h2; omega) | exact upto_fr hno (fun h => hc7 (u8i.2 h))), (by first | assumption | omega | (dsimp only; omega) | (simp; done)), hV⟩
    ·repeat (first | (with_reducible exact Agree.merge _ _ _) | (with_reducible exact Agree.refl _ _) | (with_reducible refine Agree.upd ?_ _ _ rfl) | ((with_reducible refine Agree.inner ?_ ?_); (kernel_rfl)))
   ·skip
    refine r_skip ?_
    refine r_blk ?_
    refine r_region ?_
    refine r_op rfl rfl rfl (run_mv (v := .int _ _) rfl (by exact rfl)) ?_
    refine r_op rfl rfl rfl (run_add rfl (by exact rfl) (by exact rfl) (by omega) (by omega)) ?_
    refine r_op rfl rfl rfl (run_asg (v := .int _ _) rfl (by exact rfl)) ?_
    refine r_nil ?_
    refine r_again (k + 1) ?_ ?_ ?_
    ·first | omega | (dsimp only; omega)
    ·refine ⟨_, _, _, (by first | exact rfl | exact congrArg (Value.int _) (by omega) | exact congrArg (Value.int _) (by dsimp only; omega) | exact congrArg (Value.int _) (by simp) | exact congrArg S (by simp)), (by first | exact rfl | exact congrArg (Value.int _) (by omega)), rfl, (by first | assumption | omega | (dsimp only; omega) | (simp; done)), (by first | exact hoo | exact hoo), (by first | (have h8 := (hla (by omega) (u8i.1 hc7)).1; rw [h8] at hls; rw [List.append_assoc]; exact hls) | exact hls), (by first | (have h8 := (hla (by omega) (u8i.1 hc7)).2; rw [← h8]; exact hwh) | exact hwh), (by omega), (by first | (intro j h1 h2; omega) | exact upto_fr hno (fun h => hc7 (u8i.2 h))), (by first | assumption | omega | (dsimp only; omega) | (simp; done)), hV⟩
    ·repeat (first | (with_reducible exact Agree.merge _ _ _) | (with_reducible exact Agree.refl _ _) | (with_reducible refine Agree.upd ?_ _ _ rfl) | ((with_reducible refine Agree.inner ?_ ?_); (kernel_rfl)))
  ·skip
   refine r_exit rfl ?_
   refine r_seq ?_
   refine r_seq ?_
   refine r_region ?_
   refine r_op rfl rfl rfl (run_mv (v := .int _ _) rfl (by exact rfl)) ?_
   refine r_op rfl rfl rfl (run_mv (v := S _) rfl (by exact rfl)) ?_
   refine r_op rfl rfl rfl (run_lenS rfl (by exact rfl) Try.underlying9) ?_
   refine r_op rfl rfl rfl (run_lss rfl (by exact rfl) (by exact rfl)) ?_
   refine r_nil ?_
   refine r_cond (by exact rfl) (fun hc10 => ?_) (fun hc10 => ?_)
   ·skip
    refine r_seq ?_
    refine r_region ?_
    refine r_op rfl rfl rfl (run_mv (v := vo) rfl (by exact rfl)) ?_
    refine r_op rfl rfl rfl (run_mv (v := S _) rfl (by exact rfl)) ?_
    refine r_op rfl rfl rfl (run_mv (v := .int _ _) rfl (by exact rfl)) ?_
    refine r_op rfl rfl rfl (by exact run_slS (fr) (_) rfl Try.underlying9 (by exact rfl) (at1 (by exact rfl) (by omega)) hi0 (by first | omega | (simp; omega)) (by first | omega | (simp; omega))) ?_
    refine r_append1E (u := S _) (y := _) rfl rfl Try.underlying34 ty_9 (by exact rfl) hoo (fun _ => (by exact rfl)) (by exact rfl) (by first | exact rfl | (show _ = List.toArray [_]; first | (dsimp only; done) | exact rfl | (dsimp only; exact rfl))) ((by first | omega | (simp; omega))) ((by first | omega | (simp; omega))) (by omega) ?_
    intro q_v11 v11 w12 hEw12 hov11 hlv11
    have hs_w12 := (hEw12).size
    replace hV := evo_stepo hV hEw12 (fun g hg => .inl (by first | exact (hoo.block hg).1 | (have := hoo.block hg; omega)))
    refine r_op rfl rfl rfl (run_asg (v := v11) rfl (by exact rfl)) ?_
    refine r_op rfl rfl rfl (run_asg (v := .bool _) rfl (by exact rfl)) ?_
    refine r_nil ?_
    refine r_ret (res2 (v := v11) (u := .bool _) rfl (by exact rfl) (by exact rfl)) ?_
    exact ⟨_, by rw [← hwh, whole_no (line_none (fun j h1 h2 => hno j h1 (by omega))) (fun e => by have := congrArg List.length e; simp at this; omega)], hV, by rw [← hls, lines_no (line_none (fun j h1 h2 => hno j h1 (by omega))) (fun e => by have := congrArg List.length e; simp at this; omega)]; have h9 := hov11; rw [List.take_of_length_le (by simp)] at h9; exact h9⟩
   ·skip
    refine r_skip ?_
    refine r_seq ?_
    refine r_region ?_
    refine r_op rfl rfl rfl (run_mv (v := vo) rfl (by exact rfl)) ?_
    refine r_op rfl rfl rfl (run_asg (v := vo) rfl (by exact rfl)) ?_
    refine r_op rfl rfl rfl (run_asg (v := .bool _) rfl (by exact rfl)) ?_
    refine r_nil ?_
    refine r_ret (res2 (v := vo) (u := .bool _) rfl (by exact rfl) (by exact rfl)) ?_
    exact ⟨_, by rw [← hwh, List.drop_eq_nil_of_le (by omega), whole_nil], hV, by rw [← hls, List.drop_eq_nil_of_le (by omega), lines_nil, List.append_nil]; exact hoo⟩

end Go.Proofs.Ytomklacppmaljaa

namespace Go.Proofs.Ytomklacppmaljaa
open Go.RowKit Go.Vc

theorem step_name2 {cl : List Clas} {s : Str} (h : clsW <+: s) (h2 : (32 : UInt8) ∈ nameOf s) : stepE cl s = 2 := by unfold stepE; rw [if_pos h, if_pos h2]
theorem step_name3 {cl : List Clas} {s : Str} (h : clsW <+: s) (h2 : ¬ (32 : UInt8) ∈ nameOf s) (h3 : 32 ≤ cl.length) : stepE cl s = 3 := by unfold stepE; rw [if_pos h, if_neg h2, if_pos h3]
theorem step_named {cl : List Clas} {s : Str} (h : clsW <+: s) (h2 : ¬ (32 : UInt8) ∈ nameOf s) (h3 : ¬ 32 ≤ cl.length) : stepE cl s = namedL cl (nameOf s) := by unfold stepE; rw [if_pos h, if_neg h2, if_neg h3]
theorem stepC_name {cl : List Clas} {s : Str} (h : clsW <+: s) : stepC cl s = cl ++ [⟨nameOf s, []⟩] := if_pos h
theorem step_syn {cl : List Clas} {s : Str} (h : ¬ clsW <+: s) (h2 : ¬ twoW <+: s ∨ ¬ onceB (bodyOf s) 62 = true ∨ cl = []) : stepE cl s = 2 := by unfold stepE; rw [if_neg h, if_pos h2]
theorem step_many {cl : List Clas} {s : Str} (h : ¬ clsW <+: s) (h2 : ¬ (¬ twoW <+: s ∨ ¬ onceB (bodyOf s) 62 = true ∨ cl = [])) (h3 : 16 ≤ (lastC cl).ends.length) : stepE cl s = 3 := by unfold stepE; rw [if_neg h, if_neg h2, if_pos h3]
theorem step_end {cl : List Clas} {s : Str} (h : ¬ clsW <+: s) (h2 : ¬ (¬ twoW <+: s ∨ ¬ onceB (bodyOf s) 62 = true ∨ cl = [])) (h3 : ¬ 16 ≤ (lastC cl).ends.length) : stepE cl s = endedL (lastC cl).ends (endOf s) := by unfold stepE; rw [if_neg h, if_neg h2, if_neg h3]
theorem stepC_end {cl : List Clas} {s : Str} (h : ¬ clsW <+: s) : stepC cl s = cl.take (cl.length - 1) ++ [⟨(lastC cl).name, (lastC cl).ends ++ [endOf s]⟩] := if_neg h
theorem ret_vS {v : Value} {a b : Int} (h : a = b) : Ending.returned (.tuple #[v, .int .i64 a]) = .returned (.tuple #[v, .int .i64 b]) := by rw [h]
theorem after_body {s : Str} (h : twoW <+: s) : (if twoW <+: s then s.drop twoW.length else []) = bodyOf s := if_pos h
theorem syn_of {cl : List Clas} {s : Str} (h : (¬ twoW <+: s ∨ ¬ onceB (if twoW <+: s then s.drop twoW.length else []) 62 = true) ∨ cl.length = 0) : ¬ twoW <+: s ∨ ¬ onceB (bodyOf s) 62 = true ∨ cl = [] := by
  by_cases h2 : twoW <+: s
  · rw [after_body h2] at h
    rcases h with (h | h) | h
    · exact .inl h
    · exact .inr (.inl h)
    · exact .inr (.inr (List.eq_nil_of_length_eq_zero h))
  · exact .inl h2
theorem syn_not {cl : List Clas} {s : Str} (h : ¬ ((¬ twoW <+: s ∨ ¬ onceB (if twoW <+: s then s.drop twoW.length else []) 62 = true) ∨ cl.length = 0)) : twoW <+: s ∧ onceB (bodyOf s) 62 = true ∧ 0 < cl.length := by
  have h1 : twoW <+: s := Classical.not_not.1 fun e => h (.inl (.inl e))
  rw [after_body h1] at h
  exact ⟨h1, Classical.not_not.1 fun e => h (.inl (.inr e)), Nat.pos_of_ne_zero fun e => h (.inr e)⟩
theorem syn_no {cl : List Clas} {s : Str} (h : twoW <+: s ∧ onceB (bodyOf s) 62 = true ∧ 0 < cl.length) : ¬ (¬ twoW <+: s ∨ ¬ onceB (bodyOf s) 62 = true ∨ cl = []) := by
  rintro (h1 | h1 | h1)
  · exact h1 h.1
  · exact h1 h.2.1
  · rw [h1] at h; exact absurd h.2.2 (by simp)
theorem body_len (s : Str) : (bodyOf s).length ≤ s.length := by unfold bodyOf; rw [List.length_drop]; omega
theorem name_len2 (s : Str) : (nameOf s).length ≤ s.length := by unfold nameOf; rw [List.length_drop]; omega
theorem ahead_len (s : Str) (c : UInt8) : (aheadB s c).length ≤ s.length := by
  have : (aheadB s c).Sublist s := List.takeWhile_sublist _
  exact this.length_le
theorem behind_len (s : Str) (c : UInt8) : (behindB s c).length ≤ s.length := by unfold behindB; rw [List.length_drop]; omega
theorem endOf_bd {s : Str} (h : s.length ≤ 1000000) : BdE (endOf s) := by
  have h1 := ahead_len (bodyOf s) 62; have h2 := behind_len (bodyOf s) 62; have h3 := body_len s
  exact ⟨by show (aheadB (bodyOf s) 62).length ≤ _; omega, by show (behindB (bodyOf s) 62).length ≤ _; omega⟩
theorem name_bd {s : Str} (h : s.length ≤ 1000000) : BdC ⟨nameOf s, []⟩ := ⟨by have := name_len2 s; show (nameOf s).length ≤ _; omega, by simp, Nat.zero_le _⟩
theorem ends_snoc {x : Clas} {y : Ende} (h : BdC x) (hy : BdE y) (hl : x.ends.length ≤ 16) : BdC ⟨x.name, x.ends ++ [y]⟩ := by
  refine ⟨h.1, fun e he => ?_, ?_⟩
  · rcases List.mem_append.1 he with h1 | h1
    · exact h.2.1 e h1
    · have : e = y := by simpa using h1
      rw [this]; exact hy
  · show (x.ends ++ [y]).length ≤ _
    rw [List.length_append]; show x.ends.length + 1 ≤ _; omega

set_option maxHeartbeats 2000000 in
theorem line23_calls {ao : Option Addr} {b off cap : Nat} {c : List Clas} {s : Str} {w0 : World} (hc : RowR w0 ao b off cap c) (hs : s.length ≤ 1000000) (h32 : c.length ≤ 32) :
    Calls Try.prog 125 #[.slice ao c.length cap, S s] w0 fun e w' => ∃ v, e = .returned (.tuple #[v, .int .i64 (stepE c s)]) ∧ Evo w0 w' [] ∧ (stepE c s = 0 → OwnR w' w0.heap.size 43 [] v (stepC c s)) := by
 refine calls_enter (n := 96) (args := [.slice ao c.length cap, S s]) Try.func125 rfl Try.ntmps125 rfl ?_
 have hV : Evo w0 w0 [] := Evo.refl _ _
 have hc0 := hc.keep
 have hbd_hc := hc.bd
 refine r_seq ?_
 refine r_region ?_
 refine r_op rfl rfl rfl (run_asg (v := .slice _ _ _) rfl (by exact rfl)) ?_
 refine r_op rfl rfl rfl (run_asg (v := .int _ _) rfl (by exact rfl)) ?_
 refine r_nil ?_
 refine r_seq ?_
 refine r_seq ?_
 refine r_region ?_
 refine r_op rfl rfl rfl (run_mv (v := S _) rfl (by exact rfl)) ?_
 refine r_opcall rfl rfl rfl (run_callf (vs := [S _, S _]) rfl (by exact rfl) Try.func157 rfl (by kernel_rfl)) (after_calls (by omega) (by show (_ : Nat) ≤ _; decide)) ?_
 rintro e w1 ⟨rfl, hE1⟩
 refine ⟨_, rfl, ?_⟩
 have hs_w1 := (hE1).size
 replace hV := evo_step0 hV hE1
 replace hc := hc0.now hV
 refine r_op rfl rfl rfl (run_mv (v := .tuple _) rfl (by exact rfl)) ?_
 refine r_op rfl rfl rfl (run_extract (v := S _) rfl (by exact rfl) (by exact rfl)) ?_
 refine r_op rfl rfl rfl (run_extract (v := .bool _) rfl (by exact rfl) (by exact rfl)) ?_
 refine r_op rfl rfl rfl (run_asg (v := S _) rfl (by exact rfl)) ?_
 refine r_op rfl rfl rfl (run_asg (v := .bool _) rfl (by exact rfl)) ?_
 refine r_nil ?_
 refine r_seq ?_
 refine r_region ?_
 refine r_op rfl rfl rfl (run_mvb rfl (by exact rfl)) ?_
 refine r_nil ?_
 refine r_cond (by exact rfl) (fun hc2 => ?_) (fun hc2 => ?_)
 ·skip
  refine r_seq ?_
  refine r_seq ?_
  have hcl : clsW <+: s := by simpa [clsW] using hc2
  have hnl := name_len2 s
  refine r_know (i := 6) (v := S (nameOf s)) (congrArg S (if_pos hcl)) ?_
  refine r_region ?_
  refine r_op rfl rfl rfl (run_mv (v := S _) rfl (by exact rfl)) ?_
  refine r_opcall rfl rfl rfl (run_callf (vs := [S _, .int _ _]) rfl (by exact rfl) Try.func158 rfl (by kernel_rfl)) (rhas_calls (c := 32) (by omega)) ?_
  rintro e w3 ⟨rfl, hE3⟩
  refine ⟨_, rfl, ?_⟩
  have hs_w3 := (hE3).size
  replace hV := evo_step0 hV hE3
  replace hc := hc0.now hV
  refine r_nil ?_
  refine r_condb (by exact rfl) (fun hc4 => ?_) (fun hc4 => ?_)
  ·skip
   refine r_seq ?_
   refine r_region ?_
   refine r_op rfl rfl rfl (run_asg (v := .slice _ _ _) rfl (by exact rfl)) ?_
   refine r_op rfl rfl rfl (run_asg (v := .int _ _) rfl (by exact rfl)) ?_
   refine r_nil ?_
   refine r_ret (res2 (v := .slice _ _ _) (u := .int _ _) rfl (by exact rfl) (by exact rfl)) ?_
   exact ⟨_, ret_vS (step_name2 hcl (by simpa using hc4)).symm, hV, fun h0 => absurd ((step_name2 hcl (by simpa using hc4)).symm.trans h0) (by decide)⟩
  ·skip
   refine r_skip ?_
   refine r_seq ?_
   refine r_seq ?_
   refine r_region ?_
   refine r_op rfl rfl rfl (run_mv (v := .slice _ _ _) rfl (by exact rfl)) ?_
   refine r_op rfl rfl rfl (run_lenSl rfl (by exact rfl) Try.underlying22) ?_
   refine r_op rfl rfl rfl (run_geq rfl (by exact rfl) (by exact rfl)) ?_
   refine r_nil ?_
   refine r_cond (by exact rfl) (fun hc5 => ?_) (fun hc5 => ?_)
   ·skip
    refine r_seq ?_
    refine r_region ?_
    refine r_op rfl rfl rfl (run_asg (v := .slice _ _ _) rfl (by exact rfl)) ?_
    refine r_op rfl rfl rfl (run_asg (v := .int _ _) rfl (by exact rfl)) ?_
    refine r_nil ?_
    refine r_ret (res2 (v := .slice _ _ _) (u := .int _ _) rfl (by exact rfl) (by exact rfl)) ?_
    exact ⟨_, ret_vS (step_name3 hcl (by simp_all) (by omega)).symm, hV, fun h0 => absurd ((step_name3 hcl (by simp_all) (by omega)).symm.trans h0) (by decide)⟩
   ·skip
    refine r_skip ?_
    refine r_seq ?_
    have hcb := clas_bd hc
    refine r_region ?_
    refine r_bslice (pv := []) (zs := [_, _]) (cs := []) Try.underlying22 ty_43 (by exact rfl) rfl (by exact rfl) rfl (by exact rfl) ?_
    intro b6 w7 heb6 hEw7 hbb6 hzb6
    have hs_w7 := (hEw7).size
    replace hV := evo_step0 hV hEw7
    replace hc := hc0.now hV
    have hAb6 := hbb6.at
    have hob6 : OwnR (α := Clas) w7 w3.heap.size 43 [] (.slice (some ⟨b6, 0, none⟩) 0 0) [] := ownR_lit0 hbb6 (by omega)
    refine r_op rfl rfl rfl (run_mv (v := .slice _ _ _) rfl (by exact rfl)) ?_
    refine r_appendR (w1 := w0) (E' := []) rfl Try.underlying22 ty_43 (by exact rfl) clas_one hob6 (by exact rfl) (by exact rfl) hc0 ((fun w9 h9 => Evo.trans hV h9 (fun x hx hlt => by simp [Value.ownBlock] at hx; omega))) rfl (by simp only [List.length_nil]; omega) (by simp only [List.length_nil]; omega) (by omega) ?_
    intro v8 w9 hEw9 hov8 hlv8
    have hs_w9 := (hEw9).size
    replace hV := evo_stepo hV hEw9 (fun g hg => .inl (by first | exact (hob6.block hg).1 | (have := hob6.block hg; omega)))
    replace hc := hc0.now hV
    refine r_op rfl rfl rfl (run_mv (v := S _) rfl (by exact rfl)) ?_
    refine r_op rfl rfl rfl (run_bld (pv := [(0, S _)]) (zs := [_, _]) (cells := [_, _]) rfl ty_43 (by exact rfl) pl_43 (by exact rfl) (by exact rfl)) ?_
    refine r_append1R (u := .agg _) (us := [_, _]) rfl rfl Try.underlying22 ty_43 (by exact rfl) rfl rfl hov8 (fun _ => (by exact rfl)) (by exact rfl) (by exact rfl) rfl (by exact rfl) (fun w9 _ => clas_nil w9 (name_bd hs)) ((by simp; omega)) ((by simp; omega)) (by omega) ?_
    intro q_v10 v10 w11 hEw11 hov10 hlv10
    have hs_w11 := (hEw11).size
    replace hV := evo_stepo hV hEw11 (fun g hg => .inl (by first | exact (hov8.block hg).1 | (have := hov8.block hg; omega)))
    replace hc := hc0.now hV
    refine r_op rfl rfl rfl (run_mv (v := .slice _ _ _) rfl (by exact rfl)) ?_
    refine r_op rfl rfl rfl (run_mv (v := S _) rfl (by exact rfl)) ?_
    refine r_opcall rfl rfl rfl (run_callf (vs := [.slice _ _ _, S _]) rfl (by exact rfl) Try.func80 rfl (by kernel_rfl)) (rnamed_calls hc) ?_
    rintro e w12 ⟨rfl, hE12⟩
    refine ⟨_, rfl, ?_⟩
    have hs_w12 := (hE12).size
    replace hV := evo_step0 hV hE12
    replace hc := hc0.now hV
    replace hov10 := hov10.evo0 hE12
    refine r_op rfl rfl rfl (run_asg (v := v10) rfl (by exact rfl)) ?_
    refine r_op rfl rfl rfl (run_asg (v := .int _ _) rfl (by exact rfl)) ?_
    refine r_nil ?_
    refine r_ret (res2 (v := v10) (u := .int _ _) rfl (by exact rfl) (by exact rfl)) ?_
    exact ⟨_, ret_vS (step_named hcl (by simp_all) (by omega)).symm, hV, fun _ => by rw [stepC_name hcl]; have h9 := hov10; rw [List.nil_append] at h9; exact h9.sub (by omega) (by simp)⟩
 ·skip
  refine r_skip ?_
  refine r_seq ?_
  have hncl : ¬ clsW <+: s := by simpa [clsW] using hc2
  have hbl := body_len s
  refine r_region ?_
  refine r_op rfl rfl rfl (run_mv (v := S _) rfl (by exact rfl)) ?_
  refine r_opcall rfl rfl rfl (run_callf (vs := [S _, S _]) rfl (by exact rfl) Try.func157 rfl (by kernel_rfl)) (after_calls (by omega) (by show (_ : Nat) ≤ _; decide)) ?_
  rintro e w13 ⟨rfl, hE13⟩
  refine ⟨_, rfl, ?_⟩
  have hs_w13 := (hE13).size
  replace hV := evo_step0 hV hE13
  replace hc := hc0.now hV
  refine r_op rfl rfl rfl (run_mv (v := .tuple _) rfl (by exact rfl)) ?_
  refine r_op rfl rfl rfl (run_extract (v := S _) rfl (by exact rfl) (by exact rfl)) ?_
  refine r_op rfl rfl rfl (run_extract (v := .bool _) rfl (by exact rfl) (by exact rfl)) ?_
  refine r_op rfl rfl rfl (run_asg (v := S _) rfl (by exact rfl)) ?_
  refine r_op rfl rfl rfl (run_asg (v := .bool _) rfl (by exact rfl)) ?_
  refine r_nil ?_
  refine r_seq ?_
  have hil : (if ([32, 32] : Str) <+: s then s.drop ([32, 32] : Str).length else ([] : Str)).length ≤ s.length := by split; exact hbl; exact Nat.zero_le _
  refine r_region ?_
  refine r_op rfl rfl rfl (run_mv (v := S _) rfl (by exact rfl)) ?_
  refine r_opcall rfl rfl rfl (run_callf (vs := [S _, .int _ _]) rfl (by exact rfl) Try.func159 rfl (by kernel_rfl)) (rcut23_calls (c := 62) (Nat.le_trans hil (by omega))) ?_
  rintro e w14 ⟨rfl, hE14⟩
  refine ⟨_, rfl, ?_⟩
  have hs_w14 := (hE14).size
  replace hV := evo_step0 hV hE14
  replace hc := hc0.now hV
  refine r_op rfl rfl rfl (run_mv (v := .tuple _) rfl (by exact rfl)) ?_
  refine r_op rfl rfl rfl (run_extract (v := S _) rfl (by exact rfl) (by exact rfl)) ?_
  refine r_op rfl rfl rfl (run_extract (v := S _) rfl (by exact rfl) (by exact rfl)) ?_
  refine r_op rfl rfl rfl (run_extract (v := .bool _) rfl (by exact rfl) (by exact rfl)) ?_
  refine r_op rfl rfl rfl (run_asg (v := S _) rfl (by exact rfl)) ?_
  refine r_op rfl rfl rfl (run_asg (v := S _) rfl (by exact rfl)) ?_
  refine r_op rfl rfl rfl (run_asg (v := .bool _) rfl (by exact rfl)) ?_
  refine r_nil ?_
  refine r_seq ?_
  refine r_seq ?_
  refine r_region ?_
  refine r_op rfl rfl rfl (run_mvb rfl (by exact rfl)) ?_
  refine r_op rfl rfl rfl (run_not rfl (by exact rfl)) ?_
  refine r_op rfl rfl rfl (run_mv (v := .bool _) rfl (by exact rfl)) ?_
  refine r_g rfl (wantF (by exact rfl)) rfl (fun hg => run_mvb rfl (by exact rfl)) ?_
  refine r_g rfl (wantF (by exact rfl)) rfl (fun hg => run_not rfl (glv (by exact rfl) (fun h => h) hg)) ?_
  refine r_op rfl rfl rfl (run_pick_or rfl (by exact rfl) rfl (fun hq => glv (by exact rfl) (fun h => h) hq)) ?_
  refine r_op rfl rfl rfl (run_mv (v := .bool _) rfl (by exact rfl)) ?_
  refine r_g rfl (wantF (by exact rfl)) rfl (fun hg => run_mv (v := .slice _ _ _) rfl (by exact rfl)) ?_
  refine r_g rfl (wantF (by exact rfl)) rfl (fun hg => run_lenSl rfl (glv (by exact rfl) (fun h => h) hg) Try.underlying22) ?_
  refine r_g rfl (wantF (by exact rfl)) rfl (fun hg => run_eql rfl (glv (by exact rfl) (fun h => h) hg) (by exact rfl)) ?_
  refine r_op rfl rfl rfl (run_pick_or rfl (by exact rfl) rfl (fun hq => glv (by exact rfl) (fun h => h) hq)) ?_
  refine r_nil ?_
  refine r_cond (by exact rfl) (fun hc15 => ?_) (fun hc15 => ?_)
  ·skip
   refine r_seq ?_
   refine r_region ?_
   refine r_op rfl rfl rfl (run_asg (v := .slice _ _ _) rfl (by exact rfl)) ?_
   refine r_op rfl rfl rfl (run_asg (v := .int _ _) rfl (by exact rfl)) ?_
   refine r_nil ?_
   refine r_ret (res2 (v := .slice _ _ _) (u := .int _ _) rfl (by exact rfl) (by exact rfl)) ?_
   exact ⟨_, ret_vS (step_syn hncl (syn_of (by simpa [twoW] using hc15))).symm, hV, fun h0 => absurd ((step_syn hncl (syn_of (by simpa [twoW] using hc15))).symm.trans h0) (by decide)⟩
  ·skip
   refine r_skip ?_
   refine r_seq ?_
   have hsy := syn_not (cl := c) (s := s) (by simpa [twoW] using hc15); have hsn := syn_no hsy; have hcb := clas_bd hc; have hlb := hcb _ (getD_in (show c.length - 1 < c.length by omega)); have hal := ahead_len (bodyOf s) 62; have hbh := behind_len (bodyOf s) 62
   refine r_know (i := 10) (v := S (aheadB (bodyOf s) 62)) (congrArg S (by rw [show (if [32, 32] <+: s then List.drop ([32, 32] : Str).length s else []) = bodyOf s from after_body hsy.1, if_pos hsy.2.1])) ?_
   refine r_know (i := 11) (v := S (behindB (bodyOf s) 62)) (congrArg S (by rw [show (if [32, 32] <+: s then List.drop ([32, 32] : Str).length s else []) = bodyOf s from after_body hsy.1, if_pos hsy.2.1])) ?_
   refine r_region ?_
   refine r_op rfl rfl rfl (run_mv (v := .slice _ _ _) rfl (by exact rfl)) ?_
   refine r_op rfl rfl rfl (run_mv (v := .slice _ _ _) rfl (by exact rfl)) ?_
   refine r_op rfl rfl rfl (run_lenSl rfl (by exact rfl) Try.underlying22) ?_
   refine r_op rfl rfl rfl (run_sub rfl (by exact rfl) (by exact rfl) (by omega) (by omega)) ?_
   refine r_op rfl rfl rfl (run_ix ((c.length - 1)) rfl Try.underlying22 ty_43 (by exact rfl) (by exact rfl) (by omega) (by omega) (hc.addr (i := (c.length - 1)) (by omega))) ?_
   obtain ⟨ao16, b16, off16, cap16, hX⟩ := clas_atK hc0 ((c.length - 1)) (by omega)
   have hA160 := fun (w' : World) (h : Evo w0 w' []) => (hX w' h).1
   have hA16 := hA160 _ hV
   have hR160 := fun (w' : World) (h : Evo w0 w' []) => (hX w' h).2
   have hR16 := hR160 _ hV
   clear hX
   have hbd_hR16 := hR16.bd
   refine r_op rfl rfl rfl (run_ldN rfl ag_43 ty_43 (by exact rfl) rfl hA16) ?_
   refine r_var (zs := [_, _]) (vs := [_, _]) ty_43 (by exact rfl) rfl (by exact rfl) (fun _ => rfl) (by exact rfl) rfl rfl (by exact rfl) ?_
   intro b17 w18 heb17 hEw18 hbb17 hzb17
   have hs_w18 := (hEw18).size
   replace hV := evo_step0 hV hEw18
   replace hc := hc0.now hV
   replace hR16 := hR160 _ hV
   have hAb17 := hbb17.at
   refine r_nil ?_
   refine r_seq ?_
   refine r_region ?_
   refine r_op rfl rfl rfl (run_mv (v := S _) rfl (by exact rfl)) ?_
   refine r_op rfl rfl rfl (run_mv (v := S _) rfl (by exact rfl)) ?_
   refine r_op rfl rfl rfl (run_bld (pv := [(0, S _), (1, S _)]) (zs := [_, _]) (cells := [_, _]) rfl ty_46 (by exact rfl) pl_46 (by exact rfl) (by exact rfl)) ?_
   refine r_var (zs := [_, _]) (vs := [_, _]) ty_46 (by exact rfl) rfl (by exact rfl) (fun _ => rfl) (by exact rfl) rfl rfl (by exact rfl) ?_
   intro b19 w20 heb19 hEw20 hbb19 hzb19
   have hs_w20 := (hEw20).size
   replace hV := evo_step0 hV hEw20
   replace hc := hc0.now hV
   replace hR16 := hR160 _ hV
   replace hbb17 := hbb17.evo0 hEw20
   replace hAb17 := hAb17.evo0 hEw20
   have hAb19 := hbb19.at
   refine r_nil ?_
   refine r_seq ?_
   refine r_seq ?_
   refine r_region ?_
   refine r_op rfl rfl rfl (run_fa rfl (by exact rfl) fo_43_1) ?_
   refine r_op rfl rfl rfl (run_ld1 rfl ag_41 (by exact rfl) (hAb17.cell 1 (by exact rfl))) ?_
   refine r_op rfl rfl rfl (run_lenSl rfl (by exact rfl) Try.underlying41) ?_
   refine r_op rfl rfl rfl (run_geq rfl (by exact rfl) (by exact rfl)) ?_
   refine r_nil ?_
   refine r_cond (by exact rfl) (fun hc21 => ?_) (fun hc21 => ?_)
   ·skip
    refine r_seq ?_
    refine r_region ?_
    refine r_op rfl rfl rfl (run_asg (v := .slice _ _ _) rfl (by exact rfl)) ?_
    refine r_op rfl rfl rfl (run_asg (v := .int _ _) rfl (by exact rfl)) ?_
    refine r_nil ?_
    refine r_ret (res2 (v := .slice _ _ _) (u := .int _ _) rfl (by exact rfl) (by exact rfl)) ?_
    exact ⟨_, ret_vS (step_many hncl hsn (by unfold lastC; omega)).symm, hV, fun h0 => absurd ((step_many hncl hsn (by unfold lastC; omega)).symm.trans h0) (by decide)⟩
   ·skip
    refine r_skip ?_
    refine r_seq ?_
    refine r_region ?_
    refine r_bslice (pv := []) (zs := [_, _]) (cs := []) Try.underlying22 ty_43 (by exact rfl) rfl (by exact rfl) rfl (by exact rfl) ?_
    intro b22 w23 heb22 hEw23 hbb22 hzb22
    have hs_w23 := (hEw23).size
    replace hV := evo_step0 hV hEw23
    replace hc := hc0.now hV
    replace hR16 := hR160 _ hV
    replace hbb17 := hbb17.evo0 hEw23
    replace hAb17 := hAb17.evo0 hEw23
    replace hbb19 := hbb19.evo0 hEw23
    replace hAb19 := hAb19.evo0 hEw23
    have hAb22 := hbb22.at
    have hob22 : OwnR (α := Clas) w23 w20.heap.size 43 [] (.slice (some ⟨b22, 0, none⟩) 0 0) [] := ownR_lit0 hbb22 (by omega)
    refine r_op rfl rfl rfl (run_mv (v := .slice _ _ _) rfl (by exact rfl)) ?_
    refine r_op rfl rfl rfl (run_mv (v := .slice _ _ _) rfl (by exact rfl)) ?_
    refine r_op rfl rfl rfl (run_lenSl rfl (by exact rfl) Try.underlying22) ?_
    refine r_op rfl rfl rfl (run_sub rfl (by exact rfl) (by exact rfl) (by omega) (by omega)) ?_
    refine r_op rfl rfl rfl (by exact run_slR (0) ((c.length - 1)) rfl Try.underlying22 ty_43 (by exact rfl) hc lo0 (at1 (by exact rfl) (by omega)) (by first | omega | (simp; omega)) (by first | omega | (simp; omega)) List.drop_zero) ?_
    have hS240 := (by have h9 := (hc0.take ((c.length - 1))).drop (0); rw [List.drop_zero] at h9; exact h9)
    have hS24 := (by have h9 := (hc.take ((c.length - 1))).drop (0); rw [List.drop_zero] at h9; exact h9)
    have hbd_hS24 := hS24.bd
    refine r_appendR (w1 := w0) (E' := []) rfl Try.underlying22 ty_43 (by exact rfl) clas_one hob22 (by exact rfl) (by exact rfl) hS240 ((fun w9 h9 => Evo.trans hV h9 (fun x hx hlt => by simp [Value.ownBlock] at hx; omega))) rfl (by simp; omega) (by simp; omega) (by omega) ?_
    intro v25 w26 hEw26 hov25 hlv25
    have hs_w26 := (hEw26).size
    replace hV := evo_stepo hV hEw26 (fun g hg => .inl (by first | exact (hob22.block hg).1 | (have := hob22.block hg; omega)))
    replace hc := hc0.now hV
    replace hR16 := hR160 _ hV
    replace hbb17 := hbb17.evo hEw26 (by intro hm; have hm2 := Option.mem_toList.1 hm; first | (have := hob22.block hm2; omega) | (simp [Value.ownBlock] at hm2; omega))
    replace hAb17 := hAb17.evo hEw26 (by intro hm; have hm2 := Option.mem_toList.1 hm; first | (have := hob22.block hm2; omega) | (simp [Value.ownBlock] at hm2; omega))
    replace hbb19 := hbb19.evo hEw26 (by intro hm; have hm2 := Option.mem_toList.1 hm; first | (have := hob22.block hm2; omega) | (simp [Value.ownBlock] at hm2; omega))
    replace hAb19 := hAb19.evo hEw26 (by intro hm; have hm2 := Option.mem_toList.1 hm; first | (have := hob22.block hm2; omega) | (simp [Value.ownBlock] at hm2; omega))
    refine r_op rfl rfl rfl (run_asg (v := v25) rfl (by exact rfl)) ?_
    refine r_nil ?_
    refine r_seq ?_
    have hI17 : Evo w26 w26 [] := Evo.refl _ _
    rw [List.nil_append] at hov25
    have hoO0 := hov25; have hobO := fun g hg => (hov25.block (g := g) hg).2
    have hov25_own := fun {g : Nat} (hg : _ = some g) => hov25.block (g := g) hg
    have hbb17_q := hbb17
    have hAb17_q := hAb17
    have hbb19_q := hbb19
    have hAb19_q := hAb19
    have hV_q := hV
    have hI17_q := hI17
    refine h_region (v25.ownBlock.toList) (by kernel_rfl) ?_
    intro w27 hE28 hCst17
    have hs_w27 := (hE28).size
    replace hV := evo_step0 hV hE28
    replace hI17 := evo_step0 hI17 hE28
    replace hc := hc0.now hV
    replace hR16 := hR160 _ hV
    replace hbb17 := hbb17.evo0 hE28
    replace hAb17 := hAb17.evo0 hE28
    replace hbb19 := hbb19.evo0 hE28
    replace hAb19 := hAb19.evo0 hE28
    refine h_take (i := 0) (by exact rfl) rfl rfl rfl (by kernel_rfl) (fun w' hC => run_mv (v := v25) rfl (by exact rfl)) hCst17 ?_
    refine h_take (i := 1) (by exact rfl) rfl rfl rfl (by kernel_rfl) (fun w' hC => run_fa rfl (by exact rfl) fo_43_0) hCst17 ?_
    refine h_take (i := 2) (by exact rfl) rfl rfl rfl (by kernel_rfl) (fun w' hC => run_ld1 rfl ag_9 (by exact rfl) ((hAb17_q.evo hC (fun hg => by have h8 := hov25_own (Option.mem_toList.1 hg); omega)).cell 0 (by exact rfl))) hCst17 ?_
    refine h_take (i := 4) (by exact rfl) rfl rfl rfl (by kernel_rfl) (fun w' hC => run_fa rfl (by exact rfl) fo_43_1) hCst17 ?_
    refine h_take (i := 5) (by exact rfl) rfl rfl rfl (by kernel_rfl) (fun w' hC => run_ld1 rfl ag_41 (by exact rfl) ((hAb17_q.evo hC (fun hg => by have h8 := hov25_own (Option.mem_toList.1 hg); omega)).cell 1 (by exact rfl))) hCst17 ?_
    refine h_take (i := 7) (by exact rfl) rfl rfl rfl (by kernel_rfl) (fun w' hC => run_ldN rfl ag_46 ty_46 (by exact rfl) rfl (hAb19_q.evo hC (fun hg => by have h8 := hov25_own (Option.mem_toList.1 hg); omega))) hCst17 ?_
    refine h_take (i := 13) (by exact rfl) rfl rfl rfl (by kernel_rfl) (fun w' hC => run_fa rfl (by exact rfl) fo_43_1) hCst17 ?_
    refine h_take (i := 14) (by exact rfl) rfl rfl rfl (by kernel_rfl) (fun w' hC => run_ld1 rfl ag_41 (by exact rfl) ((hAb17_q.evo hC (fun hg => by have h8 := hov25_own (Option.mem_toList.1 hg); omega)).cell 1 (by exact rfl))) hCst17 ?_
    refine h_take (i := 15) (by exact rfl) rfl rfl rfl (by kernel_rfl) (fun w' hC => run_ldN rfl ag_46 ty_46 (by exact rfl) rfl (hAb19_q.evo hC (fun hg => by have h8 := hov25_own (Option.mem_toList.1 hg); omega))) hCst17 ?_
    refine h_two (i := 3) (j := 8) (by kernel_rfl) ?_ ?_
    ·skip
     refine h_do (by exact rfl) ?_
     refine r_bslice (pv := []) (zs := [_, _]) (cs := []) Try.underlying41 ty_46 (by exact rfl) rfl (by exact rfl) rfl (by exact rfl) ?_
     intro b29 w30 heb29 hEw30 hbb29 hzb29
     have hs_w30 := (hEw30).size
     replace hV := evo_step0 hV hEw30
     replace hI17 := evo_step0 hI17 hEw30
     replace hCst17 := evo_step0 hCst17 hEw30
     replace hc := hc0.now hV
     replace hR16 := hR160 _ hV
     replace hbb19 := hbb19.evo0 hEw30
     replace hAb19 := hAb19.evo0 hEw30
     have hAb29 := hbb29.at
     have hob29 : OwnE (α := Ende) w30 w26.heap.size 46 (.slice (some ⟨b29, 0, none⟩) 0 0) [] := ownE_lit0 hbb29 (by omega)
     refine h_next hCst17 ?_
     refine h_two (i := 6) (j := 8) (by kernel_rfl) ?_ ?_
     ·skip
      refine h_do (by exact rfl) ?_
      refine r_appendE rfl Try.underlying41 ty_46 (by exact rfl) hob29 (by exact rfl) (by exact rfl) hR16 rfl (by simp only [List.length_nil]; omega) (by simp only [List.length_nil]; omega) (by omega) ?_
      intro v31 w32 hEw32 hov31 hlv31
      have hs_w32 := (hEw32).size
      replace hV := evo_stepo hV hEw32 (fun g hg => .inl (by first | exact (hob29.block hg).1 | (have := hob29.block hg; omega)))
      replace hI17 := evo_stepo hI17 hEw32 (fun g hg => .inl (by first | exact (hob29.block hg).1 | (have := hob29.block hg; omega)))
      replace hCst17 := evo_stepo hCst17 hEw32 (fun g hg => .inl (by first | exact (hob29.block hg).1 | (have := hob29.block hg; omega)))
      replace hc := hc0.now hV
      replace hR16 := hR160 _ hV
      replace hbb19 := hbb19.evo hEw32 (by intro hm; have hm2 := Option.mem_toList.1 hm; first | (have := hob29.block hm2; omega) | (simp [Value.ownBlock] at hm2; omega))
      replace hAb19 := hAb19.evo hEw32 (by intro hm; have hm2 := Option.mem_toList.1 hm; first | (have := hob29.block hm2; omega) | (simp [Value.ownBlock] at hm2; omega))
      refine h_next hCst17 ?_
      refine h_one (i := 8) (by kernel_rfl) ?_
      refine h_do (by exact rfl) ?_
      have hob33 := fun g hg => (hov31.block (g := g) hg).2
      refine r_bslice (pv := [(0, .agg _)]) (zs := [_, _]) (cs := [_, _]) Try.underlying41 ty_46 (by exact rfl) rfl (by exact rfl) rfl (by exact rfl) ?_
      intro b34 w35 heb34 hEw35 hbb34 hzb34
      have hs_w35 := (hEw35).size
      replace hV := evo_step0 hV hEw35
      replace hI17 := evo_step0 hI17 hEw35
      replace hCst17 := evo_step0 hCst17 hEw35
      replace hc := hc0.now hV
      replace hR16 := hR160 _ hV
      replace hbb19 := hbb19.evo0 hEw35
      replace hAb19 := hAb19.evo0 hEw35
      replace hov31 := hov31.evo0 hEw35
      have hAb34 := hbb34.at
      have hrb34 := rowLit (α := Ende) [⟨_, _⟩] hbb34 (by show [_, _] = [_, _]; first | (dsimp only; done) | exact rfl | (dsimp only; exact rfl)) rfl
      refine h_next hCst17 ?_
      refine h_one (i := 9) (by kernel_rfl) ?_
      refine h_do (by exact rfl) ?_
      refine r_appendE rfl Try.underlying41 ty_46 (by exact rfl) hov31 (by exact rfl) (by exact rfl) hrb34 rfl (by simp only [List.length_append, List.length_nil, List.length_cons]; omega) (by simp only [List.length_append, List.length_nil, List.length_cons]; omega) (by omega) ?_
      intro v36 w37 hEw37 hov36 hlv36
      have hs_w37 := (hEw37).size
      replace hV := evo_stepo hV hEw37 (fun g hg => .inl (by first | exact (hov31.block hg).1 | (have := hov31.block hg; omega)))
      replace hI17 := evo_stepo hI17 hEw37 (fun g hg => .inl (by first | exact (hov31.block hg).1 | (have := hov31.block hg; omega)))
      replace hCst17 := evo_stepo hCst17 hEw37 (fun g hg => .inl (by first | exact (hov31.block hg).1 | (have := hov31.block hg; omega)))
      replace hc := hc0.now hV
      replace hR16 := hR160 _ hV
      replace hbb19 := hbb19.evo hEw37 (by intro hm; have hm2 := Option.mem_toList.1 hm; first | (have := hov31.block hm2; omega) | (simp [Value.ownBlock] at hm2; omega))
      replace hAb19 := hAb19.evo hEw37 (by intro hm; have hm2 := Option.mem_toList.1 hm; first | (have := hov31.block hm2; omega) | (simp [Value.ownBlock] at hm2; omega))
      refine h_next hCst17 ?_
      obtain ⟨ao38, cp38, hv38⟩ := hov36.shape
      subst hv38
      refine h_take (i := 10) (by exact rfl) rfl rfl rfl (by kernel_rfl) (fun w' hC => run_bld (pv := [(0, S _), (1, .slice _ _ _)]) (zs := [_, _]) (cells := [_, _]) rfl ty_43 (by exact rfl) pl_43 (by exact rfl) (by exact rfl)) hCst17 ?_
      refine h_one (i := 11) (by kernel_rfl) ?_
      refine h_do (by exact rfl) ?_
      refine r_bslice (pv := [(0, .agg _)]) (zs := [_, _]) (cs := [_, _]) Try.underlying22 ty_43 (by exact rfl) rfl (by exact rfl) rfl (by exact rfl) ?_
      intro b39 w40 heb39 hEw40 hbb39 hzb39
      have hs_w40 := (hEw40).size
      replace hV := evo_step0 hV hEw40
      replace hI17 := evo_step0 hI17 hEw40
      replace hCst17 := evo_step0 hCst17 hEw40
      replace hc := hc0.now hV
      replace hR16 := hR160 _ hV
      replace hbb19 := hbb19.evo0 hEw40
      replace hAb19 := hAb19.evo0 hEw40
      replace hov36 := hov36.evo0 hEw40
      have hAb39 := hbb39.at
      have hKb39 : Evo w40 w40 ([] ++ v25.ownBlock.toList) := Evo.refl _ _
      have hrb390 := rowLitRK ([] ++ v25.ownBlock.toList) hbb39 (fun hm => by have hm2 := Option.mem_toList.1 (by simpa using hm); have := hobO _ hm2; omega) (clas_own _ hov36 (by simp) (fun g hg => by have := hobO g hg; omega) (ends_snoc hlb (endOf_bd hs) (by omega))) (x := (⟨(c.getD (c.length - 1) default).name, (c.getD (c.length - 1) default).ends ++ [⟨aheadB (bodyOf s) 62, behindB (bodyOf s) 62⟩]⟩ : Clas))
      have hrb39 := hrb390.now hKb39
      have hbd_hrb39 := hrb39.bd
      refine h_next hCst17 ?_
      refine h_one (i := 12) (by kernel_rfl) ?_
      refine h_do (by exact rfl) ?_
      have hov25 := hoO0.evo0 hI17
      refine r_appendR (w1 := w40) (E' := [] ++ v25.ownBlock.toList) rfl Try.underlying22 ty_43 (by exact rfl) clas_one hov25 (by exact rfl) (by exact rfl) hrb390 ((fun w9 h9 => Evo.trans hKb39 h9 (fun x hx hlt => by simpa using hx))) rfl (by simp; omega) (by simp; omega) (by omega) ?_
      intro v41 w42 hEw42 hov41 hlv41
      have hs_w42 := (hEw42).size
      replace hV := evo_stepo hV hEw42 (fun g hg => .inl (by first | exact (hov25.block hg).1 | (have := hov25.block hg; omega)))
      replace hCst17 := evo_stepo hCst17 hEw42 (fun g hg => .inr (Option.mem_toList.2 hg))
      replace hKb39 := evo_stepo hKb39 hEw42 (fun g hg => .inr (by simpa using hg))
      replace hc := hc0.now hV
      replace hR16 := hR160 _ hV
      replace hbb19 := hbb19.evo hEw42 (by intro hm; have hm2 := Option.mem_toList.1 hm; first | (have := hov25.block hm2; omega) | (simp [Value.ownBlock] at hm2; omega))
      replace hAb19 := hAb19.evo hEw42 (by intro hm; have hm2 := Option.mem_toList.1 hm; first | (have := hov25.block hm2; omega) | (simp [Value.ownBlock] at hm2; omega))
      replace hrb39 := hrb390.now hKb39
      refine h_next hCst17 ?_
      refine h_one (i := 16) (by kernel_rfl) ?_
      refine h_do (by exact rfl) ?_
      refine r_opcall rfl rfl rfl (run_callf (vs := [.slice _ _ _, .agg _]) rfl (by exact rfl) Try.func81 rfl (by kernel_rfl)) (rended_calls hR16 (by omega) (by omega)) ?_
      rintro e w43 ⟨rfl, hE43⟩
      refine ⟨_, rfl, ?_⟩
      have hs_w43 := (hE43).size
      replace hV := evo_step0 hV hE43
      replace hCst17 := evo_step0 hCst17 hE43
      replace hKb39 := evo_step0 hKb39 hE43
      replace hc := hc0.now hV
      replace hrb39 := hrb390.now hKb39
      replace hov41 := hov41.evo0 hE43
      refine h_next hCst17 ?_
      refine h_take (i := 17) (by exact rfl) rfl rfl rfl (by kernel_rfl) (fun w' hC => run_asg (v := v41) rfl (by exact rfl)) hCst17 ?_
      refine h_take (i := 18) (by exact rfl) rfl rfl rfl (by kernel_rfl) (fun w' hC => run_asg (v := .int _ _) rfl (by exact rfl)) hCst17 ?_
      refine h_done (by kernel_rfl) ?_
      refine r_ret (res2 (v := v41) (u := .int _ _) rfl (by exact rfl) (by exact rfl)) ?_
      exact ⟨_, ret_vS (step_end hncl hsn (by unfold lastC; omega)).symm, hV, fun _ => by rw [stepC_end hncl]; exact (hov41).sub (by omega) (by simp)⟩
     ·skip
      refine h_do (by exact rfl) ?_
      have hob44 := fun g hg => (hob29.block (g := g) hg).2
      refine r_bslice (pv := [(0, .agg _)]) (zs := [_, _]) (cs := [_, _]) Try.underlying41 ty_46 (by exact rfl) rfl (by exact rfl) rfl (by exact rfl) ?_
      intro b45 w46 heb45 hEw46 hbb45 hzb45
      have hs_w46 := (hEw46).size
      replace hV := evo_step0 hV hEw46
      replace hI17 := evo_step0 hI17 hEw46
      replace hCst17 := evo_step0 hCst17 hEw46
      replace hc := hc0.now hV
      replace hR16 := hR160 _ hV
      replace hbb19 := hbb19.evo0 hEw46
      replace hAb19 := hAb19.evo0 hEw46
      replace hob29 := hob29.evo0 hEw46
      have hAb45 := hbb45.at
      have hrb45 := rowLit (α := Ende) [⟨_, _⟩] hbb45 (by show [_, _] = [_, _]; first | (dsimp only; done) | exact rfl | (dsimp only; exact rfl)) rfl
      refine h_next hCst17 ?_
      refine h_one (i := 6) (by kernel_rfl) ?_
      refine h_do (by exact rfl) ?_
      refine r_appendE rfl Try.underlying41 ty_46 (by exact rfl) hob29 (by exact rfl) (by exact rfl) hR16 rfl (by simp only [List.length_nil]; omega) (by simp only [List.length_nil]; omega) (by omega) ?_
      intro v47 w48 hEw48 hov47 hlv47
      have hs_w48 := (hEw48).size
      replace hV := evo_stepo hV hEw48 (fun g hg => .inl (by first | exact (hob29.block hg).1 | (have := hob29.block hg; omega)))
      replace hI17 := evo_stepo hI17 hEw48 (fun g hg => .inl (by first | exact (hob29.block hg).1 | (have := hob29.block hg; omega)))
      replace hCst17 := evo_stepo hCst17 hEw48 (fun g hg => .inl (by first | exact (hob29.block hg).1 | (have := hob29.block hg; omega)))
      replace hc := hc0.now hV
      replace hR16 := hR160 _ hV
      replace hbb19 := hbb19.evo hEw48 (by intro hm; have hm2 := Option.mem_toList.1 hm; first | (have := hob29.block hm2; omega) | (simp [Value.ownBlock] at hm2; omega))
      replace hAb19 := hAb19.evo hEw48 (by intro hm; have hm2 := Option.mem_toList.1 hm; first | (have := hob29.block hm2; omega) | (simp [Value.ownBlock] at hm2; omega))
      replace hrb45 := hrb45.evo hEw48 (by intro hm; have hm2 := Option.mem_toList.1 hm; have := hob44 _ hm2; omega)
      refine h_next hCst17 ?_
      refine h_one (i := 9) (by kernel_rfl) ?_
      refine h_do (by exact rfl) ?_
      refine r_appendE rfl Try.underlying41 ty_46 (by exact rfl) hov47 (by exact rfl) (by exact rfl) hrb45 rfl (by simp only [List.length_append, List.length_nil, List.length_cons]; omega) (by simp only [List.length_append, List.length_nil, List.length_cons]; omega) (by omega) ?_
      intro v49 w50 hEw50 hov49 hlv49
      have hs_w50 := (hEw50).size
      replace hV := evo_stepo hV hEw50 (fun g hg => .inl (by first | exact (hov47.block hg).1 | (have := hov47.block hg; omega)))
      replace hI17 := evo_stepo hI17 hEw50 (fun g hg => .inl (by first | exact (hov47.block hg).1 | (have := hov47.block hg; omega)))
      replace hCst17 := evo_stepo hCst17 hEw50 (fun g hg => .inl (by first | exact (hov47.block hg).1 | (have := hov47.block hg; omega)))
      replace hc := hc0.now hV
      replace hR16 := hR160 _ hV
      replace hbb19 := hbb19.evo hEw50 (by intro hm; have hm2 := Option.mem_toList.1 hm; first | (have := hov47.block hm2; omega) | (simp [Value.ownBlock] at hm2; omega))
      replace hAb19 := hAb19.evo hEw50 (by intro hm; have hm2 := Option.mem_toList.1 hm; first | (have := hov47.block hm2; omega) | (simp [Value.ownBlock] at hm2; omega))
      refine h_next hCst17 ?_
      obtain ⟨ao51, cp51, hv51⟩ := hov49.shape
      subst hv51
      refine h_take (i := 10) (by exact rfl) rfl rfl rfl (by kernel_rfl) (fun w' hC => run_bld (pv := [(0, S _), (1, .slice _ _ _)]) (zs := [_, _]) (cells := [_, _]) rfl ty_43 (by exact rfl) pl_43 (by exact rfl) (by exact rfl)) hCst17 ?_
      refine h_one (i := 11) (by kernel_rfl) ?_
      refine h_do (by exact rfl) ?_
      refine r_bslice (pv := [(0, .agg _)]) (zs := [_, _]) (cs := [_, _]) Try.underlying22 ty_43 (by exact rfl) rfl (by exact rfl) rfl (by exact rfl) ?_
      intro b52 w53 heb52 hEw53 hbb52 hzb52
      have hs_w53 := (hEw53).size
      replace hV := evo_step0 hV hEw53
      replace hI17 := evo_step0 hI17 hEw53
      replace hCst17 := evo_step0 hCst17 hEw53
      replace hc := hc0.now hV
      replace hR16 := hR160 _ hV
      replace hbb19 := hbb19.evo0 hEw53
      replace hAb19 := hAb19.evo0 hEw53
      replace hov49 := hov49.evo0 hEw53
      have hAb52 := hbb52.at
      have hKb52 : Evo w53 w53 ([] ++ v25.ownBlock.toList) := Evo.refl _ _
      have hrb520 := rowLitRK ([] ++ v25.ownBlock.toList) hbb52 (fun hm => by have hm2 := Option.mem_toList.1 (by simpa using hm); have := hobO _ hm2; omega) (clas_own _ hov49 (by simp) (fun g hg => by have := hobO g hg; omega) (ends_snoc hlb (endOf_bd hs) (by omega))) (x := (⟨(c.getD (c.length - 1) default).name, (c.getD (c.length - 1) default).ends ++ [⟨aheadB (bodyOf s) 62, behindB (bodyOf s) 62⟩]⟩ : Clas))
      have hrb52 := hrb520.now hKb52
      have hbd_hrb52 := hrb52.bd
      refine h_next hCst17 ?_
      refine h_one (i := 12) (by kernel_rfl) ?_
      refine h_do (by exact rfl) ?_
      have hov25 := hoO0.evo0 hI17
      refine r_appendR (w1 := w53) (E' := [] ++ v25.ownBlock.toList) rfl Try.underlying22 ty_43 (by exact rfl) clas_one hov25 (by exact rfl) (by exact rfl) hrb520 ((fun w9 h9 => Evo.trans hKb52 h9 (fun x hx hlt => by simpa using hx))) rfl (by simp; omega) (by simp; omega) (by omega) ?_
      intro v54 w55 hEw55 hov54 hlv54
      have hs_w55 := (hEw55).size
      replace hV := evo_stepo hV hEw55 (fun g hg => .inl (by first | exact (hov25.block hg).1 | (have := hov25.block hg; omega)))
      replace hCst17 := evo_stepo hCst17 hEw55 (fun g hg => .inr (Option.mem_toList.2 hg))
      replace hKb52 := evo_stepo hKb52 hEw55 (fun g hg => .inr (by simpa using hg))
      replace hc := hc0.now hV
      replace hR16 := hR160 _ hV
      replace hbb19 := hbb19.evo hEw55 (by intro hm; have hm2 := Option.mem_toList.1 hm; first | (have := hov25.block hm2; omega) | (simp [Value.ownBlock] at hm2; omega))
      replace hAb19 := hAb19.evo hEw55 (by intro hm; have hm2 := Option.mem_toList.1 hm; first | (have := hov25.block hm2; omega) | (simp [Value.ownBlock] at hm2; omega))
      replace hrb52 := hrb520.now hKb52
      refine h_next hCst17 ?_
      refine h_one (i := 16) (by kernel_rfl) ?_
      refine h_do (by exact rfl) ?_
      refine r_opcall rfl rfl rfl (run_callf (vs := [.slice _ _ _, .agg _]) rfl (by exact rfl) Try.func81 rfl (by kernel_rfl)) (rended_calls hR16 (by omega) (by omega)) ?_
      rintro e w56 ⟨rfl, hE56⟩
      refine ⟨_, rfl, ?_⟩
      have hs_w56 := (hE56).size
      replace hV := evo_step0 hV hE56
      replace hCst17 := evo_step0 hCst17 hE56
      replace hKb52 := evo_step0 hKb52 hE56
      replace hc := hc0.now hV
      replace hrb52 := hrb520.now hKb52
      replace hov54 := hov54.evo0 hE56
      refine h_next hCst17 ?_
      refine h_take (i := 17) (by exact rfl) rfl rfl rfl (by kernel_rfl) (fun w' hC => run_asg (v := v54) rfl (by exact rfl)) hCst17 ?_
      refine h_take (i := 18) (by exact rfl) rfl rfl rfl (by kernel_rfl) (fun w' hC => run_asg (v := .int _ _) rfl (by exact rfl)) hCst17 ?_
      refine h_done (by kernel_rfl) ?_
      refine r_ret (res2 (v := v54) (u := .int _ _) rfl (by exact rfl) (by exact rfl)) ?_
      exact ⟨_, ret_vS (step_end hncl hsn (by unfold lastC; omega)).symm, hV, fun _ => by rw [stepC_end hncl]; exact (hov54).sub (by omega) (by simp)⟩
    ·skip
     refine h_do (by exact rfl) ?_
     refine r_bslice (pv := [(0, .agg _)]) (zs := [_, _]) (cs := [_, _]) Try.underlying41 ty_46 (by exact rfl) rfl (by exact rfl) rfl (by exact rfl) ?_
     intro b57 w58 heb57 hEw58 hbb57 hzb57
     have hs_w58 := (hEw58).size
     replace hV := evo_step0 hV hEw58
     replace hI17 := evo_step0 hI17 hEw58
     replace hCst17 := evo_step0 hCst17 hEw58
     replace hc := hc0.now hV
     replace hR16 := hR160 _ hV
     replace hbb19 := hbb19.evo0 hEw58
     replace hAb19 := hAb19.evo0 hEw58
     have hAb57 := hbb57.at
     have hrb57 := rowLit (α := Ende) [⟨_, _⟩] hbb57 (by show [_, _] = [_, _]; first | (dsimp only; done) | exact rfl | (dsimp only; exact rfl)) rfl
     refine h_next hCst17 ?_
     refine h_one (i := 3) (by kernel_rfl) ?_
     refine h_do (by exact rfl) ?_
     refine r_bslice (pv := []) (zs := [_, _]) (cs := []) Try.underlying41 ty_46 (by exact rfl) rfl (by exact rfl) rfl (by exact rfl) ?_
     intro b59 w60 heb59 hEw60 hbb59 hzb59
     have hs_w60 := (hEw60).size
     replace hV := evo_step0 hV hEw60
     replace hI17 := evo_step0 hI17 hEw60
     replace hCst17 := evo_step0 hCst17 hEw60
     replace hc := hc0.now hV
     replace hR16 := hR160 _ hV
     replace hbb19 := hbb19.evo0 hEw60
     replace hAb19 := hAb19.evo0 hEw60
     replace hrb57 := hrb57.evo0 hEw60
     have hAb59 := hbb59.at
     have hob59 : OwnE (α := Ende) w60 w26.heap.size 46 (.slice (some ⟨b59, 0, none⟩) 0 0) [] := ownE_lit0 hbb59 (by omega)
     refine h_next hCst17 ?_
     refine h_one (i := 6) (by kernel_rfl) ?_
     refine h_do (by exact rfl) ?_
     refine r_appendE rfl Try.underlying41 ty_46 (by exact rfl) hob59 (by exact rfl) (by exact rfl) hR16 rfl (by simp only [List.length_nil]; omega) (by simp only [List.length_nil]; omega) (by omega) ?_
     intro v61 w62 hEw62 hov61 hlv61
     have hs_w62 := (hEw62).size
     replace hV := evo_stepo hV hEw62 (fun g hg => .inl (by first | exact (hob59.block hg).1 | (have := hob59.block hg; omega)))
     replace hI17 := evo_stepo hI17 hEw62 (fun g hg => .inl (by first | exact (hob59.block hg).1 | (have := hob59.block hg; omega)))
     replace hCst17 := evo_stepo hCst17 hEw62 (fun g hg => .inl (by first | exact (hob59.block hg).1 | (have := hob59.block hg; omega)))
     replace hc := hc0.now hV
     replace hR16 := hR160 _ hV
     replace hbb19 := hbb19.evo hEw62 (by intro hm; have hm2 := Option.mem_toList.1 hm; first | (have := hob59.block hm2; omega) | (simp [Value.ownBlock] at hm2; omega))
     replace hAb19 := hAb19.evo hEw62 (by intro hm; have hm2 := Option.mem_toList.1 hm; first | (have := hob59.block hm2; omega) | (simp [Value.ownBlock] at hm2; omega))
     replace hrb57 := hrb57.evo hEw62 (by intro hm; have hm2 := Option.mem_toList.1 hm; first | (have := hob59.block hm2; omega) | (simp [Value.ownBlock] at hm2; omega))
     refine h_next hCst17 ?_
     refine h_one (i := 9) (by kernel_rfl) ?_
     refine h_do (by exact rfl) ?_
     refine r_appendE rfl Try.underlying41 ty_46 (by exact rfl) hov61 (by exact rfl) (by exact rfl) hrb57 rfl (by simp only [List.length_append, List.length_nil, List.length_cons]; omega) (by simp only [List.length_append, List.length_nil, List.length_cons]; omega) (by omega) ?_
     intro v63 w64 hEw64 hov63 hlv63
     have hs_w64 := (hEw64).size
     replace hV := evo_stepo hV hEw64 (fun g hg => .inl (by first | exact (hov61.block hg).1 | (have := hov61.block hg; omega)))
     replace hI17 := evo_stepo hI17 hEw64 (fun g hg => .inl (by first | exact (hov61.block hg).1 | (have := hov61.block hg; omega)))
     replace hCst17 := evo_stepo hCst17 hEw64 (fun g hg => .inl (by first | exact (hov61.block hg).1 | (have := hov61.block hg; omega)))
     replace hc := hc0.now hV
     replace hR16 := hR160 _ hV
     replace hbb19 := hbb19.evo hEw64 (by intro hm; have hm2 := Option.mem_toList.1 hm; first | (have := hov61.block hm2; omega) | (simp [Value.ownBlock] at hm2; omega))
     replace hAb19 := hAb19.evo hEw64 (by intro hm; have hm2 := Option.mem_toList.1 hm; first | (have := hov61.block hm2; omega) | (simp [Value.ownBlock] at hm2; omega))
     refine h_next hCst17 ?_
     obtain ⟨ao65, cp65, hv65⟩ := hov63.shape
     subst hv65
     refine h_take (i := 10) (by exact rfl) rfl rfl rfl (by kernel_rfl) (fun w' hC => run_bld (pv := [(0, S _), (1, .slice _ _ _)]) (zs := [_, _]) (cells := [_, _]) rfl ty_43 (by exact rfl) pl_43 (by exact rfl) (by exact rfl)) hCst17 ?_
     refine h_one (i := 11) (by kernel_rfl) ?_
     refine h_do (by exact rfl) ?_
     refine r_bslice (pv := [(0, .agg _)]) (zs := [_, _]) (cs := [_, _]) Try.underlying22 ty_43 (by exact rfl) rfl (by exact rfl) rfl (by exact rfl) ?_
     intro b66 w67 heb66 hEw67 hbb66 hzb66
     have hs_w67 := (hEw67).size
     replace hV := evo_step0 hV hEw67
     replace hI17 := evo_step0 hI17 hEw67
     replace hCst17 := evo_step0 hCst17 hEw67
     replace hc := hc0.now hV
     replace hR16 := hR160 _ hV
     replace hbb19 := hbb19.evo0 hEw67
     replace hAb19 := hAb19.evo0 hEw67
     replace hov63 := hov63.evo0 hEw67
     have hAb66 := hbb66.at
     have hKb66 : Evo w67 w67 ([] ++ v25.ownBlock.toList) := Evo.refl _ _
     have hrb660 := rowLitRK ([] ++ v25.ownBlock.toList) hbb66 (fun hm => by have hm2 := Option.mem_toList.1 (by simpa using hm); have := hobO _ hm2; omega) (clas_own _ hov63 (by simp) (fun g hg => by have := hobO g hg; omega) (ends_snoc hlb (endOf_bd hs) (by omega))) (x := (⟨(c.getD (c.length - 1) default).name, (c.getD (c.length - 1) default).ends ++ [⟨aheadB (bodyOf s) 62, behindB (bodyOf s) 62⟩]⟩ : Clas))
     have hrb66 := hrb660.now hKb66
     have hbd_hrb66 := hrb66.bd
     refine h_next hCst17 ?_
     refine h_one (i := 12) (by kernel_rfl) ?_
     refine h_do (by exact rfl) ?_
     have hov25 := hoO0.evo0 hI17
     refine r_appendR (w1 := w67) (E' := [] ++ v25.ownBlock.toList) rfl Try.underlying22 ty_43 (by exact rfl) clas_one hov25 (by exact rfl) (by exact rfl) hrb660 ((fun w9 h9 => Evo.trans hKb66 h9 (fun x hx hlt => by simpa using hx))) rfl (by simp; omega) (by simp; omega) (by omega) ?_
     intro v68 w69 hEw69 hov68 hlv68
     have hs_w69 := (hEw69).size
     replace hV := evo_stepo hV hEw69 (fun g hg => .inl (by first | exact (hov25.block hg).1 | (have := hov25.block hg; omega)))
     replace hCst17 := evo_stepo hCst17 hEw69 (fun g hg => .inr (Option.mem_toList.2 hg))
     replace hKb66 := evo_stepo hKb66 hEw69 (fun g hg => .inr (by simpa using hg))
     replace hc := hc0.now hV
     replace hR16 := hR160 _ hV
     replace hbb19 := hbb19.evo hEw69 (by intro hm; have hm2 := Option.mem_toList.1 hm; first | (have := hov25.block hm2; omega) | (simp [Value.ownBlock] at hm2; omega))
     replace hAb19 := hAb19.evo hEw69 (by intro hm; have hm2 := Option.mem_toList.1 hm; first | (have := hov25.block hm2; omega) | (simp [Value.ownBlock] at hm2; omega))
     replace hrb66 := hrb660.now hKb66
     refine h_next hCst17 ?_
     refine h_one (i := 16) (by kernel_rfl) ?_
     refine h_do (by exact rfl) ?_
     refine r_opcall rfl rfl rfl (run_callf (vs := [.slice _ _ _, .agg _]) rfl (by exact rfl) Try.func81 rfl (by kernel_rfl)) (rended_calls hR16 (by omega) (by omega)) ?_
     rintro e w70 ⟨rfl, hE70⟩
     refine ⟨_, rfl, ?_⟩
     have hs_w70 := (hE70).size
     replace hV := evo_step0 hV hE70
     replace hCst17 := evo_step0 hCst17 hE70
     replace hKb66 := evo_step0 hKb66 hE70
     replace hc := hc0.now hV
     replace hrb66 := hrb660.now hKb66
     replace hov68 := hov68.evo0 hE70
     refine h_next hCst17 ?_
     refine h_take (i := 17) (by exact rfl) rfl rfl rfl (by kernel_rfl) (fun w' hC => run_asg (v := v68) rfl (by exact rfl)) hCst17 ?_
     refine h_take (i := 18) (by exact rfl) rfl rfl rfl (by kernel_rfl) (fun w' hC => run_asg (v := .int _ _) rfl (by exact rfl)) hCst17 ?_
     refine h_done (by kernel_rfl) ?_
     refine r_ret (res2 (v := v68) (u := .int _ _) rfl (by exact rfl) (by exact rfl)) ?_
     exact ⟨_, ret_vS (step_end hncl hsn (by unfold lastC; omega)).symm, hV, fun _ => by rw [stepC_end hncl]; exact (hov68).sub (by omega) (by simp)⟩

end Go.Proofs.Ytomklacppmaljaa

namespace Go.Proofs.Ytomklacppmaljaa
open Go.RowKit Go.Vc

theorem cut_found {s : Str} {c : UInt8} : (cutL s c).2.2 = true ↔ c ∈ s := by
  unfold cutL
  constructor
  · intro h
    by_cases h1 : (s.takeWhile (fun x => x != c)).length < s.length
    · by_cases h2 : c ∈ s
      · exact h2
      · have := ahead_no h2; unfold aheadB at this; rw [this] at h1; omega
    · rw [if_neg h1] at h; cases h
  · intro h
    have h1 := ahead_split h
    have h2 := congrArg List.length h1
    rw [List.length_append, List.length_cons] at h2
    unfold aheadB at h2
    rw [if_pos (by omega)]
theorem cut_parts {s : Str} {c : UInt8} (h : c ∈ s) : (cutL s c).1 = aheadB s c ∧ (cutL s c).2.1 = behindB s c := by
  have h1 := ahead_split h
  have h2 := congrArg List.length h1
  rw [List.length_append, List.length_cons] at h2
  have h3 : (s.takeWhile (fun x => x != c)).length < s.length := by unfold aheadB at h2; omega
  refine ⟨?_, by unfold cutL; rw [if_pos h3]; rfl⟩
  have h4 : aheadB s c <+: s := List.takeWhile_prefix _
  unfold cutL; rw [if_pos h3]
  exact (prefix_iff.1 h4).2
theorem cut_add_len {s : Str} {c : UInt8} : (cutL s c).2.1.length ≤ s.length := by
  unfold cutL; split
  · show (s.drop _).length ≤ _; rw [List.length_drop]; omega
  · exact Nat.zero_le _
def bodyC (s : Str) : Str := if ([32, 32] : Str) <+: s then s.drop ([32, 32] : Str).length else s
theorem bodyC_len (s : Str) : (bodyC s).length ≤ s.length := by unfold bodyC; split; rw [List.length_drop]; omega; exact Nat.le_refl _
theorem bodyC_is {s : Str} (h : twoW <+: s) : bodyC s = bodyOf s := if_pos h
theorem syn_of2 {cl : List Clas} {s : Str} {n : Nat} (hn : n = cl.length) (h : ((¬ twoW <+: s ∨ ¬ (cutL (bodyC s) 62).2.2 = true) ∨ n = 0) ∨ (62 : UInt8) ∈ (cutL (bodyC s) 62).2.1) : ¬ twoW <+: s ∨ ¬ onceB (bodyOf s) 62 = true ∨ cl = [] := by
  by_cases h2 : twoW <+: s
  · rw [bodyC_is h2] at h
    rcases h with ((h | h) | h) | h
    · exact .inl h
    · exact .inr (.inl fun h3 => h (cut_found.2 (once_iff.1 (of_decide_eq_true h3)).1))
    · exact .inr (.inr (List.eq_nil_of_length_eq_zero (by omega)))
    · refine .inr (.inl fun h3 => ?_)
      have h4 := once_iff.1 (of_decide_eq_true h3)
      rw [(cut_parts h4.1).2] at h; exact h4.2 h
  · exact .inl h2
theorem syn_not2 {cl : List Clas} {s : Str} {n : Nat} (hn : n = cl.length) (h : ¬ (((¬ twoW <+: s ∨ ¬ (cutL (bodyC s) 62).2.2 = true) ∨ n = 0) ∨ (62 : UInt8) ∈ (cutL (bodyC s) 62).2.1)) :
    (twoW <+: s ∧ onceB (bodyOf s) 62 = true ∧ 0 < cl.length) ∧ (cutL (bodyC s) 62).1 = aheadB (bodyOf s) 62 ∧ (cutL (bodyC s) 62).2.1 = behindB (bodyOf s) 62 := by
  have h1 : twoW <+: s := Classical.not_not.1 fun e => h (.inl (.inl (.inl e)))
  have h2 : (cutL (bodyC s) 62).2.2 = true := Classical.not_not.1 fun e => h (.inl (.inl (.inr e)))
  rw [bodyC_is h1] at h h2 ⊢
  have h3 := cut_found.1 h2
  have h4 := cut_parts h3
  refine ⟨⟨h1, decide_eq_true (once_iff.2 ⟨h3, ?_⟩), Nat.pos_of_ne_zero fun e => h (.inl (.inr (by omega)))⟩, h4⟩
  rw [← h4.2]; exact fun e => h (.inr e)
theorem pcl_split {w : World} {base EN : Nat} {v : Value} {rl : List Raw2} {cl : List Clas} (h : PclR w base EN v rl cl) (hp : 0 < cl.length) : ∃ rf cf, ∃ (m : Str) (ve : Value) (es : List Ende) (h1 : oneCells [S m, ve] = true), rl = rf ++ [rawV m ve h1] ∧ cl = cf ++ [⟨m, es⟩] ∧ OwnE w base EN ve es ∧ (∀ g, ve.ownBlock = some g → v.ownBlock ≠ some g) ∧
    (∀ w', Evo w w' (v.ownBlock.toList ++ ve.ownBlock.toList) → RepL w' (rf.map Enc.enc) cf) ∧ BdC ⟨m, es⟩ ∧ lastC cl = ⟨m, es⟩ ∧ cl.take (cl.length - 1) = cf ∧ rf.length + 1 = cl.length := by
  have hl := h.len
  rcases h with ⟨_, rfl⟩ | ⟨rf, cf, m, ve, es, h1, h2, h3, h4, h5, h6, h7⟩
  · simp at hp
  · refine ⟨rf, cf, m, ve, es, h1, h2, h3, h4, h5, h6, h7, ?_, ?_, ?_⟩
    · rw [h3]; unfold lastC; simp [List.getD]
    · rw [h3]; simp
    · rw [← hl, h2]; simp

set_option maxHeartbeats 2000000 in
theorem read_calls {W : World} {v : Value} {cl : List Clas} {s : Str} {w0 : World} (hWV : Evo W w0 []) (hp : Pcl w0 W.heap.size 43 46 v cl) (hs : s.length ≤ 1000000) (h32 : cl.length ≤ 32) (h16 : (lastC cl).ends.length ≤ 16) :
    Calls Try.prog 84 #[v, S s] w0 fun e w' => ∃ v', e = .returned (.tuple #[v', .int .i64 (stepE cl s)]) ∧ Evo W w' [] ∧ (stepE cl s = 0 → Pcl w' W.heap.size 43 46 v' (stepC cl s)) := by
 refine calls_enter (n := 97) (args := [v, S s]) Try.func84 rfl Try.ntmps84 rfl ?_
 have hV : Evo w0 w0 [] := Evo.refl _ _
 refine r_seq ?_
 replace hV : Evo W w0 [] := hWV
 obtain ⟨rl, hho, hpr⟩ := hp; have hlen := hpr.len; have hbs := hV.size
 obtain ⟨ao1, cp1, hv1⟩ := hho.shape
 subst hv1
 refine r_region ?_
 refine r_op rfl rfl rfl (run_asg (v := .slice _ _ _) rfl (by exact rfl)) ?_
 refine r_op rfl rfl rfl (run_asg (v := .int _ _) rfl (by exact rfl)) ?_
 refine r_nil ?_
 refine r_seq ?_
 refine r_seq ?_
 refine r_region ?_
 refine r_op rfl rfl rfl (run_mv (v := S _) rfl (by exact rfl)) ?_
 refine r_opcall rfl rfl rfl (run_callf (vs := [S _, S _]) rfl (by exact rfl) Try.func122 rfl (by kernel_rfl)) (s_cp_calls (by omega) (by show (_ : Nat) ≤ _; decide)) ?_
 rintro e w2 ⟨rfl, hE2⟩
 refine ⟨_, rfl, ?_⟩
 have hs_w2 := (hE2).size
 replace hV := evo_step0 hV hE2
 replace hho := hho.evo0 hE2
 replace hpr := hpr.evo0 hE2
 refine r_op rfl rfl rfl (run_mv (v := .tuple _) rfl (by exact rfl)) ?_
 refine r_op rfl rfl rfl (run_extract (v := S _) rfl (by exact rfl) (by exact rfl)) ?_
 refine r_op rfl rfl rfl (run_extract (v := .bool _) rfl (by exact rfl) (by exact rfl)) ?_
 refine r_op rfl rfl rfl (run_asg (v := S _) rfl (by exact rfl)) ?_
 refine r_op rfl rfl rfl (run_asg (v := .bool _) rfl (by exact rfl)) ?_
 refine r_nil ?_
 refine r_seq ?_
 refine r_region ?_
 refine r_op rfl rfl rfl (run_mvb rfl (by exact rfl)) ?_
 refine r_nil ?_
 refine r_cond (by exact rfl) (fun hc3 => ?_) (fun hc3 => ?_)
 ·skip
  refine r_seq ?_
  refine r_seq ?_
  have hcl : clsW <+: s := by simpa [clsW] using hc3
  have hnl := name_len2 s
  refine r_know (i := 6) (v := S (nameOf s)) (congrArg S (if_pos hcl)) ?_
  refine r_region ?_
  refine r_op rfl rfl rfl (run_mv (v := S _) rfl (by exact rfl)) ?_
  refine r_opcall rfl rfl rfl (run_callf (vs := [S _, S _]) rfl (by exact rfl) Try.func123 rfl (by kernel_rfl)) s_has_calls ?_
  rintro e w4 ⟨rfl, hE4⟩
  refine ⟨_, rfl, ?_⟩
  have hs_w4 := (hE4).size
  replace hV := evo_step0 hV hE4
  replace hho := hho.evo0 hE4
  replace hpr := hpr.evo0 hE4
  refine r_nil ?_
  refine r_condb (by exact rfl) (fun hc5 => ?_) (fun hc5 => ?_)
  ·skip
   refine r_seq ?_
   refine r_region ?_
   refine r_op rfl rfl rfl (run_mv (v := .slice _ _ _) rfl (by exact rfl)) ?_
   refine r_op rfl rfl rfl (run_asg (v := .slice _ _ _) rfl (by exact rfl)) ?_
   refine r_op rfl rfl rfl (run_asg (v := .int _ _) rfl (by exact rfl)) ?_
   refine r_nil ?_
   refine r_ret (res2 (v := .slice _ _ _) (u := .int _ _) rfl (by exact rfl) (by exact rfl)) ?_
   exact ⟨_, ret_vS (step_name2 hcl (by simpa using hc5)).symm, hV, fun h0 => absurd ((step_name2 hcl (by simpa using hc5)).symm.trans h0) (by decide)⟩
  ·skip
   refine r_skip ?_
   refine r_seq ?_
   refine r_seq ?_
   refine r_region ?_
   refine r_op rfl rfl rfl (run_mv (v := .slice _ _ _) rfl (by exact rfl)) ?_
   refine r_op rfl rfl rfl (run_lenSl rfl (by exact rfl) Try.underlying22) ?_
   refine r_op rfl rfl rfl (run_eql rfl (by exact rfl) (by exact rfl)) ?_
   refine r_nil ?_
   refine r_cond (by exact rfl) (fun hc6 => ?_) (fun hc6 => ?_)
   ·skip
    refine r_seq ?_
    refine r_region ?_
    refine r_op rfl rfl rfl (run_mv (v := .slice _ _ _) rfl (by exact rfl)) ?_
    refine r_op rfl rfl rfl (run_asg (v := .slice _ _ _) rfl (by exact rfl)) ?_
    refine r_op rfl rfl rfl (run_asg (v := .int _ _) rfl (by exact rfl)) ?_
    refine r_nil ?_
    refine r_ret (res2 (v := .slice _ _ _) (u := .int _ _) rfl (by exact rfl) (by exact rfl)) ?_
    exact ⟨_, ret_vS (step_name3 hcl (by simp_all) (by omega)).symm, hV, fun h0 => absurd ((step_name3 hcl (by simp_all) (by omega)).symm.trans h0) (by decide)⟩
   ·skip
    refine r_skip ?_
    refine r_seq ?_
    have hpr7 := hpr
    have hE7 : Evo w4 w4 (Value.slice ao1 rl.length cp1).ownBlock.toList := Evo.refl _ _
    refine r_region ?_
    refine r_op rfl rfl rfl (run_mv (v := .slice _ _ _) rfl (by exact rfl)) ?_
    refine r_op rfl rfl rfl (run_mv (v := S _) rfl (by exact rfl)) ?_
    refine r_op rfl rfl rfl (run_bld (pv := [(0, S _)]) (zs := [_, _]) (cells := [_, _]) rfl ty_43 (by exact rfl) pl_43 (by exact rfl) (by exact rfl)) ?_
    refine r_append1EK (u := .agg _) (y := (rawV (nameOf s) (.slice none 0 0) rfl)) rfl rfl Try.underlying22 ty_43 (by exact rfl) hho (fun _ => (by exact rfl)) (by exact rfl) (by first | exact rfl | (show _ = List.toArray [_, _]; first | (dsimp only; done) | exact rfl | (dsimp only; exact rfl))) ((by rw [hlen]; omega)) ((by rw [hlen]; omega)) (by omega) ?_
    intro q_v7 v7 w8 hEw8 hov7 hlv7 hkpv7
    have hs_w8 := (hEw8).size
    replace hV := evo_stepo hV hEw8 (fun g hg => .inl (by first | exact (hho.block hg).1 | (have := hho.block hg; omega)))
    obtain ⟨gkv7, hrv7⟩ := hkpv7 _ _ rfl
    have hbd_hrv7 := hrv7.bd
    have hprw := hpr7.rep hEw8
    have hrc : RowR w8 _ _ _ _ cl := rowC hrv7 hprw
    have hbd_hrc := hrc.bd
    have hpq := Pcl.snoc (m := nameOf s) hpr7 hEw8 hov7 hlv7 (name_bd hs)
    refine r_knowL (i := 0) (v := .slice ao1 cl.length cp1) (by rw [← hlen]; exact rfl) ?_
    refine r_op rfl rfl rfl (run_mv (v := .slice _ _ _) rfl (by exact rfl)) ?_
    refine r_op rfl rfl rfl (run_mv (v := S _) rfl (by exact rfl)) ?_
    refine r_opcall rfl rfl rfl (run_callf (vs := [.slice _ _ _, S _]) rfl (by exact rfl) Try.func78 rfl (by kernel_rfl)) (named_calls hrc) ?_
    rintro e w9 ⟨rfl, hE9⟩
    refine ⟨_, rfl, ?_⟩
    have hs_w9 := (hE9).size
    replace hV := evo_step0 hV hE9
    replace hrv7 := hrv7.evo0 hE9
    replace hov7 := hov7.evo0 hE9
    replace hrc := hrc.evo0 hE9
    replace hpq := hpq.evo0 hE9
    refine r_op rfl rfl rfl (run_asg (v := v7) rfl (by exact rfl)) ?_
    refine r_op rfl rfl rfl (run_asg (v := .int _ _) rfl (by exact rfl)) ?_
    refine r_nil ?_
    refine r_ret (res2 (v := v7) (u := .int _ _) rfl (by exact rfl) (by exact rfl)) ?_
    exact ⟨_, ret_vS (step_named hcl (by simp_all) (by omega)).symm, hV, fun _ => by rw [stepC_name hcl]; exact hpq⟩
 ·skip
  refine r_skip ?_
  refine r_seq ?_
  have hncl : ¬ clsW <+: s := by simpa [clsW] using hc3
  refine r_region ?_
  refine r_op rfl rfl rfl (run_mv (v := S _) rfl (by exact rfl)) ?_
  refine r_opcall rfl rfl rfl (run_callf (vs := [S _, S _]) rfl (by exact rfl) Try.func122 rfl (by kernel_rfl)) (s_cp_calls (by omega) (by show (_ : Nat) ≤ _; decide)) ?_
  rintro e w10 ⟨rfl, hE10⟩
  refine ⟨_, rfl, ?_⟩
  have hs_w10 := (hE10).size
  replace hV := evo_step0 hV hE10
  replace hho := hho.evo0 hE10
  replace hpr := hpr.evo0 hE10
  refine r_op rfl rfl rfl (run_mv (v := .tuple _) rfl (by exact rfl)) ?_
  refine r_op rfl rfl rfl (run_extract (v := S _) rfl (by exact rfl) (by exact rfl)) ?_
  refine r_op rfl rfl rfl (run_extract (v := .bool _) rfl (by exact rfl) (by exact rfl)) ?_
  refine r_op rfl rfl rfl (run_asg (v := S _) rfl (by exact rfl)) ?_
  refine r_op rfl rfl rfl (run_asg (v := .bool _) rfl (by exact rfl)) ?_
  refine r_nil ?_
  refine r_seq ?_
  have hbl := bodyC_len s
  refine r_know (i := 8) (v := S (bodyC s)) rfl ?_
  refine r_region ?_
  refine r_op rfl rfl rfl (run_mv (v := S _) rfl (by exact rfl)) ?_
  refine r_opcall rfl rfl rfl (run_callf (vs := [S _, S _]) rfl (by exact rfl) Try.func83 rfl (by kernel_rfl)) (s_cut_calls (by omega)) ?_
  rintro e w11 ⟨rfl, hE11⟩
  refine ⟨_, rfl, ?_⟩
  have hs_w11 := (hE11).size
  replace hV := evo_step0 hV hE11
  replace hho := hho.evo0 hE11
  replace hpr := hpr.evo0 hE11
  refine r_op rfl rfl rfl (run_mv (v := .tuple _) rfl (by exact rfl)) ?_
  refine r_op rfl rfl rfl (run_extract (v := S _) rfl (by exact rfl) (by exact rfl)) ?_
  refine r_op rfl rfl rfl (run_extract (v := S _) rfl (by exact rfl) (by exact rfl)) ?_
  refine r_op rfl rfl rfl (run_extract (v := .bool _) rfl (by exact rfl) (by exact rfl)) ?_
  refine r_op rfl rfl rfl (run_asg (v := S _) rfl (by exact rfl)) ?_
  refine r_op rfl rfl rfl (run_asg (v := S _) rfl (by exact rfl)) ?_
  refine r_op rfl rfl rfl (run_asg (v := .bool _) rfl (by exact rfl)) ?_
  refine r_nil ?_
  refine r_seq ?_
  refine r_seq ?_
  have hal0 := cut_add_len (s := bodyC s) (c := 62)
  refine r_region ?_
  refine r_op rfl rfl rfl (run_mvb rfl (by exact rfl)) ?_
  refine r_op rfl rfl rfl (run_not rfl (by exact rfl)) ?_
  refine r_op rfl rfl rfl (run_mv (v := .bool _) rfl (by exact rfl)) ?_
  refine r_g rfl (wantF (by exact rfl)) rfl (fun hg => run_mvb rfl (by exact rfl)) ?_
  refine r_g rfl (wantF (by exact rfl)) rfl (fun hg => run_not rfl (glv (by exact rfl) (fun h => h) hg)) ?_
  refine r_op rfl rfl rfl (run_pick_or rfl (by exact rfl) rfl (fun hq => glv (by exact rfl) (fun h => h) hq)) ?_
  refine r_op rfl rfl rfl (run_mv (v := .bool _) rfl (by exact rfl)) ?_
  refine r_g rfl (wantF (by exact rfl)) rfl (fun hg => run_mv (v := .slice _ _ _) rfl (by exact rfl)) ?_
  refine r_g rfl (wantF (by exact rfl)) rfl (fun hg => run_lenSl rfl (glv (by exact rfl) (fun h => h) hg) Try.underlying22) ?_
  refine r_g rfl (wantF (by exact rfl)) rfl (fun hg => run_eql rfl (glv (by exact rfl) (fun h => h) hg) (by exact rfl)) ?_
  refine r_op rfl rfl rfl (run_pick_or rfl (by exact rfl) rfl (fun hq => glv (by exact rfl) (fun h => h) hq)) ?_
  refine r_op rfl rfl rfl (run_mv (v := .bool _) rfl (by exact rfl)) ?_
  refine r_g rfl (wantF (by exact rfl)) rfl (fun hg => run_mv (v := S _) rfl (by exact rfl)) ?_
  refine r_gcall rfl (wantF (by exact rfl)) rfl (fun hg => run_callf rfl (argcons (v := S _) (glv (by exact rfl) (fun h => h) hg) (argcons (v := S _) (by exact rfl) (rfl))) Try.func123 rfl (by kernel_rfl)) (fun hg => (s_has_calls ).mono (fun e w' h => ⟨h.1, h.2⟩)) (fun w12 hE13 => ?_)
  have hs_w12 := (hE13).size
  replace hV := evo_step0 hV hE13
  replace hho := hho.evo0 hE13
  replace hpr := hpr.evo0 hE13
  refine r_op rfl rfl rfl (run_pick_orB rfl (by exact rfl) rfl (fun hq => glv (by exact rfl) (fun h => h) hq)) ?_
  refine r_nil ?_
  refine r_cond (by exact rfl) (fun hc14 => ?_) (fun hc14 => ?_)
  ·skip
   refine r_seq ?_
   refine r_region ?_
   refine r_op rfl rfl rfl (run_mv (v := .slice _ _ _) rfl (by exact rfl)) ?_
   refine r_op rfl rfl rfl (run_asg (v := .slice _ _ _) rfl (by exact rfl)) ?_
   refine r_op rfl rfl rfl (run_asg (v := .int _ _) rfl (by exact rfl)) ?_
   refine r_nil ?_
   refine r_ret (res2 (v := .slice _ _ _) (u := .int _ _) rfl (by exact rfl) (by exact rfl)) ?_
   exact ⟨_, ret_vS (step_syn hncl (syn_of2 hlen (by simpa [twoW, or_assoc] using hc14))).symm, hV, fun h0 => absurd ((step_syn hncl (syn_of2 hlen (by simpa [twoW, or_assoc] using hc14))).symm.trans h0) (by decide)⟩
  ·skip
   refine r_skip ?_
   refine r_seq ?_
   obtain ⟨hsy, hstr, hadd⟩ := syn_not2 hlen (s := s) (by simpa [twoW] using hc14)
   have hsn := syn_no hsy
   obtain ⟨rf, cf, m, ve, es, hone, hrl, hcl2, hos, hneb, hstab, hbdl, hlc, htk, hfl⟩ := pcl_split hpr hsy.2.2
   subst hrl
   have hes16 : es.length ≤ 16 := by have := h16; rw [hlc] at this; exact this
   have hbo := body_len s; have hal := ahead_len (bodyOf s) 62; have hbh := behind_len (bodyOf s) 62
   obtain ⟨aoe, cpe, hve⟩ := hos.shape
   subst hve
   refine r_know (i := 10) (v := S (aheadB (bodyOf s) 62)) (congrArg S hstr) ?_
   refine r_know (i := 11) (v := S (behindB (bodyOf s) 62)) (congrArg S hadd) ?_
   obtain ⟨ao15, g15, cp15, hv15, hr15, hg15⟩ := hho.rowOf
   injection hv15 with ha15 hx15 hc15
   subst ha15; subst hc15
   obtain ⟨aoS, gS, cpS, hvS, hrS, _⟩ := hos.rowOf; injection hvS with haS hxS hcS; subst haS; subst hcS; have hbd_hrS := hrS.bd
   have hI12 : Evo w12 w12 ((Value.slice ao1 (rf ++ [rawV m (.slice aoe es.length cpe) hone]).length cp1).ownBlock.toList ++ (Value.slice aoe es.length cpe).ownBlock.toList) := Evo.refl _ _
   have hob0 := fun g hg => (hho.block (g := g) hg).2
   have hobS := fun g hg => (hos.block (g := g) hg).2
   refine r_region ?_
   refine r_op rfl rfl rfl (run_mv (v := .slice _ _ _) rfl (by exact rfl)) ?_
   refine r_op rfl rfl rfl (run_mv (v := .slice _ _ _) rfl (by exact rfl)) ?_
   refine r_op rfl rfl rfl (run_lenSl rfl (by exact rfl) Try.underlying22) ?_
   refine r_op rfl rfl rfl (run_sub rfl (by exact rfl) (by exact rfl) (by omega) (by omega)) ?_
   refine r_op rfl rfl rfl (run_ix (rf.length) rfl Try.underlying22 ty_43 (by exact rfl) (by exact rfl) (by simp) (by simp) (hr15.addr (i := rf.length) (by simp))) ?_
   have hA16 := hr15.atD (rf.length) (by simp)
   refine r_op rfl rfl rfl (run_asg (v := .pointer _) rfl (by exact rfl)) ?_
   refine r_nil ?_
   refine r_seq ?_
   refine r_seq ?_
   replace hA16 : At w12 g15 (0 + rf.length * 2) [S m, .slice aoe es.length cpe] := by have h9 := hA16; rw [getD_last] at h9; exact h9
   refine r_region ?_
   refine r_op rfl rfl rfl (run_mv (v := .pointer _) rfl (by exact rfl)) ?_
   refine r_op rfl rfl rfl (run_nc rfl (by exact rfl)) ?_
   refine r_op rfl rfl rfl (run_fa rfl (by exact rfl) fo_43_1) ?_
   refine r_op rfl rfl rfl (run_ld1 rfl ag_41 (by exact rfl) (hA16.cell 1 (by exact rfl))) ?_
   refine r_op rfl rfl rfl (run_lenOE rfl (by exact rfl) Try.underlying41 hos) ?_
   refine r_op rfl rfl rfl (run_eql rfl (by exact rfl) (by exact rfl)) ?_
   refine r_nil ?_
   refine r_cond (by exact rfl) (fun hc17 => ?_) (fun hc17 => ?_)
   ·skip
    refine r_seq ?_
    refine r_region ?_
    refine r_op rfl rfl rfl (run_mv (v := .slice _ _ _) rfl (by exact rfl)) ?_
    refine r_op rfl rfl rfl (run_asg (v := .slice _ _ _) rfl (by exact rfl)) ?_
    refine r_op rfl rfl rfl (run_asg (v := .int _ _) rfl (by exact rfl)) ?_
    refine r_nil ?_
    refine r_ret (res2 (v := .slice _ _ _) (u := .int _ _) rfl (by exact rfl) (by exact rfl)) ?_
    exact ⟨_, ret_vS (step_many hncl hsn (by rw [hlc]; show 16 ≤ es.length; omega)).symm, hV, fun h0 => absurd ((step_many hncl hsn (by rw [hlc]; show 16 ≤ es.length; omega)).symm.trans h0) (by decide)⟩
   ·skip
    refine r_skip ?_
    refine r_seq ?_
    refine r_region ?_
    refine r_op rfl rfl rfl (run_mv (v := S _) rfl (by exact rfl)) ?_
    refine r_op rfl rfl rfl (run_mv (v := S _) rfl (by exact rfl)) ?_
    refine r_op rfl rfl rfl (run_bld (pv := [(0, S _), (1, S _)]) (zs := [_, _]) (cells := [_, _]) rfl ty_46 (by exact rfl) pl_46 (by exact rfl) (by exact rfl)) ?_
    have hob18 := fun g hg => (hho.block (g := g) hg).2
    have hob19 := fun g hg => (hos.block (g := g) hg).2
    refine r_var (zs := [_, _]) (vs := [_, _]) ty_46 (by exact rfl) rfl (by exact rfl) (fun _ => rfl) (by exact rfl) rfl rfl (by exact rfl) ?_
    intro b20 w21 heb20 hEw21 hbb20 hzb20
    have hs_w21 := (hEw21).size
    replace hV := evo_step0 hV hEw21
    replace hI12 := evo_step0 hI12 hEw21
    replace hho := hho.evo0 hEw21
    replace hr15 := hr15.evo0 hEw21
    replace hrS := hrS.evo0 hEw21
    replace hos := hos.evo0 hEw21
    replace hA16 := hA16.evo0 hEw21
    have hAb20 := hbb20.at
    refine r_nil ?_
    refine r_seq ?_
    refine r_qregion (by kernel_rfl) (by kernel_rfl) ?_
    refine q_op rfl rfl rfl (fun w' hC => run_mv (v := .pointer _) rfl (by exact rfl)) ?_
    refine q_op rfl rfl rfl (fun w' hC => run_nc rfl (by exact rfl)) ?_
    refine q_op rfl rfl rfl (fun w' hC => run_fa rfl (by exact rfl) fo_43_1) ?_
    refine q_op rfl rfl rfl (fun w' hC => run_ld1 rfl ag_41 (by exact rfl) ((hA16.evo0 hC).cell 1 (by exact rfl))) ?_
    refine q_op rfl rfl rfl (fun w' hC => run_ldN rfl ag_46 ty_46 (by exact rfl) rfl (hAb20.evo0 hC)) ?_
    refine q_call rfl rfl rfl (fun w' hC => run_callf rfl (argcons (v := (.slice aoe es.length cpe)) (by exact rfl) (argcons (v := .agg _) (by exact rfl) (rfl))) Try.func79 rfl (by kernel_rfl)) (fun w' hC => (ending_calls (hrS.evo0 hC) (by omega) (by omega)).mono (fun e w'' h => ⟨h.1, evo_step0 hC h.2⟩)) ?_
    refine q_op rfl rfl rfl (fun w' hC => run_asg (v := .int _ _) rfl (by exact rfl)) ?_
    refine q_nil (fun w22 hE23 => ?_)
    have hs_w22 := (hE23).size
    replace hV := evo_step0 hV hE23
    replace hI12 := evo_step0 hI12 hE23
    replace hho := hho.evo0 hE23
    replace hr15 := hr15.evo0 hE23
    replace hrS := hrS.evo0 hE23
    replace hos := hos.evo0 hE23
    replace hA16 := hA16.evo0 hE23
    replace hbb20 := hbb20.evo0 hE23
    replace hAb20 := hAb20.evo0 hE23
    refine r_seq ?_
    have hrS_q := hrS
    have hA16_q := hA16
    have hbb20_q := hbb20
    have hAb20_q := hAb20
    have hV_q := hV
    have hI12_q := hI12
    have hos_own := fun {g : Nat} (hg : _ = some g) => hos.block (g := g) hg
    refine h_region ((Value.slice aoe es.length cpe).ownBlock.toList) (by kernel_rfl) ?_
    intro w24 hE25 hCst17
    have hs_w24 := (hE25).size
    replace hV := evo_step0 hV hE25
    replace hI12 := evo_step0 hI12 hE25
    replace hho := hho.evo0 hE25
    replace hr15 := hr15.evo0 hE25
    replace hrS := hrS.evo0 hE25
    replace hos := hos.evo0 hE25
    replace hA16 := hA16.evo0 hE25
    replace hbb20 := hbb20.evo0 hE25
    replace hAb20 := hAb20.evo0 hE25
    refine h_take (i := 0) (by exact rfl) rfl rfl rfl (by kernel_rfl) (fun w' hC => run_mv (v := .pointer _) rfl (by exact rfl)) hCst17 ?_
    refine h_take (i := 1) (by exact rfl) rfl rfl rfl (by kernel_rfl) (fun w' hC => run_mv (v := .pointer _) rfl (by exact rfl)) hCst17 ?_
    refine h_take (i := 2) (by exact rfl) rfl rfl rfl (by kernel_rfl) (fun w' hC => run_nc rfl (by exact rfl)) hCst17 ?_
    refine h_take (i := 3) (by exact rfl) rfl rfl rfl (by kernel_rfl) (fun w' hC => run_fa rfl (by exact rfl) fo_43_1) hCst17 ?_
    refine h_take (i := 4) (by exact rfl) rfl rfl rfl (by kernel_rfl) (fun w' hC => run_ld1 rfl ag_41 (by exact rfl) ((hA16_q.evo hC (fun hm => by have h8 := hos_own (Option.mem_toList.1 hm); exact hneb _ (Option.mem_toList.1 hm) (hg15 (by simp)).1)).cell 1 (by exact rfl))) hCst17 ?_
    refine h_take (i := 5) (by exact rfl) rfl rfl rfl (by kernel_rfl) (fun w' hC => run_ldN rfl ag_46 ty_46 (by exact rfl) rfl (hAb20_q.evo hC (fun hm => by have h8 := hos_own (Option.mem_toList.1 hm); have h9 := hobS _ (Option.mem_toList.1 hm); omega))) hCst17 ?_
    refine h_one (i := 6) (by kernel_rfl) ?_
    refine h_do (by exact rfl) ?_
    refine r_bslice (pv := [(0, .agg _)]) (zs := [_, _]) (cs := [_, _]) Try.underlying41 ty_46 (by exact rfl) rfl (by exact rfl) rfl (by exact rfl) ?_
    intro b26 w27 heb26 hEw27 hbb26 hzb26
    have hs_w27 := (hEw27).size
    replace hV := evo_step0 hV hEw27
    replace hI12 := evo_step0 hI12 hEw27
    replace hCst17 := evo_step0 hCst17 hEw27
    replace hho := hho.evo0 hEw27
    replace hr15 := hr15.evo0 hEw27
    replace hrS := hrS.evo0 hEw27
    replace hos := hos.evo0 hEw27
    replace hA16 := hA16.evo0 hEw27
    have hAb26 := hbb26.at
    have hrb26 := rowLit (α := Ende) [⟨_, _⟩] hbb26 (by show [_, _] = [_, _]; first | (dsimp only; done) | exact rfl | (dsimp only; exact rfl)) rfl
    refine h_next hCst17 ?_
    refine h_one (i := 7) (by kernel_rfl) ?_
    refine h_do (by exact rfl) ?_
    refine r_appendE rfl Try.underlying41 ty_46 (by exact rfl) hos (by exact rfl) (by exact rfl) hrb26 rfl ((by simp; omega)) ((by simp; omega)) (by omega) ?_
    intro v28 w29 hEw29 hov28 hlv28
    have hs_w29 := (hEw29).size
    replace hV := evo_stepo hV hEw29 (fun g hg => .inl (by first | exact (hos.block hg).1 | (have := hos.block hg; omega)))
    replace hI12 := evo_stepo hI12 hEw29 (fun g hg => .inr (List.mem_append_right _ (Option.mem_toList.2 hg)))
    replace hCst17 := evo_stepo hCst17 hEw29 (fun g hg => .inr (Option.mem_toList.2 hg))
    replace hho := hho.evo hEw29 (by intro g hg hm; exact hneb g (Option.mem_toList.1 hm) hg)
    replace hr15 := row_keep hr15 hEw29 (fun hne hm => hneb _ (Option.mem_toList.1 hm) (hg15 hne).1)
    replace hA16 := hA16.evo hEw29 (by intro hm; exact hneb _ (Option.mem_toList.1 hm) (hg15 (by simp)).1)
    have hl92 : (v28).ownBlock = (Value.slice aoe es.length cpe).ownBlock ∨ ∃ g, (v28).ownBlock = some g ∧ w12.heap.size ≤ g := hlv28.imp_right fun h => ⟨_, h, by have := hob0; omega⟩
    have hne92 : ∀ g, (v28).ownBlock = some g → (Value.slice ao1 (rf ++ [rawV m (.slice aoe es.length cpe) hone]).length cp1).ownBlock ≠ some g := fun g hg hg2 => hl92.elim (fun h => hneb g (h ▸ hg) hg2) (fun ⟨g2, h, h4⟩ => by rw [h] at hg; injection hg with hg; have := hob0 g hg2; omega)
    have hos := hov28
    refine h_next hCst17 ?_
    refine h_take (i := 8) (by exact rfl) rfl rfl rfl (by kernel_rfl) (fun w' hC => run_nc rfl (by exact rfl)) hCst17 ?_
    refine h_take (i := 9) (by exact rfl) rfl rfl rfl (by kernel_rfl) (fun w' hC => run_fa rfl (by exact rfl) fo_43_1) hCst17 ?_
    refine h_one (i := 10) (by kernel_rfl) ?_
    refine h_do (by exact rfl) ?_
    obtain ⟨ao30, cp30, hv30⟩ := hos.shape
    subst hv30
    refine r_storeE (u := .slice _ _ _) (vs := [_]) (rf.length) 1 (rawV m (.slice ao30 _ cp30) rfl) (by exact rfl) rfl (by first | rfl | omega) (by exact rfl) hho hr15 (by simp) ty_41 (by exact rfl) rfl (by exact rfl) rfl (by rw [getD_last]; rfl) ?_
    intro w31 hEw31 hzw31 ho_new
    have hs_w31 := (hEw31).size
    replace hV := evo_stepo hV hEw31 (fun g hg => .inl (by first | exact (hho.block hg).1 | (have := hho.block hg; omega)))
    replace hI12 := evo_stepo hI12 hEw31 (fun g hg => .inr (List.mem_append_left _ (Option.mem_toList.2 hg)))
    replace hos := hos.evo hEw31 (by intro g hg hm; exact hne92 g hg (Option.mem_toList.1 hm))
    replace hho := ho_new
    clear ho_new
    refine h_last (by kernel_rfl) ?_
    refine h_done (by kernel_rfl) ?_
    refine r_seq ?_
    refine r_region ?_
    refine r_op rfl rfl rfl (run_mv (v := .slice _ _ _) rfl (by exact rfl)) ?_
    refine r_op rfl rfl rfl (run_mv (v := .int _ _) rfl (by exact rfl)) ?_
    refine r_op rfl rfl rfl (run_asg (v := .slice _ _ _) rfl (by exact rfl)) ?_
    refine r_op rfl rfl rfl (run_asg (v := .int _ _) rfl (by exact rfl)) ?_
    refine r_nil ?_
    refine r_ret (res2 (v := .slice _ _ _) (u := .int _ _) rfl (by exact rfl) (by exact rfl)) ?_
    exact ⟨_, ret_vS (by rw [step_end hncl hsn (by rw [hlc]; show ¬ 16 ≤ es.length; omega), hlc]; rfl), hV, fun _ => by rw [stepC_end hncl, htk, hlc]; have h9 := hho; rw [set_last] at h9; exact Pcl.last hstab hI12 h9 hos hl92 hneb (fun g hg => hob0 g hg) (ends_snoc hbdl (endOf_bd hs) (by omega))⟩

end Go.Proofs.Ytomklacppmaljaa

namespace Go.Proofs.Ytomklacppmaljaa
open Go.RowKit Go.Vc

def parseL (whole : Bool) : Nat → List Clas → List Str → List Clas × Int × Int
  | _, cl, [] => (cl, 0, 0)
  | i, cl, s :: r => if r = [] ∧ whole = false then ([], ((i + 1 : Nat) : Int), 2) else if s = [] ∨ s.getD 0 0 = 35 then parseL whole (i + 1) cl r else if stepE cl s = 0 then parseL whole (i + 1) (stepC cl s) r else ([], ((i + 1 : Nat) : Int), stepE cl s)
def parseT (s : Str) : List Clas × Int × Int := if 65536 < s.length then ([], 0, 3) else parseL (wholeL s) 0 [] (linesL s)
def InvC (cl : List Clas) : Prop := cl.length ≤ 32 ∧ ∀ x ∈ cl, x.ends.length ≤ 16
theorem inv_nil : InvC [] := ⟨by simp, by simp⟩
theorem inv_last {cl : List Clas} (h : InvC cl) : (lastC cl).ends.length ≤ 16 := by
  unfold lastC
  by_cases hc : cl = []
  · subst hc; exact Nat.zero_le _
  · exact h.2 _ (getD_in (by have := List.length_pos_iff.2 hc; omega))
theorem inv_step {cl : List Clas} {s : Str} (h : InvC cl) (h0 : stepE cl s = 0) : InvC (stepC cl s) := by
  by_cases hc : clsW <+: s
  · rw [stepC_name hc]
    by_cases h2 : (32 : UInt8) ∈ nameOf s
    · rw [step_name2 hc h2] at h0; cases h0
    · by_cases h3 : 32 ≤ cl.length
      · rw [step_name3 hc h2 h3] at h0; cases h0
      · refine ⟨by simp; omega, fun x hx => ?_⟩
        rcases List.mem_append.1 hx with h4 | h4
        · exact h.2 x h4
        · have : x = ⟨nameOf s, []⟩ := by simpa using h4
          rw [this]; exact Nat.zero_le _
  · rw [stepC_end hc]
    by_cases h2 : ¬ twoW <+: s ∨ ¬ onceB (bodyOf s) 62 = true ∨ cl = []
    · rw [step_syn hc h2] at h0; cases h0
    · by_cases h3 : 16 ≤ (lastC cl).ends.length
      · rw [step_many hc h2 h3] at h0; cases h0
      · have hne : cl ≠ [] := fun e => h2 (.inr (.inr e))
        have hp := List.length_pos_iff.2 hne
        refine ⟨by have := h.1; simp; omega, fun x hx => ?_⟩
        rcases List.mem_append.1 hx with h4 | h4
        · exact h.2 x (List.mem_of_mem_take h4)
        · have : x = ⟨(lastC cl).name, (lastC cl).ends ++ [endOf s]⟩ := by simpa using h4
          rw [this]; show ((lastC cl).ends ++ [endOf s]).length ≤ 16; simp; omega
section
variable {wh : Bool} {k : Nat} {cl : List Clas} {ls : List Str}
theorem drop_cons {k : Nat} (hk : k < ls.length) : ls.drop k = ls.getD k default :: ls.drop (k + 1) := by
  rw [List.drop_eq_getElem_cons hk]; congr 1; simp [List.getD, hk]
theorem pl_end (h : ls.length ≤ k) : parseL wh k cl (ls.drop k) = (cl, 0, 0) := by rw [List.drop_eq_nil_of_le h]; rfl
theorem drop_nil {k : Nat} : ls.drop (k + 1) = [] ↔ ls.length ≤ k + 1 := List.drop_eq_nil_iff
theorem pl_bad (hk : k < ls.length) (h1 : ls.length = k + 1) (h2 : wh = false) : parseL wh k cl (ls.drop k) = ([], ((k + 1 : Nat) : Int), 2) := by
  rw [drop_cons hk, parseL, if_pos ⟨drop_nil.2 (by omega), h2⟩]
theorem pl_skip (hk : k < ls.length) (h1 : ¬ (ls.length = k + 1 ∧ wh = false)) (h2 : ls.getD k default = [] ∨ (ls.getD k default).getD 0 0 = 35) : parseL wh k cl (ls.drop k) = parseL wh (k + 1) cl (ls.drop (k + 1)) := by
  rw [drop_cons hk, parseL, if_neg (fun h => h1 ⟨by have := drop_nil.1 h.1; omega, h.2⟩), if_pos h2]
theorem pl_step (hk : k < ls.length) (h1 : ¬ (ls.length = k + 1 ∧ wh = false)) (h2 : ¬ (ls.getD k default = [] ∨ (ls.getD k default).getD 0 0 = 35)) (h3 : stepE cl (ls.getD k default) = 0) : parseL wh k cl (ls.drop k) = parseL wh (k + 1) (stepC cl (ls.getD k default)) (ls.drop (k + 1)) := by
  rw [drop_cons hk, parseL, if_neg (fun h => h1 ⟨by have := drop_nil.1 h.1; omega, h.2⟩), if_neg h2, if_pos h3]
theorem pl_err (hk : k < ls.length) (h1 : ¬ (ls.length = k + 1 ∧ wh = false)) (h2 : ¬ (ls.getD k default = [] ∨ (ls.getD k default).getD 0 0 = 35)) (h3 : ¬ stepE cl (ls.getD k default) = 0) : parseL wh k cl (ls.drop k) = ([], ((k + 1 : Nat) : Int), stepE cl (ls.getD k default)) := by
  rw [drop_cons hk, parseL, if_neg (fun h => h1 ⟨by have := drop_nil.1 h.1; omega, h.2⟩), if_neg h2, if_neg h3]
end
theorem pt_long {s : Str} (h : 65536 < s.length) : parseT s = ([], 0, 3) := if_pos h
theorem pt_short {s : Str} (h : ¬ 65536 < s.length) : parseT s = parseL (wholeL s) 0 [] (linesL s) := if_neg h
set_option maxHeartbeats 1000000 in
theorem rparse_calls {s : Str} {w0 : World} (hs : s.length ≤ 140737488355328) :
    Calls Try.prog 85 #[S s] w0 fun e w' => ∃ v, e = .returned (.tuple #[v, .int .i64 (parseT s).2.1, .int .i64 (parseT s).2.2]) ∧ Evo w0 w' [] ∧ OwnR w' w0.heap.size 43 [] v (parseT s).1 := by
 refine calls_enter (n := 59) (args := [S s]) Try.func85 rfl Try.ntmps85 rfl ?_
 have hV : Evo w0 w0 [] := Evo.refl _ _
 refine r_seq ?_
 refine r_region ?_
 refine r_op rfl rfl rfl (run_asg (v := .slice _ _ _) rfl (by exact rfl)) ?_
 refine r_op rfl rfl rfl (run_asg (v := .int _ _) rfl (by exact rfl)) ?_
 refine r_op rfl rfl rfl (run_asg (v := .int _ _) rfl (by exact rfl)) ?_
 refine r_nil ?_
 refine r_seq ?_
 refine r_seq ?_
 refine r_region ?_
 refine r_op rfl rfl rfl (run_mv (v := S _) rfl (by exact rfl)) ?_
 refine r_op rfl rfl rfl (run_lenS rfl (by exact rfl) Try.underlying9) ?_
 refine r_op rfl rfl rfl (run_gtr rfl (by exact rfl) (by exact rfl)) ?_
 refine r_nil ?_
 refine r_cond (by exact rfl) (fun hc1 => ?_) (fun hc1 => ?_)
 ·skip
  refine r_seq ?_
  refine r_region ?_
  refine r_op rfl rfl rfl (run_asg (v := .slice _ _ _) rfl (by exact rfl)) ?_
  refine r_op rfl rfl rfl (run_asg (v := .int _ _) rfl (by exact rfl)) ?_
  refine r_op rfl rfl rfl (run_asg (v := .int _ _) rfl (by exact rfl)) ?_
  refine r_nil ?_
  refine r_ret (res3 (v := .slice _ _ _) (u := .int _ _) (x := .int _ _) rfl (by exact rfl) (by exact rfl) (by exact rfl)) ?_
  exact ⟨_, by rw [pt_long (by omega)], hV, by rw [pt_long (by omega)]; exact OwnR.nil _ _ _ _⟩
 ·skip
  refine r_skip ?_
  refine r_seq ?_
  have hsl := hc1; have hpt := pt_short (s := s) (by omega); have hll := lines_len _ s (Nat.le_refl _); have hlb := lines_bd _ s (Nat.le_refl _)
  refine r_region ?_
  refine r_op rfl rfl rfl (run_mv (v := S _) rfl (by exact rfl)) ?_
  refine r_opcall rfl rfl rfl (run_callf (vs := [S _]) rfl (by exact rfl) Try.func124 rfl (by kernel_rfl)) (lines_calls (by omega)) ?_
  rintro e w2 ⟨vL2, rfl, hE2, hoL2⟩
  refine ⟨_, rfl, ?_⟩
  have hs_w2 := (hE2).size
  replace hV := evo_step0 hV hE2
  refine r_op rfl rfl rfl (run_mv (v := .tuple _) rfl (by exact rfl)) ?_
  refine r_op rfl rfl rfl (run_extract (v := vL2) rfl (by exact rfl) (by exact rfl)) ?_
  refine r_op rfl rfl rfl (run_extract (v := .bool _) rfl (by exact rfl) (by exact rfl)) ?_
  refine r_op rfl rfl rfl (run_asg (v := vL2) rfl (by exact rfl)) ?_
  refine r_op rfl rfl rfl (run_asg (v := .bool _) rfl (by exact rfl)) ?_
  refine r_nil ?_
  refine r_seq ?_
  refine r_region ?_
  refine r_op rfl rfl rfl (run_asg (v := .slice _ _ _) rfl (by exact rfl)) ?_
  refine r_nil ?_
  refine r_seq ?_
  refine r_seq ?_
  have hI5 : Evo w2 w2 [] := Evo.refl _ _
  obtain ⟨ao3, g3, cp3, hv3, hr3, hg3⟩ := hoL2.rowOf
  subst hv3
  have hr30 := keepE hr3
  refine r_region ?_
  refine r_op rfl rfl rfl (run_mv (v := .slice _ _ _) rfl (by exact rfl)) ?_
  refine r_op rfl rfl rfl (run_lenSl rfl (by exact rfl) Try.underlying34) ?_
  refine r_op rfl rfl rfl (run_mv (v := .int _ _) rfl (by exact rfl)) ?_
  refine r_nil ?_
  refine r_block ?_
  refine r_loop (α := Nat) [2, 3, 4, 7, 8, 9, 10, 11, 22, 23, 24, 25, 26, 27, 28, 29, 30, 31, 32, 33, 34, 35, 36, 37, 38, 39, 40, 41, 42, 43, 44, 45, 46, 47, 48, 49, 50, 51, 52, 53, 54, 55, 56, 57] (fun k g w => ∃ vo : Value, ∃ cl : List Clas, g 22 = .int .i64 (k : Nat) ∧ g 7 = vo ∧ k ≤ (linesL s).length ∧ OwnR w w0.heap.size 43 [] vo cl ∧ InvC cl ∧ parseL (wholeL s) k cl ((linesL s).drop k) = parseL (wholeL s) 0 [] (linesL s) ∧ w2.heap.size ≤ w.heap.size ∧ Evo w0 w [] ∧ Evo w2 w []) (fun k => (linesL s).length - k) 0 ?_ ?_
  ·refine ⟨_, [], (by first | exact rfl | exact congrArg (Value.int _) (by omega) | exact congrArg (Value.int _) (by dsimp only; omega) | exact congrArg (Value.int _) (by simp) | exact congrArg S (by simp)), rfl, (by first | assumption | omega | (dsimp only; omega) | (simp; done)), (OwnR.nil _ _ _ _), inv_nil, rfl, (by first | assumption | omega | (dsimp only; omega) | (simp; done)), hV, hI5⟩
  ·rintro k g w5 ⟨vo, cl, hj6, hj7, hk_k, hoo, hinv, hps, hzl4, hV, hI5⟩
   have hs_w5hV := hV.size
   have hs_w5hI5 := hI5.size
   replace hr3 := hr30 _ hI5
   refine r_know (i := 22) (v := .int .i64 (k : Nat)) (by exact hj6) ?_
   refine r_know (i := 7) (v := vo) (by exact hj7) ?_
   refine r_seq ?_
   refine r_region ?_
   refine r_op rfl rfl rfl (run_lss rfl (by exact rfl) (by exact rfl)) ?_
   refine r_nil ?_
   refine r_seq ?_
   refine r_cond (by exact rfl) (fun hc8 => ?_) (fun hc8 => ?_)
   ·skip
    refine r_skip ?_
    refine r_seq ?_
    refine r_block ?_
    refine r_seq ?_
    refine r_region ?_
    refine r_op rfl rfl rfl (run_mv (v := .int _ _) rfl (by exact rfl)) ?_
    refine r_op rfl rfl rfl (run_ix (k) rfl Try.underlying34 ty_9 (by exact rfl) (by exact rfl) (by first | exact rfl | omega) (by omega) (hr3.addr (i := k) (by omega))) ?_
    have hA90 := fun (w' : World) (h : Evo w2 w' []) => (hr30 w' h).atD (k) (by omega)
    have hA9 := hA90 _ hI5
    refine r_op rfl rfl rfl (run_ld1 rfl ag_9 (by exact rfl) (hA9.cell 0 (by exact rfl))) ?_
    refine r_op rfl rfl rfl (run_asg (v := .int _ _) rfl (by exact rfl)) ?_
    refine r_op rfl rfl rfl (run_asg (v := S _) rfl (by exact rfl)) ?_
    refine r_nil ?_
    refine r_seq ?_
    refine r_seq ?_
    have hlk : ((linesL s).getD k default).length ≤ s.length := hlb _ (getD_in (by omega))
    refine r_region ?_
    refine r_op rfl rfl rfl (run_mv (v := .int _ _) rfl (by exact rfl)) ?_
    refine r_op rfl rfl rfl (run_mv (v := .slice _ _ _) rfl (by exact rfl)) ?_
    refine r_op rfl rfl rfl (run_lenSl rfl (by exact rfl) Try.underlying34) ?_
    refine r_op rfl rfl rfl (run_sub rfl (by exact rfl) (by exact rfl) (by omega) (by omega)) ?_
    refine r_op rfl rfl rfl (run_eql rfl (by exact rfl) (by exact rfl)) ?_
    refine r_op rfl rfl rfl (run_mv (v := .bool _) rfl (by exact rfl)) ?_
    refine r_g rfl (wantT (by exact rfl)) rfl (fun hg => run_mvb rfl (by exact rfl)) ?_
    refine r_g rfl (wantT (by exact rfl)) rfl (fun hg => run_not rfl (glv (by exact rfl) (fun h => h) hg)) ?_
    refine r_op rfl rfl rfl (run_pick_and rfl (by exact rfl) (fun hq => glv (by exact rfl) (fun h => h) hq) rfl) ?_
    refine r_nil ?_
    refine r_cond (by exact rfl) (fun hc10 => ?_) (fun hc10 => ?_)
    ·skip
     refine r_seq ?_
     refine r_region ?_
     refine r_op rfl rfl rfl (run_mv (v := .int _ _) rfl (by exact rfl)) ?_
     refine r_op rfl rfl rfl (run_add rfl (by exact rfl) (by exact rfl) (by omega) (by omega)) ?_
     refine r_op rfl rfl rfl (run_asg (v := .slice _ _ _) rfl (by exact rfl)) ?_
     refine r_op rfl rfl rfl (run_asg (v := .int _ _) rfl (by exact rfl)) ?_
     refine r_op rfl rfl rfl (run_asg (v := .int _ _) rfl (by exact rfl)) ?_
     refine r_nil ?_
     refine r_ret (res3 (v := .slice _ _ _) (u := .int _ _) (x := .int _ _) rfl (by exact rfl) (by exact rfl) (by exact rfl)) ?_
     exact ⟨_, (by have h9 := (pl_bad (by omega) (by have := hc10.1; omega) (by simpa using hc10.2)).symm.trans hps; rw [hpt, ← h9] <;> exact rfl), hV, by have h9 := (pl_bad (by omega) (by have := hc10.1; omega) (by simpa using hc10.2)).symm.trans hps; rw [hpt, ← h9]; exact OwnR.nil _ _ _ _⟩
    ·skip
     refine r_skip ?_
     refine r_seq ?_
     refine r_seq ?_
     have hnl : ¬ ((linesL s).length = k + 1 ∧ wholeL s = false) := fun h9 => hc10 ⟨by omega, by rw [h9.2]; decide⟩
     refine r_region ?_
     refine r_op rfl rfl rfl (run_mv (v := S _) rfl (by exact rfl)) ?_
     refine r_op rfl rfl rfl (run_seql rfl (by exact rfl) (by exact rfl)) ?_
     refine r_op rfl rfl rfl (run_mv (v := .bool _) rfl (by exact rfl)) ?_
     refine r_g rfl (wantF (by exact rfl)) rfl (fun hg => run_mv (v := S _) rfl (by exact rfl)) ?_
     refine r_g rfl (wantF (by exact rfl)) rfl (fun hg => run_ixS (0) rfl Try.underlying9 (glv (by exact rfl) (fun h => h) hg) (by exact rfl) (by first | exact rfl | omega) (by have := ne_nil_len hg; omega)) ?_
     refine r_g rfl (wantF (by exact rfl)) rfl (fun hg => run_eql rfl (glv (by exact rfl) (fun h => h) hg) (by exact rfl)) ?_
     refine r_op rfl rfl rfl (run_pick_or rfl (by exact rfl) rfl (fun hq => glv (by exact rfl) (fun h => h) hq)) ?_
     refine r_nil ?_
     refine r_cond (by exact rfl) (fun hc11 => ?_) (fun hc11 => ?_)
     ·skip
      refine r_exit rfl ?_
      refine r_region ?_
      refine r_op rfl rfl rfl (run_add rfl (by exact rfl) (by exact rfl) (by omega) (by omega)) ?_
      refine r_op rfl rfl rfl (run_mv (v := .int _ _) rfl (by exact rfl)) ?_
      refine r_nil ?_
      refine r_again (k + 1) ?_ ?_ ?_
      ·first | omega | (dsimp only; omega)
      ·refine ⟨_, _, (by first | exact rfl | exact congrArg (Value.int _) (by omega) | exact congrArg (Value.int _) (by dsimp only; omega) | exact congrArg (Value.int _) (by simp) | exact congrArg S (by simp)), rfl, (by first | assumption | omega | (dsimp only; omega) | (simp; done)), hoo, (by first | exact hinv | exact inv_step hinv (by simpa using hc11)), (by first | exact (pl_skip (by omega) hnl (Or.imp id u8i.1 hc11)).symm.trans hps | exact (pl_step (by omega) hnl hns (by simpa using hc11)).symm.trans hps), (by first | assumption | omega | (dsimp only; omega) | (simp; done)), hV, hI5⟩
      ·repeat (first | (with_reducible exact Agree.merge _ _ _) | (with_reducible exact Agree.refl _ _) | (with_reducible refine Agree.upd ?_ _ _ rfl) | ((with_reducible refine Agree.inner ?_ ?_); (kernel_rfl)))
     ·skip
      refine r_skip ?_
      refine r_seq ?_
      have hns : ¬ (((linesL s).getD k default) = [] ∨ ((linesL s).getD k default).getD 0 0 = 35) := fun h9 => hc11 (h9.imp id u8i.2)
      refine r_region ?_
      refine r_op rfl rfl rfl (run_mv (v := vo) rfl (by exact rfl)) ?_
      refine r_op rfl rfl rfl (run_mv (v := S _) rfl (by exact rfl)) ?_
      obtain ⟨ao12, g12, cp12, hv12, hr12⟩ := hoo.rowOf
      subst hv12
      have hbd_hr12 := hr12.bd
      refine r_opcall rfl rfl rfl (run_callf (vs := [.slice _ _ _, S _]) rfl (by exact rfl) Try.func125 rfl (by kernel_rfl)) (line23_calls hr12 (by omega) hinv.1) ?_
      rintro e w13 ⟨vl13, rfl, hE13, hol13⟩
      refine ⟨_, rfl, ?_⟩
      have hs_w13 := (hE13).size
      replace hV := evo_step0 hV hE13
      replace hI5 := evo_step0 hI5 hE13
      replace hr3 := hr30 _ hI5
      replace hoo := hoo.evo0 hE13
      replace hr12 := hr12.evo0 hE13
      refine r_op rfl rfl rfl (run_mv (v := .tuple _) rfl (by exact rfl)) ?_
      refine r_op rfl rfl rfl (run_extract (v := vl13) rfl (by exact rfl) (by exact rfl)) ?_
      refine r_op rfl rfl rfl (run_extract (v := .int _ _) rfl (by exact rfl) (by exact rfl)) ?_
      refine r_op rfl rfl rfl (run_asg (v := vl13) rfl (by exact rfl)) ?_
      refine r_op rfl rfl rfl (run_asg (v := .int _ _) rfl (by exact rfl)) ?_
      refine r_nil ?_
      refine r_seq ?_
      refine r_seq ?_
      refine r_region ?_
      refine r_op rfl rfl rfl (run_mv (v := .int _ _) rfl (by exact rfl)) ?_
      refine r_op rfl rfl rfl (run_neq rfl (by exact rfl) (by exact rfl)) ?_
      refine r_nil ?_
      refine r_cond (by exact rfl) (fun hc14 => ?_) (fun hc14 => ?_)
      ·skip
       refine r_seq ?_
       refine r_region ?_
       refine r_op rfl rfl rfl (run_mv (v := .int _ _) rfl (by exact rfl)) ?_
       refine r_op rfl rfl rfl (run_add rfl (by exact rfl) (by exact rfl) (by omega) (by omega)) ?_
       refine r_op rfl rfl rfl (run_mv (v := .int _ _) rfl (by exact rfl)) ?_
       refine r_op rfl rfl rfl (run_asg (v := .slice _ _ _) rfl (by exact rfl)) ?_
       refine r_op rfl rfl rfl (run_asg (v := .int _ _) rfl (by exact rfl)) ?_
       refine r_op rfl rfl rfl (run_asg (v := .int _ _) rfl (by exact rfl)) ?_
       refine r_nil ?_
       refine r_ret (res3 (v := .slice _ _ _) (u := .int _ _) (x := .int _ _) rfl (by exact rfl) (by exact rfl) (by exact rfl)) ?_
       exact ⟨_, (by have h9 := (pl_err (by omega) hnl hns (by simpa using hc14)).symm.trans hps; rw [hpt, ← h9] <;> exact rfl), hV, by have h9 := (pl_err (by omega) hnl hns (by simpa using hc14)).symm.trans hps; rw [hpt, ← h9]; exact OwnR.nil _ _ _ _⟩
      ·skip
       refine r_skip ?_
       have hon := hol13 (by simpa using hc14)
       have hoo := hon.sub (base' := w0.heap.size) (Y' := []) (by omega) (by simp)
       refine r_region ?_
       refine r_op rfl rfl rfl (run_mv (v := vl13) rfl (by exact rfl)) ?_
       refine r_op rfl rfl rfl (run_asg (v := vl13) rfl (by exact rfl)) ?_
       refine r_nil ?_
       refine r_blk ?_
       refine r_region ?_
       refine r_op rfl rfl rfl (run_add rfl (by exact rfl) (by exact rfl) (by omega) (by omega)) ?_
       refine r_op rfl rfl rfl (run_mv (v := .int _ _) rfl (by exact rfl)) ?_
       refine r_nil ?_
       refine r_again (k + 1) ?_ ?_ ?_
       ·first | omega | (dsimp only; omega)
       ·refine ⟨_, _, (by first | exact rfl | exact congrArg (Value.int _) (by omega) | exact congrArg (Value.int _) (by dsimp only; omega) | exact congrArg (Value.int _) (by simp) | exact congrArg S (by simp)), rfl, (by first | assumption | omega | (dsimp only; omega) | (simp; done)), hoo, (by first | exact hinv | exact inv_step hinv (by simpa using hc14)), (by first | exact (pl_skip (by omega) hnl (Or.imp id u8i.1 hc14)).symm.trans hps | exact (pl_step (by omega) hnl hns (by simpa using hc14)).symm.trans hps), (by first | assumption | omega | (dsimp only; omega) | (simp; done)), hV, hI5⟩
       ·repeat (first | (with_reducible exact Agree.merge _ _ _) | (with_reducible exact Agree.refl _ _) | (with_reducible refine Agree.upd ?_ _ _ rfl) | ((with_reducible refine Agree.inner ?_ ?_); (kernel_rfl)))
   ·skip
    refine r_exit rfl ?_
    refine r_seq ?_
    refine r_region ?_
    refine r_op rfl rfl rfl (run_mv (v := vo) rfl (by exact rfl)) ?_
    refine r_op rfl rfl rfl (run_asg (v := vo) rfl (by exact rfl)) ?_
    refine r_op rfl rfl rfl (run_asg (v := .int _ _) rfl (by exact rfl)) ?_
    refine r_op rfl rfl rfl (run_asg (v := .int _ _) rfl (by exact rfl)) ?_
    refine r_nil ?_
    refine r_ret (res3 (v := vo) (u := .int _ _) (x := .int _ _) rfl (by exact rfl) (by exact rfl) (by exact rfl)) ?_
    exact ⟨_, (by have h9 := (pl_end (by omega)).symm.trans hps; rw [hpt, ← h9] <;> exact rfl), hV, by have h9 := (pl_end (by omega)).symm.trans hps; rw [hpt, ← h9]; exact hoo⟩

end Go.Proofs.Ytomklacppmaljaa

namespace Go.Proofs.Ytomklacppmaljaa
open Go.RowKit Go.Vc

section
variable {t : Str} {n : Nat} {cl : List Clas}
theorem pl_cons (h : (10 : UInt8) ∈ t) : ¬ (linesL (tailL t) = [] ∧ wholeL t = false) := fun ⟨h1, h2⟩ => by
  rw [whole_yes h] at h2
  by_cases h3 : (10 : UInt8) ∈ tailL t
  · rw [lines_yes h3] at h1; cases h1
  · by_cases h4 : tailL t = []
    · rw [h4, whole_nil] at h2; cases h2
    · rw [lines_no h3 h4] at h1; cases h1
theorem pt_end (h : t = []) : parseL (wholeL t) n cl (linesL t) = (cl, 0, 0) := by subst h; rw [lines_nil]; rfl
theorem pt_bad (h : ¬ (10 : UInt8) ∈ t) (h2 : ¬ t = []) : parseL (wholeL t) n cl (linesL t) = ([], ((n + 1 : Nat) : Int), 2) := by
  rw [lines_no h h2, parseL, if_pos ⟨rfl, whole_no h h2⟩]
theorem pt_skip (h : (10 : UInt8) ∈ t) (h2 : headL t = [] ∨ (headL t).getD 0 0 = 35) : parseL (wholeL t) n cl (linesL t) = parseL (wholeL (tailL t)) (n + 1) cl (linesL (tailL t)) := by
  rw [lines_yes h, parseL, if_neg (pl_cons h), if_pos h2, whole_yes h]
theorem pt_step (h : (10 : UInt8) ∈ t) (h2 : ¬ (headL t = [] ∨ (headL t).getD 0 0 = 35)) (h3 : stepE cl (headL t) = 0) : parseL (wholeL t) n cl (linesL t) = parseL (wholeL (tailL t)) (n + 1) (stepC cl (headL t)) (linesL (tailL t)) := by
  rw [lines_yes h, parseL, if_neg (pl_cons h), if_neg h2, if_pos h3, whole_yes h]
theorem pt_err (h : (10 : UInt8) ∈ t) (h2 : ¬ (headL t = [] ∨ (headL t).getD 0 0 = 35)) (h3 : ¬ stepE cl (headL t) = 0) : parseL (wholeL t) n cl (linesL t) = ([], ((n + 1 : Nat) : Int), stepE cl (headL t)) := by
  rw [lines_yes h, parseL, if_neg (pl_cons h), if_neg h2, if_neg h3]
end
theorem row_nil {w : World} : ∃ ao g cap, Value.slice none 0 0 = .slice ao ([] : List Clas).length cap ∧ RowR w ao g 0 cap ([] : List Clas) := ⟨none, 0, 0, rfl, [], ⟨⟨by simp, by simp⟩, by simp, by simp⟩, RepL.nil _⟩

set_option maxHeartbeats 1000000 in
theorem parse_calls {s : Str} {w0 : World} (hs : s.length ≤ 140737488355328) :
    Calls Try.prog 37 #[S s] w0 fun e w' => ∃ v, e = .returned (.tuple #[v, .int .i64 (parseT s).2.1, .int .i64 (parseT s).2.2]) ∧ Evo w0 w' [] ∧ ∃ ao g cap, v = .slice ao (parseT s).1.length cap ∧ RowR w' ao g 0 cap (parseT s).1 := by
 refine calls_enter (n := 43) (args := [S s]) Try.func37 rfl Try.ntmps37 rfl ?_
 have hV : Evo w0 w0 [] := Evo.refl _ _
 refine r_seq ?_
 refine r_region ?_
 refine r_op rfl rfl rfl (run_asg (v := .slice _ _ _) rfl (by exact rfl)) ?_
 refine r_op rfl rfl rfl (run_asg (v := .int _ _) rfl (by exact rfl)) ?_
 refine r_op rfl rfl rfl (run_asg (v := .int _ _) rfl (by exact rfl)) ?_
 refine r_nil ?_
 refine r_seq ?_
 refine r_seq ?_
 refine r_region ?_
 refine r_op rfl rfl rfl (run_mv (v := S _) rfl (by exact rfl)) ?_
 refine r_op rfl rfl rfl (run_lenS rfl (by exact rfl) Try.underlying9) ?_
 refine r_op rfl rfl rfl (run_gtr rfl (by exact rfl) (by exact rfl)) ?_
 refine r_nil ?_
 refine r_cond (by exact rfl) (fun hc1 => ?_) (fun hc1 => ?_)
 ·skip
  refine r_seq ?_
  refine r_region ?_
  refine r_op rfl rfl rfl (run_asg (v := .slice _ _ _) rfl (by exact rfl)) ?_
  refine r_op rfl rfl rfl (run_asg (v := .int _ _) rfl (by exact rfl)) ?_
  refine r_op rfl rfl rfl (run_asg (v := .int _ _) rfl (by exact rfl)) ?_
  refine r_nil ?_
  refine r_ret (res3 (v := .slice _ _ _) (u := .int _ _) (x := .int _ _) rfl (by exact rfl) (by exact rfl) (by exact rfl)) ?_
  exact ⟨_, by rw [pt_long (by omega)], hV, by rw [pt_long (by omega)]; exact row_nil⟩
 ·skip
  refine r_skip ?_
  refine r_seq ?_
  refine r_block ?_
  have hsl := hc1; have hpt := pt_short (s := s) (by omega)
  refine r_loop (α := Str) [0, 2, 3, 4, 5, 6, 7, 11, 12, 13, 14, 15, 16, 17, 18, 19, 20, 21, 22, 23, 24, 25, 26, 27, 28, 29, 30, 31, 32, 33, 34, 35, 36, 37, 38, 39, 40, 41] (fun t g w => ∃ n : Nat, ∃ vo : Value, ∃ cl : List Clas, g 0 = S t ∧ g 3 = .int .i64 (n : Nat) ∧ g 2 = vo ∧ Pcl w w0.heap.size 43 46 vo cl ∧ InvC cl ∧ t.length + n ≤ s.length ∧ parseL (wholeL t) n cl (linesL t) = parseL (wholeL s) 0 [] (linesL s) ∧ w0.heap.size ≤ w.heap.size ∧ Evo w0 w []) (fun t => t.length) s ?_ ?_
  ·refine ⟨0, _, [], rfl, rfl, rfl, (Pcl.nil _ _ _ _), inv_nil, (by omega), rfl, (by first | assumption | omega | (dsimp only; omega) | (simp; done)), hV⟩
  ·rintro t g w3 ⟨n, vo, cl, hj4, hj5, hj6, hpc, hinv, htl0, hps, hzl2, hV⟩
   have hs_w3hV := hV.size
   refine r_know (i := 0) (v := S t) (by exact hj4) ?_
   refine r_know (i := 3) (v := .int .i64 (n : Nat)) (by exact hj5) ?_
   refine r_know (i := 2) (v := vo) (by exact hj6) ?_
   refine r_seq ?_
   refine r_seq ?_
   refine r_region ?_
   refine r_op rfl rfl rfl (run_mv (v := S _) rfl (by exact rfl)) ?_
   refine r_op rfl rfl rfl (run_sneq rfl (by exact rfl) (by exact rfl)) ?_
   refine r_nil ?_
   refine r_cond (by exact rfl) (fun hc7 => ?_) (fun hc7 => ?_)
   ·skip
    refine r_skip ?_
    refine r_block ?_
    refine r_seq ?_
    have htn := hc7
    refine r_region ?_
    refine r_op rfl rfl rfl (run_mv (v := .int _ _) rfl (by exact rfl)) ?_
    refine r_op rfl rfl rfl (run_add rfl (by exact rfl) (by exact rfl) (by omega) (by omega)) ?_
    refine r_op rfl rfl rfl (run_asg (v := .int _ _) rfl (by exact rfl)) ?_
    refine r_nil ?_
    refine r_seq ?_
    refine r_region ?_
    refine r_op rfl rfl rfl (run_mv (v := S _) rfl (by exact rfl)) ?_
    refine r_opcall rfl rfl rfl (run_callf (vs := [S _, S _]) rfl (by exact rfl) Try.func83 rfl (by kernel_rfl)) (s_cut_calls (by omega)) ?_
    rintro e w8 ⟨rfl, hE8⟩
    refine ⟨_, rfl, ?_⟩
    have hs_w8 := (hE8).size
    replace hV := evo_step0 hV hE8
    replace hpc := hpc.evo0 hE8
    refine r_op rfl rfl rfl (run_mv (v := .tuple _) rfl (by exact rfl)) ?_
    refine r_op rfl rfl rfl (run_extract (v := S _) rfl (by exact rfl) (by exact rfl)) ?_
    refine r_op rfl rfl rfl (run_extract (v := S _) rfl (by exact rfl) (by exact rfl)) ?_
    refine r_op rfl rfl rfl (run_extract (v := .bool _) rfl (by exact rfl) (by exact rfl)) ?_
    refine r_op rfl rfl rfl (run_asg (v := S _) rfl (by exact rfl)) ?_
    refine r_op rfl rfl rfl (run_asg (v := S _) rfl (by exact rfl)) ?_
    refine r_op rfl rfl rfl (run_asg (v := .bool _) rfl (by exact rfl)) ?_
    refine r_nil ?_
    refine r_seq ?_
    refine r_seq ?_
    refine r_region ?_
    refine r_op rfl rfl rfl (run_mvb rfl (by exact rfl)) ?_
    refine r_op rfl rfl rfl (run_not rfl (by exact rfl)) ?_
    refine r_nil ?_
    refine r_cond (by exact rfl) (fun hc9 => ?_) (fun hc9 => ?_)
    ·skip
     refine r_seq ?_
     refine r_region ?_
     refine r_op rfl rfl rfl (run_mv (v := .int _ _) rfl (by exact rfl)) ?_
     refine r_op rfl rfl rfl (run_asg (v := .slice _ _ _) rfl (by exact rfl)) ?_
     refine r_op rfl rfl rfl (run_asg (v := .int _ _) rfl (by exact rfl)) ?_
     refine r_op rfl rfl rfl (run_asg (v := .int _ _) rfl (by exact rfl)) ?_
     refine r_nil ?_
     refine r_ret (res3 (v := .slice _ _ _) (u := .int _ _) (x := .int _ _) rfl (by exact rfl) (by exact rfl) (by exact rfl)) ?_
     exact ⟨_, (by have h9 := (pt_bad (fun h => absurd (cut_found.2 h) (by simpa using hc9)) (by simpa using htn)).symm.trans hps; rw [hpt, ← h9] <;> exact rfl), hV, by have h9 := (pt_bad (fun h => absurd (cut_found.2 h) (by simpa using hc9)) (by simpa using htn)).symm.trans hps; rw [hpt, ← h9]; exact row_nil⟩
    ·skip
     refine r_skip ?_
     refine r_seq ?_
     have hm10 : (10 : UInt8) ∈ t := cut_found.1 (by simpa using hc9); obtain ⟨hct1, hct2⟩ := cut_parts hm10; have htl := tail_lt hm10; have hhl := head_len t
     refine r_know (i := 5) (v := S (headL t)) (congrArg S hct1) ?_
     refine r_know (i := 6) (v := S (tailL t)) (congrArg S hct2) ?_
     refine r_region ?_
     refine r_op rfl rfl rfl (run_mv (v := S _) rfl (by exact rfl)) ?_
     refine r_op rfl rfl rfl (run_asg (v := S _) rfl (by exact rfl)) ?_
     refine r_nil ?_
     refine r_seq ?_
     refine r_seq ?_
     refine r_region ?_
     refine r_op rfl rfl rfl (run_mv (v := S _) rfl (by exact rfl)) ?_
     refine r_op rfl rfl rfl (run_seql rfl (by exact rfl) (by exact rfl)) ?_
     refine r_op rfl rfl rfl (run_mv (v := .bool _) rfl (by exact rfl)) ?_
     refine r_g rfl (wantF (by exact rfl)) rfl (fun hg => run_mv (v := S _) rfl (by exact rfl)) ?_
     refine r_g rfl (wantF (by exact rfl)) rfl (fun hg => run_ixS (0) rfl Try.underlying9 (glv (by exact rfl) (fun h => h) hg) (by exact rfl) (by first | exact rfl | omega) (by have := ne_nil_len hg; omega)) ?_
     refine r_g rfl (wantF (by exact rfl)) rfl (fun hg => run_eql rfl (glv (by exact rfl) (fun h => h) hg) (by exact rfl)) ?_
     refine r_op rfl rfl rfl (run_pick_or rfl (by exact rfl) rfl (fun hq => glv (by exact rfl) (fun h => h) hq)) ?_
     refine r_nil ?_
     refine r_cond (by exact rfl) (fun hc10 => ?_) (fun hc10 => ?_)
     ·skip
      refine r_exit rfl ?_
      refine r_again (tailL t) ?_ ?_ ?_
      ·first | omega | (dsimp only; omega)
      ·refine ⟨(n + 1), _, _, rfl, (congrArg (Value.int _) (by omega)), rfl, (by first | exact hpc | exact hol8 (by simpa using hc10)), (by first | exact hinv | exact inv_step hinv (by simpa using hc10)), (by omega), (by first | exact (pt_skip hm10 (Or.imp id u8i.1 hc10)).symm.trans hps | exact (pt_step hm10 hns (by simpa using hc10)).symm.trans hps), (by first | assumption | omega | (dsimp only; omega) | (simp; done)), hV⟩
      ·repeat (first | (with_reducible exact Agree.merge _ _ _) | (with_reducible exact Agree.refl _ _) | (with_reducible refine Agree.upd ?_ _ _ rfl) | ((with_reducible refine Agree.inner ?_ ?_); (kernel_rfl)))
     ·skip
      refine r_skip ?_
      refine r_seq ?_
      have hns : ¬ (headL t = [] ∨ (headL t).getD 0 0 = 35) := fun h9 => hc10 (h9.imp id u8i.2)
      refine r_region ?_
      refine r_op rfl rfl rfl (run_mv (v := vo) rfl (by exact rfl)) ?_
      refine r_op rfl rfl rfl (run_mv (v := S _) rfl (by exact rfl)) ?_
      refine r_opcall rfl rfl rfl (run_callf (vs := [vo, S _]) rfl (by exact rfl) Try.func84 rfl (by kernel_rfl)) (read_calls hV hpc (by omega) hinv.1 (inv_last hinv)) ?_
      rintro e w11 ⟨vl11, rfl, hE11, hol11⟩
      refine ⟨_, rfl, ?_⟩
      have hV := hE11
      have hs_w11 := hV.size
      refine r_op rfl rfl rfl (run_mv (v := .tuple _) rfl (by exact rfl)) ?_
      refine r_op rfl rfl rfl (run_extract (v := vl11) rfl (by exact rfl) (by exact rfl)) ?_
      refine r_op rfl rfl rfl (run_extract (v := .int _ _) rfl (by exact rfl) (by exact rfl)) ?_
      refine r_op rfl rfl rfl (run_asg (v := vl11) rfl (by exact rfl)) ?_
      refine r_op rfl rfl rfl (run_asg (v := .int _ _) rfl (by exact rfl)) ?_
      refine r_nil ?_
      refine r_seq ?_
      refine r_region ?_
      refine r_op rfl rfl rfl (run_mv (v := .int _ _) rfl (by exact rfl)) ?_
      refine r_op rfl rfl rfl (run_neq rfl (by exact rfl) (by exact rfl)) ?_
      refine r_nil ?_
      refine r_cond (by exact rfl) (fun hc12 => ?_) (fun hc12 => ?_)
      ·skip
       refine r_seq ?_
       refine r_region ?_
       refine r_op rfl rfl rfl (run_mv (v := .int _ _) rfl (by exact rfl)) ?_
       refine r_op rfl rfl rfl (run_mv (v := .int _ _) rfl (by exact rfl)) ?_
       refine r_op rfl rfl rfl (run_asg (v := .slice _ _ _) rfl (by exact rfl)) ?_
       refine r_op rfl rfl rfl (run_asg (v := .int _ _) rfl (by exact rfl)) ?_
       refine r_op rfl rfl rfl (run_asg (v := .int _ _) rfl (by exact rfl)) ?_
       refine r_nil ?_
       refine r_ret (res3 (v := .slice _ _ _) (u := .int _ _) (x := .int _ _) rfl (by exact rfl) (by exact rfl) (by exact rfl)) ?_
       exact ⟨_, (by have h9 := (pt_err hm10 hns (by simpa using hc12)).symm.trans hps; rw [hpt, ← h9] <;> exact rfl), hV, by have h9 := (pt_err hm10 hns (by simpa using hc12)).symm.trans hps; rw [hpt, ← h9]; exact row_nil⟩
      ·skip
       refine r_skip ?_
       refine r_blk ?_
       refine r_again (tailL t) ?_ ?_ ?_
       ·first | omega | (dsimp only; omega)
       ·refine ⟨(n + 1), _, _, rfl, (congrArg (Value.int _) (by omega)), rfl, (by first | exact hpc | exact hol11 (by simpa using hc12)), (by first | exact hinv | exact inv_step hinv (by simpa using hc12)), (by omega), (by first | exact (pt_skip hm10 (Or.imp id u8i.1 hc12)).symm.trans hps | exact (pt_step hm10 hns (by simpa using hc12)).symm.trans hps), (by first | assumption | omega | (dsimp only; omega) | (simp; done)), hV⟩
       ·repeat (first | (with_reducible exact Agree.merge _ _ _) | (with_reducible exact Agree.refl _ _) | (with_reducible refine Agree.upd ?_ _ _ rfl) | ((with_reducible refine Agree.inner ?_ ?_); (kernel_rfl)))
   ·skip
    refine r_exit rfl ?_
    refine r_seq ?_
    refine r_region ?_
    refine r_op rfl rfl rfl (run_mv (v := vo) rfl (by exact rfl)) ?_
    refine r_op rfl rfl rfl (run_asg (v := vo) rfl (by exact rfl)) ?_
    refine r_op rfl rfl rfl (run_asg (v := .int _ _) rfl (by exact rfl)) ?_
    refine r_op rfl rfl rfl (run_asg (v := .int _ _) rfl (by exact rfl)) ?_
    refine r_nil ?_
    refine r_ret (res3 (v := vo) (u := .int _ _) (x := .int _ _) rfl (by exact rfl) (by exact rfl) (by exact rfl)) ?_
    exact ⟨_, (by have h9 := (pt_end (by simpa using hc7)).symm.trans hps; rw [hpt, ← h9] <;> exact rfl), hV, by have h9 := (pt_end (by simpa using hc7)).symm.trans hps; rw [hpt, ← h9]; exact hpc.rowOf⟩

end Go.Proofs.Ytomklacppmaljaa

namespace Go.Proofs.Ytomklacppmaljaa
open Go.RowKit Go.Vc
theorem ag_120 : aggP Try.prog 120 = some false := by kernel_rfl
theorem ag_52 : aggP Try.prog 52 = some false := by kernel_rfl
theorem fo_122_0 : fieldP Try.prog 122 0 = some 0 := by kernel_rfl
theorem fo_122_1 : fieldP Try.prog 122 1 = some 1 := by kernel_rfl
theorem ty_120 : tyP Try.prog 120 = some (1, 8, some (.pointer none)) := by kernel_rfl
theorem ty_122 : tyP Try.prog 122 = some (2, 32, some (.agg #[(.pointer none), (.slice none 0 0)])) := by kernel_rfl
theorem ty_52 : tyP Try.prog 52 = some (1, 24, some (.slice none 0 0)) := by kernel_rfl
theorem cc_fresh {b : Nat} {v : Value} {w0 : World} (hB : Blk w0 b 122 [.pointer none, v]) (hv : ∃ ao len cap, v = .slice ao len cap) :
    Calls Try.prog 126 #[.pointer (some ⟨b, 0, none⟩)] w0 fun e w' => e = .returned (.tuple #[]) ∧ Evo w0 w' [b] ∧ Blk w' b 122 [.pointer (some ⟨b, 0, none⟩), v] := by
 obtain ⟨aoV, lnV, cpV, rfl⟩ := hv; obtain ⟨j, hj, hjs, _, _⟩ := info_of ty_122; have hA := hB.at
 refine calls_enter (n := 20) (args := [.pointer (some ⟨b, 0, none⟩)]) Try.func126 rfl Try.ntmps126 rfl ?_
 have hV : Evo w0 w0 [b] := Evo.refl _ _
 refine r_seq ?_
 refine r_region ?_
 refine r_op rfl rfl rfl (run_mv (v := .pointer (some ⟨b, 0, none⟩)) rfl (by exact rfl)) ?_
 refine r_op rfl rfl rfl (run_nc rfl (by exact rfl)) ?_
 refine r_op rfl rfl rfl (run_fa rfl (by exact rfl) fo_122_0) ?_
 refine r_op rfl rfl rfl (run_ld1 rfl ag_120 (by exact rfl) (hA.cell 0 (by exact rfl))) ?_
 refine r_op rfl rfl rfl (run_binP rfl (by exact rfl) rfl (eql_nil_nil Try.underlying120)) ?_
 refine r_nil ?_
 refine r_cond_yes (by exact rfl) ?_
 refine r_region ?_
 refine r_op rfl rfl rfl (run_mv (v := .pointer (some ⟨b, 0, none⟩)) rfl (by exact rfl)) ?_
 refine r_op rfl rfl rfl (run_mv (v := .pointer (some ⟨b, 0, none⟩)) rfl (by exact rfl)) ?_
 refine r_op rfl rfl rfl (run_conv rfl (by exact rfl) (Lib.run_to_unsafe _ ⟨b, 0, none⟩ Try.underlying120 Try.underlying198 hj (by rw [hjs]; decide) (blk_shape hB) (by show 0 < 2; decide))) ?_
 refine r_op rfl rfl rfl (run_extNE rfl (by exact rfl) Try.func160 rfl rfl rfl rfl) ?_
 refine r_op rfl rfl rfl (run_conv rfl (by exact rfl) (Lib.run_from_unsafe _ ⟨b, 0, none⟩ Try.underlying198 Try.underlying120 hj (blk_shape hB) (by kernel_rfl))) ?_
 refine r_op rfl rfl rfl (run_nc rfl (by exact rfl)) ?_
 refine r_op rfl rfl rfl (run_fa rfl (by exact rfl) fo_122_0) ?_
 refine r_store (v := .pointer (some ⟨b, 0, none⟩)) (vs := [_]) (cs' := [_, _]) (by exact rfl) (by exact rfl) hB ty_120 (by exact rfl) rfl (by exact rfl) rfl (by exact rfl) ?_
 intro w1 hEw1 hzw1 hb_new
 have hs_w1 := (hEw1).size
 replace hV := evo_step1 hV hEw1 (by first | exact .inl (by omega) | exact .inr (by simp))
 replace hB := hb_new
 have hA := hB.at
 clear hb_new
 refine r_nil ?_
 refine r_end (res0 rfl) ?_
 exact ⟨rfl, hV, hB⟩

theorem cc_used {b : Nat} {v : Value} {w0 : World} (hB : Blk w0 b 122 [.pointer (some ⟨b, 0, none⟩), v]) (hv : ∃ ao len cap, v = .slice ao len cap) :
    Calls Try.prog 126 #[.pointer (some ⟨b, 0, none⟩)] w0 fun e w' => e = .returned (.tuple #[]) ∧ Evo w0 w' [b] ∧ Blk w' b 122 [.pointer (some ⟨b, 0, none⟩), v] := by
 obtain ⟨aoV, lnV, cpV, rfl⟩ := hv; obtain ⟨j, hj, hjs, _, _⟩ := info_of ty_122; have hA := hB.at
 refine calls_enter (n := 20) (args := [.pointer (some ⟨b, 0, none⟩)]) Try.func126 rfl Try.ntmps126 rfl ?_
 have hV : Evo w0 w0 [b] := Evo.refl _ _
 refine r_seq ?_
 refine r_region ?_
 refine r_op rfl rfl rfl (run_mv (v := .pointer (some ⟨b, 0, none⟩)) rfl (by exact rfl)) ?_
 refine r_op rfl rfl rfl (run_nc rfl (by exact rfl)) ?_
 refine r_op rfl rfl rfl (run_fa rfl (by exact rfl) fo_122_0) ?_
 refine r_op rfl rfl rfl (run_ld1 rfl ag_120 (by exact rfl) (hA.cell 0 (by exact rfl))) ?_
 refine r_op rfl rfl rfl (run_binP rfl (by exact rfl) rfl (eql_some_nil _ Try.underlying120)) ?_
 refine r_nil ?_
 refine r_cond_no (by exact rfl) ?_
 refine r_seq ?_
 refine r_region ?_
 refine r_op rfl rfl rfl (run_mv (v := .pointer (some ⟨b, 0, none⟩)) rfl (by exact rfl)) ?_
 refine r_op rfl rfl rfl (run_nc rfl (by exact rfl)) ?_
 refine r_op rfl rfl rfl (run_fa rfl (by exact rfl) fo_122_0) ?_
 refine r_op rfl rfl rfl (run_ld1 rfl ag_120 (by exact rfl) (hA.cell 0 (by exact rfl))) ?_
 refine r_op rfl rfl rfl (run_mv (v := .pointer (some ⟨b, 0, none⟩)) rfl (by exact rfl)) ?_
 refine r_op rfl rfl rfl (run_binP rfl (by exact rfl) (by exact rfl) (Lib.run_neq_ptr_same _ _ Try.underlying120 hj)) ?_
 refine r_nil ?_
 refine r_cond_no (by exact rfl) ?_
 refine r_skip ?_
 refine r_end (res0 rfl) ?_
 exact ⟨rfl, hV, hB⟩

theorem cc_calls {b : Nat} {p v : Value} {w0 : World} (hB : Blk w0 b 122 [p, v]) (hp : p = .pointer none ∨ p = .pointer (some ⟨b, 0, none⟩)) (hv : ∃ ao len cap, v = .slice ao len cap) : Calls Try.prog 126 #[.pointer (some ⟨b, 0, none⟩)] w0 fun e w' => e = .returned (.tuple #[]) ∧ Evo w0 w' [b] ∧ Blk w' b 122 [.pointer (some ⟨b, 0, none⟩), v] := by
  rcases hp with rfl | rfl
  · exact cc_fresh hB hv
  · exact cc_used hB hv

theorem wstr_calls {W : World} {b : Nat} {s u : Str} {w0 : World} (hWV : Evo W w0 []) (hBl : Bld w0 W.heap.size b 122 5 s) (hu : u ≠ []) (hl : s.length + u.length ≤ 140737488355328) :
    Calls Try.prog 86 #[.pointer (some ⟨b, 0, none⟩), S u] w0 fun e w' => e = .returned (.tuple #[.int .i64 (u.length : Int), .nilIface]) ∧ Evo W w' [] ∧ Bld w' W.heap.size b 122 5 (s ++ u) ∧ (∀ g T cs, Blk w0 g T cs → T ≠ 5 → g ≠ b → Blk w' g T cs) ∧ w0.heap.size ≤ w'.heap.size := by
 obtain ⟨p, hp, hbW, v, hB, hown, hnil⟩ : ∃ p, (p = .pointer none ∨ p = .pointer (some ⟨b, 0, none⟩)) ∧ BldAt w0 W.heap.size b 122 5 p s := (hBl.elim (fun h => ⟨_, .inl rfl, h⟩) (fun h => ⟨_, .inr rfl, h⟩)); obtain ⟨aoV, cpV, hvv⟩ := owns_shape hown; subst hvv; have hA := hB.at; have hsW := hWV.size; have hown0 := hown; have hB0 := hB; have hK : Evo w0 w0 ([b] ++ (Value.slice aoV s.length cpV).ownBlock.toList) := Evo.refl _ _
 refine calls_enter (n := 19) (args := [.pointer (some ⟨b, 0, none⟩), S u]) Try.func86 rfl Try.ntmps86 rfl ?_
 have hV : Evo w0 w0 [] := Evo.refl _ _
 refine r_seq ?_
 refine r_region ?_
 refine r_op rfl rfl rfl (run_asg (v := .int _ _) rfl (by exact rfl)) ?_
 refine r_op rfl rfl rfl (run_asg (v := .nilIface) rfl (by exact rfl)) ?_
 refine r_nil ?_
 refine r_seq ?_
 refine r_region ?_
 refine r_op rfl rfl rfl (run_mv (v := .pointer (some ⟨b, 0, none⟩)) rfl (by exact rfl)) ?_
 refine r_opcall rfl rfl rfl (run_callf (vs := [.pointer (some ⟨b, 0, none⟩)]) rfl (by exact rfl) Try.func126 rfl (by kernel_rfl)) (cc_calls hB hp ⟨_, _, _, rfl⟩) ?_
 rintro e w1 ⟨rfl, hE1, hBn⟩
 refine ⟨_, rfl, ?_⟩
 have hK := evo_steps hK hE1 (fun x hx => .inr (List.mem_append_left _ hx))
 have hown := owns_evo hown hE1 (fun g hg hm => owns_ne hown hB (by decide) (by have e : g = b := (by simpa using hm); rw [← e]; exact hg)); have hs_w1 := (hE1).size
 have hB := hBn; have hA := hB.at
 refine r_nil ?_
 refine r_seq ?_
 refine r_region ?_
 refine r_op rfl rfl rfl (run_mv (v := .pointer (some ⟨b, 0, none⟩)) rfl (by exact rfl)) ?_
 refine r_op rfl rfl rfl (run_mv (v := .pointer (some ⟨b, 0, none⟩)) rfl (by exact rfl)) ?_
 refine r_op rfl rfl rfl (run_nc rfl (by exact rfl)) ?_
 refine r_op rfl rfl rfl (run_fa rfl (by exact rfl) fo_122_1) ?_
 refine r_op rfl rfl rfl (run_ld1 rfl ag_52 (by exact rfl) (hA.cell 1 (by exact rfl))) ?_
 refine r_op rfl rfl rfl (run_mv (v := S _) rfl (by exact rfl)) ?_
 refine r_appendStr (s := s) (u := u) rfl Try.underlying52 Try.underlying9 ty_5 hown (by exact rfl) (by exact rfl) (by omega) (by omega) ?_
 intro v9 w9 hE9 hown9 hnil9
 have hs_w9 := hE9.size
 have hK := evo_steps hK hE9 (fun x hx => .inr (List.mem_append_right _ hx))
 replace hB := hB.evo hE9 (fun hm => owns_ne hown hB (by decide) (Option.mem_toList.1 hm)); have hA := hB.at
 obtain ⟨ao9, cp9, hv9⟩ := owns_shape hown9; subst hv9
 have hB9 := hB; have hL : Evo w9 w9 [b] := Evo.refl _ _
 refine r_op rfl rfl rfl (run_nc rfl (by exact rfl)) ?_
 refine r_op rfl rfl rfl (run_fa rfl (by exact rfl) fo_122_1) ?_
 refine r_store (v := .slice _ _ _) (vs := [_]) (cs' := [_, _]) (by exact rfl) (by exact rfl) hB ty_52 (by exact rfl) rfl (by exact rfl) rfl (by exact rfl) ?_
 intro w2 hEw2 hzw2 hb_new
 have hs_w2 := (hEw2).size
 replace hL := evo_step1 hL hEw2 (by first | exact .inl (by omega) | exact .inr (by simp))
 replace hK := evo_step1 hK hEw2 (by first | exact .inl (by omega) | exact .inr (by simp))
 replace hB := hb_new
 have hA := hB.at
 clear hb_new
 refine r_nil ?_
 refine r_seq ?_
 refine r_region ?_
 refine r_op rfl rfl rfl (run_mv (v := S _) rfl (by exact rfl)) ?_
 refine r_op rfl rfl rfl (run_lenS rfl (by exact rfl) Try.underlying9) ?_
 refine r_op rfl rfl rfl (run_asg (v := .int _ _) rfl (by exact rfl)) ?_
 refine r_op rfl rfl rfl (run_asg (v := .nilIface) rfl (by exact rfl)) ?_
 refine r_nil ?_
 refine r_ret (res2 (v := .int _ _) (u := .nilIface) rfl (by exact rfl) (by exact rfl)) ?_
 exact ⟨rfl, evo_steps hWV hK (fun x hx => .inl ((List.mem_append.1 hx).elim (fun h => by have e : x = b := (by simpa using h); omega) (fun h => (owns_lt hown0 (Option.mem_toList.1 h)).1))), .inr ⟨hbW, _, hB, owns_evo hown9 hL (fun g hg hm => owns_ne hown9 hB9 (by decide) (by have e : g = b := (by simpa using hm); rw [← e]; exact hg)), fun e => absurd (List.append_eq_nil_iff.1 e).2 hu⟩, fun g T cs hg hT hgb => hg.evo hK (fun hm => (List.mem_append.1 hm).elim (fun h => hgb (by simpa using h)) (fun h => owns_ne hown0 hg hT (Option.mem_toList.1 h))), hK.size⟩

theorem bstr_nil {W : World} {b : Nat} {p : Value} {w0 : World} (hWV : Evo W w0 []) (hB : Blk w0 b 122 [p, .slice none (([] : Str).length) 0]) :
    Calls Try.prog 87 #[.pointer (some ⟨b, 0, none⟩)] w0 fun e w' => e = .returned (S []) ∧ Evo W w' [] := by
 have hA := hB.at
 refine calls_enter (n := 14) (args := [.pointer (some ⟨b, 0, none⟩)]) Try.func87 rfl Try.ntmps87 rfl ?_
 have hV : Evo w0 w0 [] := Evo.refl _ _
 refine r_seq ?_
 refine r_region ?_
 refine r_op rfl rfl rfl (run_asg (v := S _) rfl (by exact rfl)) ?_
 refine r_nil ?_
 refine r_seq ?_
 refine r_qregion (by kernel_rfl) (by kernel_rfl) ?_
 refine q_op rfl rfl rfl (fun w' hC => run_mv (v := .pointer (some ⟨b, 0, none⟩)) rfl (by exact rfl)) ?_
 refine q_op rfl rfl rfl (fun w' hC => run_nc rfl (by exact rfl)) ?_
 refine q_op rfl rfl rfl (fun w' hC => run_fa rfl (by exact rfl) fo_122_1) ?_
 refine q_op rfl rfl rfl (fun w' hC => run_ld1 rfl ag_52 (by exact rfl) ((hA.evo0 hC).cell 1 (by exact rfl))) ?_
 refine q_op rfl rfl rfl (fun w' hC => run_sdata0 rfl (by exact rfl)) ?_
 refine q_op rfl rfl rfl (fun w' hC => run_mv (v := .pointer (some ⟨b, 0, none⟩)) rfl (by exact rfl)) ?_
 refine q_op rfl rfl rfl (fun w' hC => run_nc rfl (by exact rfl)) ?_
 refine q_op rfl rfl rfl (fun w' hC => run_fa rfl (by exact rfl) fo_122_1) ?_
 refine q_op rfl rfl rfl (fun w' hC => run_ld1 rfl ag_52 (by exact rfl) ((hA.evo0 hC).cell 1 (by exact rfl))) ?_
 refine q_op rfl rfl rfl (fun w' hC => run_lenSl rfl (by exact rfl) Try.underlying52) ?_
 refine q_op rfl rfl rfl (fun w' hC => run_ustr0 rfl (by exact rfl) (by exact rfl)) ?_
 refine q_op rfl rfl rfl (fun w' hC => run_asg (v := S _) rfl (by exact rfl)) ?_
 refine q_nil (fun w1 hE2 => ?_)
 have hs_w1 := (hE2).size
 replace hV := evo_step0 hV hE2
 replace hB := hB.evo0 hE2
 replace hA := hA.evo0 hE2
 refine r_ret (res1 (v := S _) rfl (by exact rfl)) ?_
 exact ⟨rfl, evo_step0 hWV hV⟩

theorem bstr_some {W : World} {b gb cap : Nat} {p : Value} {s : Str} {cs : List Value} {w0 : World} (hWV : Evo W w0 []) (hs0 : s ≠ []) (hl : s.length ≤ 140737488355328) (hB : Blk w0 b 122 [p, .slice (some ⟨gb, 0, none⟩) s.length cap]) (hG : Blk w0 gb 5 cs) (hgW : W.heap.size ≤ gb) (hbg : b ≠ gb) (hn : s.length ≤ cap) (hcl : cs.length = cap) (hcs : ∀ (j : Nat) (x : UInt8), s[j]? = some x → cs[j]? = some (Value.int .u8 x.toNat)) :
    Calls Try.prog 87 #[.pointer (some ⟨b, 0, none⟩)] w0 fun e w' => e = .returned (S s) ∧ Evo W w' [] := by
 have hA := hB.at; have hp0 := List.length_pos_iff.2 hs0
 refine calls_enter (n := 14) (args := [.pointer (some ⟨b, 0, none⟩)]) Try.func87 rfl Try.ntmps87 rfl ?_
 have hV : Evo w0 w0 [] := Evo.refl _ _
 refine r_seq ?_
 refine r_region ?_
 refine r_op rfl rfl rfl (run_asg (v := S _) rfl (by exact rfl)) ?_
 refine r_nil ?_
 refine r_seq ?_
 have hB_q := hB
 have hA_q := hA
 have hG_q := hG
 have hV_q := hV
 refine h_region ([gb]) (by kernel_rfl) ?_
 intro w1 hE2 hCst1
 have hs_w1 := (hE2).size
 replace hV := evo_step0 hV hE2
 replace hB := hB.evo0 hE2
 replace hA := hA.evo0 hE2
 replace hG := hG.evo0 hE2
 refine h_take (i := 0) (by exact rfl) rfl rfl rfl (by kernel_rfl) (fun w' hC => run_mv (v := .pointer (some ⟨b, 0, none⟩)) rfl (by exact rfl)) hCst1 ?_
 refine h_take (i := 1) (by exact rfl) rfl rfl rfl (by kernel_rfl) (fun w' hC => run_nc rfl (by exact rfl)) hCst1 ?_
 refine h_take (i := 2) (by exact rfl) rfl rfl rfl (by kernel_rfl) (fun w' hC => run_fa rfl (by exact rfl) fo_122_1) hCst1 ?_
 refine h_take (i := 3) (by exact rfl) rfl rfl rfl (by kernel_rfl) (fun w' hC => run_ld1 rfl ag_52 (by exact rfl) ((hA_q.evo hC (by simp; omega)).cell 1 (by exact rfl))) hCst1 ?_
 refine h_take (i := 4) (by exact rfl) rfl rfl rfl (by kernel_rfl) (fun w' hC => run_sdata rfl (by exact rfl) (by omega)) hCst1 ?_
 refine h_take (i := 5) (by exact rfl) rfl rfl rfl (by kernel_rfl) (fun w' hC => run_mv (v := .pointer (some ⟨b, 0, none⟩)) rfl (by exact rfl)) hCst1 ?_
 refine h_take (i := 6) (by exact rfl) rfl rfl rfl (by kernel_rfl) (fun w' hC => run_nc rfl (by exact rfl)) hCst1 ?_
 refine h_take (i := 7) (by exact rfl) rfl rfl rfl (by kernel_rfl) (fun w' hC => run_fa rfl (by exact rfl) fo_122_1) hCst1 ?_
 refine h_take (i := 8) (by exact rfl) rfl rfl rfl (by kernel_rfl) (fun w' hC => run_ld1 rfl ag_52 (by exact rfl) ((hA_q.evo hC (by simp; omega)).cell 1 (by exact rfl))) hCst1 ?_
 refine h_take (i := 9) (by exact rfl) rfl rfl rfl (by kernel_rfl) (fun w' hC => run_lenSl rfl (by exact rfl) Try.underlying52) hCst1 ?_
 refine h_one (i := 10) (by kernel_rfl) ?_
 refine h_do (by exact rfl) ?_
 refine r_op rfl rfl rfl (run_ustr (l := s) rfl (by exact rfl) (by exact rfl) Try.underlying175 (by kernel_rfl) (blk_shape hG) hs0 (by omega) (by omega) (fun j x hj => blk_cell hG (hcs j x hj))) ?_
 have hEf : Evo w1 (w1.freeze ⟨gb, 0, none⟩ s.length) [gb] := evo_freeze
 generalize w1.freeze ⟨gb, 0, none⟩ s.length = w3 at hEf ⊢
 have hW2 := evo_steps (evo_step0 hWV hV) hEf (fun x hx => .inl (by have e : x = gb := (by simpa using hx); omega))
 replace hCst1 := evo_steps hCst1 hEf (fun x hx => .inr hx)
 refine h_next hCst1 ?_
 refine h_take (i := 11) (by exact rfl) rfl rfl rfl (by kernel_rfl) (fun w' hC => run_asg (v := S s) rfl (by exact rfl)) hCst1 ?_
 refine h_done (by kernel_rfl) ?_
 refine r_ret (res1 (v := S s) rfl (by exact rfl)) ?_
 exact ⟨rfl, hW2⟩

theorem bstr_calls {W w0 : World} {b : Nat} {s : Str} (hWV : Evo W w0 []) (hBl : Bld w0 W.heap.size b 122 5 s) (hl : s.length ≤ 140737488355328) : Calls Try.prog 87 #[.pointer (some ⟨b, 0, none⟩)] w0 fun e w' => e = .returned (S s) ∧ Evo W w' [] := by
  obtain ⟨p, hbW, v, hB, hown, hnil⟩ : ∃ p, BldAt w0 W.heap.size b 122 5 p s := hBl.elim (fun h => ⟨_, h⟩) (fun h => ⟨_, h⟩)
  by_cases hs : s = []
  · subst hs
    rw [hnil rfl] at hB
    exact bstr_nil hWV hB
  · obtain ⟨g, cap, cs, rfl, h1, h2, h3, h4, h5⟩ := owns_form hown hs
    exact bstr_some hWV hs hl hB h2 h1 (fun e => owns_ne hown hB (by decide) (by rw [e]; rfl)) h3 h4 h5

end Go.Proofs.Ytomklacppmaljaa

