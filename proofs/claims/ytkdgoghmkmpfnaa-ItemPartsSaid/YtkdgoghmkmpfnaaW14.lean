import Derived.Test.YtkdgoghmkmpfnaaW13
namespace Go.Proofs.Ytkdgoghmkmpfnaa
open Go.RowKit Go.Vc
theorem pl_38 : placesP Try.prog 38 = some [(0, 1), (1, 1)] := by kernel_rfl
theorem ty_38 : tyP Try.prog 38 = some (2, 32, some (.agg #[(.slice none 0 0), (.int .i64 0)])) := by kernel_rfl
/-- what is known of a made fragment -/
structure MF (nested : Bool) (f : List Vc.Item) : Prop where
  val : valGo [] f = 0
  len : f.length ≤ 16
  size : sizeL f ≤ 240
  shp : nested = true → shapeL f = some ([], [])

theorem made_calls {ao : Option Addr} {b off cap : Nat} {l : List Int} {tags nested : Bool} {w0 : World} (hl : RowE w0 ao b off cap l) :
    Calls Try.prog 23 #[.slice ao l.length cap, .bool tags, .bool nested] w0 fun e w' => ∃ v, ∃ f : List Vc.Item, e = .returned v ∧ MF nested f ∧ Evo w0 w' [] ∧ OwnE w' w0.heap.size 26 v f := by
 refine calls_enter (n := 13) (args := [.slice ao l.length cap, .bool tags, .bool nested]) Try.func23 rfl Try.ntmps23 rfl ?_
 have hV : Evo w0 w0 [] := Evo.refl _ _
 have hl0 := keepE hl
 have hbd_hl := hl.bd
 refine r_seq ?_
 refine r_region ?_
 refine r_op rfl rfl rfl (run_asg (v := .slice _ _ _) rfl (by exact rfl)) ?_
 refine r_nil ?_
 refine r_seq ?_
 refine r_region ?_
 refine r_op rfl rfl rfl (run_mv (v := .slice _ _ _) rfl (by exact rfl)) ?_
 refine r_op rfl rfl rfl (run_bld (pv := [(0, .slice _ _ _)]) (zs := [_, _]) (cells := [_, _]) rfl ty_38 (by exact rfl) pl_38 (by exact rfl) (by exact rfl)) ?_
 refine r_box (vs := [_, _]) (by exact rfl) (by exact rfl) rfl ?_
 intro b1 w2 heb1 hEw2 hbb1 hzb1
 have hs_w2 := (hEw2).size
 replace hV := evo_step0 hV hEw2
 replace hl := hl0 _ hV
 have hAb1 := hbb1.at
 refine r_op rfl rfl rfl (run_mv (v := .bool _) rfl (by exact rfl)) ?_
 refine r_op rfl rfl rfl (run_mv (v := .bool _) rfl (by exact rfl)) ?_
 refine r_opcall rfl rfl rfl (run_callf (vs := [.pointer _, .int _ _, .bool _, .bool _]) rfl (by exact rfl) Try.func68 rfl (by kernel_rfl)) (fragment_calls (N := 0) (show Blk _ _ _ [_, .int .i64 ((0 : Nat) : Int)] from hbb1) (fun w9 h9 => hl0 _ (evo_step1 hV h9 (.inl (by omega)))) (by omega) (by omega) (by omega)) ?_
 rintro e w3 ⟨vf3, f3, Nf3, rfl, hf3, hNf3, hE3, hn3, hof3⟩
 refine ⟨_, rfl, ?_⟩
 have hs_w3 := (hE3).size
 replace hV := evo_step1 hV hE3 (by first | exact .inl (by omega) | exact .inr (by simp))
 replace hl := hl0 _ hV
 replace hbb1 := hn3
 clear hn3
 have hAb1 := hbb1.at
 refine r_op rfl rfl rfl (run_asg (v := vf3) rfl (by exact rfl)) ?_
 refine r_nil ?_
 refine r_ret (res1 (v := vf3) rfl (by exact rfl)) ?_
 exact ⟨_, _, rfl, ⟨hf3.1, by have := hf3.2.1; omega, by have := hf3.2.2.1; omega, hf3.2.2.2⟩, hV, hof3.base_le (by omega)⟩

theorem MF.valid {n : Bool} {f : List Vc.Item} (h : MF n f) : validateL f = 0 := by
  have h1 := h.len; have h2 := h.size; have h3 := (lengthL_le f).2
  unfold validateL
  rw [if_neg (by omega)]; exact h.val
theorem MF.small {n : Bool} {f : List Vc.Item} (h : MF n f) : Small f := ⟨by have := h.len; omega, by have := h.size; omega⟩
def insL (f : List Vc.Item) (k : Nat) (x : Vc.Item) : List Vc.Item := f.take k ++ [x] ++ f.drop k
theorem insL_small {f : List Vc.Item} {k : Nat} {x : Vc.Item} (h1 : f.length ≤ 16) (h2 : sizeL f ≤ 240) (h3 : x.text.length ≤ 1000) : Small (insL f k x) := by
  have h4 : sizeL (f.take k) + sizeL (f.drop k) = sizeL f := by rw [← sizeL_append, List.take_append_drop]
  have h5 : (f.take k).length + (f.drop k).length = f.length := by rw [← List.length_append, List.take_append_drop]
  unfold insL
  exact ⟨by simp only [List.length_append, List.length_cons, List.length_nil]; omega, by simp only [sizeL_append, sizeL_one]; omega⟩

end Go.Proofs.Ytkdgoghmkmpfnaa
