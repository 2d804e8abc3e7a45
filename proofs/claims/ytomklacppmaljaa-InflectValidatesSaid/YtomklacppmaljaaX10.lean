import Derived.Test.YtomklacppmaljaaX9
import Derived.Test.YtomklacppmaljaaItr
import Derived.Test.YtomklacppmaljaaSrt
namespace Go.Proofs.Ytomklacppmaljaa
open Go.RowKit Go.Vc

theorem keys_calls {w : World} {b : Nat} : Calls Try.prog 115 #[.map (some b)] w fun e w' => e = .returned (.func (.func 150) #[] #[.pointer (some ⟨w.heap.size, 0, none⟩)]) ∧ Evo w w' [] ∧ w' = w.alloc (.cells #[.map (some b)] 107) :=
  (callsIn_wide.1 (Try.maps_Keys_115 (some b) w)).mono fun e w' ⟨h1, h2⟩ => ⟨h1, by subst h2; exact evo_below (Below.refl _ _ |>.alloc (Nat.le_refl _) _), h2⟩
theorem sortedk_calls {w w1 : World} {b : Nat} {β : Type} {ev : β → Value} {m : List (Str × β)} (hm : MapIs w b S ev m) (hk : w1 = w.alloc (.cells #[.map (some b)] 107)) (hl : ∀ p ∈ m, p.1.length ≤ maxLen) (hb : m.length * 16 ≤ 140737488355328) :
    Calls Try.prog 114 #[.func (.func 150) #[] #[.pointer (some ⟨w.heap.size, 0, none⟩)]] w1 fun e w' => ∃ v, e = .returned v ∧ Evo w1 w' [] ∧ OwnE w' w1.heap.size 9 v (sortS (m.map (·.1))) := by
  subst hk
  obtain ⟨D, hD, hz, hp⟩ := map_owns (P := Try.prog) (K := 9) Try.underlying9 hm (by unfold maxLen; omega) hl
  refine (callsIn_wide.1 (Try.slices_Sorted_keys_114_115 b m.length D R0 w hD (by rw [hz]; unfold maxLen; omega) (by rw [hz]; exact hb))).mono ?_
  rintro e w' ⟨v, ss, rfl, hS, hrow, _, hbl⟩
  have hlen : ss.length = m.length := by have := (hS.trans hp).length_eq; simpa using this
  have hst : sortS (m.map (·.1)) = ss.mergeSort (fun x y => decide (x ≤ y)) := (mergeSort_of_perm (hS.trans hp)).symm
  refine ⟨v, rfl, evo_below hbl, ?_⟩
  rw [hst]
  exact OwnE.of1 (enc1 := encStr) rfl (fun _ => rfl) (by simp; omega) (by rw [show (ss.mergeSort (fun x y => decide (x ≤ y))).length = ss.length from by simp]; exact hrow)

theorem sorted_calls {b : Nat} {β : Type} {ev : β → Value} {m : List (Str × β)} {w0 : World} (hm0 : MapIs w0 b S ev m) (hl : ∀ p ∈ m, p.1.length ≤ maxLen) (hb : m.length * 16 ≤ 140737488355328) :
    Calls Try.prog 73 #[.map (some b)] w0 fun e w' => ∃ v, e = .returned v ∧ Evo w0 w' [] ∧ OwnE w' w0.heap.size 9 v (sortS (m.map (·.1))) := by
 refine calls_enter (n := 6) (args := [.map (some b)]) Try.func73 rfl Try.ntmps73 rfl ?_
 have hV : Evo w0 w0 [] := Evo.refl _ _
 refine r_seq ?_
 refine r_region ?_
 refine r_op rfl rfl rfl (run_asg (v := .slice _ _ _) rfl (by exact rfl)) ?_
 refine r_nil ?_
 refine r_seq ?_
 refine r_region ?_
 refine r_op rfl rfl rfl (run_mv (v := .map _) rfl (by exact rfl)) ?_
 refine r_opcall rfl rfl rfl (run_callf (vs := [.map _]) rfl (by exact rfl) Try.func115 rfl (by kernel_rfl)) keys_calls ?_
 rintro e w1 ⟨rfl, hE1, hky1⟩
 refine ⟨_, rfl, ?_⟩
 have hs_w1 := (hE1).size
 replace hV := evo_step0 hV hE1
 refine r_opcall rfl rfl rfl (run_callf (vs := [.func _ _ _]) rfl (by exact rfl) Try.func114 rfl (by kernel_rfl)) (sortedk_calls hm0 hky1 hl hb) ?_
 rintro e w2 ⟨vs2, rfl, hE2, hsr2⟩
 refine ⟨_, rfl, ?_⟩
 have hs_w2 := (hE2).size
 replace hV := evo_step0 hV hE2
 refine r_op rfl rfl rfl (run_asg (v := vs2) rfl (by exact rfl)) ?_
 refine r_nil ?_
 refine r_ret (res1 (v := vs2) rfl (by exact rfl)) ?_
 exact ⟨_, rfl, hV, hsr2.base_le (by omega)⟩

end Go.Proofs.Ytomklacppmaljaa
