import Derived.Test.YtomklacppmaljaaX3
namespace Go.Proofs.Ytomklacppmaljaa
open Go.RowKit Go.Vc
theorem ag_41 : aggP Try.prog 41 = some false := by kernel_rfl
theorem fo_43_1 : fieldP Try.prog 43 1 = some 1 := by kernel_rfl
theorem rends_calls {wb : World} {ao : Option Addr} {b off cap : Nat} {c : List Clas} {n : Str} {w0 : World} (hc : RowRK wb [] ao b off cap c) (hW : Evo wb w0 []) :
    Calls Try.prog 75 #[.slice ao c.length cap, S n] w0 fun e w' => ∃ ao' b' off' cap', e = .returned (.slice ao' (endsL c n).length cap') ∧ Evo w0 w' [] ∧ ∀ w2, Evo wb w2 [] → RowE w2 ao' b' off' cap' (endsL c n) := by
 refine calls_enter (n := 16) (args := [.slice ao c.length cap, S n]) Try.func75 rfl Try.ntmps75 rfl ?_
 have hV : Evo w0 w0 [] := Evo.refl _ _
 have hc0 := hc
 replace hc := hc0.now hW
 have hbd_hc := hc.bd
 refine r_seq ?_
 refine r_region ?_
 refine r_op rfl rfl rfl (run_asg (v := .slice _ _ _) rfl (by exact rfl)) ?_
 refine r_nil ?_
 refine r_seq ?_
 refine r_seq ?_
 refine r_region ?_
 refine r_op rfl rfl rfl (run_mv (v := .slice _ _ _) rfl (by exact rfl)) ?_
 refine r_op rfl rfl rfl (run_mv (v := S _) rfl (by exact rfl)) ?_
 refine r_opcall rfl rfl rfl (run_callf (vs := [.slice _ _ _, S _]) rfl (by exact rfl) Try.func27 rfl (by kernel_rfl)) (rfind_calls hc) ?_
 rintro e w1 ⟨rfl, hE1⟩
 refine ⟨_, rfl, ?_⟩
 have hs_w1 := (hE1).size
 replace hV := evo_step0 hV hE1
 replace hW := evo_step0 hW hE1
 replace hc := hc0.now hW
 refine r_op rfl rfl rfl (run_asg (v := .int _ _) rfl (by exact rfl)) ?_
 refine r_nil ?_
 refine r_seq ?_
 refine r_region ?_
 refine r_op rfl rfl rfl (run_mv (v := .int _ _) rfl (by exact rfl)) ?_
 refine r_op rfl rfl rfl (run_geq rfl (by exact rfl) (by exact rfl)) ?_
 refine r_nil ?_
 refine r_cond (by exact rfl) (fun hc2 => ?_) (fun hc2 => ?_)
 ·skip
  refine r_seq ?_
  refine r_region ?_
  refine r_op rfl rfl rfl (run_mv (v := .slice _ _ _) rfl (by exact rfl)) ?_
  refine r_op rfl rfl rfl (run_mv (v := .int _ _) rfl (by exact rfl)) ?_
  refine r_op rfl rfl rfl (run_ix ((findC c n).toNat) rfl Try.underlying22 ty_43 (by exact rfl) (by exact rfl) (by have := findC_lt c n; omega) (by have := findC_lt c n; omega) (hc.addr (i := (findC c n).toNat) (by have := findC_lt c n; omega))) ?_
  obtain ⟨ao3, b3, off3, cap3, hX⟩ := clas_atK hc0 ((findC c n).toNat) (by have := findC_lt c n; omega)
  have hA30 := fun (w' : World) (h : Evo wb w' []) => (hX w' h).1
  have hA3 := hA30 _ hW
  have hR30 := fun (w' : World) (h : Evo wb w' []) => (hX w' h).2
  have hR3 := hR30 _ hW
  clear hX
  have hbd_hR3 := hR3.bd
  refine r_op rfl rfl rfl (run_fa rfl (by exact rfl) fo_43_1) ?_
  refine r_op rfl rfl rfl (run_ld1 rfl ag_41 (by exact rfl) (hA3.cell 1 (by exact rfl))) ?_
  refine r_op rfl rfl rfl (run_asg (v := .slice _ _ _) rfl (by exact rfl)) ?_
  refine r_nil ?_
  refine r_ret (res1 (v := .slice _ _ _) rfl (by exact rfl)) ?_
  exact ⟨_, _, _, _, by rw [ends_at (by omega)], hV, by rw [ends_at (by omega)]; exact hR30⟩
 ·skip
  refine r_skip ?_
  refine r_seq ?_
  refine r_region ?_
  refine r_op rfl rfl rfl (run_asg (v := .slice _ _ _) rfl (by exact rfl)) ?_
  refine r_nil ?_
  refine r_ret (res1 (v := .slice _ _ _) rfl (by exact rfl)) ?_
  exact ⟨none, 0, 0, 0, by rw [ends_none (by omega)]; rfl, hV, by rw [ends_none (by omega)]; exact fun w2 _ => RowE.nil _ _ _ _ _⟩

end Go.Proofs.Ytomklacppmaljaa
