/-
  The law CheckCompatible holds. Conditions: none beyond the statement.
-/
import Derived.Test.YtlfjocbnbceceaaGreatDoorAgg
import Derived.Test.YtlfjocbnbceceaaGreatDoorAgLH
import Derived.Test.YtlfjocbnbceceaaGreatDoorAgLG
set_option linter.unusedVariables false
set_option linter.unusedSimpArgs false
namespace Go.Proofs.YtlfjocbnbceceaaGreatDoor
open Go.ChangeShapes Go.WideShapes Go.ChangeAt Go.RowKit Go.Vc
set_option maxRecDepth 100000 in
theorem checkCompatible_holds_contract {H : Type} (enc : TypeId × Value → H) (W : World) (base : Nat) (args : Array Value) (ds gs : List (DataW H)) (before : List MemPlace)
    (hval : ∀ (j : Nat) t v, Tryz.f9.params[j]? = some t → args[j]? = some v → Value.okWide Tryz.prog W .any base t v)
    (hW : DataW.Whole enc Tryz.prog Tryz.f9.params.toList Rows.checkCompatibleSpec.vars false W args.toList ds gs before)
    (hsz : (DataW.weightsEach Tryz.prog (Tryz.f9.params.toList ++ Rows.checkCompatibleSpec.plain.varTypes Tryz.prog) (ds ++ gs)).all (· ≤ reachBytes) = true) (hlaid : laidMetH Tryz.prog Rows.checkCompatibleRow.laid W) :
    Calls Tryz.prog 9 args W fun e W' => ∃ v, e = .returned v ∧ Rows.checkCompatibleSpec.post enc Tryz.prog Tryz.f9 false true false false W args v W' := by
  have hW' := hW
  have htab : Tab W := tab_of_laid hlaid
  obtain ⟨p, q, hA0, hV, rfl, _, _⟩ := hW
  have hA : DataW.TrodAll enc Tryz.prog W 0 (fun _ => true) true Tryz.f9.params.toList args.toList ds p := hA0
  rw [Tryz.params9] at hA hval hsz
  obtain ⟨v0, vs0, d0, ds0, p0, q0, ha0, rfl, rfl, h0, r0⟩ := trodAll_cons hA
  obtain ⟨rfl, rfl, rfl⟩ := trodAll_nil r0
  obtain rfl : args = #[v0] := by cases args; simp_all
  obtain ⟨rfl, rfl⟩ := trodVars_none hV
  clear hA0
  simp only [List.append_nil] at hW' hsz
  have hlt0 : ∀ x ∈ p0, x.block < W.heap.size := fun x hx => by simpa using hW'.lt x (by simp [hx])
  have hw0 : ∀ m ∈ d0.weights Tryz.prog 22, m ≤ reachBytes := fun m hm => by
    have := List.all_eq_true.1 hsz m (DataW.weights_mem_each (j := 0) (t := 22) rfl rfl m hm)
    simpa using this
  have h0k := h0
  have hv0 := hval 0 22 v0 (by simp) (by simp)
  obtain ⟨fuel0, hf0⟩ := h0
  obtain ⟨ao0, len0, cap0, rfl⟩ := okWide_slice Tryz.underlying22 hv0
  obtain ⟨b0, o0, l0, rfl, hr0⟩ := openE (α := Int) Tryz.underlying22 cells_3 (by rw [bytes_3]; decide) (elem_int Tryz.underlying3) (by simpa [Value.cells] using hf0) hw0
  refine (kcompatible_law hr0 htab).mono fun e W' ⟨he, hE⟩ => ?_
  subst he
  have hB := hE.below
  exact ⟨_, rfl, ⟨_, _, _, [], _, [], hW', (trodAll_cons_mk (shut_bool Tryz.underlying4 _) trodAll_mk0), by have hz := (trodAll_cons_mk (Below.trod laidOut (by kernel_rfl) (of_decide_eq_true (by kernel_rfl)) h0k hB hlt0) trodAll_mk0); simp only [List.append_nil] at hz; exact hz, rfl, hB.frame _, fun h => by cases h⟩⟩


theorem checkCompatible_holds_laid (os : Os) : laidMet Tryz.prog Rows.checkCompatibleRow.laid ((laidWorld os).forCall (fun _ _ => 0) ⟨#[], #[.slice none 0 0], []⟩).memory := laidMet_of_run' 8 (by kernel_rfl) (by kernel_rfl)
theorem checkCompatible_holds_reads (os : Os) {H : Type} (enc : TypeId × Value → H) : ∃ places, DataW.whole enc Tryz.prog ((laidWorld os).forCall (fun _ _ => 0) ⟨#[], #[.slice none 0 0], []⟩).memory Tryz.f9.params.toList Rows.checkCompatibleSpec.vars false (#[.slice none 0 0] : Array Value).toList 8 = some ([.nil], [], places) := ⟨[], by kernel_rfl⟩
set_option maxRecDepth 100000 in
theorem checkCompatible_holds_lifted (os : Os) (started : os.Started) (H : Type) (enc : TypeId × Value → H) (F : Stop.Interp) :
    ReturnsInHanded {} Tryz.checked os 9 .any ((OpenSpec.ofChange Rows.checkCompatibleSpec).preRow enc Tryz.prog Tryz.f9 Rows.checkCompatibleRow.domain false Rows.checkCompatibleRow.laid) (((OpenSpec.ofChange Rows.checkCompatibleSpec).at F).post enc Tryz.prog Tryz.f9 false true false false) := by
  obtain ⟨places, hx⟩ := checkCompatible_holds_reads os enc
  refine returnsInHanded_of_row (C := Tryz.checked) (s := (OpenSpec.ofChange Rows.checkCompatibleSpec)) own started (by kernel_rfl) Tryz.func9
    (witness_row_at (enc := enc) (C := Tryz.checked) false (laidWorld os) #[.slice none 0 0] rfl (by kernel_rfl) (by kernel_rfl) (by kernel_rfl)
      (OpenSpec.preRow_of_cond 8 hx (by kernel_rfl) (fun k hk => by cases hk) (by kernel_rfl) (checkCompatible_holds_laid os))) ?_
  intro W base args ds gs before hval hW _ hcond hsz hlaid _ _
  exact checkCompatible_holds_contract enc W base args ds gs before hval hW hsz hlaid

theorem checkCompatible_holds_wf : Rows.checkCompatibleRow.wf (OpenSpec.ofChange Rows.checkCompatibleSpec) = true := by kernel_rfl
theorem checkCompatible_holds_ip : (Rows.checkCompatibleRow.inPlace == Tryz.prog.inPlace 9) = true := by kernel_rfl
theorem checkCompatible_holds_uf : (Rows.checkCompatibleRow.unfollowed == Tryz.prog.unfollowed 9) = true := by kernel_rfl
theorem checkCompatible_holds_rc : (Rows.checkCompatibleRow.recurses == Tryz.prog.recurses 9) = true := by kernel_rfl
theorem checkCompatible_holds_nm : (Rows.checkCompatibleRow.named == Tryz.prog.varsNamed 9) = true := by kernel_rfl
theorem checkCompatible_holds_closed : joinedFacts Tryz.prog 9 Tryz.f9 (OpenSpec.ofChange Rows.checkCompatibleSpec).bare Rows.checkCompatibleRow = true := by
  unfold joinedFacts
  exact and_i (and_i (and_i (and_i (and_i (and_i (and_i (and_i (and_i (and_i (and_i (and_i (and_i (and_i (and_i (and_i (and_i (and_i (and_i (and_i (and_i (and_i (and_i (and_i (and_i (and_i (and_i (and_i (and_i (and_i (and_i (checkCompatible_holds_wf) all_laid) all_maps) (by kernel_rfl)) (by kernel_rfl)) (by kernel_rfl)) all_stops) (by kernel_rfl)) all_knobs) checkCompatible_holds_ip) checkCompatible_holds_uf) checkCompatible_holds_rc) checkCompatible_holds_nm) (by kernel_rfl)) (by kernel_rfl)) (by kernel_rfl)) (by kernel_rfl)) (by kernel_rfl)) (by kernel_rfl)) (by kernel_rfl)) (by kernel_rfl)) (by kernel_rfl)) all_keys) (by kernel_rfl)) all_heard) all_enter) all_lifts) all_make) (by kernel_rfl)) (by kernel_rfl)) (by kernel_rfl)) (by kernel_rfl)
theorem checkCompatible_holds_said : Rows.CheckCompatibleSaid :=
  OpenClaim.holds_of_cond 9 Tryz.f9 rfl rfl rfl rfl rfl rfl rfl ⟨rfl, rfl, rfl, rfl, rfl⟩ rfl rfl rfl rfl rfl (by kernel_rfl) Tryz.func9 checkCompatible_holds_closed
    (of_decide_eq_true (by kernel_rfl)) (by unfold Func.isWrapper; rw [if_neg (by decide +kernel)]; exact ⟨rfl, rfl⟩)
    (fun os started H enc _ F => by rw [OpenClaim.pre_eq_preRow]; exact checkCompatible_holds_lifted os started H enc F)
theorem checkCompatible_holds_plain (f : FuncId) (fn : Func) (hf : Tryz.pinned.checked.prog.funcNamed "bitext/bitextlaw25.CheckCompatible" = some f) (hfn : Tryz.pinned.checked.prog.funcs[f]? = some fn) :
    false = Tryz.pinned.checked.prog.looks [] ∧ ∀ (j : Nat) t, fn.params[j]? = some t → Tryz.pinned.checked.prog.wantsStandIn t = false := by
  obtain rfl : f = 9 := Option.some.inj ((show Tryz.prog.funcNamed "bitext/bitextlaw25.CheckCompatible" = some 9 by kernel_rfl).symm.trans hf) |>.symm
  obtain rfl : fn = Tryz.f9 := (Option.some.inj (Tryz.func9.symm.trans hfn)).symm
  refine ⟨by kernel_rfl, fun j t ht => ?_⟩
  rw [Tryz.params9] at ht
  have hm := Array.mem_of_getElem? ht
  obtain rfl : t = 22 := by simpa using hm
  exact (show Tryz.prog.wantsStandIn 22 = false by kernel_rfl)
theorem checkCompatible_holds : Rows.CheckCompatibleCardSaid :=
  Claim7.holds_tied_plain_at .later [] _ _ _ _ checkCompatible_holds_said (fun _ h => by cases h) (by kernel_rfl) (fun _ h => by cases h) checkCompatible_row_tie rfl ⟨rfl, rfl⟩ (by kernel_rfl) rfl checkCompatible_holds_plain (by kernel_rfl)
#print axioms checkCompatible_holds
end Go.Proofs.YtlfjocbnbceceaaGreatDoor
