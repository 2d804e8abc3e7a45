/-
  The law CheckLevels holds. Conditions: none beyond the statement.
-/
import Derived.Test.YtlfjocbnbceceaaGreatDoorAdh
import Derived.Test.YtlfjocbnbceceaaGreatDoorAdLH
import Derived.Test.YtlfjocbnbceceaaGreatDoorAdLG
set_option linter.unusedVariables false
set_option linter.unusedSimpArgs false
namespace Go.Proofs.YtlfjocbnbceceaaGreatDoor
open Go.ChangeShapes Go.WideShapes Go.ChangeAt Go.RowKit Go.Vc
set_option maxRecDepth 100000 in
theorem checkLevels_holds_contract {H : Type} (enc : TypeId × Value → H) (W : World) (base : Nat) (args : Array Value) (ds gs : List (DataW H)) (before : List MemPlace)
    (hval : ∀ (j : Nat) t v, Tryz.f8.params[j]? = some t → args[j]? = some v → Value.okWide Tryz.prog W .any base t v)
    (hW : DataW.Whole enc Tryz.prog Tryz.f8.params.toList Rows.checkLevelsSpec.vars false W args.toList ds gs before)
    (hsz : (DataW.weightsEach Tryz.prog (Tryz.f8.params.toList ++ Rows.checkLevelsSpec.plain.varTypes Tryz.prog) (ds ++ gs)).all (· ≤ reachBytes) = true) (hlaid : laidMetH Tryz.prog Rows.checkLevelsRow.laid W) :
    Calls Tryz.prog 8 args W fun e W' => ∃ v, e = .returned v ∧ Rows.checkLevelsSpec.post enc Tryz.prog Tryz.f8 false true false false W args v W' := by
  have hW' := hW
  have htab : Tab W := tab_of_laid hlaid
  obtain ⟨p, q, hA0, hV, rfl, _, _⟩ := hW
  have hA : DataW.TrodAll enc Tryz.prog W 0 (fun _ => true) true Tryz.f8.params.toList args.toList ds p := hA0
  rw [Tryz.params8] at hA hval hsz
  obtain ⟨v0, vs0, d0, ds0, p0, q0, ha0, rfl, rfl, h0, r0⟩ := trodAll_cons hA
  obtain ⟨v1, vs1, d1, ds1, p1, q1, ha1, rfl, rfl, h1, r1⟩ := trodAll_cons r0
  obtain ⟨v2, vs2, d2, ds2, p2, q2, ha2, rfl, rfl, h2, r2⟩ := trodAll_cons r1
  obtain ⟨rfl, rfl, rfl⟩ := trodAll_nil r2
  obtain rfl : args = #[v0, v1, v2] := by cases args; simp_all
  obtain ⟨rfl, rfl⟩ := trodVars_none hV
  clear hA0
  simp only [List.append_nil] at hW' hsz
  have hlt0 : ∀ x ∈ p0, x.block < W.heap.size := fun x hx => by simpa using hW'.lt x (by simp [hx])
  have hw0 : ∀ m ∈ d0.weights Tryz.prog 22, m ≤ reachBytes := fun m hm => by
    have := List.all_eq_true.1 hsz m (DataW.weights_mem_each (j := 0) (t := 22) rfl rfl m hm)
    simpa using this
  have h0k := h0
  have hv0 := hval 0 22 v0 (by simp) (by simp)
  obtain ⟨fuel0, hf0⟩ := h0
  obtain ⟨ao0, len0, cap0, rfl⟩ := okWide_slice Tryz.underlying22 hv0
  obtain ⟨b0, o0, l0, rfl, hr0⟩ := openE (α := Int) Tryz.underlying22 cells_3 (by rw [bytes_3]; decide) (elem_int Tryz.underlying3) (by simpa [Value.cells] using hf0) hw0
  have hlt1 : ∀ x ∈ p1, x.block < W.heap.size := fun x hx => by simpa using hW'.lt x (by simp [hx])
  have hw1 : ∀ m ∈ d1.weights Tryz.prog 22, m ≤ reachBytes := fun m hm => by
    have := List.all_eq_true.1 hsz m (DataW.weights_mem_each (j := 1) (t := 22) rfl rfl m hm)
    simpa using this
  have h1k := h1
  have hv1 := hval 1 22 v1 (by simp) (by simp)
  obtain ⟨fuel1, hf1⟩ := h1
  obtain ⟨ao1, len1, cap1, rfl⟩ := okWide_slice Tryz.underlying22 hv1
  obtain ⟨b1, o1, l1, rfl, hr1⟩ := openE (α := Int) Tryz.underlying22 cells_3 (by rw [bytes_3]; decide) (elem_int Tryz.underlying3) (by simpa [Value.cells] using hf1) hw1
  have hlt2 : ∀ x ∈ p2, x.block < W.heap.size := fun x hx => by simpa using hW'.lt x (by simp [hx])
  have h2k := h2
  have hv2 := hval 2 3 v2 (by simp) (by simp)
  obtain ⟨n2, rfl⟩ := okWide_int Tryz.underlying3 hv2
  refine (klevels_law hr0 hr1 htab).mono fun e W' ⟨he, hE⟩ => ?_
  subst he
  have hB := hE.below
  exact ⟨_, rfl, ⟨_, _, _, [], _, [], hW', (trodAll_cons_mk (shut_bool Tryz.underlying4 _) trodAll_mk0), by have hz := (trodAll_cons_mk (Below.trod laidOut (by kernel_rfl) (of_decide_eq_true (by kernel_rfl)) h0k hB hlt0) (trodAll_cons_mk (Below.trod laidOut (by kernel_rfl) (of_decide_eq_true (by kernel_rfl)) h1k hB hlt1) (trodAll_cons_mk (Below.trod laidOut (by kernel_rfl) (of_decide_eq_true (by kernel_rfl)) h2k hB hlt2) trodAll_mk0))); simp only [List.append_nil] at hz; exact hz, rfl, hB.frame _, fun h => by cases h⟩⟩


theorem checkLevels_holds_laid (os : Os) : laidMet Tryz.prog Rows.checkLevelsRow.laid ((laidWorld os).forCall (fun _ _ => 0) ⟨#[], #[.slice none 0 0, .slice none 0 0, .int .i64 0], []⟩).memory := laidMet_of_run' 8 (by kernel_rfl) (by kernel_rfl)
theorem checkLevels_holds_reads (os : Os) {H : Type} (enc : TypeId × Value → H) : ∃ places, DataW.whole enc Tryz.prog ((laidWorld os).forCall (fun _ _ => 0) ⟨#[], #[.slice none 0 0, .slice none 0 0, .int .i64 0], []⟩).memory Tryz.f8.params.toList Rows.checkLevelsSpec.vars false (#[.slice none 0 0, .slice none 0 0, .int .i64 0] : Array Value).toList 8 = some ([.nil, .nil, .lit (.int .i64 0)], [], places) := ⟨[], by kernel_rfl⟩
set_option maxRecDepth 100000 in
theorem checkLevels_holds_lifted (os : Os) (started : os.Started) (H : Type) (enc : TypeId × Value → H) (F : Stop.Interp) :
    ReturnsInHanded {} Tryz.checked os 8 .any ((OpenSpec.ofChange Rows.checkLevelsSpec).preRow enc Tryz.prog Tryz.f8 Rows.checkLevelsRow.domain false Rows.checkLevelsRow.laid) (((OpenSpec.ofChange Rows.checkLevelsSpec).at F).post enc Tryz.prog Tryz.f8 false true false false) := by
  obtain ⟨places, hx⟩ := checkLevels_holds_reads os enc
  refine returnsInHanded_of_row (C := Tryz.checked) (s := (OpenSpec.ofChange Rows.checkLevelsSpec)) own started (by kernel_rfl) Tryz.func8
    (witness_row_at (enc := enc) (C := Tryz.checked) false (laidWorld os) #[.slice none 0 0, .slice none 0 0, .int .i64 0] rfl (by kernel_rfl) (by kernel_rfl) (by kernel_rfl)
      (OpenSpec.preRow_of_cond 8 hx (by kernel_rfl) (fun k hk => by cases hk) (by kernel_rfl) (checkLevels_holds_laid os))) ?_
  intro W base args ds gs before hval hW _ hcond hsz hlaid _ _
  exact checkLevels_holds_contract enc W base args ds gs before hval hW hsz hlaid

theorem checkLevels_holds_wf : Rows.checkLevelsRow.wf (OpenSpec.ofChange Rows.checkLevelsSpec) = true := by kernel_rfl
theorem checkLevels_holds_ip : (Rows.checkLevelsRow.inPlace == Tryz.prog.inPlace 8) = true := by kernel_rfl
theorem checkLevels_holds_uf : (Rows.checkLevelsRow.unfollowed == Tryz.prog.unfollowed 8) = true := by kernel_rfl
theorem checkLevels_holds_rc : (Rows.checkLevelsRow.recurses == Tryz.prog.recurses 8) = true := by kernel_rfl
theorem checkLevels_holds_nm : (Rows.checkLevelsRow.named == Tryz.prog.varsNamed 8) = true := by kernel_rfl
theorem checkLevels_holds_closed : joinedFacts Tryz.prog 8 Tryz.f8 (OpenSpec.ofChange Rows.checkLevelsSpec).bare Rows.checkLevelsRow = true := by
  unfold joinedFacts
  exact and_i (and_i (and_i (and_i (and_i (and_i (and_i (and_i (and_i (and_i (and_i (and_i (and_i (and_i (and_i (and_i (and_i (and_i (and_i (and_i (and_i (and_i (and_i (and_i (and_i (and_i (and_i (and_i (and_i (and_i (and_i (checkLevels_holds_wf) all_laid) all_maps) (by kernel_rfl)) (by kernel_rfl)) (by kernel_rfl)) all_stops) (by kernel_rfl)) all_knobs) checkLevels_holds_ip) checkLevels_holds_uf) checkLevels_holds_rc) checkLevels_holds_nm) (by kernel_rfl)) (by kernel_rfl)) (by kernel_rfl)) (by kernel_rfl)) (by kernel_rfl)) (by kernel_rfl)) (by kernel_rfl)) (by kernel_rfl)) (by kernel_rfl)) all_keys) (by kernel_rfl)) all_heard) all_enter) all_lifts) all_make) (by kernel_rfl)) (by kernel_rfl)) (by kernel_rfl)) (by kernel_rfl)
theorem checkLevels_holds_said : Rows.CheckLevelsSaid :=
  OpenClaim.holds_of_cond 8 Tryz.f8 rfl rfl rfl rfl rfl rfl rfl ⟨rfl, rfl, rfl, rfl, rfl⟩ rfl rfl rfl rfl rfl (by kernel_rfl) Tryz.func8 checkLevels_holds_closed
    (of_decide_eq_true (by kernel_rfl)) (by unfold Func.isWrapper; rw [if_neg (by decide +kernel)]; exact ⟨rfl, rfl⟩)
    (fun os started H enc _ F => by rw [OpenClaim.pre_eq_preRow]; exact checkLevels_holds_lifted os started H enc F)
theorem checkLevels_holds_plain (f : FuncId) (fn : Func) (hf : Tryz.pinned.checked.prog.funcNamed "bitext/bitextlaw25.CheckLevels" = some f) (hfn : Tryz.pinned.checked.prog.funcs[f]? = some fn) :
    false = Tryz.pinned.checked.prog.looks [] ∧ ∀ (j : Nat) t, fn.params[j]? = some t → Tryz.pinned.checked.prog.wantsStandIn t = false := by
  obtain rfl : f = 8 := Option.some.inj ((show Tryz.prog.funcNamed "bitext/bitextlaw25.CheckLevels" = some 8 by kernel_rfl).symm.trans hf) |>.symm
  obtain rfl : fn = Tryz.f8 := (Option.some.inj (Tryz.func8.symm.trans hfn)).symm
  refine ⟨by kernel_rfl, fun j t ht => ?_⟩
  rw [Tryz.params8] at ht
  have hm := Array.mem_of_getElem? ht
  simp only [List.mem_toArray, List.mem_cons, List.not_mem_nil, or_false] at hm
  rcases hm with rfl | rfl | rfl
  · exact (show Tryz.prog.wantsStandIn 22 = false by kernel_rfl)
  · exact (show Tryz.prog.wantsStandIn 22 = false by kernel_rfl)
  · exact (show Tryz.prog.wantsStandIn 3 = false by kernel_rfl)
theorem checkLevels_holds : Rows.CheckLevelsCardSaid :=
  Claim7.holds_tied_plain_at .later [] _ _ _ _ checkLevels_holds_said (fun _ h => by cases h) (by kernel_rfl) (fun _ h => by cases h) checkLevels_row_tie rfl ⟨rfl, rfl⟩ (by kernel_rfl) rfl checkLevels_holds_plain (by kernel_rfl)
#print axioms checkLevels_holds
end Go.Proofs.YtlfjocbnbceceaaGreatDoor
