/-
  The law TermExtends holds. Conditions: none beyond the statement.
-/
import Derived.Test.YtkklomiipkipnaaGreatDoorJi
import Derived.Test.YtkklomiipkipnaaGreatDoorJLH
import Derived.Test.YtkklomiipkipnaaGreatDoorJLG
namespace Go.Proofs.YtkklomiipkipnaaGreatDoor
open Go.ChangeShapes Go.WideShapes Go.ChangeAt Go.RowKit Go.Vc
set_option maxRecDepth 100000 in
theorem termExtends_holds_contract {H : Type} (enc : TypeId × Value → H) (W : World) (base : Nat) (args : Array Value) (ds gs : List (DataW H)) (before : List MemPlace)
    (hval : ∀ (j : Nat) t v, Tryz.f7.params[j]? = some t → args[j]? = some v → Value.okWide Tryz.prog W .any base t v)
    (hW : DataW.Whole enc Tryz.prog Tryz.f7.params.toList Rows.termExtendsSpec.vars false W args.toList ds gs before)
    (hsz : (DataW.weightsEach Tryz.prog (Tryz.f7.params.toList ++ Rows.termExtendsSpec.plain.varTypes Tryz.prog) (ds ++ gs)).all (· ≤ reachBytes) = true) :
    Calls Tryz.prog 7 args W fun e W' => ∃ v, e = .returned v ∧ Rows.termExtendsSpec.post enc Tryz.prog Tryz.f7 false true false false W args v W' := by
  have hW' := hW
  obtain ⟨p, q, hA0, hV, rfl, _, _⟩ := hW
  have hA : DataW.TrodAll enc Tryz.prog W 0 (fun _ => true) true Tryz.f7.params.toList args.toList ds p := hA0
  rw [Tryz.params7] at hA hval hsz
  obtain ⟨v0, vs0, d0, ds0, p0, q0, ha0, rfl, rfl, h0, r0⟩ := trodAll_cons hA
  obtain ⟨v1, vs1, d1, ds1, p1, q1, ha1, rfl, rfl, h1, r1⟩ := trodAll_cons r0
  obtain ⟨rfl, rfl, rfl⟩ := trodAll_nil r1
  obtain rfl : args = #[v0, v1] := by cases args; simp_all
  obtain ⟨rfl, rfl⟩ := trodVars_none hV
  clear hA0
  simp only [List.append_nil] at hW' hsz
  have hlt0 : ∀ x ∈ p0, x.block < W.heap.size := fun x hx => by simpa using hW'.lt x (by simp [hx])
  have hw0 : ∀ m ∈ d0.weights Tryz.prog 25, m ≤ reachBytes := fun m hm => by
    have := List.all_eq_true.1 hsz m (DataW.weights_mem_each (j := 0) (t := 25) rfl rfl m hm)
    simpa using this
  have h0k := h0
  have hv0 := hval 0 25 v0 (by simp) (by simp)
  obtain ⟨fuel0, hf0⟩ := h0
  obtain ⟨ao0, len0, cap0, rfl⟩ := okWide_slice Tryz.underlying25 hv0
  obtain ⟨b0, o0, l0, rfl, hr0⟩ := openE (α := Int) Tryz.underlying25 cells_3 (by rw [bytes_3]; decide) (elem_int Tryz.underlying3) (by simpa [Value.cells] using hf0) hw0
  have hlt1 : ∀ x ∈ p1, x.block < W.heap.size := fun x hx => by simpa using hW'.lt x (by simp [hx])
  have hw1 : ∀ m ∈ d1.weights Tryz.prog 25, m ≤ reachBytes := fun m hm => by
    have := List.all_eq_true.1 hsz m (DataW.weights_mem_each (j := 1) (t := 25) rfl rfl m hm)
    simpa using this
  have h1k := h1
  have hv1 := hval 1 25 v1 (by simp) (by simp)
  obtain ⟨fuel1, hf1⟩ := h1
  obtain ⟨ao1, len1, cap1, rfl⟩ := okWide_slice Tryz.underlying25 hv1
  obtain ⟨b1, o1, l1, rfl, hr1⟩ := openE (α := Int) Tryz.underlying25 cells_3 (by rw [bytes_3]; decide) (elem_int Tryz.underlying3) (by simpa [Value.cells] using hf1) hw1
  refine (extends_law hr0 hr1).mono fun e W' ⟨he, hE⟩ => ?_
  subst he
  have hB := hE.below
  exact ⟨_, rfl, ⟨_, _, _, [], _, [], hW', (trodAll_cons_mk (shut_bool Tryz.underlying4 _) trodAll_mk0), by have hz := (trodAll_cons_mk (Below.trod laidOut (by kernel_rfl) (of_decide_eq_true (by kernel_rfl)) h0k hB hlt0) (trodAll_cons_mk (Below.trod laidOut (by kernel_rfl) (of_decide_eq_true (by kernel_rfl)) h1k hB hlt1) trodAll_mk0)); simp only [List.append_nil] at hz; exact hz, rfl, hB.frame _, fun h => by cases h⟩⟩


theorem termExtends_holds_laid (os : Os) : laidMet Tryz.prog Rows.termExtendsRow.laid ((laidWorld os).forCall (fun _ _ => 0) ⟨#[], #[.slice none 0 0, .slice none 0 0], []⟩).memory := laidMet_of_run' 8 (by kernel_rfl) (by kernel_rfl)
theorem termExtends_holds_reads (os : Os) {H : Type} (enc : TypeId × Value → H) : ∃ places, DataW.whole enc Tryz.prog ((laidWorld os).forCall (fun _ _ => 0) ⟨#[], #[.slice none 0 0, .slice none 0 0], []⟩).memory Tryz.f7.params.toList Rows.termExtendsSpec.vars false (#[.slice none 0 0, .slice none 0 0] : Array Value).toList 8 = some ([.nil, .nil], [], places) := ⟨[], by kernel_rfl⟩
set_option maxRecDepth 100000 in
theorem termExtends_holds_lifted (os : Os) (started : os.Started) (H : Type) (enc : TypeId × Value → H) (F : Stop.Interp) :
    ReturnsInHanded {} Tryz.checked os 7 .any ((OpenSpec.ofChange Rows.termExtendsSpec).preRow enc Tryz.prog Tryz.f7 Rows.termExtendsRow.domain false Rows.termExtendsRow.laid) (((OpenSpec.ofChange Rows.termExtendsSpec).at F).post enc Tryz.prog Tryz.f7 false true false false) := by
  obtain ⟨places, hx⟩ := termExtends_holds_reads os enc
  refine returnsInHanded_of_row (C := Tryz.checked) (s := (OpenSpec.ofChange Rows.termExtendsSpec)) own started (by kernel_rfl) Tryz.func7
    (witness_row_at (enc := enc) (C := Tryz.checked) false (laidWorld os) #[.slice none 0 0, .slice none 0 0] rfl (by kernel_rfl) (by kernel_rfl) (by kernel_rfl)
      (OpenSpec.preRow_of_cond 8 hx (by kernel_rfl) (fun k hk => by cases hk) (by kernel_rfl) (termExtends_holds_laid os))) ?_
  intro W base args ds gs before hval hW _ hcond hsz _ _ _
  exact termExtends_holds_contract enc W base args ds gs before hval hW hsz

theorem termExtends_holds_wf : Rows.termExtendsRow.wf (OpenSpec.ofChange Rows.termExtendsSpec) = true := by kernel_rfl
theorem termExtends_holds_ip : (Rows.termExtendsRow.inPlace == Tryz.prog.inPlace 7) = true := by kernel_rfl
theorem termExtends_holds_uf : (Rows.termExtendsRow.unfollowed == Tryz.prog.unfollowed 7) = true := by kernel_rfl
theorem termExtends_holds_rc : (Rows.termExtendsRow.recurses == Tryz.prog.recurses 7) = true := by kernel_rfl
theorem termExtends_holds_nm : (Rows.termExtendsRow.named == Tryz.prog.varsNamed 7) = true := by kernel_rfl
theorem termExtends_holds_closed : joinedFacts Tryz.prog 7 Tryz.f7 (OpenSpec.ofChange Rows.termExtendsSpec).bare Rows.termExtendsRow = true := by
  unfold joinedFacts
  exact and_i (and_i (and_i (and_i (and_i (and_i (and_i (and_i (and_i (and_i (and_i (and_i (and_i (and_i (and_i (and_i (and_i (and_i (and_i (and_i (and_i (and_i (and_i (and_i (and_i (and_i (and_i (and_i (and_i (and_i (and_i (termExtends_holds_wf) all_laid) all_maps) (by kernel_rfl)) (by kernel_rfl)) (by kernel_rfl)) all_stops) (by kernel_rfl)) all_knobs) termExtends_holds_ip) termExtends_holds_uf) termExtends_holds_rc) termExtends_holds_nm) (by kernel_rfl)) (by kernel_rfl)) (by kernel_rfl)) (by kernel_rfl)) (by kernel_rfl)) (by kernel_rfl)) (by kernel_rfl)) (by kernel_rfl)) (by kernel_rfl)) all_keys) (by kernel_rfl)) all_heard) all_enter) all_lifts) all_make) (by kernel_rfl)) (by kernel_rfl)) (by kernel_rfl)) (by kernel_rfl)
theorem termExtends_holds_said : Rows.TermExtendsSaid :=
  OpenClaim.holds_of_cond 7 Tryz.f7 rfl rfl rfl rfl rfl rfl rfl ⟨rfl, rfl, rfl, rfl, rfl⟩ rfl rfl rfl rfl rfl (by kernel_rfl) Tryz.func7 termExtends_holds_closed
    (of_decide_eq_true (by kernel_rfl)) (by unfold Func.isWrapper; rw [if_neg (by decide +kernel)]; exact ⟨rfl, rfl⟩)
    (fun os started H enc _ F => by rw [OpenClaim.pre_eq_preRow]; exact termExtends_holds_lifted os started H enc F)
theorem termExtends_holds_plain (f : FuncId) (fn : Func) (hf : Tryz.pinned.checked.prog.funcNamed "bitext/bitextlaw24.TermExtends" = some f) (hfn : Tryz.pinned.checked.prog.funcs[f]? = some fn) :
    false = Tryz.pinned.checked.prog.looks [] ∧ ∀ (j : Nat) t, fn.params[j]? = some t → Tryz.pinned.checked.prog.wantsStandIn t = false := by
  obtain rfl : f = 7 := Option.some.inj ((show Tryz.prog.funcNamed "bitext/bitextlaw24.TermExtends" = some 7 by kernel_rfl).symm.trans hf) |>.symm
  obtain rfl : fn = Tryz.f7 := (Option.some.inj (Tryz.func7.symm.trans hfn)).symm
  refine ⟨by kernel_rfl, fun j t ht => ?_⟩
  rw [Tryz.params7] at ht
  have hm := Array.mem_of_getElem? ht
  simp only [List.mem_toArray, List.mem_cons, List.not_mem_nil, or_false] at hm
  rcases hm with rfl | rfl
  · exact (show Tryz.prog.wantsStandIn 25 = false by kernel_rfl)
  · exact (show Tryz.prog.wantsStandIn 25 = false by kernel_rfl)
theorem termExtends_holds : Rows.TermExtendsCardSaid :=
  Claim7.holds_tied_plain_at .later [] _ _ _ _ termExtends_holds_said (fun _ h => by cases h) (by kernel_rfl) (fun _ h => by cases h) termExtends_row_tie rfl ⟨rfl, rfl⟩ (by kernel_rfl) rfl termExtends_holds_plain (by kernel_rfl)
#print axioms termExtends_holds
end Go.Proofs.YtkklomiipkipnaaGreatDoor
