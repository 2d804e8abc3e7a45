/-
  The law CheckRefuses holds. Conditions: none beyond the statement.
-/
import Derived.Test.YtlfjocbnbceceaaGreatDoorAjh
import Derived.Test.YtlfjocbnbceceaaGreatDoorAjLH
import Derived.Test.YtlfjocbnbceceaaGreatDoorAjLG
set_option linter.unusedVariables false
set_option linter.unusedSimpArgs false
namespace Go.Proofs.YtlfjocbnbceceaaGreatDoor
open Go.ChangeShapes Go.WideShapes Go.ChangeAt Go.RowKit Go.Vc
set_option maxRecDepth 100000 in
theorem cr_contract {H : Type} (enc : TypeId × Value → H) (W : World) (base : Nat) (args : Array Value) (ds gs : List (DataW H)) (before : List MemPlace)
    (hval : ∀ (j : Nat) t v, Tryz.f10.params[j]? = some t → args[j]? = some v → Value.okWide Tryz.prog W .any base t v)
    (hW : DataW.Whole enc Tryz.prog Tryz.f10.params.toList Rows.checkRefusesSpec.vars false W args.toList ds gs before)
    (hsz : (DataW.weightsEach Tryz.prog (Tryz.f10.params.toList ++ Rows.checkRefusesSpec.plain.varTypes Tryz.prog) (ds ++ gs)).all (· ≤ reachBytes) = true) (hlaid : laidMetH Tryz.prog Rows.checkRefusesRow.laid W) :
    Calls Tryz.prog 10 args W fun e W' => ∃ v, e = .returned v ∧ Rows.checkRefusesSpec.post enc Tryz.prog Tryz.f10 false true false false W args v W' := by
  have hW' := hW
  have htab : Tab W := tab_of_laid hlaid
  obtain ⟨p, q, hA0, hV, rfl, _, _⟩ := hW
  have hA : DataW.TrodAll enc Tryz.prog W 0 (fun _ => true) true Tryz.f10.params.toList args.toList ds p := hA0
  rw [Tryz.params10] at hA hval hsz
  obtain ⟨v0, vs0, d0, ds0, p0, q0, ha0, rfl, rfl, h0, r0⟩ := trodAll_cons hA
  obtain ⟨v1, vs1, d1, ds1, p1, q1, ha1, rfl, rfl, h1, r1⟩ := trodAll_cons r0
  obtain ⟨v2, vs2, d2, ds2, p2, q2, ha2, rfl, rfl, h2, r2⟩ := trodAll_cons r1
  obtain ⟨v3, vs3, d3, ds3, p3, q3, ha3, rfl, rfl, h3, r3⟩ := trodAll_cons r2
  obtain ⟨rfl, rfl, rfl⟩ := trodAll_nil r3
  obtain rfl : args = #[v0, v1, v2, v3] := by cases args; simp_all
  obtain ⟨rfl, rfl⟩ := trodVars_none hV
  clear hA0
  simp only [List.append_nil] at hW' hsz
  have hlt0 : ∀ x ∈ p0, x.block < W.heap.size := fun x hx => by simpa using hW'.lt x (by simp [hx])
  have hw0 : ∀ m ∈ d0.weights Tryz.prog 28, m ≤ reachBytes := fun m hm => by
    have := List.all_eq_true.1 hsz m (DataW.weights_mem_each (j := 0) (t := 28) rfl rfl m hm)
    simpa using this
  have h0k := h0
  have hv0 := hval 0 28 v0 (by simp) (by simp)
  obtain ⟨fuel0, hf0⟩ := h0
  obtain ⟨cs0, rfl, _⟩ := okWide_struct Tryz.underlying28 hv0
  obtain ⟨lv0, sh0, lo0, ao103, len103, cap103, ao104, len104, cap104, m09, d103, p103, d104, p104, hll0, hcs0, hf103, hf104, hw103, hw104, hA0⟩ := trod_checks Tryz.underlying28 cells_28 rfl rfl rfl rfl rfl rfl rfl rfl rfl rfl Tryz.underlying24 cells_24 Tryz.underlying3 cells_3 Tryz.underlying25 cells_25 Tryz.underlying26 cells_26 (by simpa [Value.cells] using hf0) hw0
  obtain ⟨q0_0, q0_1, q0_2, q0_3, q0_4, q0_5, q0_6, q0_7, q0_8, q0_9, q0_10, q0_11, q0_12, rfl⟩ := list13 hll0
  have hz103 : len103 ≤ 1954687338760 := by have h9 := open_len (e := 85) Tryz.underlying25 (by simpa [Value.cells] using hf103) hw103; rw [bytes_85] at h9; have h8 : reachBytes = 140737488351232 := rfl; omega
  obtain ⟨b103, o103, l103, rfl, hr103⟩ := openR (α := TermL) Tryz.underlying25 cells_85 (by rw [bytes_85]; decide) (fun enc w base sp hd n cs d pl h hw => (elem_term Tryz.underlying85 cells_85 rfl cells_83 rfl cells_77 rfl cells_77 Tryz.underlying83 Tryz.underlying77 Tryz.underlying77 cells_88 bytes_88 cells_9 bytes_9 Tryz.underlying9 Tryz.underlying88 rfl cells_9 rfl cells_9 Tryz.underlying9 Tryz.underlying9 h hw).imp (fun x h9 => h9.1)) (by simpa [Value.cells] using hf103) hw103
  obtain ⟨b104, o104, l104, rfl, hr104⟩ := openR (α := Clas) Tryz.underlying26 cells_110 (by rw [bytes_110]; decide) (elem_clas Tryz.underlying110 cells_110 rfl cells_9 rfl cells_108 Tryz.underlying9 Tryz.underlying108 cells_112 bytes_112 Tryz.underlying112 rfl cells_9 rfl cells_9 Tryz.underlying9 Tryz.underlying9) (by simpa [Value.cells] using hf104) hw104
  obtain rfl : cs0 = #[.int .i64 q0_0, .int .i64 q0_1, .int .i64 q0_2, .int .i64 q0_3, .int .i64 q0_4, .int .i64 q0_5, .int .i64 q0_6, .int .i64 q0_7, .int .i64 q0_8, .int .i64 q0_9, .int .i64 q0_10, .int .i64 q0_11, .int .i64 q0_12, .int .i64 sh0, .int .i64 lo0, .slice ao103 l103.length cap103, .slice ao104 l104.length cap104] := by have h9 := congrArg List.toArray hcs0; simpa using h9
  have hlt1 : ∀ x ∈ p1, x.block < W.heap.size := fun x hx => by simpa using hW'.lt x (by simp [hx])
  have hw1 : ∀ m ∈ d1.weights Tryz.prog 34, m ≤ reachBytes := fun m hm => by
    have := List.all_eq_true.1 hsz m (DataW.weights_mem_each (j := 1) (t := 34) rfl rfl m hm)
    simpa using this
  have h1k := h1
  have hv1 := hval 1 34 v1 (by simp) (by simp)
  obtain ⟨fuel1, hf1⟩ := h1
  obtain ⟨ao1, len1, cap1, rfl⟩ := okWide_slice Tryz.underlying34 hv1
  obtain ⟨b1, o1, l1, rfl, hr1, hq1⟩ := openEQ (α := Vc.Item) Tryz.underlying34 cells_39 (by rw [bytes_39]; decide) (fun n cs d pl h hw => elem_itemI Tryz.underlying39 cells_39 rfl cells_3 rfl cells_9 rfl cells_3 Tryz.underlying3 Tryz.underlying9 Tryz.underlying3 h hw) (by simpa [Value.cells] using hf1) hw1
  have hlt2 : ∀ x ∈ p2, x.block < W.heap.size := fun x hx => by simpa using hW'.lt x (by simp [hx])
  have hw2 : ∀ m ∈ d2.weights Tryz.prog 22, m ≤ reachBytes := fun m hm => by
    have := List.all_eq_true.1 hsz m (DataW.weights_mem_each (j := 2) (t := 22) rfl rfl m hm)
    simpa using this
  have h2k := h2
  have hv2 := hval 2 22 v2 (by simp) (by simp)
  obtain ⟨fuel2, hf2⟩ := h2
  obtain ⟨ao2, len2, cap2, rfl⟩ := okWide_slice Tryz.underlying22 hv2
  obtain ⟨b2, o2, l2, rfl, hr2⟩ := openE (α := Int) Tryz.underlying22 cells_3 (by rw [bytes_3]; decide) (elem_int Tryz.underlying3) (by simpa [Value.cells] using hf2) hw2
  have hlt3 : ∀ x ∈ p3, x.block < W.heap.size := fun x hx => by simpa using hW'.lt x (by simp [hx])
  have hw3 : ∀ m ∈ d3.weights Tryz.prog 22, m ≤ reachBytes := fun m hm => by
    have := List.all_eq_true.1 hsz m (DataW.weights_mem_each (j := 3) (t := 22) rfl rfl m hm)
    simpa using this
  have h3k := h3
  have hv3 := hval 3 22 v3 (by simp) (by simp)
  obtain ⟨fuel3, hf3⟩ := h3
  obtain ⟨ao3, len3, cap3, rfl⟩ := okWide_slice Tryz.underlying22 hv3
  obtain ⟨b3, o3, l3, rfl, hr3⟩ := openE (α := Int) Tryz.underlying22 cells_3 (by rw [bytes_3]; decide) (elem_int Tryz.underlying3) (by simpa [Value.cells] using hf3) hw3
  refine (krefuses_law hr103 hr104 hr1 hr2 hr3 htab).mono fun e W' ⟨he, hE⟩ => ?_
  subst he
  have hB := hE.below
  exact ⟨_, rfl, ⟨_, _, _, [], _, [], hW', (trodAll_cons_mk (shut_bool Tryz.underlying4 _) trodAll_mk0), by have hz := (trodAll_cons_mk (Below.trod laidOut (by kernel_rfl) (of_decide_eq_true (by kernel_rfl)) h0k hB hlt0) (trodAll_cons_mk (Below.trod laidOut (by kernel_rfl) (of_decide_eq_true (by kernel_rfl)) h1k hB hlt1) (trodAll_cons_mk (Below.trod laidOut (by kernel_rfl) (of_decide_eq_true (by kernel_rfl)) h2k hB hlt2) (trodAll_cons_mk (Below.trod laidOut (by kernel_rfl) (of_decide_eq_true (by kernel_rfl)) h3k hB hlt3) trodAll_mk0)))); simp only [List.append_nil] at hz; exact hz, rfl, hB.frame _, fun h => by cases h⟩⟩


theorem cr_laid (os : Os) : laidMet Tryz.prog Rows.checkRefusesRow.laid ((laidWorld os).forCall (fun _ _ => 0) ⟨#[], #[.agg #[.int .i64 0, .int .i64 0, .int .i64 0, .int .i64 0, .int .i64 0, .int .i64 0, .int .i64 0, .int .i64 0, .int .i64 0, .int .i64 0, .int .i64 0, .int .i64 0, .int .i64 0, .int .i64 0, .int .i64 0, .slice none 0 0, .slice none 0 0], .slice none 0 0, .slice none 0 0, .slice none 0 0], []⟩).memory := laidMet_of_run' 8 (by kernel_rfl) (by kernel_rfl)
theorem cr_reads (os : Os) {H : Type} (enc : TypeId × Value → H) : ∃ places, DataW.whole enc Tryz.prog ((laidWorld os).forCall (fun _ _ => 0) ⟨#[], #[.agg #[.int .i64 0, .int .i64 0, .int .i64 0, .int .i64 0, .int .i64 0, .int .i64 0, .int .i64 0, .int .i64 0, .int .i64 0, .int .i64 0, .int .i64 0, .int .i64 0, .int .i64 0, .int .i64 0, .int .i64 0, .slice none 0 0, .slice none 0 0], .slice none 0 0, .slice none 0 0, .slice none 0 0], []⟩).memory Tryz.f10.params.toList Rows.checkRefusesSpec.vars false (#[.agg #[.int .i64 0, .int .i64 0, .int .i64 0, .int .i64 0, .int .i64 0, .int .i64 0, .int .i64 0, .int .i64 0, .int .i64 0, .int .i64 0, .int .i64 0, .int .i64 0, .int .i64 0, .int .i64 0, .int .i64 0, .slice none 0 0, .slice none 0 0], .slice none 0 0, .slice none 0 0, .slice none 0 0] : Array Value).toList 8 = some ([.agg [.agg [.lit (.int .i64 0), .lit (.int .i64 0), .lit (.int .i64 0), .lit (.int .i64 0), .lit (.int .i64 0), .lit (.int .i64 0), .lit (.int .i64 0), .lit (.int .i64 0), .lit (.int .i64 0), .lit (.int .i64 0), .lit (.int .i64 0), .lit (.int .i64 0), .lit (.int .i64 0)], .lit (.int .i64 0), .lit (.int .i64 0), .nil, .nil], .nil, .nil, .nil], [], places) := ⟨[], by kernel_rfl⟩
set_option maxRecDepth 100000 in
theorem cr_lifted (os : Os) (started : os.Started) (H : Type) (enc : TypeId × Value → H) (F : Stop.Interp) :
    ReturnsInHanded {} Tryz.checked os 10 .any ((OpenSpec.ofChange Rows.checkRefusesSpec).preRow enc Tryz.prog Tryz.f10 Rows.checkRefusesRow.domain false Rows.checkRefusesRow.laid) (((OpenSpec.ofChange Rows.checkRefusesSpec).at F).post enc Tryz.prog Tryz.f10 false true false false) := by
  obtain ⟨places, hx⟩ := cr_reads os enc
  refine returnsInHanded_of_row (C := Tryz.checked) (s := (OpenSpec.ofChange Rows.checkRefusesSpec)) own started (by kernel_rfl) Tryz.func10
    (witness_row_at (enc := enc) (C := Tryz.checked) false (laidWorld os) #[.agg #[.int .i64 0, .int .i64 0, .int .i64 0, .int .i64 0, .int .i64 0, .int .i64 0, .int .i64 0, .int .i64 0, .int .i64 0, .int .i64 0, .int .i64 0, .int .i64 0, .int .i64 0, .int .i64 0, .int .i64 0, .slice none 0 0, .slice none 0 0], .slice none 0 0, .slice none 0 0, .slice none 0 0] rfl (by kernel_rfl) (by kernel_rfl) (by kernel_rfl)
      (OpenSpec.preRow_of_cond 8 hx (by kernel_rfl) (fun k hk => by cases hk) (by kernel_rfl) (cr_laid os))) ?_
  intro W base args ds gs before hval hW _ hcond hsz hlaid _ _
  exact cr_contract enc W base args ds gs before hval hW hsz hlaid

theorem cr_wf : Rows.checkRefusesRow.wf (OpenSpec.ofChange Rows.checkRefusesSpec) = true := by kernel_rfl
theorem cr_ip : (Rows.checkRefusesRow.inPlace == Tryz.prog.inPlace 10) = true := by kernel_rfl
theorem cr_uf : (Rows.checkRefusesRow.unfollowed == Tryz.prog.unfollowed 10) = true := by kernel_rfl
theorem cr_rc : (Rows.checkRefusesRow.recurses == Tryz.prog.recurses 10) = true := by kernel_rfl
theorem cr_nm : (Rows.checkRefusesRow.named == Tryz.prog.varsNamed 10) = true := by kernel_rfl
theorem cr_closed : joinedFacts Tryz.prog 10 Tryz.f10 (OpenSpec.ofChange Rows.checkRefusesSpec).bare Rows.checkRefusesRow = true := by
  unfold joinedFacts
  exact and_i (and_i (and_i (and_i (and_i (and_i (and_i (and_i (and_i (and_i (and_i (and_i (and_i (and_i (and_i (and_i (and_i (and_i (and_i (and_i (and_i (and_i (and_i (and_i (and_i (and_i (and_i (and_i (and_i (and_i (and_i (cr_wf) all_laid) all_maps) (by kernel_rfl)) (by kernel_rfl)) (by kernel_rfl)) all_stops) (by kernel_rfl)) all_knobs) cr_ip) cr_uf) cr_rc) cr_nm) (by kernel_rfl)) (by kernel_rfl)) (by kernel_rfl)) (by kernel_rfl)) (by kernel_rfl)) (by kernel_rfl)) (by kernel_rfl)) (by kernel_rfl)) (by kernel_rfl)) all_keys) (by kernel_rfl)) all_heard) all_enter) all_lifts) all_make) (by kernel_rfl)) (by kernel_rfl)) (by kernel_rfl)) (by kernel_rfl)
theorem cr_said : Rows.CheckRefusesSaid :=
  OpenClaim.holds_of_cond 10 Tryz.f10 rfl rfl rfl rfl rfl rfl rfl ⟨rfl, rfl, rfl, rfl, rfl⟩ rfl rfl rfl rfl rfl (by kernel_rfl) Tryz.func10 cr_closed
    (of_decide_eq_true (by kernel_rfl)) (by unfold Func.isWrapper; rw [if_neg (by decide +kernel)]; exact ⟨rfl, rfl⟩)
    (fun os started H enc _ F => by rw [OpenClaim.pre_eq_preRow]; exact cr_lifted os started H enc F)
theorem cr_plain (f : FuncId) (fn : Func) (hf : Tryz.pinned.checked.prog.funcNamed "bitext/bitextlaw25.CheckRefuses" = some f) (hfn : Tryz.pinned.checked.prog.funcs[f]? = some fn) :
    false = Tryz.pinned.checked.prog.looks [] ∧ ∀ (j : Nat) t, fn.params[j]? = some t → Tryz.pinned.checked.prog.wantsStandIn t = false := by
  obtain rfl : f = 10 := Option.some.inj ((show Tryz.prog.funcNamed "bitext/bitextlaw25.CheckRefuses" = some 10 by kernel_rfl).symm.trans hf) |>.symm
  obtain rfl : fn = Tryz.f10 := (Option.some.inj (Tryz.func10.symm.trans hfn)).symm
  refine ⟨by kernel_rfl, fun j t ht => ?_⟩
  rw [Tryz.params10] at ht
  have hm := Array.mem_of_getElem? ht
  simp only [List.mem_toArray, List.mem_cons, List.not_mem_nil, or_false] at hm
  rcases hm with rfl | rfl | rfl | rfl
  · exact (show Tryz.prog.wantsStandIn 28 = false by kernel_rfl)
  · exact (show Tryz.prog.wantsStandIn 34 = false by kernel_rfl)
  · exact (show Tryz.prog.wantsStandIn 22 = false by kernel_rfl)
  · exact (show Tryz.prog.wantsStandIn 22 = false by kernel_rfl)
theorem checkRefuses_holds : Rows.CheckRefusesCardSaid :=
  Claim7.holds_tied_plain_at .later [] _ _ _ _ cr_said (fun _ h => by cases h) (by kernel_rfl) (fun _ h => by cases h) checkRefuses_row_tie rfl ⟨rfl, rfl⟩ (by kernel_rfl) rfl cr_plain (by kernel_rfl)
#print axioms checkRefuses_holds
end Go.Proofs.YtlfjocbnbceceaaGreatDoor
