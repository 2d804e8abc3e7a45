/-
  The law CheckValidates holds where what it reads is of bulk at most 1048576. Conditions: none beyond the statement.
-/
import Derived.Test.YtlfjocbnbceceaaGreatDoorAif
import Derived.Test.YtlfjocbnbceceaaGreatDoorAiLH
import Derived.Test.YtlfjocbnbceceaaGreatDoorAiLG
set_option linter.unusedVariables false
set_option linter.unusedSimpArgs false
namespace Go.Proofs.YtlfjocbnbceceaaGreatDoor
open Go.ChangeShapes Go.WideShapes Go.ChangeAt Go.RowKit Go.Vc
set_option maxRecDepth 100000 in
theorem checkValidates_holds_contract {H : Type} (enc : TypeId × Value → H) (W : World) (base : Nat) (args : Array Value) (ds gs : List (DataW H)) (before : List MemPlace)
    (hval : ∀ (j : Nat) t v, Tryz.f4.params[j]? = some t → args[j]? = some v → Value.okWide Tryz.prog W .any base t v)
    (hW : DataW.Whole enc Tryz.prog Tryz.f4.params.toList Rows.checkValidatesSpec.vars false W args.toList ds gs before)
    (hsz : (DataW.weightsEach Tryz.prog (Tryz.f4.params.toList ++ Rows.checkValidatesSpec.plain.varTypes Tryz.prog) (ds ++ gs)).all (· ≤ reachBytes) = true) (hk : Rows.uptoSmall H (ds ++ gs) = true) (hlaid : laidMetH Tryz.prog Rows.checkValidatesUptoRow.laid W) :
    Calls Tryz.prog 4 args W fun e W' => ∃ v, e = .returned v ∧ Rows.checkValidatesSpec.post enc Tryz.prog Tryz.f4 false true false false W args v W' := by
  have hW' := hW
  have htab : Tab W := tab_of_laid hlaid
  obtain ⟨p, q, hA0, hV, rfl, _, _⟩ := hW
  have hA : DataW.TrodAll enc Tryz.prog W 0 (fun _ => true) true Tryz.f4.params.toList args.toList ds p := hA0
  rw [Tryz.params4] at hA hval hsz
  obtain ⟨v0, vs0, d0, ds0, p0, q0, ha0, rfl, rfl, h0, r0⟩ := trodAll_cons hA
  obtain ⟨v1, vs1, d1, ds1, p1, q1, ha1, rfl, rfl, h1, r1⟩ := trodAll_cons r0
  obtain ⟨v2, vs2, d2, ds2, p2, q2, ha2, rfl, rfl, h2, r2⟩ := trodAll_cons r1
  obtain ⟨v3, vs3, d3, ds3, p3, q3, ha3, rfl, rfl, h3, r3⟩ := trodAll_cons r2
  obtain ⟨rfl, rfl, rfl⟩ := trodAll_nil r3
  obtain rfl : args = #[v0, v1, v2, v3] := by cases args; simp_all
  obtain ⟨rfl, rfl⟩ := trodVars_none hV
  clear hA0
  simp only [List.append_nil] at hW' hsz hk
  have hbb := bulk_bound hk
  have hbk0 : Rows.uptoBulk d0 ≤ 1048576 := Nat.le_trans (bulk_part (by simp)) hbb
  have hbk1 : Rows.uptoBulk d1 ≤ 1048576 := Nat.le_trans (bulk_part (by simp)) hbb
  have hbk2 : Rows.uptoBulk d2 ≤ 1048576 := Nat.le_trans (bulk_part (by simp)) hbb
  have hbk3 : Rows.uptoBulk d3 ≤ 1048576 := Nat.le_trans (bulk_part (by simp)) hbb
  have hlt0 : ∀ x ∈ p0, x.block < W.heap.size := fun x hx => by simpa using hW'.lt x (by simp [hx])
  have hw0 : ∀ m ∈ d0.weights Tryz.prog 28, m ≤ reachBytes := fun m hm => by
    have := List.all_eq_true.1 hsz m (DataW.weights_mem_each (j := 0) (t := 28) rfl rfl m hm)
    simpa using this
  have h0k := h0
  have hv0 := hval 0 28 v0 (by simp) (by simp)
  obtain ⟨fuel0, hf0⟩ := h0
  obtain ⟨cs0, rfl, _⟩ := okWide_struct Tryz.underlying28 hv0
  obtain ⟨lv0, sh0, lo0, ao103, len103, cap103, ao104, len104, cap104, m09, d103, p103, d104, p104, hll0, hcs0, hf103, hf104, hw103, hw104, hA0⟩ := trod_checks Tryz.underlying28 cells_28 rfl rfl rfl rfl rfl rfl rfl rfl rfl rfl Tryz.underlying24 cells_24 Tryz.underlying3 cells_3 Tryz.underlying25 cells_25 Tryz.underlying26 cells_26 (by simpa [Value.cells] using hf0) hw0
  obtain ⟨q0_0, q0_1, q0_2, q0_3, q0_4, q0_5, q0_6, q0_7, q0_8, q0_9, q0_10, q0_11, q0_12, rfl⟩ := list13 hll0
  obtain ⟨b103, o103, l103, rfl, hr103, hj103⟩ := openRB (α := TermL) (Q := fun B x => QT B x) (fun h h9 => QT_mono h h9) Tryz.underlying25 cells_85 (by rw [bytes_85]; decide) (fun n cs d pl h hw => elem_termB Tryz.underlying85 cells_85 rfl cells_83 rfl cells_77 rfl cells_77 Tryz.underlying83 Tryz.underlying77 Tryz.underlying77 cells_88 bytes_88 cells_9 bytes_9 Tryz.underlying9 Tryz.underlying88 rfl cells_9 rfl cells_9 Tryz.underlying9 Tryz.underlying9 h hw) (by simpa [Value.cells] using hf103) hw103
  obtain ⟨b104, o104, l104, rfl, hr104⟩ := openR (α := Clas) Tryz.underlying26 cells_110 (by rw [bytes_110]; decide) (elem_clas Tryz.underlying110 cells_110 rfl cells_9 rfl cells_108 Tryz.underlying9 Tryz.underlying108 cells_112 bytes_112 Tryz.underlying112 rfl cells_9 rfl cells_9 Tryz.underlying9 Tryz.underlying9) (by simpa [Value.cells] using hf104) hw104
  obtain rfl : cs0 = #[.int .i64 q0_0, .int .i64 q0_1, .int .i64 q0_2, .int .i64 q0_3, .int .i64 q0_4, .int .i64 q0_5, .int .i64 q0_6, .int .i64 q0_7, .int .i64 q0_8, .int .i64 q0_9, .int .i64 q0_10, .int .i64 q0_11, .int .i64 q0_12, .int .i64 sh0, .int .i64 lo0, .slice ao103 l103.length cap103, .slice ao104 l104.length cap104] := by have h9 := congrArg List.toArray hcs0; simpa using h9
  have hbk103 : Rows.uptoBulk d103 ≤ 1048576 := by obtain ⟨x1, x2, x3, hd9⟩ := hA0; have h9 := hbk0; rw [hd9] at h9; simp only [Rows.uptoBulk, Rows.uptoBulkAll] at h9; omega
  have hlt1 : ∀ x ∈ p1, x.block < W.heap.size := fun x hx => by simpa using hW'.lt x (by simp [hx])
  have hw1 : ∀ m ∈ d1.weights Tryz.prog 22, m ≤ reachBytes := fun m hm => by
    have := List.all_eq_true.1 hsz m (DataW.weights_mem_each (j := 1) (t := 22) rfl rfl m hm)
    simpa using this
  have h1k := h1
  have hv1 := hval 1 22 v1 (by simp) (by simp)
  obtain ⟨fuel1, hf1⟩ := h1
  obtain ⟨ao1, len1, cap1, rfl⟩ := okWide_slice Tryz.underlying22 hv1
  obtain ⟨b1, o1, l1, rfl, hr1⟩ := openE (α := Int) Tryz.underlying22 cells_3 (by rw [bytes_3]; decide) (elem_int Tryz.underlying3) (by simpa [Value.cells] using hf1) hw1
  have hlt2 : ∀ x ∈ p2, x.block < W.heap.size := fun x hx => by simpa using hW'.lt x (by simp [hx])
  have h2k := h2
  have hv2 := hval 2 3 v2 (by simp) (by simp)
  obtain ⟨n2, rfl⟩ := okWide_int Tryz.underlying3 hv2
  have hlt3 : ∀ x ∈ p3, x.block < W.heap.size := fun x hx => by simpa using hW'.lt x (by simp [hx])
  have h3k := h3
  have hv3 := hval 3 3 v3 (by simp) (by simp)
  obtain ⟨n3, rfl⟩ := okWide_int Tryz.underlying3 hv3
  refine (kvalidates_law hr103 hr104 (fun x hx => QT_jud (hj103.2 x hx) hbk103) hr1 htab).mono fun e W' ⟨he, hE⟩ => ?_
  subst he
  have hB := hE.below
  exact ⟨_, rfl, ⟨_, _, _, [], _, [], hW', (trodAll_cons_mk (shut_bool Tryz.underlying4 _) trodAll_mk0), by have hz := (trodAll_cons_mk (Below.trod laidOut (by kernel_rfl) (of_decide_eq_true (by kernel_rfl)) h0k hB hlt0) (trodAll_cons_mk (Below.trod laidOut (by kernel_rfl) (of_decide_eq_true (by kernel_rfl)) h1k hB hlt1) (trodAll_cons_mk (Below.trod laidOut (by kernel_rfl) (of_decide_eq_true (by kernel_rfl)) h2k hB hlt2) (trodAll_cons_mk (Below.trod laidOut (by kernel_rfl) (of_decide_eq_true (by kernel_rfl)) h3k hB hlt3) trodAll_mk0)))); simp only [List.append_nil] at hz; exact hz, rfl, hB.frame _, fun h => by cases h⟩⟩


theorem checkValidates_holds_laid (os : Os) : laidMet Tryz.prog Rows.checkValidatesUptoRow.laid ((laidWorld os).forCall (fun _ _ => 0) ⟨#[], #[.agg #[.int .i64 0, .int .i64 0, .int .i64 0, .int .i64 0, .int .i64 0, .int .i64 0, .int .i64 0, .int .i64 0, .int .i64 0, .int .i64 0, .int .i64 0, .int .i64 0, .int .i64 0, .int .i64 0, .int .i64 0, .slice none 0 0, .slice none 0 0], .slice none 0 0, .int .i64 0, .int .i64 0], []⟩).memory := laidMet_of_run' 8 (by kernel_rfl) (by kernel_rfl)
theorem checkValidates_holds_reads (os : Os) {H : Type} (enc : TypeId × Value → H) : ∃ places, DataW.whole enc Tryz.prog ((laidWorld os).forCall (fun _ _ => 0) ⟨#[], #[.agg #[.int .i64 0, .int .i64 0, .int .i64 0, .int .i64 0, .int .i64 0, .int .i64 0, .int .i64 0, .int .i64 0, .int .i64 0, .int .i64 0, .int .i64 0, .int .i64 0, .int .i64 0, .int .i64 0, .int .i64 0, .slice none 0 0, .slice none 0 0], .slice none 0 0, .int .i64 0, .int .i64 0], []⟩).memory Tryz.f4.params.toList Rows.checkValidatesSpec.vars false (#[.agg #[.int .i64 0, .int .i64 0, .int .i64 0, .int .i64 0, .int .i64 0, .int .i64 0, .int .i64 0, .int .i64 0, .int .i64 0, .int .i64 0, .int .i64 0, .int .i64 0, .int .i64 0, .int .i64 0, .int .i64 0, .slice none 0 0, .slice none 0 0], .slice none 0 0, .int .i64 0, .int .i64 0] : Array Value).toList 8 = some ([.agg [.agg [.lit (.int .i64 0), .lit (.int .i64 0), .lit (.int .i64 0), .lit (.int .i64 0), .lit (.int .i64 0), .lit (.int .i64 0), .lit (.int .i64 0), .lit (.int .i64 0), .lit (.int .i64 0), .lit (.int .i64 0), .lit (.int .i64 0), .lit (.int .i64 0), .lit (.int .i64 0)], .lit (.int .i64 0), .lit (.int .i64 0), .nil, .nil], .nil, .lit (.int .i64 0), .lit (.int .i64 0)], [], places) := ⟨[], by kernel_rfl⟩
set_option maxRecDepth 100000 in
theorem checkValidates_holds_lifted (os : Os) (started : os.Started) (H : Type) (enc : TypeId × Value → H) (F : Stop.Interp) :
    ReturnsInHanded {} Tryz.checked os 4 .any ((Rows.OpenSpec.upto Rows.checkValidatesSpec).preRow enc Tryz.prog Tryz.f4 Rows.checkValidatesUptoRow.domain false Rows.checkValidatesUptoRow.laid) (((Rows.OpenSpec.upto Rows.checkValidatesSpec).at F).post enc Tryz.prog Tryz.f4 false true false false) := by
  obtain ⟨places, hx⟩ := checkValidates_holds_reads os enc
  refine returnsInHanded_of_row (C := Tryz.checked) (s := (Rows.OpenSpec.upto Rows.checkValidatesSpec)) own started (by kernel_rfl) Tryz.func4
    (witness_row_at (enc := enc) (C := Tryz.checked) false (laidWorld os) #[.agg #[.int .i64 0, .int .i64 0, .int .i64 0, .int .i64 0, .int .i64 0, .int .i64 0, .int .i64 0, .int .i64 0, .int .i64 0, .int .i64 0, .int .i64 0, .int .i64 0, .int .i64 0, .int .i64 0, .int .i64 0, .slice none 0 0, .slice none 0 0], .slice none 0 0, .int .i64 0, .int .i64 0] rfl (by kernel_rfl) (by kernel_rfl) (by kernel_rfl)
      (OpenSpec.preRow_of_cond 8 hx (by kernel_rfl) (fun k hk => by cases hk; kernel_rfl) (by kernel_rfl) (checkValidates_holds_laid os))) ?_
  intro W base args ds gs before hval hW _ hcond hsz hlaid _ _
  exact checkValidates_holds_contract enc W base args ds gs before hval hW hsz (hcond _ rfl) hlaid

theorem checkValidates_holds_wf : Rows.checkValidatesUptoRow.wf (OpenSpec.ofChange (Rows.OpenSpec.upto Rows.checkValidatesSpec).bare) = true := by kernel_rfl
theorem checkValidates_holds_ip : (Rows.checkValidatesUptoRow.inPlace == Tryz.prog.inPlace 4) = true := by kernel_rfl
theorem checkValidates_holds_uf : (Rows.checkValidatesUptoRow.unfollowed == Tryz.prog.unfollowed 4) = true := by kernel_rfl
theorem checkValidates_holds_rc : (Rows.checkValidatesUptoRow.recurses == Tryz.prog.recurses 4) = true := by kernel_rfl
theorem checkValidates_holds_nm : (Rows.checkValidatesUptoRow.named == Tryz.prog.varsNamed 4) = true := by kernel_rfl
theorem checkValidates_holds_closed : joinedFacts Tryz.prog 4 Tryz.f4 (Rows.OpenSpec.upto Rows.checkValidatesSpec).bare Rows.checkValidatesUptoRow = true := by
  unfold joinedFacts
  exact and_i (and_i (and_i (and_i (and_i (and_i (and_i (and_i (and_i (and_i (and_i (and_i (and_i (and_i (and_i (and_i (and_i (and_i (and_i (and_i (and_i (and_i (and_i (and_i (and_i (and_i (and_i (and_i (and_i (and_i (and_i (checkValidates_holds_wf) all_laid) all_maps) (by kernel_rfl)) (by kernel_rfl)) (by kernel_rfl)) all_stops) (by kernel_rfl)) all_knobs) checkValidates_holds_ip) checkValidates_holds_uf) checkValidates_holds_rc) checkValidates_holds_nm) (by kernel_rfl)) (by kernel_rfl)) (by kernel_rfl)) (by kernel_rfl)) (by kernel_rfl)) (by kernel_rfl)) (by kernel_rfl)) (by kernel_rfl)) (by kernel_rfl)) all_keys) (by kernel_rfl)) all_heard) all_enter) all_lifts) all_make) (by kernel_rfl)) (by kernel_rfl)) (by kernel_rfl)) (by kernel_rfl)
theorem checkValidates_holds_said : Rows.CheckValidatesUptoSaid :=
  OpenClaim.holds_of_cond 4 Tryz.f4 rfl rfl rfl rfl rfl rfl rfl ⟨rfl, rfl, rfl, rfl, rfl⟩ rfl rfl rfl rfl rfl (by kernel_rfl) Tryz.func4 checkValidates_holds_closed
    (of_decide_eq_true (by kernel_rfl)) (by unfold Func.isWrapper; rw [if_neg (by decide +kernel)]; exact ⟨rfl, rfl⟩)
    (fun os started H enc _ F => by rw [OpenClaim.pre_eq_preRow]; exact checkValidates_holds_lifted os started H enc F)
theorem checkValidates_holds_plain (f : FuncId) (fn : Func) (hf : Tryz.pinned.checked.prog.funcNamed "bitext/bitextlaw25.CheckValidates" = some f) (hfn : Tryz.pinned.checked.prog.funcs[f]? = some fn) :
    false = Tryz.pinned.checked.prog.looks [] ∧ ∀ (j : Nat) t, fn.params[j]? = some t → Tryz.pinned.checked.prog.wantsStandIn t = false := by
  obtain rfl : f = 4 := Option.some.inj ((show Tryz.prog.funcNamed "bitext/bitextlaw25.CheckValidates" = some 4 by kernel_rfl).symm.trans hf) |>.symm
  obtain rfl : fn = Tryz.f4 := (Option.some.inj (Tryz.func4.symm.trans hfn)).symm
  refine ⟨by kernel_rfl, fun j t ht => ?_⟩
  rw [Tryz.params4] at ht
  have hm := Array.mem_of_getElem? ht
  simp only [List.mem_toArray, List.mem_cons, List.not_mem_nil, or_false] at hm
  rcases hm with rfl | rfl | rfl | rfl
  · exact (show Tryz.prog.wantsStandIn 28 = false by kernel_rfl)
  · exact (show Tryz.prog.wantsStandIn 22 = false by kernel_rfl)
  · exact (show Tryz.prog.wantsStandIn 3 = false by kernel_rfl)
  · exact (show Tryz.prog.wantsStandIn 3 = false by kernel_rfl)
theorem checkValidates_holds : Rows.CheckValidatesUptoCardSaid :=
  Claim7.holds_tied_plain_at .later [] _ _ _ _ checkValidates_holds_said (fun _ h => by cases h) (by kernel_rfl) (fun _ h => by cases h) checkValidatesUpto_row_tie rfl ⟨rfl, rfl⟩ (by kernel_rfl) rfl checkValidates_holds_plain (by kernel_rfl)
#print axioms checkValidates_holds
end Go.Proofs.YtlfjocbnbceceaaGreatDoor
