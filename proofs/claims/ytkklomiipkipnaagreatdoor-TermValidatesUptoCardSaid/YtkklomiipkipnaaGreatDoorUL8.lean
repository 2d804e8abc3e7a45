/-
  The law TermValidates holds where what it reads is of bulk at most 1048576. Conditions: none beyond the statement.
-/
import Derived.Test.YtkklomiipkipnaaGreatDoorUj
import Derived.Test.YtkklomiipkipnaaGreatDoorULH
import Derived.Test.YtkklomiipkipnaaGreatDoorULG
namespace Go.Proofs.YtkklomiipkipnaaGreatDoor
open Go.ChangeShapes Go.WideShapes Go.ChangeAt Go.RowKit Go.Vc
set_option maxRecDepth 100000 in
theorem termValidates_holds_contract {H : Type} (enc : TypeId × Value → H) (W : World) (base : Nat) (args : Array Value) (ds gs : List (DataW H)) (before : List MemPlace)
    (hval : ∀ (j : Nat) t v, Tryz.f10.params[j]? = some t → args[j]? = some v → Value.okWide Tryz.prog W .any base t v)
    (hW : DataW.Whole enc Tryz.prog Tryz.f10.params.toList Rows.termValidatesSpec.vars false W args.toList ds gs before)
    (hsz : (DataW.weightsEach Tryz.prog (Tryz.f10.params.toList ++ Rows.termValidatesSpec.plain.varTypes Tryz.prog) (ds ++ gs)).all (· ≤ reachBytes) = true) (hk : Rows.uptoSmall H (ds ++ gs) = true) :
    Calls Tryz.prog 10 args W fun e W' => ∃ v, e = .returned v ∧ Rows.termValidatesSpec.post enc Tryz.prog Tryz.f10 false true false false W args v W' := by
  have hW' := hW
  obtain ⟨p, q, hA0, hV, rfl, _, _⟩ := hW
  have hA : DataW.TrodAll enc Tryz.prog W 0 (fun _ => true) true Tryz.f10.params.toList args.toList ds p := hA0
  rw [Tryz.params10] at hA hval hsz
  obtain ⟨v0, vs0, d0, ds0, p0, q0, ha0, rfl, rfl, h0, r0⟩ := trodAll_cons hA
  obtain ⟨v1, vs1, d1, ds1, p1, q1, ha1, rfl, rfl, h1, r1⟩ := trodAll_cons r0
  obtain ⟨v2, vs2, d2, ds2, p2, q2, ha2, rfl, rfl, h2, r2⟩ := trodAll_cons r1
  obtain ⟨v3, vs3, d3, ds3, p3, q3, ha3, rfl, rfl, h3, r3⟩ := trodAll_cons r2
  obtain ⟨rfl, rfl, rfl⟩ := trodAll_nil r3
  obtain rfl : args = #[v0, v1, v2, v3] := by cases args; simp_all
  obtain ⟨rfl, rfl⟩ := trodVars_none hV
  clear hA0
  simp only [List.append_nil] at hW' hsz hk
  have hbb := bulk_bound hk
  have hbk0 : Rows.uptoBulk d0 ≤ 1048576 := Nat.le_trans (bulk_part (by simp)) hbb
  have hbk1 : Rows.uptoBulk d1 ≤ 1048576 := Nat.le_trans (bulk_part (by simp)) hbb
  have hbk2 : Rows.uptoBulk d2 ≤ 1048576 := Nat.le_trans (bulk_part (by simp)) hbb
  have hbk3 : Rows.uptoBulk d3 ≤ 1048576 := Nat.le_trans (bulk_part (by simp)) hbb
  have hlt0 : ∀ x ∈ p0, x.block < W.heap.size := fun x hx => by simpa using hW'.lt x (by simp [hx])
  have hw0 : ∀ m ∈ d0.weights Tryz.prog 22, m ≤ reachBytes := fun m hm => by
    have := List.all_eq_true.1 hsz m (DataW.weights_mem_each (j := 0) (t := 22) rfl rfl m hm)
    simpa using this
  have h0k := h0
  have hv0 := hval 0 22 v0 (by simp) (by simp)
  obtain ⟨fuel0, hf0⟩ := h0
  obtain ⟨ao0, len0, cap0, rfl⟩ := okWide_slice Tryz.underlying22 hv0
  obtain ⟨b0, o0, l0, rfl, hr0, hj0⟩ := openRB (α := TermL) (Q := fun B x => QT B x) (fun h h9 => QT_mono h h9) Tryz.underlying22 cells_42 (by rw [bytes_42]; decide) (fun n cs d pl h hw => elem_termB Tryz.underlying42 cells_42 rfl cells_39 rfl cells_40 rfl cells_40 Tryz.underlying39 Tryz.underlying40 Tryz.underlying40 cells_60 bytes_60 cells_9 bytes_9 Tryz.underlying9 Tryz.underlying60 rfl cells_9 rfl cells_9 Tryz.underlying9 Tryz.underlying9 h hw) (by simpa [Value.cells] using hf0) hw0
  have hlt1 : ∀ x ∈ p1, x.block < W.heap.size := fun x hx => by simpa using hW'.lt x (by simp [hx])
  have hw1 : ∀ m ∈ d1.weights Tryz.prog 23, m ≤ reachBytes := fun m hm => by
    have := List.all_eq_true.1 hsz m (DataW.weights_mem_each (j := 1) (t := 23) rfl rfl m hm)
    simpa using this
  have h1k := h1
  have hv1 := hval 1 23 v1 (by simp) (by simp)
  obtain ⟨fuel1, hf1⟩ := h1
  obtain ⟨ao1, len1, cap1, rfl⟩ := okWide_slice Tryz.underlying23 hv1
  obtain ⟨b1, o1, l1, rfl, hr1⟩ := openR (α := Clas) Tryz.underlying23 cells_70 (by rw [bytes_70]; decide) (elem_clas Tryz.underlying70 cells_70 rfl cells_9 rfl cells_68 Tryz.underlying9 Tryz.underlying68 cells_107 bytes_107 Tryz.underlying107 rfl cells_9 rfl cells_9 Tryz.underlying9 Tryz.underlying9) (by simpa [Value.cells] using hf1) hw1
  have hlt2 : ∀ x ∈ p2, x.block < W.heap.size := fun x hx => by simpa using hW'.lt x (by simp [hx])
  have hw2 : ∀ m ∈ d2.weights Tryz.prog 25, m ≤ reachBytes := fun m hm => by
    have := List.all_eq_true.1 hsz m (DataW.weights_mem_each (j := 2) (t := 25) rfl rfl m hm)
    simpa using this
  have h2k := h2
  have hv2 := hval 2 25 v2 (by simp) (by simp)
  obtain ⟨fuel2, hf2⟩ := h2
  obtain ⟨ao2, len2, cap2, rfl⟩ := okWide_slice Tryz.underlying25 hv2
  obtain ⟨b2, o2, l2, rfl, hr2⟩ := openE (α := Int) Tryz.underlying25 cells_3 (by rw [bytes_3]; decide) (elem_int Tryz.underlying3) (by simpa [Value.cells] using hf2) hw2
  have hlt3 : ∀ x ∈ p3, x.block < W.heap.size := fun x hx => by simpa using hW'.lt x (by simp [hx])
  have hw3 : ∀ m ∈ d3.weights Tryz.prog 42, m ≤ reachBytes := fun m hm => by
    have := List.all_eq_true.1 hsz m (DataW.weights_mem_each (j := 3) (t := 42) rfl rfl m hm)
    simpa using this
  have h3k := h3
  have hv3 := hval 3 42 v3 (by simp) (by simp)
  obtain ⟨fuel3, hf3⟩ := h3
  obtain ⟨cs3, rfl, _⟩ := okWide_struct Tryz.underlying42 hv3
  obtain ⟨x3, ⟨⟨aoW3, bW3, ofW3, cpW3, aoQ3, bQ3, ofQ3, cpQ3, aoF3, bF3, ofF3, cpF3, hcs3, hW3, hQ3, hF3⟩, hxb3⟩, hj3⟩ := elem_termB Tryz.underlying42 cells_42 rfl cells_39 rfl cells_40 rfl cells_40 Tryz.underlying39 Tryz.underlying40 Tryz.underlying40 cells_60 bytes_60 cells_9 bytes_9 Tryz.underlying9 Tryz.underlying60 rfl cells_9 rfl cells_9 Tryz.underlying9 Tryz.underlying9 (by simpa [Value.cells] using hf3) hw3
  obtain rfl : cs3 = #[.slice aoW3 x3.words.length cpW3, .slice aoQ3 x3.req.length cpQ3, .slice aoF3 x3.forb.length cpF3] := by have h9 := congrArg List.toArray hcs3; simpa using h9
  refine (tvalidates_law hr0 hr1 (fun x hx => QT_jud (hj0.2 x hx) hbk0) hr2 hW3 hQ3 hF3 (QT_jud hj3 hbk3) hxb3 (Nat.le_trans hj0.1 hbk0)).mono fun e W' ⟨he, hE⟩ => ?_
  subst he
  have hB := hE.below
  exact ⟨_, rfl, ⟨_, _, _, [], _, [], hW', (trodAll_cons_mk (shut_bool Tryz.underlying4 _) trodAll_mk0), by have hz := (trodAll_cons_mk (Below.trod laidOut (by kernel_rfl) (of_decide_eq_true (by kernel_rfl)) h0k hB hlt0) (trodAll_cons_mk (Below.trod laidOut (by kernel_rfl) (of_decide_eq_true (by kernel_rfl)) h1k hB hlt1) (trodAll_cons_mk (Below.trod laidOut (by kernel_rfl) (of_decide_eq_true (by kernel_rfl)) h2k hB hlt2) (trodAll_cons_mk (Below.trod laidOut (by kernel_rfl) (of_decide_eq_true (by kernel_rfl)) h3k hB hlt3) trodAll_mk0)))); simp only [List.append_nil] at hz; exact hz, rfl, hB.frame _, fun h => by cases h⟩⟩


theorem termValidates_holds_laid (os : Os) : laidMet Tryz.prog Rows.termValidatesUptoRow.laid ((laidWorld os).forCall (fun _ _ => 0) ⟨#[], #[.slice none 0 0, .slice none 0 0, .slice none 0 0, .agg #[.slice none 0 0, .slice none 0 0, .slice none 0 0]], []⟩).memory := laidMet_of_run' 8 (by kernel_rfl) (by kernel_rfl)
theorem termValidates_holds_reads (os : Os) {H : Type} (enc : TypeId × Value → H) : ∃ places, DataW.whole enc Tryz.prog ((laidWorld os).forCall (fun _ _ => 0) ⟨#[], #[.slice none 0 0, .slice none 0 0, .slice none 0 0, .agg #[.slice none 0 0, .slice none 0 0, .slice none 0 0]], []⟩).memory Tryz.f10.params.toList Rows.termValidatesSpec.vars false (#[.slice none 0 0, .slice none 0 0, .slice none 0 0, .agg #[.slice none 0 0, .slice none 0 0, .slice none 0 0]] : Array Value).toList 8 = some ([.nil, .nil, .nil, .agg [.nil, .nil, .nil]], [], places) := ⟨[], by kernel_rfl⟩
set_option maxRecDepth 100000 in
theorem termValidates_holds_lifted (os : Os) (started : os.Started) (H : Type) (enc : TypeId × Value → H) (F : Stop.Interp) :
    ReturnsInHanded {} Tryz.checked os 10 .any ((Rows.OpenSpec.upto Rows.termValidatesSpec).preRow enc Tryz.prog Tryz.f10 Rows.termValidatesUptoRow.domain false Rows.termValidatesUptoRow.laid) (((Rows.OpenSpec.upto Rows.termValidatesSpec).at F).post enc Tryz.prog Tryz.f10 false true false false) := by
  obtain ⟨places, hx⟩ := termValidates_holds_reads os enc
  refine returnsInHanded_of_row (C := Tryz.checked) (s := (Rows.OpenSpec.upto Rows.termValidatesSpec)) own started (by kernel_rfl) Tryz.func10
    (witness_row_at (enc := enc) (C := Tryz.checked) false (laidWorld os) #[.slice none 0 0, .slice none 0 0, .slice none 0 0, .agg #[.slice none 0 0, .slice none 0 0, .slice none 0 0]] rfl (by kernel_rfl) (by kernel_rfl) (by kernel_rfl)
      (OpenSpec.preRow_of_cond 8 hx (by kernel_rfl) (fun k hk => by cases hk; kernel_rfl) (by kernel_rfl) (termValidates_holds_laid os))) ?_
  intro W base args ds gs before hval hW _ hcond hsz _ _ _
  exact termValidates_holds_contract enc W base args ds gs before hval hW hsz (hcond _ rfl)

theorem termValidates_holds_wf : Rows.termValidatesUptoRow.wf (OpenSpec.ofChange (Rows.OpenSpec.upto Rows.termValidatesSpec).bare) = true := by kernel_rfl
theorem termValidates_holds_ip : (Rows.termValidatesUptoRow.inPlace == Tryz.prog.inPlace 10) = true := by kernel_rfl
theorem termValidates_holds_uf : (Rows.termValidatesUptoRow.unfollowed == Tryz.prog.unfollowed 10) = true := by kernel_rfl
theorem termValidates_holds_rc : (Rows.termValidatesUptoRow.recurses == Tryz.prog.recurses 10) = true := by kernel_rfl
theorem termValidates_holds_nm : (Rows.termValidatesUptoRow.named == Tryz.prog.varsNamed 10) = true := by kernel_rfl
theorem termValidates_holds_closed : joinedFacts Tryz.prog 10 Tryz.f10 (Rows.OpenSpec.upto Rows.termValidatesSpec).bare Rows.termValidatesUptoRow = true := by
  unfold joinedFacts
  exact and_i (and_i (and_i (and_i (and_i (and_i (and_i (and_i (and_i (and_i (and_i (and_i (and_i (and_i (and_i (and_i (and_i (and_i (and_i (and_i (and_i (and_i (and_i (and_i (and_i (and_i (and_i (and_i (and_i (and_i (and_i (termValidates_holds_wf) all_laid) all_maps) (by kernel_rfl)) (by kernel_rfl)) (by kernel_rfl)) all_stops) (by kernel_rfl)) all_knobs) termValidates_holds_ip) termValidates_holds_uf) termValidates_holds_rc) termValidates_holds_nm) (by kernel_rfl)) (by kernel_rfl)) (by kernel_rfl)) (by kernel_rfl)) (by kernel_rfl)) (by kernel_rfl)) (by kernel_rfl)) (by kernel_rfl)) (by kernel_rfl)) all_keys) (by kernel_rfl)) all_heard) all_enter) all_lifts) all_make) (by kernel_rfl)) (by kernel_rfl)) (by kernel_rfl)) (by kernel_rfl)
theorem termValidates_holds_said : Rows.TermValidatesUptoSaid :=
  OpenClaim.holds_of_cond 10 Tryz.f10 rfl rfl rfl rfl rfl rfl rfl ⟨rfl, rfl, rfl, rfl, rfl⟩ rfl rfl rfl rfl rfl (by kernel_rfl) Tryz.func10 termValidates_holds_closed
    (of_decide_eq_true (by kernel_rfl)) (by unfold Func.isWrapper; rw [if_neg (by decide +kernel)]; exact ⟨rfl, rfl⟩)
    (fun os started H enc _ F => by rw [OpenClaim.pre_eq_preRow]; exact termValidates_holds_lifted os started H enc F)
theorem termValidates_holds_plain (f : FuncId) (fn : Func) (hf : Tryz.pinned.checked.prog.funcNamed "bitext/bitextlaw24.TermValidates" = some f) (hfn : Tryz.pinned.checked.prog.funcs[f]? = some fn) :
    false = Tryz.pinned.checked.prog.looks [] ∧ ∀ (j : Nat) t, fn.params[j]? = some t → Tryz.pinned.checked.prog.wantsStandIn t = false := by
  obtain rfl : f = 10 := Option.some.inj ((show Tryz.prog.funcNamed "bitext/bitextlaw24.TermValidates" = some 10 by kernel_rfl).symm.trans hf) |>.symm
  obtain rfl : fn = Tryz.f10 := (Option.some.inj (Tryz.func10.symm.trans hfn)).symm
  refine ⟨by kernel_rfl, fun j t ht => ?_⟩
  rw [Tryz.params10] at ht
  have hm := Array.mem_of_getElem? ht
  simp only [List.mem_toArray, List.mem_cons, List.not_mem_nil, or_false] at hm
  rcases hm with rfl | rfl | rfl | rfl
  · exact (show Tryz.prog.wantsStandIn 22 = false by kernel_rfl)
  · exact (show Tryz.prog.wantsStandIn 23 = false by kernel_rfl)
  · exact (show Tryz.prog.wantsStandIn 25 = false by kernel_rfl)
  · exact (show Tryz.prog.wantsStandIn 42 = false by kernel_rfl)
theorem termValidates_holds : Rows.TermValidatesUptoCardSaid :=
  Claim7.holds_tied_plain_at .later [] _ _ _ _ termValidates_holds_said (fun _ h => by cases h) (by kernel_rfl) (fun _ h => by cases h) termValidatesUpto_row_tie rfl ⟨rfl, rfl⟩ (by kernel_rfl) rfl termValidates_holds_plain (by kernel_rfl)
#print axioms termValidates_holds
end Go.Proofs.YtkklomiipkipnaaGreatDoor
