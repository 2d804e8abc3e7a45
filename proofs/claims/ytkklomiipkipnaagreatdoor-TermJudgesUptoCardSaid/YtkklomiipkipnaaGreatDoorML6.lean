/-
  The law TermJudges holds where what it reads is of bulk at most 1048576. Conditions: none beyond the statement.
-/
import Derived.Test.YtkklomiipkipnaaGreatDoorMj
import Derived.Test.YtkklomiipkipnaaGreatDoorMLH
import Derived.Test.YtkklomiipkipnaaGreatDoorMLG
namespace Go.Proofs.YtkklomiipkipnaaGreatDoor
open Go.ChangeShapes Go.WideShapes Go.ChangeAt Go.RowKit Go.Vc
set_option maxRecDepth 100000 in
theorem termJudges_holds_contract {H : Type} (enc : TypeId × Value → H) (W : World) (base : Nat) (args : Array Value) (ds gs : List (DataW H)) (before : List MemPlace)
    (hval : ∀ (j : Nat) t v, Tryz.f8.params[j]? = some t → args[j]? = some v → Value.okWide Tryz.prog W .any base t v)
    (hW : DataW.Whole enc Tryz.prog Tryz.f8.params.toList Rows.termJudgesSpec.vars false W args.toList ds gs before)
    (hsz : (DataW.weightsEach Tryz.prog (Tryz.f8.params.toList ++ Rows.termJudgesSpec.plain.varTypes Tryz.prog) (ds ++ gs)).all (· ≤ reachBytes) = true) (hk : Rows.uptoSmall H (ds ++ gs) = true) :
    Calls Tryz.prog 8 args W fun e W' => ∃ v, e = .returned v ∧ Rows.termJudgesSpec.post enc Tryz.prog Tryz.f8 false true false false W args v W' := by
  have hW' := hW
  obtain ⟨p, q, hA0, hV, rfl, _, _⟩ := hW
  have hA : DataW.TrodAll enc Tryz.prog W 0 (fun _ => true) true Tryz.f8.params.toList args.toList ds p := hA0
  rw [Tryz.params8] at hA hval hsz
  obtain ⟨v0, vs0, d0, ds0, p0, q0, ha0, rfl, rfl, h0, r0⟩ := trodAll_cons hA
  obtain ⟨v1, vs1, d1, ds1, p1, q1, ha1, rfl, rfl, h1, r1⟩ := trodAll_cons r0
  obtain ⟨v2, vs2, d2, ds2, p2, q2, ha2, rfl, rfl, h2, r2⟩ := trodAll_cons r1
  obtain ⟨v3, vs3, d3, ds3, p3, q3, ha3, rfl, rfl, h3, r3⟩ := trodAll_cons r2
  obtain ⟨v4, vs4, d4, ds4, p4, q4, ha4, rfl, rfl, h4, r4⟩ := trodAll_cons r3
  obtain ⟨rfl, rfl, rfl⟩ := trodAll_nil r4
  obtain rfl : args = #[v0, v1, v2, v3, v4] := by cases args; simp_all
  obtain ⟨rfl, rfl⟩ := trodVars_none hV
  clear hA0
  simp only [List.append_nil] at hW' hsz hk
  have hbb := bulk_bound hk
  have hbk0 : Rows.uptoBulk d0 ≤ 1048576 := Nat.le_trans (bulk_part (by simp)) hbb
  have hbk1 : Rows.uptoBulk d1 ≤ 1048576 := Nat.le_trans (bulk_part (by simp)) hbb
  have hbk2 : Rows.uptoBulk d2 ≤ 1048576 := Nat.le_trans (bulk_part (by simp)) hbb
  have hbk3 : Rows.uptoBulk d3 ≤ 1048576 := Nat.le_trans (bulk_part (by simp)) hbb
  have hbk4 : Rows.uptoBulk d4 ≤ 1048576 := Nat.le_trans (bulk_part (by simp)) hbb
  have hlt0 : ∀ x ∈ p0, x.block < W.heap.size := fun x hx => by simpa using hW'.lt x (by simp [hx])
  have hw0 : ∀ m ∈ d0.weights Tryz.prog 22, m ≤ reachBytes := fun m hm => by
    have := List.all_eq_true.1 hsz m (DataW.weights_mem_each (j := 0) (t := 22) rfl rfl m hm)
    simpa using this
  have h0k := h0
  have hv0 := hval 0 22 v0 (by simp) (by simp)
  obtain ⟨fuel0, hf0⟩ := h0
  obtain ⟨ao0, len0, cap0, rfl⟩ := okWide_slice Tryz.underlying22 hv0
  obtain ⟨b0, o0, l0, rfl, hr0, hj0⟩ := openRB (α := TermL) (Q := fun B x => QT B x) (fun h h9 => QT_mono h h9) Tryz.underlying22 cells_42 (by rw [bytes_42]; decide) (fun n cs d pl h hw => elem_termB Tryz.underlying42 cells_42 rfl cells_39 rfl cells_40 rfl cells_40 Tryz.underlying39 Tryz.underlying40 Tryz.underlying40 cells_60 bytes_60 cells_9 bytes_9 Tryz.underlying9 Tryz.underlying60 rfl cells_9 rfl cells_9 Tryz.underlying9 Tryz.underlying9 h hw) (by simpa [Value.cells] using hf0) hw0
  have hlt1 : ∀ x ∈ p1, x.block < W.heap.size := fun x hx => by simpa using hW'.lt x (by simp [hx])
  have hw1 : ∀ m ∈ d1.weights Tryz.prog 23, m ≤ reachBytes := fun m hm => by
    have := List.all_eq_true.1 hsz m (DataW.weights_mem_each (j := 1) (t := 23) rfl rfl m hm)
    simpa using this
  have h1k := h1
  have hv1 := hval 1 23 v1 (by simp) (by simp)
  obtain ⟨fuel1, hf1⟩ := h1
  obtain ⟨ao1, len1, cap1, rfl⟩ := okWide_slice Tryz.underlying23 hv1
  obtain ⟨b1, o1, l1, rfl, hr1⟩ := openR (α := Clas) Tryz.underlying23 cells_70 (by rw [bytes_70]; decide) (elem_clas Tryz.underlying70 cells_70 rfl cells_9 rfl cells_68 Tryz.underlying9 Tryz.underlying68 cells_107 bytes_107 Tryz.underlying107 rfl cells_9 rfl cells_9 Tryz.underlying9 Tryz.underlying9) (by simpa [Value.cells] using hf1) hw1
  have hlt2 : ∀ x ∈ p2, x.block < W.heap.size := fun x hx => by simpa using hW'.lt x (by simp [hx])
  have hw2 : ∀ m ∈ d2.weights Tryz.prog 24, m ≤ reachBytes := fun m hm => by
    have := List.all_eq_true.1 hsz m (DataW.weights_mem_each (j := 2) (t := 24) rfl rfl m hm)
    simpa using this
  have h2k := h2
  have hv2 := hval 2 24 v2 (by simp) (by simp)
  obtain ⟨fuel2, hf2⟩ := h2
  obtain ⟨ao2, len2, cap2, rfl⟩ := okWide_slice Tryz.underlying24 hv2
  have hz2 : len2 ≤ 4398046510976 := by have h9 := open_len (e := 38) Tryz.underlying24 (by simpa [Value.cells] using hf2) hw2; rw [bytes_38] at h9; have h8 : reachBytes = 140737488351232 := rfl; omega
  obtain ⟨b2, o2, l2, rfl, hr2, hq2⟩ := openEQ (α := Vc.Item) Tryz.underlying24 cells_38 (by rw [bytes_38]; decide) (fun n cs d pl h hw => elem_item Tryz.underlying38 cells_38 rfl cells_3 rfl cells_9 rfl cells_3 Tryz.underlying3 Tryz.underlying9 Tryz.underlying3 h hw) (by simpa [Value.cells] using hf2) hw2
  have hlt3 : ∀ x ∈ p3, x.block < W.heap.size := fun x hx => by simpa using hW'.lt x (by simp [hx])
  have hw3 : ∀ m ∈ d3.weights Tryz.prog 25, m ≤ reachBytes := fun m hm => by
    have := List.all_eq_true.1 hsz m (DataW.weights_mem_each (j := 3) (t := 25) rfl rfl m hm)
    simpa using this
  have h3k := h3
  have hv3 := hval 3 25 v3 (by simp) (by simp)
  obtain ⟨fuel3, hf3⟩ := h3
  obtain ⟨ao3, len3, cap3, rfl⟩ := okWide_slice Tryz.underlying25 hv3
  obtain ⟨b3, o3, l3, rfl, hr3⟩ := openE (α := Int) Tryz.underlying25 cells_3 (by rw [bytes_3]; decide) (elem_int Tryz.underlying3) (by simpa [Value.cells] using hf3) hw3
  have hlt4 : ∀ x ∈ p4, x.block < W.heap.size := fun x hx => by simpa using hW'.lt x (by simp [hx])
  have hw4 : ∀ m ∈ d4.weights Tryz.prog 25, m ≤ reachBytes := fun m hm => by
    have := List.all_eq_true.1 hsz m (DataW.weights_mem_each (j := 4) (t := 25) rfl rfl m hm)
    simpa using this
  have h4k := h4
  have hv4 := hval 4 25 v4 (by simp) (by simp)
  obtain ⟨fuel4, hf4⟩ := h4
  obtain ⟨ao4, len4, cap4, rfl⟩ := okWide_slice Tryz.underlying25 hv4
  obtain ⟨b4, o4, l4, rfl, hr4⟩ := openE (α := Int) Tryz.underlying25 cells_3 (by rw [bytes_3]; decide) (elem_int Tryz.underlying3) (by simpa [Value.cells] using hf4) hw4
  refine (judges_law hr0 hr1 hr2 (fun x hx => Nat.le_trans (hq2 x hx) (by decide)) hz2 (Nat.le_trans hj0.1 hbk0) (fun x hx => QT_jud (hj0.2 x hx) hbk0) hr3 hr4).mono fun e W' ⟨he, hE⟩ => ?_
  subst he
  have hB := hE.below
  exact ⟨_, rfl, ⟨_, _, _, [], _, [], hW', (trodAll_cons_mk (shut_bool Tryz.underlying4 _) trodAll_mk0), by have hz := (trodAll_cons_mk (Below.trod laidOut (by kernel_rfl) (of_decide_eq_true (by kernel_rfl)) h0k hB hlt0) (trodAll_cons_mk (Below.trod laidOut (by kernel_rfl) (of_decide_eq_true (by kernel_rfl)) h1k hB hlt1) (trodAll_cons_mk (Below.trod laidOut (by kernel_rfl) (of_decide_eq_true (by kernel_rfl)) h2k hB hlt2) (trodAll_cons_mk (Below.trod laidOut (by kernel_rfl) (of_decide_eq_true (by kernel_rfl)) h3k hB hlt3) (trodAll_cons_mk (Below.trod laidOut (by kernel_rfl) (of_decide_eq_true (by kernel_rfl)) h4k hB hlt4) trodAll_mk0))))); simp only [List.append_nil] at hz; exact hz, rfl, hB.frame _, fun h => by cases h⟩⟩


theorem termJudges_holds_laid (os : Os) : laidMet Tryz.prog Rows.termJudgesUptoRow.laid ((laidWorld os).forCall (fun _ _ => 0) ⟨#[], #[.slice none 0 0, .slice none 0 0, .slice none 0 0, .slice none 0 0, .slice none 0 0], []⟩).memory := laidMet_of_run' 8 (by kernel_rfl) (by kernel_rfl)
theorem termJudges_holds_reads (os : Os) {H : Type} (enc : TypeId × Value → H) : ∃ places, DataW.whole enc Tryz.prog ((laidWorld os).forCall (fun _ _ => 0) ⟨#[], #[.slice none 0 0, .slice none 0 0, .slice none 0 0, .slice none 0 0, .slice none 0 0], []⟩).memory Tryz.f8.params.toList Rows.termJudgesSpec.vars false (#[.slice none 0 0, .slice none 0 0, .slice none 0 0, .slice none 0 0, .slice none 0 0] : Array Value).toList 8 = some ([.nil, .nil, .nil, .nil, .nil], [], places) := ⟨[], by kernel_rfl⟩
set_option maxRecDepth 100000 in
theorem termJudges_holds_lifted (os : Os) (started : os.Started) (H : Type) (enc : TypeId × Value → H) (F : Stop.Interp) :
    ReturnsInHanded {} Tryz.checked os 8 .any ((Rows.OpenSpec.upto Rows.termJudgesSpec).preRow enc Tryz.prog Tryz.f8 Rows.termJudgesUptoRow.domain false Rows.termJudgesUptoRow.laid) (((Rows.OpenSpec.upto Rows.termJudgesSpec).at F).post enc Tryz.prog Tryz.f8 false true false false) := by
  obtain ⟨places, hx⟩ := termJudges_holds_reads os enc
  refine returnsInHanded_of_row (C := Tryz.checked) (s := (Rows.OpenSpec.upto Rows.termJudgesSpec)) own started (by kernel_rfl) Tryz.func8
    (witness_row_at (enc := enc) (C := Tryz.checked) false (laidWorld os) #[.slice none 0 0, .slice none 0 0, .slice none 0 0, .slice none 0 0, .slice none 0 0] rfl (by kernel_rfl) (by kernel_rfl) (by kernel_rfl)
      (OpenSpec.preRow_of_cond 8 hx (by kernel_rfl) (fun k hk => by cases hk; kernel_rfl) (by kernel_rfl) (termJudges_holds_laid os))) ?_
  intro W base args ds gs before hval hW _ hcond hsz _ _ _
  exact termJudges_holds_contract enc W base args ds gs before hval hW hsz (hcond _ rfl)

theorem termJudges_holds_wf : Rows.termJudgesUptoRow.wf (OpenSpec.ofChange (Rows.OpenSpec.upto Rows.termJudgesSpec).bare) = true := by kernel_rfl
theorem termJudges_holds_ip : (Rows.termJudgesUptoRow.inPlace == Tryz.prog.inPlace 8) = true := by kernel_rfl
theorem termJudges_holds_uf : (Rows.termJudgesUptoRow.unfollowed == Tryz.prog.unfollowed 8) = true := by kernel_rfl
theorem termJudges_holds_rc : (Rows.termJudgesUptoRow.recurses == Tryz.prog.recurses 8) = true := by kernel_rfl
theorem termJudges_holds_nm : (Rows.termJudgesUptoRow.named == Tryz.prog.varsNamed 8) = true := by kernel_rfl
theorem termJudges_holds_closed : joinedFacts Tryz.prog 8 Tryz.f8 (Rows.OpenSpec.upto Rows.termJudgesSpec).bare Rows.termJudgesUptoRow = true := by
  unfold joinedFacts
  exact and_i (and_i (and_i (and_i (and_i (and_i (and_i (and_i (and_i (and_i (and_i (and_i (and_i (and_i (and_i (and_i (and_i (and_i (and_i (and_i (and_i (and_i (and_i (and_i (and_i (and_i (and_i (and_i (and_i (and_i (and_i (termJudges_holds_wf) all_laid) all_maps) (by kernel_rfl)) (by kernel_rfl)) (by kernel_rfl)) all_stops) (by kernel_rfl)) all_knobs) termJudges_holds_ip) termJudges_holds_uf) termJudges_holds_rc) termJudges_holds_nm) (by kernel_rfl)) (by kernel_rfl)) (by kernel_rfl)) (by kernel_rfl)) (by kernel_rfl)) (by kernel_rfl)) (by kernel_rfl)) (by kernel_rfl)) (by kernel_rfl)) all_keys) (by kernel_rfl)) all_heard) all_enter) all_lifts) all_make) (by kernel_rfl)) (by kernel_rfl)) (by kernel_rfl)) (by kernel_rfl)
theorem termJudges_holds_said : Rows.TermJudgesUptoSaid :=
  OpenClaim.holds_of_cond 8 Tryz.f8 rfl rfl rfl rfl rfl rfl rfl ⟨rfl, rfl, rfl, rfl, rfl⟩ rfl rfl rfl rfl rfl (by kernel_rfl) Tryz.func8 termJudges_holds_closed
    (of_decide_eq_true (by kernel_rfl)) (by unfold Func.isWrapper; rw [if_neg (by decide +kernel)]; exact ⟨rfl, rfl⟩)
    (fun os started H enc _ F => by rw [OpenClaim.pre_eq_preRow]; exact termJudges_holds_lifted os started H enc F)
theorem termJudges_holds_plain (f : FuncId) (fn : Func) (hf : Tryz.pinned.checked.prog.funcNamed "bitext/bitextlaw24.TermJudges" = some f) (hfn : Tryz.pinned.checked.prog.funcs[f]? = some fn) :
    false = Tryz.pinned.checked.prog.looks [] ∧ ∀ (j : Nat) t, fn.params[j]? = some t → Tryz.pinned.checked.prog.wantsStandIn t = false := by
  obtain rfl : f = 8 := Option.some.inj ((show Tryz.prog.funcNamed "bitext/bitextlaw24.TermJudges" = some 8 by kernel_rfl).symm.trans hf) |>.symm
  obtain rfl : fn = Tryz.f8 := (Option.some.inj (Tryz.func8.symm.trans hfn)).symm
  refine ⟨by kernel_rfl, fun j t ht => ?_⟩
  rw [Tryz.params8] at ht
  have hm := Array.mem_of_getElem? ht
  simp only [List.mem_toArray, List.mem_cons, List.not_mem_nil, or_false] at hm
  rcases hm with rfl | rfl | rfl | rfl | rfl
  · exact (show Tryz.prog.wantsStandIn 22 = false by kernel_rfl)
  · exact (show Tryz.prog.wantsStandIn 23 = false by kernel_rfl)
  · exact (show Tryz.prog.wantsStandIn 24 = false by kernel_rfl)
  · exact (show Tryz.prog.wantsStandIn 25 = false by kernel_rfl)
  · exact (show Tryz.prog.wantsStandIn 25 = false by kernel_rfl)
theorem termJudges_holds : Rows.TermJudgesUptoCardSaid :=
  Claim7.holds_tied_plain_at .later [] _ _ _ _ termJudges_holds_said (fun _ h => by cases h) (by kernel_rfl) (fun _ h => by cases h) termJudgesUpto_row_tie rfl ⟨rfl, rfl⟩ (by kernel_rfl) rfl termJudges_holds_plain (by kernel_rfl)
#print axioms termJudges_holds
end Go.Proofs.YtkklomiipkipnaaGreatDoor
