/-
  The law ShingleMissing holds where what it reads is of bulk at most 1048576. Conditions: none beyond the statement.
-/
import Derived.Test.YtomklacppmaljaaRd
import Derived.Test.YtomklacppmaljaaUpb
import Derived.Test.YtomklacppmaljaaLH
import Derived.Test.YtomklacppmaljaaLG
import Derived.JoinedCond
import Derived.Deep.CondSized
namespace Go.Proofs.Ytomklacppmaljaa
open Go.ChangeShapes Go.WideShapes Go.ChangeAt Go.RowKit Go.Vc
set_option maxRecDepth 100000 in
theorem shingleMissing_holds_contract {H : Type} (enc : TypeId × Value → H) (W : World) (base : Nat) (args : Array Value) (ds gs : List (DataW H)) (before : List MemPlace)
    (hval : ∀ (j : Nat) t v, Try.f14.params[j]? = some t → args[j]? = some v → Value.okWide Try.prog W .any base t v)
    (hW : DataW.Whole enc Try.prog Try.f14.params.toList Rows.shingleMissingSpec.vars false W args.toList ds gs before)
    (hsz : (DataW.weightsEach Try.prog (Try.f14.params.toList ++ Rows.shingleMissingSpec.plain.varTypes Try.prog) (ds ++ gs)).all (· ≤ reachBytes) = true) (hk : Rows.uptoSmall H (ds ++ gs) = true) :
    Calls Try.prog 14 args W fun e W' => ∃ v, e = .returned v ∧ Rows.shingleMissingSpec.post enc Try.prog Try.f14 false true false false W args v W' := by
  have hW' := hW
  obtain ⟨p, q, hA0, hV, rfl, _, _⟩ := hW
  have hA : DataW.TrodAll enc Try.prog W 0 (fun _ => true) true Try.f14.params.toList args.toList ds p := hA0
  rw [Try.params14] at hA hval hsz
  obtain ⟨v0, vs0, d0, ds0, p0, q0, ha0, rfl, rfl, h0, r0⟩ := trodAll_cons hA
  obtain ⟨v1, vs1, d1, ds1, p1, q1, ha1, rfl, rfl, h1, r1⟩ := trodAll_cons r0
  obtain ⟨v2, vs2, d2, ds2, p2, q2, ha2, rfl, rfl, h2, r2⟩ := trodAll_cons r1
  obtain ⟨v3, vs3, d3, ds3, p3, q3, ha3, rfl, rfl, h3, r3⟩ := trodAll_cons r2
  obtain ⟨rfl, rfl, rfl⟩ := trodAll_nil r3
  obtain rfl : args = #[v0, v1, v2, v3] := by cases args; simp_all
  obtain ⟨rfl, rfl⟩ := trodVars_none hV
  clear hA0
  simp only [List.append_nil] at hW' hsz hk
  have hbb := bulk_bound hk
  have hbk0 : Rows.uptoBulk d0 ≤ 1048576 := Nat.le_trans (bulk_part (by simp)) hbb
  have hbk1 : Rows.uptoBulk d1 ≤ 1048576 := Nat.le_trans (bulk_part (by simp)) hbb
  have hbk2 : Rows.uptoBulk d2 ≤ 1048576 := Nat.le_trans (bulk_part (by simp)) hbb
  have hbk3 : Rows.uptoBulk d3 ≤ 1048576 := Nat.le_trans (bulk_part (by simp)) hbb
  have hlt0 : ∀ x ∈ p0, x.block < W.heap.size := fun x hx => by simpa using hW'.lt x (by simp [hx])
  have hw0 : ∀ m ∈ d0.weights Try.prog 67, m ≤ reachBytes := fun m hm => by
    have := List.all_eq_true.1 hsz m (DataW.weights_mem_each (j := 0) (t := 67) rfl rfl m hm)
    simpa using this
  have h0k := h0
  have hv0 := hval 0 67 v0 (by simp) (by simp)
  obtain ⟨fuel0, hf0⟩ := h0
  obtain ⟨ao0, len0, cap0, rfl⟩ := okWide_slice Try.underlying67 hv0
  obtain ⟨b0, o0, l0, rfl, hr0, hs0⟩ := openEB (α := Gram) (sz := gz) Try.underlying67 cells_72 (by rw [bytes_72]; decide) (fun n cs d pl h => elem_gram Try.underlying72 cells_72 rfl cells_9 rfl cells_9 rfl cells_3 Try.underlying9 Try.underlying9 Try.underlying3 h) (by simpa [Value.cells] using hf0) hw0
  have hlt1 : ∀ x ∈ p1, x.block < W.heap.size := fun x hx => by simpa using hW'.lt x (by simp [hx])
  have hw1 : ∀ m ∈ d1.weights Try.prog 67, m ≤ reachBytes := fun m hm => by
    have := List.all_eq_true.1 hsz m (DataW.weights_mem_each (j := 1) (t := 67) rfl rfl m hm)
    simpa using this
  have h1k := h1
  have hv1 := hval 1 67 v1 (by simp) (by simp)
  obtain ⟨fuel1, hf1⟩ := h1
  obtain ⟨ao1, len1, cap1, rfl⟩ := okWide_slice Try.underlying67 hv1
  obtain ⟨b1, o1, l1, rfl, hr1, hs1⟩ := openEB (α := Gram) (sz := gz) Try.underlying67 cells_72 (by rw [bytes_72]; decide) (fun n cs d pl h => elem_gram Try.underlying72 cells_72 rfl cells_9 rfl cells_9 rfl cells_3 Try.underlying9 Try.underlying9 Try.underlying3 h) (by simpa [Value.cells] using hf1) hw1
  have hlt2 : ∀ x ∈ p2, x.block < W.heap.size := fun x hx => by simpa using hW'.lt x (by simp [hx])
  have hw2 : ∀ m ∈ d2.weights Try.prog 23, m ≤ reachBytes := fun m hm => by
    have := List.all_eq_true.1 hsz m (DataW.weights_mem_each (j := 2) (t := 23) rfl rfl m hm)
    simpa using this
  have h2k := h2
  have hv2 := hval 2 23 v2 (by simp) (by simp)
  obtain ⟨fuel2, hf2⟩ := h2
  obtain ⟨ao2, len2, cap2, rfl⟩ := okWide_slice Try.underlying23 hv2
  obtain ⟨b2, o2, l2, rfl, hr2⟩ := openE (α := Int) Try.underlying23 cells_3 (by rw [bytes_3]; decide) (elem_int Try.underlying3) (by simpa [Value.cells] using hf2) hw2
  have hlt3 : ∀ x ∈ p3, x.block < W.heap.size := fun x hx => by simpa using hW'.lt x (by simp [hx])
  have hw3 : ∀ m ∈ d3.weights Try.prog 23, m ≤ reachBytes := fun m hm => by
    have := List.all_eq_true.1 hsz m (DataW.weights_mem_each (j := 3) (t := 23) rfl rfl m hm)
    simpa using this
  have h3k := h3
  have hv3 := hval 3 23 v3 (by simp) (by simp)
  obtain ⟨fuel3, hf3⟩ := h3
  obtain ⟨ao3, len3, cap3, rfl⟩ := okWide_slice Try.underlying23 hv3
  obtain ⟨b3, o3, l3, rfl, hr3⟩ := openE (α := Int) Try.underlying23 cells_3 (by rw [bytes_3]; decide) (elem_int Try.underlying3) (by simpa [Value.cells] using hf3) hw3
  refine (smissing_law hr0 (Nat.le_trans hs0 hbk0) hr1 (Nat.le_trans hs1 hbk1) hr2 hr3).mono fun e W' ⟨he, hE⟩ => ?_
  subst he
  have hB := hE.below
  exact ⟨_, rfl, ⟨_, _, _, [], _, [], hW', (trodAll_cons_mk (shut_bool Try.underlying4 _) trodAll_mk0), by have hz := (trodAll_cons_mk (Below.trod laidOut (by kernel_rfl) (of_decide_eq_true (by kernel_rfl)) h0k hB hlt0) (trodAll_cons_mk (Below.trod laidOut (by kernel_rfl) (of_decide_eq_true (by kernel_rfl)) h1k hB hlt1) (trodAll_cons_mk (Below.trod laidOut (by kernel_rfl) (of_decide_eq_true (by kernel_rfl)) h2k hB hlt2) (trodAll_cons_mk (Below.trod laidOut (by kernel_rfl) (of_decide_eq_true (by kernel_rfl)) h3k hB hlt3) trodAll_mk0)))); simp only [List.append_nil] at hz; exact hz, rfl, hB.frame _, fun h => by cases h⟩⟩


set_option maxRecDepth 100000 in
theorem shingleMissing_holds_lifted (os : Os) (started : os.Started) (H : Type) (enc : TypeId × Value → H) (F : Stop.Interp) :
    ReturnsInHanded {} Try.checked os 14 .any ((Rows.OpenSpec.upto Rows.shingleMissingSpec).pre6 enc Try.prog Try.f14 Rows.shingleMissingUptoRow.domain false) (((Rows.OpenSpec.upto Rows.shingleMissingSpec).at F).post enc Try.prog Try.f14 false true false false) := by
  refine returnsInHanded_of_cond_sized (C := Try.checked) (s := (Rows.OpenSpec.upto Rows.shingleMissingSpec)) (k := Rows.uptoSmall) rfl own started (by kernel_rfl) Try.func14
    (OpenSpec.witness (enc := enc) (C := Try.checked) (s := (Rows.OpenSpec.upto Rows.shingleMissingSpec)) (k := Rows.uptoSmall) rfl false ⟨#[], #[.slice none 0 0, .slice none 0 0, .slice none 0 0, .slice none 0 0], []⟩ 8 (by kernel_rfl) (by kernel_rfl) (by kernel_rfl) (x := ([.nil, .nil, .nil, .nil], [], [])) (by kernel_rfl) rfl (by kernel_rfl)) ?_
  intro W base args ds gs before hval hW _ hk hsz _
  exact shingleMissing_holds_contract enc W base args ds gs before hval hW hsz hk

theorem shingleMissing_holds_wf : Rows.shingleMissingUptoRow.wf (OpenSpec.ofChange (Rows.OpenSpec.upto Rows.shingleMissingSpec).bare) = true := by kernel_rfl
theorem shingleMissing_holds_ip : (Rows.shingleMissingUptoRow.inPlace == Try.prog.inPlace 14) = true := by kernel_rfl
theorem shingleMissing_holds_uf : (Rows.shingleMissingUptoRow.unfollowed == Try.prog.unfollowed 14) = true := by kernel_rfl
theorem shingleMissing_holds_rc : (Rows.shingleMissingUptoRow.recurses == Try.prog.recurses 14) = true := by kernel_rfl
theorem shingleMissing_holds_nm : (Rows.shingleMissingUptoRow.named == Try.prog.varsNamed 14) = true := by kernel_rfl
theorem shingleMissing_holds_closed : joinedFacts Try.prog 14 Try.f14 (Rows.OpenSpec.upto Rows.shingleMissingSpec).bare Rows.shingleMissingUptoRow = true := by
  unfold joinedFacts
  exact and_i (and_i (and_i (and_i (and_i (and_i (and_i (and_i (and_i (and_i (and_i (and_i (and_i (and_i (and_i (and_i (and_i (and_i (and_i (and_i (and_i (and_i (and_i (and_i (and_i (and_i (and_i (and_i (and_i (and_i (and_i (shingleMissing_holds_wf) all_laid) all_maps) (by kernel_rfl)) (by kernel_rfl)) (by kernel_rfl)) all_stops) (by kernel_rfl)) all_knobs) shingleMissing_holds_ip) shingleMissing_holds_uf) shingleMissing_holds_rc) shingleMissing_holds_nm) (by kernel_rfl)) (by kernel_rfl)) (by kernel_rfl)) (by kernel_rfl)) (by kernel_rfl)) (by kernel_rfl)) (by kernel_rfl)) (by kernel_rfl)) (by kernel_rfl)) all_keys) (by kernel_rfl)) all_heard) all_enter) all_lifts) all_make) (by kernel_rfl)) (by kernel_rfl)) (by kernel_rfl)) (by kernel_rfl)
theorem shingleMissing_holds : Rows.ShingleMissingUptoSaid :=
  OpenClaim.holds_of_cond 14 Try.f14 rfl rfl rfl rfl rfl rfl rfl ⟨rfl, rfl, rfl, rfl, rfl⟩ rfl rfl rfl rfl rfl (by kernel_rfl) Try.func14 shingleMissing_holds_closed
    (of_decide_eq_true (by kernel_rfl)) (by unfold Func.isWrapper; rw [if_neg (by decide +kernel)]; exact ⟨rfl, rfl⟩)
    (fun os started H enc _ F => shingleMissing_holds_lifted os started H enc F)
#print axioms shingleMissing_holds
end Go.Proofs.Ytomklacppmaljaa
