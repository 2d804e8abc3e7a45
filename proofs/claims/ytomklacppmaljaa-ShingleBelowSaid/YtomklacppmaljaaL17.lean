/-
  The law ShingleBelow holds. Conditions: none beyond the statement.
-/
import Derived.Test.YtomklacppmaljaaQe
import Derived.Test.YtomklacppmaljaaLH
import Derived.Test.YtomklacppmaljaaLG
namespace Go.Proofs.Ytomklacppmaljaa
open Go.ChangeShapes Go.WideShapes Go.ChangeAt Go.RowKit Go.Vc
set_option maxRecDepth 100000 in
theorem shingleBelow_holds_contract {H : Type} (enc : TypeId × Value → H) (W : World) (base : Nat) (args : Array Value) (ds gs : List (DataW H)) (before : List MemPlace)
    (hval : ∀ (j : Nat) t v, Try.f16.params[j]? = some t → args[j]? = some v → Value.okWide Try.prog W .any base t v)
    (hW : DataW.Whole enc Try.prog Try.f16.params.toList Rows.shingleBelowSpec.vars false W args.toList ds gs before)
    (hsz : (DataW.weightsEach Try.prog (Try.f16.params.toList ++ Rows.shingleBelowSpec.plain.varTypes Try.prog) (ds ++ gs)).all (· ≤ reachBytes) = true) :
    Calls Try.prog 16 args W fun e W' => ∃ v, e = .returned v ∧ Rows.shingleBelowSpec.post enc Try.prog Try.f16 false true false false W args v W' := by
  have hW' := hW
  obtain ⟨p, q, hA0, hV, rfl, _, _⟩ := hW
  have hA : DataW.TrodAll enc Try.prog W 0 (fun _ => true) true Try.f16.params.toList args.toList ds p := hA0
  rw [Try.params16] at hA hval hsz
  obtain ⟨v0, vs0, d0, ds0, p0, q0, ha0, rfl, rfl, h0, r0⟩ := trodAll_cons hA
  obtain ⟨v1, vs1, d1, ds1, p1, q1, ha1, rfl, rfl, h1, r1⟩ := trodAll_cons r0
  obtain ⟨v2, vs2, d2, ds2, p2, q2, ha2, rfl, rfl, h2, r2⟩ := trodAll_cons r1
  obtain ⟨v3, vs3, d3, ds3, p3, q3, ha3, rfl, rfl, h3, r3⟩ := trodAll_cons r2
  obtain ⟨rfl, rfl, rfl⟩ := trodAll_nil r3
  obtain rfl : args = #[v0, v1, v2, v3] := by cases args; simp_all
  obtain ⟨rfl, rfl⟩ := trodVars_none hV
  clear hA0
  simp only [List.append_nil] at hW' hsz
  have hlt0 : ∀ x ∈ p0, x.block < W.heap.size := fun x hx => by simpa using hW'.lt x (by simp [hx])
  have hw0 : ∀ m ∈ d0.weights Try.prog 63, m ≤ reachBytes := fun m hm => by
    have := List.all_eq_true.1 hsz m (DataW.weights_mem_each (j := 0) (t := 63) rfl rfl m hm)
    simpa using this
  have h0k := h0
  have hv0 := hval 0 63 v0 (by simp) (by simp)
  obtain ⟨fuel0, hf0⟩ := h0
  obtain ⟨ao0, len0, cap0, rfl⟩ := okWide_slice Try.underlying63 hv0
  obtain ⟨b0, o0, l0, rfl, hr0, hq0⟩ := openEQ (α := Vc.Item) Try.underlying63 cells_81 (by rw [bytes_81]; decide) (fun n cs d pl h hw => elem_item Try.underlying81 cells_81 rfl cells_3 rfl cells_9 rfl cells_3 Try.underlying3 Try.underlying9 Try.underlying3 h hw) (by simpa [Value.cells] using hf0) hw0
  have hlt1 : ∀ x ∈ p1, x.block < W.heap.size := fun x hx => by simpa using hW'.lt x (by simp [hx])
  have hw1 : ∀ m ∈ d1.weights Try.prog 63, m ≤ reachBytes := fun m hm => by
    have := List.all_eq_true.1 hsz m (DataW.weights_mem_each (j := 1) (t := 63) rfl rfl m hm)
    simpa using this
  have h1k := h1
  have hv1 := hval 1 63 v1 (by simp) (by simp)
  obtain ⟨fuel1, hf1⟩ := h1
  obtain ⟨ao1, len1, cap1, rfl⟩ := okWide_slice Try.underlying63 hv1
  obtain ⟨b1, o1, l1, rfl, hr1, hq1⟩ := openEQ (α := Vc.Item) Try.underlying63 cells_81 (by rw [bytes_81]; decide) (fun n cs d pl h hw => elem_item Try.underlying81 cells_81 rfl cells_3 rfl cells_9 rfl cells_3 Try.underlying3 Try.underlying9 Try.underlying3 h hw) (by simpa [Value.cells] using hf1) hw1
  have hlt2 : ∀ x ∈ p2, x.block < W.heap.size := fun x hx => by simpa using hW'.lt x (by simp [hx])
  have hw2 : ∀ m ∈ d2.weights Try.prog 23, m ≤ reachBytes := fun m hm => by
    have := List.all_eq_true.1 hsz m (DataW.weights_mem_each (j := 2) (t := 23) rfl rfl m hm)
    simpa using this
  have h2k := h2
  have hv2 := hval 2 23 v2 (by simp) (by simp)
  obtain ⟨fuel2, hf2⟩ := h2
  obtain ⟨ao2, len2, cap2, rfl⟩ := okWide_slice Try.underlying23 hv2
  obtain ⟨b2, o2, l2, rfl, hr2⟩ := openE (α := Int) Try.underlying23 cells_3 (by rw [bytes_3]; decide) (elem_int Try.underlying3) (by simpa [Value.cells] using hf2) hw2
  have hlt3 : ∀ x ∈ p3, x.block < W.heap.size := fun x hx => by simpa using hW'.lt x (by simp [hx])
  have hw3 : ∀ m ∈ d3.weights Try.prog 23, m ≤ reachBytes := fun m hm => by
    have := List.all_eq_true.1 hsz m (DataW.weights_mem_each (j := 3) (t := 23) rfl rfl m hm)
    simpa using this
  have h3k := h3
  have hv3 := hval 3 23 v3 (by simp) (by simp)
  obtain ⟨fuel3, hf3⟩ := h3
  obtain ⟨ao3, len3, cap3, rfl⟩ := okWide_slice Try.underlying23 hv3
  obtain ⟨b3, o3, l3, rfl, hr3⟩ := openE (α := Int) Try.underlying23 cells_3 (by rw [bytes_3]; decide) (elem_int Try.underlying3) (by simpa [Value.cells] using hf3) hw3
  refine (below_law hr0 hq0 hr1 hq1 hr2 hr3).mono fun e W' ⟨he, hE⟩ => ?_
  subst he
  have hB := hE.below
  exact ⟨_, rfl, ⟨_, _, _, [], _, [], hW', (trodAll_cons_mk (shut_bool Try.underlying4 _) trodAll_mk0), by have hz := (trodAll_cons_mk (Below.trod laidOut (by kernel_rfl) (of_decide_eq_true (by kernel_rfl)) h0k hB hlt0) (trodAll_cons_mk (Below.trod laidOut (by kernel_rfl) (of_decide_eq_true (by kernel_rfl)) h1k hB hlt1) (trodAll_cons_mk (Below.trod laidOut (by kernel_rfl) (of_decide_eq_true (by kernel_rfl)) h2k hB hlt2) (trodAll_cons_mk (Below.trod laidOut (by kernel_rfl) (of_decide_eq_true (by kernel_rfl)) h3k hB hlt3) trodAll_mk0)))); simp only [List.append_nil] at hz; exact hz, rfl, hB.frame _, fun h => by cases h⟩⟩

set_option maxRecDepth 100000 in
theorem shingleBelow_holds_lifted (os : Os) (started : os.Started) (H : Type) (enc : TypeId × Value → H) :
    ReturnsInHanded {} Try.checked os 16 .any (Rows.shingleBelowSpec.pre6 enc Try.prog Try.f16 Rows.shingleBelowRow.domain false) (Rows.shingleBelowSpec.post enc Try.prog Try.f16 false true false false) := by
  refine returnsInHanded_of_change_sized (C := Try.checked) own started (by kernel_rfl) Try.func16
    (ChangeSpec.witness6 (enc := enc) (C := Try.checked) false ⟨#[], #[.slice none 0 0, .slice none 0 0, .slice none 0 0, .slice none 0 0], []⟩ 8 (by kernel_rfl) (by kernel_rfl) (by kernel_rfl) (by kernel_rfl)) ?_
  intro W base args ds gs before hval hW _ hsz _
  exact shingleBelow_holds_contract enc W base args ds gs before hval hW hsz

theorem shingleBelow_holds_wf : Rows.shingleBelowRow.wf (OpenSpec.ofChange Rows.shingleBelowSpec) = true := by kernel_rfl
theorem shingleBelow_holds_ip : (Rows.shingleBelowRow.inPlace == Try.prog.inPlace 16) = true := by kernel_rfl
theorem shingleBelow_holds_uf : (Rows.shingleBelowRow.unfollowed == Try.prog.unfollowed 16) = true := by kernel_rfl
theorem shingleBelow_holds_rc : (Rows.shingleBelowRow.recurses == Try.prog.recurses 16) = true := by kernel_rfl
theorem shingleBelow_holds_nm : (Rows.shingleBelowRow.named == Try.prog.varsNamed 16) = true := by kernel_rfl
theorem shingleBelow_holds_closed : joinedFacts Try.prog 16 Try.f16 Rows.shingleBelowSpec Rows.shingleBelowRow = true := by
  unfold joinedFacts
  exact and_i (and_i (and_i (and_i (and_i (and_i (and_i (and_i (and_i (and_i (and_i (and_i (and_i (and_i (and_i (and_i (and_i (and_i (and_i (and_i (and_i (and_i (and_i (and_i (and_i (and_i (and_i (and_i (and_i (and_i (and_i (shingleBelow_holds_wf) all_laid) all_maps) (by kernel_rfl)) (by kernel_rfl)) (by kernel_rfl)) all_stops) (by kernel_rfl)) all_knobs) shingleBelow_holds_ip) shingleBelow_holds_uf) shingleBelow_holds_rc) shingleBelow_holds_nm) (by kernel_rfl)) (by kernel_rfl)) (by kernel_rfl)) (by kernel_rfl)) (by kernel_rfl)) (by kernel_rfl)) (by kernel_rfl)) (by kernel_rfl)) (by kernel_rfl)) all_keys) (by kernel_rfl)) all_heard) all_enter) all_lifts) all_make) (by kernel_rfl)) (by kernel_rfl)) (by kernel_rfl)) (by kernel_rfl)
theorem shingleBelow_holds : Rows.ShingleBelowSaid :=
  OpenClaim.holds_of_wide 16 Try.f16 rfl rfl rfl rfl rfl rfl rfl ⟨rfl, rfl, rfl, rfl, rfl⟩ rfl rfl rfl rfl rfl (by kernel_rfl) Try.func16 shingleBelow_holds_closed
    (of_decide_eq_true (by kernel_rfl)) (by unfold Func.isWrapper; rw [if_neg (by decide +kernel)]; exact ⟨rfl, rfl⟩)
    (fun os started H enc _ => shingleBelow_holds_lifted os started H enc)

#print axioms shingleBelow_holds
end Go.Proofs.Ytomklacppmaljaa
