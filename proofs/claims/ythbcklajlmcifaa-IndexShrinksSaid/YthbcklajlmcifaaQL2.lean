/-
  The law IndexShrinks holds. Conditions: none beyond the statement.
-/
import Derived.Test.YthbcklajlmcifaaQf
import Derived.Test.YthbcklajlmcifaaQLH
import Derived.Test.YthbcklajlmcifaaQLG
namespace Go.Proofs.Ythbcklajlmcifaa
open Go.ChangeShapes Go.WideShapes Go.ChangeAt Go.RowKit Go.Vc
set_option maxRecDepth 100000 in
theorem indexShrinks_holds_contract {H : Type} (enc : TypeId × Value → H) (W : World) (base : Nat) (args : Array Value) (ds gs : List (DataW H)) (before : List MemPlace)
    (hval : ∀ (j : Nat) t v, Try.f4.params[j]? = some t → args[j]? = some v → Value.okWide Try.prog W .any base t v)
    (hW : DataW.Whole enc Try.prog Try.f4.params.toList Rows.indexShrinksSpec.vars false W args.toList ds gs before)
    (hsz : (DataW.weightsEach Try.prog (Try.f4.params.toList ++ Rows.indexShrinksSpec.plain.varTypes Try.prog) (ds ++ gs)).all (· ≤ reachBytes) = true) :
    Calls Try.prog 4 args W fun e W' => ∃ v, e = .returned v ∧ Rows.indexShrinksSpec.post enc Try.prog Try.f4 false true false false W args v W' := by
  have hW' := hW
  obtain ⟨p, q, hA0, hV, rfl, _, _⟩ := hW
  have hA : DataW.TrodAll enc Try.prog W 0 (fun _ => true) true Try.f4.params.toList args.toList ds p := hA0
  rw [Try.params4] at hA hval hsz
  obtain ⟨v0, vs0, d0, ds0, p0, q0, ha0, rfl, rfl, h0, r0⟩ := trodAll_cons hA
  obtain ⟨v1, vs1, d1, ds1, p1, q1, ha1, rfl, rfl, h1, r1⟩ := trodAll_cons r0
  obtain ⟨v2, vs2, d2, ds2, p2, q2, ha2, rfl, rfl, h2, r2⟩ := trodAll_cons r1
  obtain ⟨v3, vs3, d3, ds3, p3, q3, ha3, rfl, rfl, h3, r3⟩ := trodAll_cons r2
  obtain ⟨rfl, rfl, rfl⟩ := trodAll_nil r3
  obtain rfl : args = #[v0, v1, v2, v3] := by cases args; simp_all
  obtain ⟨rfl, rfl⟩ := trodVars_none hV
  clear hA0
  simp only [List.append_nil] at hW' hsz
  have hlt0 : ∀ x ∈ p0, x.block < W.heap.size := fun x hx => by simpa using hW'.lt x (by simp [hx])
  have hw0 : ∀ m ∈ d0.weights Try.prog 22, m ≤ reachBytes := fun m hm => by
    have := List.all_eq_true.1 hsz m (DataW.weights_mem_each (j := 0) (t := 22) rfl rfl m hm)
    simpa using this
  have h0k := h0
  have hv0 := hval 0 22 v0 (by simp) (by simp)
  obtain ⟨fuel0, hf0⟩ := h0
  obtain ⟨ao0, len0, cap0, rfl⟩ := okWide_slice Try.underlying22 hv0
  obtain ⟨b0, o0, l0, rfl, hr0⟩ := openE (α := Int) Try.underlying22 cells_3 (by rw [bytes_3]; decide) (elem_int Try.underlying3) (by simpa [Value.cells] using hf0) hw0
  have hlt1 : ∀ x ∈ p1, x.block < W.heap.size := fun x hx => by simpa using hW'.lt x (by simp [hx])
  have hw1 : ∀ m ∈ d1.weights Try.prog 22, m ≤ reachBytes := fun m hm => by
    have := List.all_eq_true.1 hsz m (DataW.weights_mem_each (j := 1) (t := 22) rfl rfl m hm)
    simpa using this
  have h1k := h1
  have hv1 := hval 1 22 v1 (by simp) (by simp)
  obtain ⟨fuel1, hf1⟩ := h1
  obtain ⟨ao1, len1, cap1, rfl⟩ := okWide_slice Try.underlying22 hv1
  obtain ⟨b1, o1, l1, rfl, hr1⟩ := openE (α := Int) Try.underlying22 cells_3 (by rw [bytes_3]; decide) (elem_int Try.underlying3) (by simpa [Value.cells] using hf1) hw1
  have hlt2 : ∀ x ∈ p2, x.block < W.heap.size := fun x hx => by simpa using hW'.lt x (by simp [hx])
  have h2k := h2
  have hv2 := hval 2 3 v2 (by simp) (by simp)
  obtain ⟨n2, rfl⟩ := okWide_int Try.underlying3 hv2
  have hlt3 : ∀ x ∈ p3, x.block < W.heap.size := fun x hx => by simpa using hW'.lt x (by simp [hx])
  have h3k := h3
  have hv3 := hval 3 3 v3 (by simp) (by simp)
  obtain ⟨n3, rfl⟩ := okWide_int Try.underlying3 hv3
  refine (shrinks_law hr0 hr1).mono fun e W' ⟨he, hE⟩ => ?_
  subst he
  have hB := hE.below
  exact ⟨_, rfl, ⟨_, _, _, [], _, [], hW', (trodAll_cons_mk (shut_bool Try.underlying4 _) trodAll_mk0), by have hz := (trodAll_cons_mk (Below.trod laidOut (by kernel_rfl) (of_decide_eq_true (by kernel_rfl)) h0k hB hlt0) (trodAll_cons_mk (Below.trod laidOut (by kernel_rfl) (of_decide_eq_true (by kernel_rfl)) h1k hB hlt1) (trodAll_cons_mk (Below.trod laidOut (by kernel_rfl) (of_decide_eq_true (by kernel_rfl)) h2k hB hlt2) (trodAll_cons_mk (Below.trod laidOut (by kernel_rfl) (of_decide_eq_true (by kernel_rfl)) h3k hB hlt3) trodAll_mk0)))); simp only [List.append_nil] at hz; exact hz, rfl, hB.frame _, fun h => by cases h⟩⟩

set_option maxRecDepth 100000 in
theorem indexShrinks_holds_lifted (os : Os) (started : os.Started) (H : Type) (enc : TypeId × Value → H) :
    ReturnsInHanded {} Try.checked os 4 .any (Rows.indexShrinksSpec.pre6 enc Try.prog Try.f4 Rows.indexShrinksRow.domain false) (Rows.indexShrinksSpec.post enc Try.prog Try.f4 false true false false) := by
  refine returnsInHanded_of_change_sized (C := Try.checked) own started (by kernel_rfl) Try.func4
    (ChangeSpec.witness6 (enc := enc) (C := Try.checked) false ⟨#[], #[.slice none 0 0, .slice none 0 0, .int .i64 0, .int .i64 0], []⟩ 8 (by kernel_rfl) (by kernel_rfl) (by kernel_rfl) (by kernel_rfl)) ?_
  intro W base args ds gs before hval hW _ hsz _
  exact indexShrinks_holds_contract enc W base args ds gs before hval hW hsz

theorem indexShrinks_holds_wf : Rows.indexShrinksRow.wf (OpenSpec.ofChange Rows.indexShrinksSpec) = true := by kernel_rfl
theorem indexShrinks_holds_ip : (Rows.indexShrinksRow.inPlace == Try.prog.inPlace 4) = true := by kernel_rfl
theorem indexShrinks_holds_uf : (Rows.indexShrinksRow.unfollowed == Try.prog.unfollowed 4) = true := by kernel_rfl
theorem indexShrinks_holds_rc : (Rows.indexShrinksRow.recurses == Try.prog.recurses 4) = true := by kernel_rfl
theorem indexShrinks_holds_nm : (Rows.indexShrinksRow.named == Try.prog.varsNamed 4) = true := by kernel_rfl
theorem indexShrinks_holds_closed : joinedFacts Try.prog 4 Try.f4 Rows.indexShrinksSpec Rows.indexShrinksRow = true := by
  unfold joinedFacts
  exact and_i (and_i (and_i (and_i (and_i (and_i (and_i (and_i (and_i (and_i (and_i (and_i (and_i (and_i (and_i (and_i (and_i (and_i (and_i (and_i (and_i (and_i (and_i (and_i (and_i (and_i (and_i (and_i (and_i (and_i (and_i (indexShrinks_holds_wf) all_laid) all_maps) (by kernel_rfl)) (by kernel_rfl)) (by kernel_rfl)) all_stops) (by kernel_rfl)) all_knobs) indexShrinks_holds_ip) indexShrinks_holds_uf) indexShrinks_holds_rc) indexShrinks_holds_nm) (by kernel_rfl)) (by kernel_rfl)) (by kernel_rfl)) (by kernel_rfl)) (by kernel_rfl)) (by kernel_rfl)) (by kernel_rfl)) (by kernel_rfl)) (by kernel_rfl)) all_keys) (by kernel_rfl)) all_heard) all_enter) all_lifts) all_make) (by kernel_rfl)) (by kernel_rfl)) (by kernel_rfl)) (by kernel_rfl)
theorem indexShrinks_holds : Rows.IndexShrinksSaid :=
  OpenClaim.holds_of_wide 4 Try.f4 rfl rfl rfl rfl rfl rfl rfl ⟨rfl, rfl, rfl, rfl, rfl⟩ rfl rfl rfl rfl rfl (by kernel_rfl) Try.func4 indexShrinks_holds_closed
    (of_decide_eq_true (by kernel_rfl)) (by unfold Func.isWrapper; rw [if_neg (by decide +kernel)]; exact ⟨rfl, rfl⟩)
    (fun os started H enc _ => indexShrinks_holds_lifted os started H enc)

#print axioms indexShrinks_holds
end Go.Proofs.Ythbcklajlmcifaa
