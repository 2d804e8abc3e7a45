/-
  The law IndexFull holds. Conditions: none beyond the statement.
-/
import Derived.Test.YthbcklajlmcifaaQf
import Derived.Test.YthbcklajlmcifaaQLH
import Derived.Test.YthbcklajlmcifaaQLG
namespace Go.Proofs.Ythbcklajlmcifaa
open Go.ChangeShapes Go.WideShapes Go.ChangeAt Go.RowKit Go.Vc
set_option maxRecDepth 100000 in
theorem indexFull_holds_contract {H : Type} (enc : TypeId × Value → H) (W : World) (base : Nat) (args : Array Value) (ds gs : List (DataW H)) (before : List MemPlace)
    (hval : ∀ (j : Nat) t v, Try.f6.params[j]? = some t → args[j]? = some v → Value.okWide Try.prog W .any base t v)
    (hW : DataW.Whole enc Try.prog Try.f6.params.toList Rows.indexFullSpec.vars false W args.toList ds gs before)
    (hsz : (DataW.weightsEach Try.prog (Try.f6.params.toList ++ Rows.indexFullSpec.plain.varTypes Try.prog) (ds ++ gs)).all (· ≤ reachBytes) = true) :
    Calls Try.prog 6 args W fun e W' => ∃ v, e = .returned v ∧ Rows.indexFullSpec.post enc Try.prog Try.f6 false true false false W args v W' := by
  have hW' := hW
  obtain ⟨p, q, hA0, hV, rfl, _, _⟩ := hW
  have hA : DataW.TrodAll enc Try.prog W 0 (fun _ => true) true Try.f6.params.toList args.toList ds p := hA0
  rw [Try.params6] at hA hval hsz
  obtain ⟨v0, vs0, d0, ds0, p0, q0, ha0, rfl, rfl, h0, r0⟩ := trodAll_cons hA
  obtain ⟨rfl, rfl, rfl⟩ := trodAll_nil r0
  obtain rfl : args = #[v0] := by cases args; simp_all
  obtain ⟨rfl, rfl⟩ := trodVars_none hV
  clear hA0
  simp only [List.append_nil] at hW' hsz
  have hlt0 : ∀ x ∈ p0, x.block < W.heap.size := fun x hx => by simpa using hW'.lt x (by simp [hx])
  have h0k := h0
  have hv0 := hval 0 3 v0 (by simp) (by simp)
  obtain ⟨n0, rfl⟩ := okWide_int Try.underlying3 hv0
  refine (full_law).mono fun e W' ⟨he, hE⟩ => ?_
  subst he
  have hB := hE.below
  exact ⟨_, rfl, ⟨_, _, _, [], _, [], hW', (trodAll_cons_mk (shut_bool Try.underlying4 _) trodAll_mk0), by have hz := (trodAll_cons_mk (Below.trod laidOut (by kernel_rfl) (of_decide_eq_true (by kernel_rfl)) h0k hB hlt0) trodAll_mk0); simp only [List.append_nil] at hz; exact hz, rfl, hB.frame _, fun h => by cases h⟩⟩

set_option maxRecDepth 100000 in
theorem indexFull_holds_lifted (os : Os) (started : os.Started) (H : Type) (enc : TypeId × Value → H) :
    ReturnsInHanded {} Try.checked os 6 .any (Rows.indexFullSpec.pre6 enc Try.prog Try.f6 Rows.indexFullRow.domain false) (Rows.indexFullSpec.post enc Try.prog Try.f6 false true false false) := by
  refine returnsInHanded_of_change_sized (C := Try.checked) own started (by kernel_rfl) Try.func6
    (ChangeSpec.witness6 (enc := enc) (C := Try.checked) false ⟨#[], #[.int .i64 0], []⟩ 8 (by kernel_rfl) (by kernel_rfl) (by kernel_rfl) (by kernel_rfl)) ?_
  intro W base args ds gs before hval hW _ hsz _
  exact indexFull_holds_contract enc W base args ds gs before hval hW hsz

theorem indexFull_holds_wf : Rows.indexFullRow.wf (OpenSpec.ofChange Rows.indexFullSpec) = true := by kernel_rfl
theorem indexFull_holds_ip : (Rows.indexFullRow.inPlace == Try.prog.inPlace 6) = true := by kernel_rfl
theorem indexFull_holds_uf : (Rows.indexFullRow.unfollowed == Try.prog.unfollowed 6) = true := by kernel_rfl
theorem indexFull_holds_rc : (Rows.indexFullRow.recurses == Try.prog.recurses 6) = true := by kernel_rfl
theorem indexFull_holds_nm : (Rows.indexFullRow.named == Try.prog.varsNamed 6) = true := by kernel_rfl
theorem indexFull_holds_closed : joinedFacts Try.prog 6 Try.f6 Rows.indexFullSpec Rows.indexFullRow = true := by
  unfold joinedFacts
  exact and_i (and_i (and_i (and_i (and_i (and_i (and_i (and_i (and_i (and_i (and_i (and_i (and_i (and_i (and_i (and_i (and_i (and_i (and_i (and_i (and_i (and_i (and_i (and_i (and_i (and_i (and_i (and_i (and_i (and_i (and_i (indexFull_holds_wf) all_laid) all_maps) (by kernel_rfl)) (by kernel_rfl)) (by kernel_rfl)) all_stops) (by kernel_rfl)) all_knobs) indexFull_holds_ip) indexFull_holds_uf) indexFull_holds_rc) indexFull_holds_nm) (by kernel_rfl)) (by kernel_rfl)) (by kernel_rfl)) (by kernel_rfl)) (by kernel_rfl)) (by kernel_rfl)) (by kernel_rfl)) (by kernel_rfl)) (by kernel_rfl)) all_keys) (by kernel_rfl)) all_heard) all_enter) all_lifts) all_make) (by kernel_rfl)) (by kernel_rfl)) (by kernel_rfl)) (by kernel_rfl)
theorem indexFull_holds : Rows.IndexFullSaid :=
  OpenClaim.holds_of_wide 6 Try.f6 rfl rfl rfl rfl rfl rfl rfl ⟨rfl, rfl, rfl, rfl, rfl⟩ rfl rfl rfl rfl rfl (by kernel_rfl) Try.func6 indexFull_holds_closed
    (of_decide_eq_true (by kernel_rfl)) (by unfold Func.isWrapper; rw [if_neg (by decide +kernel)]; exact ⟨rfl, rfl⟩)
    (fun os started H enc _ => indexFull_holds_lifted os started H enc)

#print axioms indexFull_holds
end Go.Proofs.Ythbcklajlmcifaa
