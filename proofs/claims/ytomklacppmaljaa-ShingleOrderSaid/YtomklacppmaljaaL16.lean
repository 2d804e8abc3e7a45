/-
  The law ShingleOrder holds. Conditions: none beyond the statement.
-/
import Derived.Test.YtomklacppmaljaaOe
import Derived.Test.YtomklacppmaljaaLH
import Derived.Test.YtomklacppmaljaaLG
namespace Go.Proofs.Ytomklacppmaljaa
open Go.ChangeShapes Go.WideShapes Go.ChangeAt Go.RowKit Go.Vc
set_option maxRecDepth 100000 in
theorem shingleOrder_holds_contract {H : Type} (enc : TypeId × Value → H) (W : World) (base : Nat) (args : Array Value) (ds gs : List (DataW H)) (before : List MemPlace)
    (hval : ∀ (j : Nat) t v, Try.f18.params[j]? = some t → args[j]? = some v → Value.okWide Try.prog W .any base t v)
    (hW : DataW.Whole enc Try.prog Try.f18.params.toList Rows.shingleOrderSpec.vars false W args.toList ds gs before)
    (hsz : (DataW.weightsEach Try.prog (Try.f18.params.toList ++ Rows.shingleOrderSpec.plain.varTypes Try.prog) (ds ++ gs)).all (· ≤ reachBytes) = true) :
    Calls Try.prog 18 args W fun e W' => ∃ v, e = .returned v ∧ Rows.shingleOrderSpec.post enc Try.prog Try.f18 false true false false W args v W' := by
  have hW' := hW
  obtain ⟨p, q, hA0, hV, rfl, _, _⟩ := hW
  have hA : DataW.TrodAll enc Try.prog W 0 (fun _ => true) true Try.f18.params.toList args.toList ds p := hA0
  rw [Try.params18] at hA hval hsz
  obtain ⟨v0, vs0, d0, ds0, p0, q0, ha0, rfl, rfl, h0, r0⟩ := trodAll_cons hA
  obtain ⟨rfl, rfl, rfl⟩ := trodAll_nil r0
  obtain rfl : args = #[v0] := by cases args; simp_all
  obtain ⟨rfl, rfl⟩ := trodVars_none hV
  clear hA0
  simp only [List.append_nil] at hW' hsz
  have hlt0 : ∀ x ∈ p0, x.block < W.heap.size := fun x hx => by simpa using hW'.lt x (by simp [hx])
  have h0k := h0
  have hv0 := hval 0 3 v0 (by simp) (by simp)
  obtain ⟨n0, rfl⟩ := okWide_int Try.underlying3 hv0
  refine (order_law).mono fun e W' ⟨he, hE⟩ => ?_
  subst he
  have hB := hE.below
  exact ⟨_, rfl, ⟨_, _, _, [], _, [], hW', (trodAll_cons_mk (shut_bool Try.underlying4 _) trodAll_mk0), by have hz := (trodAll_cons_mk (Below.trod laidOut (by kernel_rfl) (of_decide_eq_true (by kernel_rfl)) h0k hB hlt0) trodAll_mk0); simp only [List.append_nil] at hz; exact hz, rfl, hB.frame _, fun h => by cases h⟩⟩

set_option maxRecDepth 100000 in
theorem shingleOrder_holds_lifted (os : Os) (started : os.Started) (H : Type) (enc : TypeId × Value → H) :
    ReturnsInHanded {} Try.checked os 18 .any (Rows.shingleOrderSpec.pre6 enc Try.prog Try.f18 Rows.shingleOrderRow.domain false) (Rows.shingleOrderSpec.post enc Try.prog Try.f18 false true false false) := by
  refine returnsInHanded_of_change_sized (C := Try.checked) own started (by kernel_rfl) Try.func18
    (ChangeSpec.witness6 (enc := enc) (C := Try.checked) false ⟨#[], #[.int .i64 0], []⟩ 8 (by kernel_rfl) (by kernel_rfl) (by kernel_rfl) (by kernel_rfl)) ?_
  intro W base args ds gs before hval hW _ hsz _
  exact shingleOrder_holds_contract enc W base args ds gs before hval hW hsz

theorem shingleOrder_holds_wf : Rows.shingleOrderRow.wf (OpenSpec.ofChange Rows.shingleOrderSpec) = true := by kernel_rfl
theorem shingleOrder_holds_ip : (Rows.shingleOrderRow.inPlace == Try.prog.inPlace 18) = true := by kernel_rfl
theorem shingleOrder_holds_uf : (Rows.shingleOrderRow.unfollowed == Try.prog.unfollowed 18) = true := by kernel_rfl
theorem shingleOrder_holds_rc : (Rows.shingleOrderRow.recurses == Try.prog.recurses 18) = true := by kernel_rfl
theorem shingleOrder_holds_nm : (Rows.shingleOrderRow.named == Try.prog.varsNamed 18) = true := by kernel_rfl
theorem shingleOrder_holds_closed : joinedFacts Try.prog 18 Try.f18 Rows.shingleOrderSpec Rows.shingleOrderRow = true := by
  unfold joinedFacts
  exact and_i (and_i (and_i (and_i (and_i (and_i (and_i (and_i (and_i (and_i (and_i (and_i (and_i (and_i (and_i (and_i (and_i (and_i (and_i (and_i (and_i (and_i (and_i (and_i (and_i (and_i (and_i (and_i (and_i (and_i (and_i (shingleOrder_holds_wf) all_laid) all_maps) (by kernel_rfl)) (by kernel_rfl)) (by kernel_rfl)) all_stops) (by kernel_rfl)) all_knobs) shingleOrder_holds_ip) shingleOrder_holds_uf) shingleOrder_holds_rc) shingleOrder_holds_nm) (by kernel_rfl)) (by kernel_rfl)) (by kernel_rfl)) (by kernel_rfl)) (by kernel_rfl)) (by kernel_rfl)) (by kernel_rfl)) (by kernel_rfl)) (by kernel_rfl)) all_keys) (by kernel_rfl)) all_heard) all_enter) all_lifts) all_make) (by kernel_rfl)) (by kernel_rfl)) (by kernel_rfl)) (by kernel_rfl)
theorem shingleOrder_holds : Rows.ShingleOrderSaid :=
  OpenClaim.holds_of_wide 18 Try.f18 rfl rfl rfl rfl rfl rfl rfl ⟨rfl, rfl, rfl, rfl, rfl⟩ rfl rfl rfl rfl rfl (by kernel_rfl) Try.func18 shingleOrder_holds_closed
    (of_decide_eq_true (by kernel_rfl)) (by unfold Func.isWrapper; rw [if_neg (by decide +kernel)]; exact ⟨rfl, rfl⟩)
    (fun os started H enc _ => shingleOrder_holds_lifted os started H enc)

#print axioms shingleOrder_holds
end Go.Proofs.Ytomklacppmaljaa
