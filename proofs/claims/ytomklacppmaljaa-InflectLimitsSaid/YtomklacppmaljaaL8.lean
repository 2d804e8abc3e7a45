/-
  The law InflectLimits holds. Conditions: none beyond the statement.
-/
import Derived.Test.YtomklacppmaljaaNa
import Derived.Test.YtomklacppmaljaaLH
import Derived.Test.YtomklacppmaljaaLG
namespace Go.Proofs.Ytomklacppmaljaa
open Go.ChangeShapes Go.WideShapes Go.ChangeAt Go.RowKit Go.Vc
set_option maxRecDepth 100000 in
theorem inflectLimits_holds_contract {H : Type} (enc : TypeId × Value → H) (W : World) (base : Nat) (args : Array Value) (ds gs : List (DataW H)) (before : List MemPlace)
    (hval : ∀ (j : Nat) t v, Try.f8.params[j]? = some t → args[j]? = some v → Value.okWide Try.prog W .any base t v)
    (hW : DataW.Whole enc Try.prog Try.f8.params.toList Rows.inflectLimitsSpec.vars false W args.toList ds gs before)
    (hsz : (DataW.weightsEach Try.prog (Try.f8.params.toList ++ Rows.inflectLimitsSpec.plain.varTypes Try.prog) (ds ++ gs)).all (· ≤ reachBytes) = true) :
    Calls Try.prog 8 args W fun e W' => ∃ v, e = .returned v ∧ Rows.inflectLimitsSpec.post enc Try.prog Try.f8 false true false false W args v W' := by
  have hW' := hW
  obtain ⟨p, q, hA0, hV, rfl, _, _⟩ := hW
  have hA : DataW.TrodAll enc Try.prog W 0 (fun _ => true) true Try.f8.params.toList args.toList ds p := hA0
  rw [Try.params8] at hA hval hsz
  obtain ⟨v0, vs0, d0, ds0, p0, q0, ha0, rfl, rfl, h0, r0⟩ := trodAll_cons hA
  obtain ⟨v1, vs1, d1, ds1, p1, q1, ha1, rfl, rfl, h1, r1⟩ := trodAll_cons r0
  obtain ⟨v2, vs2, d2, ds2, p2, q2, ha2, rfl, rfl, h2, r2⟩ := trodAll_cons r1
  obtain ⟨rfl, rfl, rfl⟩ := trodAll_nil r2
  obtain rfl : args = #[v0, v1, v2] := by cases args; simp_all
  obtain ⟨rfl, rfl⟩ := trodVars_none hV
  clear hA0
  simp only [List.append_nil] at hW' hsz
  have hlt0 : ∀ x ∈ p0, x.block < W.heap.size := fun x hx => by simpa using hW'.lt x (by simp [hx])
  have h0k := h0
  have hv0 := hval 0 3 v0 (by simp) (by simp)
  obtain ⟨n0, rfl⟩ := okWide_int Try.underlying3 hv0
  have hlt1 : ∀ x ∈ p1, x.block < W.heap.size := fun x hx => by simpa using hW'.lt x (by simp [hx])
  have h1k := h1
  have hv1 := hval 1 3 v1 (by simp) (by simp)
  obtain ⟨n1, rfl⟩ := okWide_int Try.underlying3 hv1
  have hlt2 : ∀ x ∈ p2, x.block < W.heap.size := fun x hx => by simpa using hW'.lt x (by simp [hx])
  have h2k := h2
  have hv2 := hval 2 3 v2 (by simp) (by simp)
  obtain ⟨n2, rfl⟩ := okWide_int Try.underlying3 hv2
  refine (ilimits_law).mono fun e W' ⟨he, hE⟩ => ?_
  subst he
  have hB := hE.below
  exact ⟨_, rfl, ⟨_, _, _, [], _, [], hW', (trodAll_cons_mk (shut_bool Try.underlying4 _) trodAll_mk0), by have hz := (trodAll_cons_mk (Below.trod laidOut (by kernel_rfl) (of_decide_eq_true (by kernel_rfl)) h0k hB hlt0) (trodAll_cons_mk (Below.trod laidOut (by kernel_rfl) (of_decide_eq_true (by kernel_rfl)) h1k hB hlt1) (trodAll_cons_mk (Below.trod laidOut (by kernel_rfl) (of_decide_eq_true (by kernel_rfl)) h2k hB hlt2) trodAll_mk0))); simp only [List.append_nil] at hz; exact hz, rfl, hB.frame _, fun h => by cases h⟩⟩

set_option maxRecDepth 100000 in
theorem inflectLimits_holds_lifted (os : Os) (started : os.Started) (H : Type) (enc : TypeId × Value → H) :
    ReturnsInHanded {} Try.checked os 8 .any (Rows.inflectLimitsSpec.pre6 enc Try.prog Try.f8 Rows.inflectLimitsRow.domain false) (Rows.inflectLimitsSpec.post enc Try.prog Try.f8 false true false false) := by
  refine returnsInHanded_of_change_sized (C := Try.checked) own started (by kernel_rfl) Try.func8
    (ChangeSpec.witness6 (enc := enc) (C := Try.checked) false ⟨#[], #[.int .i64 0, .int .i64 0, .int .i64 0], []⟩ 8 (by kernel_rfl) (by kernel_rfl) (by kernel_rfl) (by kernel_rfl)) ?_
  intro W base args ds gs before hval hW _ hsz _
  exact inflectLimits_holds_contract enc W base args ds gs before hval hW hsz

theorem inflectLimits_holds_wf : Rows.inflectLimitsRow.wf (OpenSpec.ofChange Rows.inflectLimitsSpec) = true := by kernel_rfl
theorem inflectLimits_holds_ip : (Rows.inflectLimitsRow.inPlace == Try.prog.inPlace 8) = true := by kernel_rfl
theorem inflectLimits_holds_uf : (Rows.inflectLimitsRow.unfollowed == Try.prog.unfollowed 8) = true := by kernel_rfl
theorem inflectLimits_holds_rc : (Rows.inflectLimitsRow.recurses == Try.prog.recurses 8) = true := by kernel_rfl
theorem inflectLimits_holds_nm : (Rows.inflectLimitsRow.named == Try.prog.varsNamed 8) = true := by kernel_rfl
theorem inflectLimits_holds_closed : joinedFacts Try.prog 8 Try.f8 Rows.inflectLimitsSpec Rows.inflectLimitsRow = true := by
  unfold joinedFacts
  exact and_i (and_i (and_i (and_i (and_i (and_i (and_i (and_i (and_i (and_i (and_i (and_i (and_i (and_i (and_i (and_i (and_i (and_i (and_i (and_i (and_i (and_i (and_i (and_i (and_i (and_i (and_i (and_i (and_i (and_i (and_i (inflectLimits_holds_wf) all_laid) all_maps) (by kernel_rfl)) (by kernel_rfl)) (by kernel_rfl)) all_stops) (by kernel_rfl)) all_knobs) inflectLimits_holds_ip) inflectLimits_holds_uf) inflectLimits_holds_rc) inflectLimits_holds_nm) (by kernel_rfl)) (by kernel_rfl)) (by kernel_rfl)) (by kernel_rfl)) (by kernel_rfl)) (by kernel_rfl)) (by kernel_rfl)) (by kernel_rfl)) (by kernel_rfl)) all_keys) (by kernel_rfl)) all_heard) all_enter) all_lifts) all_make) (by kernel_rfl)) (by kernel_rfl)) (by kernel_rfl)) (by kernel_rfl)
theorem inflectLimits_holds : Rows.InflectLimitsSaid :=
  OpenClaim.holds_of_wide 8 Try.f8 rfl rfl rfl rfl rfl rfl rfl ⟨rfl, rfl, rfl, rfl, rfl⟩ rfl rfl rfl rfl rfl (by kernel_rfl) Try.func8 inflectLimits_holds_closed
    (of_decide_eq_true (by kernel_rfl)) (by unfold Func.isWrapper; rw [if_neg (by decide +kernel)]; exact ⟨rfl, rfl⟩)
    (fun os started H enc _ => inflectLimits_holds_lifted os started H enc)

#print axioms inflectLimits_holds
end Go.Proofs.Ytomklacppmaljaa
