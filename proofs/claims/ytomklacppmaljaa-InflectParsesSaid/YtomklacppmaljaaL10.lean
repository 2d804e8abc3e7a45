/-
  The law InflectParses holds. Conditions: none beyond the statement.
-/
import Derived.Test.YtomklacppmaljaaNd
import Derived.Test.YtomklacppmaljaaLH
import Derived.Test.YtomklacppmaljaaLG
namespace Go.Proofs.Ytomklacppmaljaa
open Go.ChangeShapes Go.WideShapes Go.ChangeAt Go.RowKit Go.Vc
set_option maxRecDepth 100000 in
theorem inflectParses_holds_contract {H : Type} (enc : TypeId × Value → H) (W : World) (base : Nat) (args : Array Value) (ds gs : List (DataW H)) (before : List MemPlace)
    (hval : ∀ (j : Nat) t v, Try.f10.params[j]? = some t → args[j]? = some v → Value.okWide Try.prog W .any base t v)
    (hW : DataW.Whole enc Try.prog Try.f10.params.toList Rows.inflectParsesSpec.vars false W args.toList ds gs before)
    (hsz : (DataW.weightsEach Try.prog (Try.f10.params.toList ++ Rows.inflectParsesSpec.plain.varTypes Try.prog) (ds ++ gs)).all (· ≤ reachBytes) = true) :
    Calls Try.prog 10 args W fun e W' => ∃ v, e = .returned v ∧ Rows.inflectParsesSpec.post enc Try.prog Try.f10 false true false false W args v W' := by
  have hW' := hW
  obtain ⟨p, q, hA0, hV, rfl, _, _⟩ := hW
  have hA : DataW.TrodAll enc Try.prog W 0 (fun _ => true) true Try.f10.params.toList args.toList ds p := hA0
  rw [Try.params10] at hA hval hsz
  obtain ⟨v0, vs0, d0, ds0, p0, q0, ha0, rfl, rfl, h0, r0⟩ := trodAll_cons hA
  obtain ⟨v1, vs1, d1, ds1, p1, q1, ha1, rfl, rfl, h1, r1⟩ := trodAll_cons r0
  obtain ⟨v2, vs2, d2, ds2, p2, q2, ha2, rfl, rfl, h2, r2⟩ := trodAll_cons r1
  obtain ⟨v3, vs3, d3, ds3, p3, q3, ha3, rfl, rfl, h3, r3⟩ := trodAll_cons r2
  obtain ⟨rfl, rfl, rfl⟩ := trodAll_nil r3
  obtain rfl : args = #[v0, v1, v2, v3] := by cases args; simp_all
  obtain ⟨rfl, rfl⟩ := trodVars_none hV
  clear hA0
  simp only [List.append_nil] at hW' hsz
  have hlt0 : ∀ x ∈ p0, x.block < W.heap.size := fun x hx => by simpa using hW'.lt x (by simp [hx])
  have hw0 : ∀ m ∈ d0.weights Try.prog 9, m ≤ reachBytes := fun m hm => by
    have := List.all_eq_true.1 hsz m (DataW.weights_mem_each (j := 0) (t := 9) rfl rfl m hm)
    simpa using this
  have h0k := h0
  have hv0 := hval 0 9 v0 (by simp) (by simp)
  obtain ⟨fuel0, hf0⟩ := h0
  obtain ⟨n0, rfl⟩ := okS (okWide_string Try.underlying9 hv0)
  have hb0 : n0.length ≤ 140737488351232 := by obtain ⟨s9, e9, e7, e8⟩ := DataW.trod_string Try.underlying9 hf0; simp [Value.cells, S] at e9; subst e9; have e6 : d0 = .lit (.string n0) := congrArg Prod.fst e7; exact hw0 n0.length (by rw [e6]; simp [DataW.weights])
  have hlt1 : ∀ x ∈ p1, x.block < W.heap.size := fun x hx => by simpa using hW'.lt x (by simp [hx])
  have hw1 : ∀ m ∈ d1.weights Try.prog 23, m ≤ reachBytes := fun m hm => by
    have := List.all_eq_true.1 hsz m (DataW.weights_mem_each (j := 1) (t := 23) rfl rfl m hm)
    simpa using this
  have h1k := h1
  have hv1 := hval 1 23 v1 (by simp) (by simp)
  obtain ⟨fuel1, hf1⟩ := h1
  obtain ⟨ao1, len1, cap1, rfl⟩ := okWide_slice Try.underlying23 hv1
  obtain ⟨b1, o1, l1, rfl, hr1⟩ := openE (α := Int) Try.underlying23 cells_3 (by rw [bytes_3]; decide) (elem_int Try.underlying3) (by simpa [Value.cells] using hf1) hw1
  have hlt2 : ∀ x ∈ p2, x.block < W.heap.size := fun x hx => by simpa using hW'.lt x (by simp [hx])
  have h2k := h2
  have hv2 := hval 2 3 v2 (by simp) (by simp)
  obtain ⟨n2, rfl⟩ := okWide_int Try.underlying3 hv2
  have hlt3 : ∀ x ∈ p3, x.block < W.heap.size := fun x hx => by simpa using hW'.lt x (by simp [hx])
  have h3k := h3
  have hv3 := hval 3 5 v3 (by simp) (by simp)
  obtain ⟨n3, rfl⟩ := okWide_int Try.underlying5 hv3
  obtain ⟨fuel3, hf3⟩ := h3
  obtain ⟨c3, rfl⟩ : ∃ c : UInt8, n3 = ((c.toNat : Nat) : Int) := okU8 (by obtain ⟨m9, e9, _, e8⟩ := DataW.trod_int Try.underlying5 hf3; simp [Value.cells] at e9; subst e9; exact e8)
  refine (iparses_law hb0 hr1).mono fun e W' ⟨he, hE⟩ => ?_
  subst he
  have hB := hE.below
  exact ⟨_, rfl, ⟨_, _, _, [], _, [], hW', (trodAll_cons_mk (shut_bool Try.underlying4 _) trodAll_mk0), by have hz := (trodAll_cons_mk (Below.trod laidOut (by kernel_rfl) (of_decide_eq_true (by kernel_rfl)) h0k hB hlt0) (trodAll_cons_mk (Below.trod laidOut (by kernel_rfl) (of_decide_eq_true (by kernel_rfl)) h1k hB hlt1) (trodAll_cons_mk (Below.trod laidOut (by kernel_rfl) (of_decide_eq_true (by kernel_rfl)) h2k hB hlt2) (trodAll_cons_mk (Below.trod laidOut (by kernel_rfl) (of_decide_eq_true (by kernel_rfl)) h3k hB hlt3) trodAll_mk0)))); simp only [List.append_nil] at hz; exact hz, rfl, hB.frame _, fun h => by cases h⟩⟩

set_option maxRecDepth 100000 in
theorem inflectParses_holds_lifted (os : Os) (started : os.Started) (H : Type) (enc : TypeId × Value → H) :
    ReturnsInHanded {} Try.checked os 10 .any (Rows.inflectParsesSpec.pre6 enc Try.prog Try.f10 Rows.inflectParsesRow.domain false) (Rows.inflectParsesSpec.post enc Try.prog Try.f10 false true false false) := by
  refine returnsInHanded_of_change_sized (C := Try.checked) own started (by kernel_rfl) Try.func10
    (ChangeSpec.witness6 (enc := enc) (C := Try.checked) false ⟨#[], #[.string ⟨#[]⟩, .slice none 0 0, .int .i64 0, .int .u8 0], []⟩ 8 (by kernel_rfl) (by kernel_rfl) (by kernel_rfl) (by kernel_rfl)) ?_
  intro W base args ds gs before hval hW _ hsz _
  exact inflectParses_holds_contract enc W base args ds gs before hval hW hsz

theorem inflectParses_holds_wf : Rows.inflectParsesRow.wf (OpenSpec.ofChange Rows.inflectParsesSpec) = true := by kernel_rfl
theorem inflectParses_holds_ip : (Rows.inflectParsesRow.inPlace == Try.prog.inPlace 10) = true := by kernel_rfl
theorem inflectParses_holds_uf : (Rows.inflectParsesRow.unfollowed == Try.prog.unfollowed 10) = true := by kernel_rfl
theorem inflectParses_holds_rc : (Rows.inflectParsesRow.recurses == Try.prog.recurses 10) = true := by kernel_rfl
theorem inflectParses_holds_nm : (Rows.inflectParsesRow.named == Try.prog.varsNamed 10) = true := by kernel_rfl
theorem inflectParses_holds_closed : joinedFacts Try.prog 10 Try.f10 Rows.inflectParsesSpec Rows.inflectParsesRow = true := by
  unfold joinedFacts
  exact and_i (and_i (and_i (and_i (and_i (and_i (and_i (and_i (and_i (and_i (and_i (and_i (and_i (and_i (and_i (and_i (and_i (and_i (and_i (and_i (and_i (and_i (and_i (and_i (and_i (and_i (and_i (and_i (and_i (and_i (and_i (inflectParses_holds_wf) all_laid) all_maps) (by kernel_rfl)) (by kernel_rfl)) (by kernel_rfl)) all_stops) (by kernel_rfl)) all_knobs) inflectParses_holds_ip) inflectParses_holds_uf) inflectParses_holds_rc) inflectParses_holds_nm) (by kernel_rfl)) (by kernel_rfl)) (by kernel_rfl)) (by kernel_rfl)) (by kernel_rfl)) (by kernel_rfl)) (by kernel_rfl)) (by kernel_rfl)) (by kernel_rfl)) all_keys) (by kernel_rfl)) all_heard) all_enter) all_lifts) all_make) (by kernel_rfl)) (by kernel_rfl)) (by kernel_rfl)) (by kernel_rfl)
theorem inflectParses_holds : Rows.InflectParsesSaid :=
  OpenClaim.holds_of_wide 10 Try.f10 rfl rfl rfl rfl rfl rfl rfl ⟨rfl, rfl, rfl, rfl, rfl⟩ rfl rfl rfl rfl rfl (by kernel_rfl) Try.func10 inflectParses_holds_closed
    (of_decide_eq_true (by kernel_rfl)) (by unfold Func.isWrapper; rw [if_neg (by decide +kernel)]; exact ⟨rfl, rfl⟩)
    (fun os started H enc _ => inflectParses_holds_lifted os started H enc)

#print axioms inflectParses_holds
end Go.Proofs.Ytomklacppmaljaa
