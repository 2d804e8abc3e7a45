/-
  The law TopIndex holds. Conditions: none beyond the statement.
-/
import Derived.Test.YtbgmlpbgofcfjaaGreatDoorQi
import Derived.Test.YtbgmlpbgofcfjaaGreatDoorQLH
import Derived.Test.YtbgmlpbgofcfjaaGreatDoorQLG
namespace Go.Proofs.YtbgmlpbgofcfjaaGreatDoor
open Go.ChangeShapes Go.WideShapes Go.ChangeAt Go.RowKit Go.Vc
set_option maxRecDepth 100000 in
theorem G4 {H : Type} (enc : TypeId × Value → H) (W : World) (base : Nat) (args : Array Value) (ds gs : List (DataW H)) (before : List MemPlace)
    (hval : ∀ (j : Nat) t v, Tryz.f3.params[j]? = some t → args[j]? = some v → Value.okWide Tryz.prog W .any base t v)
    (hW : DataW.Whole enc Tryz.prog Tryz.f3.params.toList Rows.topIndexSpec.vars false W args.toList ds gs before)
    (hsz : (DataW.weightsEach Tryz.prog (Tryz.f3.params.toList ++ Rows.topIndexSpec.plain.varTypes Tryz.prog) (ds ++ gs)).all (· ≤ reachBytes) = true) (hlaid : laidMetH Tryz.prog Rows.topIndexRow.laid W) (hsh : W.ShapedOpen Tryz.prog) :
    Calls Tryz.prog 3 args W fun e W' => ∃ v, e = .returned v ∧ Rows.topIndexSpec.post enc Tryz.prog Tryz.f3 false true false false W args v W' := by
  have hW' := hW
  have htab : Tab W := SM hlaid
  have hz0 := MJ hsh
  obtain ⟨p, q, hA0, hV, rfl, _, _⟩ := hW
  have hA : DataW.TrodAll enc Tryz.prog W 0 (fun _ => true) true Tryz.f3.params.toList args.toList ds p := hA0
  rw [Tryz.params3] at hA hval hsz
  obtain ⟨v0, vs0, d0, ds0, p0, q0, ha0, rfl, rfl, h0, r0⟩ := trodAll_cons hA
  obtain ⟨v1, vs1, d1, ds1, p1, q1, ha1, rfl, rfl, h1, r1⟩ := trodAll_cons r0
  obtain ⟨v2, vs2, d2, ds2, p2, q2, ha2, rfl, rfl, h2, r2⟩ := trodAll_cons r1
  obtain ⟨rfl, rfl, rfl⟩ := trodAll_nil r2
  obtain rfl : args = #[v0, v1, v2] := by cases args; simp_all
  obtain ⟨rfl, rfl⟩ := trodVars_none hV
  clear hA0
  simp only [List.append_nil] at hW' hsz
  have hlt0 : ∀ x ∈ p0, x.block < W.heap.size := fun x hx => by simpa using hW'.lt x (by simp [hx])
  have hw0 : ∀ m ∈ d0.weights Tryz.prog 22, m ≤ reachBytes := fun m hm => by
    have := List.all_eq_true.1 hsz m (DataW.weights_mem_each (j := 0) (t := 22) rfl rfl m hm)
    simpa using this
  have h0k := h0
  have hv0 := hval 0 22 v0 (by simp) (by simp)
  obtain ⟨fuel0, hf0⟩ := h0
  obtain ⟨ao0, len0, cap0, rfl⟩ := okWide_slice Tryz.underlying22 hv0
  obtain ⟨b0, o0, l0, rfl, hr0⟩ := cE (α := Int) Tryz.underlying22 U6 (by rw [VG]; decide) (TL Tryz.underlying3) (by simpa [Value.cells] using hf0) hw0
  have hlt1 : ∀ x ∈ p1, x.block < W.heap.size := fun x hx => by simpa using hW'.lt x (by simp [hx])
  have hw1 : ∀ m ∈ d1.weights Tryz.prog 22, m ≤ reachBytes := fun m hm => by
    have := List.all_eq_true.1 hsz m (DataW.weights_mem_each (j := 1) (t := 22) rfl rfl m hm)
    simpa using this
  have h1k := h1
  have hv1 := hval 1 22 v1 (by simp) (by simp)
  obtain ⟨fuel1, hf1⟩ := h1
  obtain ⟨ao1, len1, cap1, rfl⟩ := okWide_slice Tryz.underlying22 hv1
  obtain ⟨b1, o1, l1, rfl, hr1⟩ := cE (α := Int) Tryz.underlying22 U6 (by rw [VG]; decide) (TL Tryz.underlying3) (by simpa [Value.cells] using hf1) hw1
  have hlt2 : ∀ x ∈ p2, x.block < W.heap.size := fun x hx => by simpa using hW'.lt x (by simp [hx])
  have h2k := h2
  have hv2 := hval 2 3 v2 (by simp) (by simp)
  obtain ⟨fuel2, hf2⟩ := h2
  have hi2 : -9223372036854775808 ≤ (0 : Int) := by decide
  obtain ⟨n2, rfl⟩ := okWide_int Tryz.underlying3 hv2
  have hin2 : -9223372036854775808 ≤ n2 ∧ n2 ≤ 9223372036854775807 := WT Tryz.underlying3 hv2
  refine (QV hr0 hr1 hin2 htab hz0).mono fun e W' ⟨he, hE⟩ => ?_
  subst he
  have hB := hE.below
  exact ⟨_, rfl, ⟨_, _, _, [], _, [], hW', (trodAll_cons_mk (shut_bool Tryz.underlying4 _) trodAll_mk0), by have hz := (trodAll_cons_mk (Below.trod QM (by kernel_rfl) (of_decide_eq_true (by kernel_rfl)) h0k hB hlt0) (trodAll_cons_mk (Below.trod QM (by kernel_rfl) (of_decide_eq_true (by kernel_rfl)) h1k hB hlt1) (trodAll_cons_mk (Below.trod QM (by kernel_rfl) (of_decide_eq_true (by kernel_rfl)) h2k hB hlt2) trodAll_mk0))); simp only [List.append_nil] at hz; exact hz, rfl, hB.frame _, fun h => by cases h⟩⟩


theorem JH (os : Os) : laidMet Tryz.prog Rows.topIndexRow.laid ((LP os).forCall (fun _ _ => 0) ⟨#[], #[.slice none 0 0, .slice none 0 0, .int .i64 0], []⟩).memory := laidMet_of_run' 8 (by kernel_rfl) (by kernel_rfl)
theorem ID (os : Os) {H : Type} (enc : TypeId × Value → H) : ∃ places, DataW.whole enc Tryz.prog ((LP os).forCall (fun _ _ => 0) ⟨#[], #[.slice none 0 0, .slice none 0 0, .int .i64 0], []⟩).memory Tryz.f3.params.toList Rows.topIndexSpec.vars false (#[.slice none 0 0, .slice none 0 0, .int .i64 0] : Array Value).toList 8 = some ([.nil, .nil, .lit (.int .i64 0)], [], places) := ⟨[], by kernel_rfl⟩
set_option maxRecDepth 100000 in
theorem Hr (os : Os) (started : os.Started) (H : Type) (enc : TypeId × Value → H) (F : Stop.Interp) :
    ReturnsInHanded {} Tryz.checked os 3 .any ((OpenSpec.ofChange Rows.topIndexSpec).preRow enc Tryz.prog Tryz.f3 Rows.topIndexRow.domain false Rows.topIndexRow.laid) (((OpenSpec.ofChange Rows.topIndexSpec).at F).post enc Tryz.prog Tryz.f3 false true false false) := by
  obtain ⟨places, hx⟩ := ID os enc
  refine returnsInHanded_of_row (C := Tryz.checked) (s := (OpenSpec.ofChange Rows.topIndexSpec)) own started (by kernel_rfl) Tryz.func3
    (witness_row_at (enc := enc) (C := Tryz.checked) false (LP os) #[.slice none 0 0, .slice none 0 0, .int .i64 0] rfl (by kernel_rfl) (by kernel_rfl) (by kernel_rfl)
      (OpenSpec.preRow_of_cond 8 hx (by kernel_rfl) (fun k hk => by cases hk) (by kernel_rfl) (JH os))) ?_
  intro W base args ds gs before hval hW _ hcond hsz hlaid hsh _
  exact G4 enc W base args ds gs before hval hW hsz hlaid hsh

theorem Jt : Rows.topIndexRow.wf (OpenSpec.ofChange Rows.topIndexSpec) = true := by kernel_rfl
theorem Kc : (Rows.topIndexRow.inPlace == Tryz.prog.inPlace 3) = true := by kernel_rfl
theorem Jq : (Rows.topIndexRow.unfollowed == Tryz.prog.unfollowed 3) = true := by kernel_rfl
theorem KD : (Rows.topIndexRow.recurses == Tryz.prog.recurses 3) = true := by kernel_rfl
theorem Kk : (Rows.topIndexRow.named == Tryz.prog.varsNamed 3) = true := by kernel_rfl
theorem Ho : joinedFacts Tryz.prog 3 Tryz.f3 (OpenSpec.ofChange Rows.topIndexSpec).bare Rows.topIndexRow = true := by
  unfold joinedFacts
  exact Cm (Cm (Cm (Cm (Cm (Cm (Cm (Cm (Cm (Cm (Cm (Cm (Cm (Cm (Cm (Cm (Cm (Cm (Cm (Cm (Cm (Cm (Cm (Cm (Cm (Cm (Cm (Cm (Cm (Cm (Cm (Jt) ZH) Xi) (by kernel_rfl)) (by kernel_rfl)) (by kernel_rfl)) Wv) (by kernel_rfl)) Wi) Kc) Jq) KD) Kk) (by kernel_rfl)) (by kernel_rfl)) (by kernel_rfl)) (by kernel_rfl)) (by kernel_rfl)) (by kernel_rfl)) (by kernel_rfl)) (by kernel_rfl)) (by kernel_rfl)) Xk) (by kernel_rfl)) Vn) WK) WZ) YU) (by kernel_rfl)) (by kernel_rfl)) (by kernel_rfl)) (by kernel_rfl)
theorem JG : Rows.TopIndexSaid :=
  OpenClaim.holds_of_cond 3 Tryz.f3 rfl rfl rfl rfl rfl rfl rfl ⟨rfl, rfl, rfl, rfl, rfl⟩ rfl rfl rfl rfl rfl (by kernel_rfl) Tryz.func3 Ho
    (of_decide_eq_true (by kernel_rfl)) (by unfold Func.isWrapper; rw [if_neg (by decide +kernel)]; exact ⟨rfl, rfl⟩)
    (fun os started H enc _ F => by rw [OpenClaim.pre_eq_preRow]; exact Hr os started H enc F)
theorem H8 (f : FuncId) (fn : Func) (hf : Tryz.pinned.checked.prog.funcNamed "bitext/bitexttop.TopIndex" = some f) (hfn : Tryz.pinned.checked.prog.funcs[f]? = some fn) :
    true = Tryz.pinned.checked.prog.looks [] ∧ ∀ (j : Nat) t, fn.params[j]? = some t → Tryz.pinned.checked.prog.wantsStandIn t = false := by
  obtain rfl : f = 3 := Option.some.inj ((show Tryz.prog.funcNamed "bitext/bitexttop.TopIndex" = some 3 by kernel_rfl).symm.trans hf) |>.symm
  obtain rfl : fn = Tryz.f3 := (Option.some.inj (Tryz.func3.symm.trans hfn)).symm
  refine ⟨by kernel_rfl, fun j t ht => ?_⟩
  rw [Tryz.params3] at ht
  have hm := Array.mem_of_getElem? ht
  simp only [List.mem_toArray, List.mem_cons, List.not_mem_nil, or_false] at hm
  rcases hm with rfl | rfl | rfl
  · exact (show Tryz.prog.wantsStandIn 22 = false by kernel_rfl)
  · exact (show Tryz.prog.wantsStandIn 22 = false by kernel_rfl)
  · exact (show Tryz.prog.wantsStandIn 3 = false by kernel_rfl)
theorem topIndex_holds : Rows.TopIndexCardSaid :=
  Claim7.holds_tied_plain_at .later [] _ _ _ _ JG (fun _ h => by cases h) (by kernel_rfl) (fun _ h => by cases h) topIndex_row_tie rfl ⟨rfl, rfl⟩ (by kernel_rfl) rfl H8 (by kernel_rfl)
#print axioms topIndex_holds
end Go.Proofs.YtbgmlpbgofcfjaaGreatDoor
