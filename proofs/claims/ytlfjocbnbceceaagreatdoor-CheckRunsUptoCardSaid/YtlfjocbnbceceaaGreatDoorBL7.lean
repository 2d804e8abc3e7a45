/-
  The law CheckRuns holds where what it reads is of bulk at most 1048576. Conditions: none beyond the statement.
-/
import Derived.Test.YtlfjocbnbceceaaGreatDoorBi
import Derived.Test.YtlfjocbnbceceaaGreatDoorBLH
import Derived.Test.YtlfjocbnbceceaaGreatDoorBLG
namespace Go.Proofs.YtlfjocbnbceceaaGreatDoor
open Go.ChangeShapes Go.WideShapes Go.ChangeAt Go.RowKit Go.Vc
set_option maxRecDepth 100000 in
theorem HB {H : Type} (enc : TypeId × Value → H) (W : World) (base : Nat) (args : Array Value) (ds gs : List (DataW H)) (before : List MemPlace)
    (hval : ∀ (j : Nat) t v, Tryz.f5.params[j]? = some t → args[j]? = some v → Value.okWide Tryz.prog W .any base t v)
    (hW : DataW.Whole enc Tryz.prog Tryz.f5.params.toList Rows.checkRunsSpec.vars false W args.toList ds gs before)
    (hsz : (DataW.weightsEach Tryz.prog (Tryz.f5.params.toList ++ Rows.checkRunsSpec.plain.varTypes Tryz.prog) (ds ++ gs)).all (· ≤ reachBytes) = true) (hk : Rows.uptoSmall H (ds ++ gs) = true) (hlaid : laidMetH Tryz.prog Rows.checkRunsUptoRow.laid W) :
    Calls Tryz.prog 5 args W fun e W' => ∃ v, e = .returned v ∧ Rows.checkRunsSpec.post enc Tryz.prog Tryz.f5 false true false false W args v W' := by
  have hW' := hW
  have htab : Tab W := Se hlaid
  obtain ⟨p, q, hA0, hV, rfl, _, _⟩ := hW
  have hA : DataW.TrodAll enc Tryz.prog W 0 (fun _ => true) true Tryz.f5.params.toList args.toList ds p := hA0
  rw [Tryz.params5] at hA hval hsz
  obtain ⟨v0, vs0, d0, ds0, p0, q0, ha0, rfl, rfl, h0, r0⟩ := trodAll_cons hA
  obtain ⟨v1, vs1, d1, ds1, p1, q1, ha1, rfl, rfl, h1, r1⟩ := trodAll_cons r0
  obtain ⟨v2, vs2, d2, ds2, p2, q2, ha2, rfl, rfl, h2, r2⟩ := trodAll_cons r1
  obtain ⟨v3, vs3, d3, ds3, p3, q3, ha3, rfl, rfl, h3, r3⟩ := trodAll_cons r2
  obtain ⟨v4, vs4, d4, ds4, p4, q4, ha4, rfl, rfl, h4, r4⟩ := trodAll_cons r3
  obtain ⟨rfl, rfl, rfl⟩ := trodAll_nil r4
  obtain rfl : args = #[v0, v1, v2, v3, v4] := by cases args; simp_all
  obtain ⟨rfl, rfl⟩ := trodVars_none hV
  clear hA0
  simp only [List.append_nil] at hW' hsz hk
  have hbb := T4 hk
  have hbk0 : Rows.uptoBulk d0 ≤ 1048576 := Nat.le_trans (GG (by simp)) hbb
  have hbk1 : Rows.uptoBulk d1 ≤ 1048576 := Nat.le_trans (GG (by simp)) hbb
  have hbk2 : Rows.uptoBulk d2 ≤ 1048576 := Nat.le_trans (GG (by simp)) hbb
  have hbk3 : Rows.uptoBulk d3 ≤ 1048576 := Nat.le_trans (GG (by simp)) hbb
  have hbk4 : Rows.uptoBulk d4 ≤ 1048576 := Nat.le_trans (GG (by simp)) hbb
  have hlt0 : ∀ x ∈ p0, x.block < W.heap.size := fun x hx => by simpa using hW'.lt x (by simp [hx])
  have hw0 : ∀ m ∈ d0.weights Tryz.prog 28, m ≤ reachBytes := fun m hm => by
    have := List.all_eq_true.1 hsz m (DataW.weights_mem_each (j := 0) (t := 28) rfl rfl m hm)
    simpa using this
  have h0k := h0
  have hv0 := hval 0 28 v0 (by simp) (by simp)
  obtain ⟨fuel0, hf0⟩ := h0
  obtain ⟨cs0, rfl, _⟩ := okWide_struct Tryz.underlying28 hv0
  obtain ⟨lv0, sh0, LU, ao103, len103, cap103, ao104, len104, cap104, m09, d103, p103, d104, p104, hll0, hcs0, hf103, hf104, hw103, hw104, hA0⟩ := Rv Tryz.underlying28 Yj rfl rfl rfl rfl rfl rfl rfl rfl rfl rfl Tryz.underlying24 YZ Tryz.underlying3 Hq Tryz.underlying25 W6 Tryz.underlying26 YD (by simpa [Value.cells] using hf0) hw0
  obtain ⟨q0_0, q0_1, q0_2, q0_3, q0_4, q0_5, q0_6, q0_7, q0_8, q0_9, q0_10, q0_11, q0_12, rfl⟩ := Xw hll0
  obtain ⟨b103, o103, l103, rfl, hr103, hj103⟩ := bA (α := TermL) (Q := fun B x => QT B x) (fun h h9 => ZU h h9) Tryz.underlying25 Re (by rw [Xx]; decide) (fun n cs d pl h hw => UJ Tryz.underlying85 Re rfl XP rfl Rs rfl Rs Tryz.underlying83 Tryz.underlying77 Tryz.underlying77 YX XS Gl ZV Tryz.underlying9 Tryz.underlying88 rfl Gl rfl Gl Tryz.underlying9 Tryz.underlying9 h hw) (by simpa [Value.cells] using hf103) hw103
  obtain ⟨b104, o104, l104, rfl, hr104⟩ := c7 (α := Clas) Tryz.underlying26 Pn (by rw [Vm]; decide) (WG Tryz.underlying110 Pn rfl Gl rfl Vz Tryz.underlying9 Tryz.underlying108 Vk WA Tryz.underlying112 rfl Gl rfl Gl Tryz.underlying9 Tryz.underlying9) (by simpa [Value.cells] using hf104) hw104
  obtain rfl : cs0 = #[.int .i64 q0_0, .int .i64 q0_1, .int .i64 q0_2, .int .i64 q0_3, .int .i64 q0_4, .int .i64 q0_5, .int .i64 q0_6, .int .i64 q0_7, .int .i64 q0_8, .int .i64 q0_9, .int .i64 q0_10, .int .i64 q0_11, .int .i64 q0_12, .int .i64 sh0, .int .i64 LU, .slice ao103 l103.length cap103, .slice ao104 l104.length cap104] := by have h9 := congrArg List.toArray hcs0; simpa using h9
  have hbk103 : Rows.uptoBulk d103 ≤ 1048576 := by obtain ⟨x1, x2, x3, hd9⟩ := hA0; have h9 := hbk0; rw [hd9] at h9; simp only [Rows.uptoBulk, Rows.uptoBulkAll] at h9; omega
  have hlt1 : ∀ x ∈ p1, x.block < W.heap.size := fun x hx => by simpa using hW'.lt x (by simp [hx])
  have hw1 : ∀ m ∈ d1.weights Tryz.prog 33, m ≤ reachBytes := fun m hm => by
    have := List.all_eq_true.1 hsz m (DataW.weights_mem_each (j := 1) (t := 33) rfl rfl m hm)
    simpa using this
  have h1k := h1
  have hv1 := hval 1 33 v1 (by simp) (by simp)
  obtain ⟨fuel1, hf1⟩ := h1
  obtain ⟨ao1, len1, cap1, rfl⟩ := okWide_slice Tryz.underlying33 hv1
  obtain ⟨b1, o1, l1, rfl, hr1, hq1⟩ := RX (α := Vc.Item) Tryz.underlying33 Kc (by rw [Sh]; decide) (fun n cs d pl h hw => Ol Tryz.underlying32 Kc rfl Hq rfl Gl rfl Hq Tryz.underlying3 Tryz.underlying9 Tryz.underlying3 h hw) (by simpa [Value.cells] using hf1) hw1
  have hlt2 : ∀ x ∈ p2, x.block < W.heap.size := fun x hx => by simpa using hW'.lt x (by simp [hx])
  have hw2 : ∀ m ∈ d2.weights Tryz.prog 33, m ≤ reachBytes := fun m hm => by
    have := List.all_eq_true.1 hsz m (DataW.weights_mem_each (j := 2) (t := 33) rfl rfl m hm)
    simpa using this
  have h2k := h2
  have hv2 := hval 2 33 v2 (by simp) (by simp)
  obtain ⟨fuel2, hf2⟩ := h2
  obtain ⟨ao2, len2, cap2, rfl⟩ := okWide_slice Tryz.underlying33 hv2
  obtain ⟨b2, o2, l2, rfl, hr2, hq2⟩ := RX (α := Vc.Item) Tryz.underlying33 Kc (by rw [Sh]; decide) (fun n cs d pl h hw => Ol Tryz.underlying32 Kc rfl Hq rfl Gl rfl Hq Tryz.underlying3 Tryz.underlying9 Tryz.underlying3 h hw) (by simpa [Value.cells] using hf2) hw2
  have hlt3 : ∀ x ∈ p3, x.block < W.heap.size := fun x hx => by simpa using hW'.lt x (by simp [hx])
  have hw3 : ∀ m ∈ d3.weights Tryz.prog 22, m ≤ reachBytes := fun m hm => by
    have := List.all_eq_true.1 hsz m (DataW.weights_mem_each (j := 3) (t := 22) rfl rfl m hm)
    simpa using this
  have h3k := h3
  have hv3 := hval 3 22 v3 (by simp) (by simp)
  obtain ⟨fuel3, hf3⟩ := h3
  obtain ⟨ao3, len3, cap3, rfl⟩ := okWide_slice Tryz.underlying22 hv3
  obtain ⟨b3, o3, l3, rfl, hr3⟩ := ah (α := Int) Tryz.underlying22 Hq (by rw [Ug]; decide) (R8 Tryz.underlying3) (by simpa [Value.cells] using hf3) hw3
  have hlt4 : ∀ x ∈ p4, x.block < W.heap.size := fun x hx => by simpa using hW'.lt x (by simp [hx])
  have hw4 : ∀ m ∈ d4.weights Tryz.prog 22, m ≤ reachBytes := fun m hm => by
    have := List.all_eq_true.1 hsz m (DataW.weights_mem_each (j := 4) (t := 22) rfl rfl m hm)
    simpa using this
  have h4k := h4
  have hv4 := hval 4 22 v4 (by simp) (by simp)
  obtain ⟨fuel4, hf4⟩ := h4
  obtain ⟨ao4, len4, cap4, rfl⟩ := okWide_slice Tryz.underlying22 hv4
  obtain ⟨b4, o4, l4, rfl, hr4⟩ := ah (α := Int) Tryz.underlying22 Hq (by rw [Ug]; decide) (R8 Tryz.underlying3) (by simpa [Value.cells] using hf4) hw4
  refine (V5 hr103 hr104 hr1 hr2 (Rk (fun x hx => (hq1 x hx).1)) (fun x hx => (hq1 x hx).2) (Rk (fun x hx => (hq2 x hx).1)) (fun x hx => (hq2 x hx).2) (fun x hx => bH (hj103.2 x hx) hbk103) hr3 hr4 htab).mono fun e W' ⟨he, hE⟩ => ?_
  subst he
  have hB := hE.below
  exact ⟨_, rfl, ⟨_, _, _, [], _, [], hW', (trodAll_cons_mk (shut_bool Tryz.underlying4 _) trodAll_mk0), by have hz := (trodAll_cons_mk (Below.trod KO (by kernel_rfl) (of_decide_eq_true (by kernel_rfl)) h0k hB hlt0) (trodAll_cons_mk (Below.trod KO (by kernel_rfl) (of_decide_eq_true (by kernel_rfl)) h1k hB hlt1) (trodAll_cons_mk (Below.trod KO (by kernel_rfl) (of_decide_eq_true (by kernel_rfl)) h2k hB hlt2) (trodAll_cons_mk (Below.trod KO (by kernel_rfl) (of_decide_eq_true (by kernel_rfl)) h3k hB hlt3) (trodAll_cons_mk (Below.trod KO (by kernel_rfl) (of_decide_eq_true (by kernel_rfl)) h4k hB hlt4) trodAll_mk0))))); simp only [List.append_nil] at hz; exact hz, rfl, hB.frame _, fun h => by cases h⟩⟩


theorem IT (os : Os) : laidMet Tryz.prog Rows.checkRunsUptoRow.laid ((Lb os).forCall (fun _ _ => 0) ⟨#[], #[.agg #[.int .i64 0, .int .i64 0, .int .i64 0, .int .i64 0, .int .i64 0, .int .i64 0, .int .i64 0, .int .i64 0, .int .i64 0, .int .i64 0, .int .i64 0, .int .i64 0, .int .i64 0, .int .i64 0, .int .i64 0, .slice none 0 0, .slice none 0 0], .slice none 0 0, .slice none 0 0, .slice none 0 0, .slice none 0 0], []⟩).memory := laidMet_of_run' 8 (by kernel_rfl) (by kernel_rfl)
theorem ID (os : Os) {H : Type} (enc : TypeId × Value → H) : ∃ places, DataW.whole enc Tryz.prog ((Lb os).forCall (fun _ _ => 0) ⟨#[], #[.agg #[.int .i64 0, .int .i64 0, .int .i64 0, .int .i64 0, .int .i64 0, .int .i64 0, .int .i64 0, .int .i64 0, .int .i64 0, .int .i64 0, .int .i64 0, .int .i64 0, .int .i64 0, .int .i64 0, .int .i64 0, .slice none 0 0, .slice none 0 0], .slice none 0 0, .slice none 0 0, .slice none 0 0, .slice none 0 0], []⟩).memory Tryz.f5.params.toList Rows.checkRunsSpec.vars false (#[.agg #[.int .i64 0, .int .i64 0, .int .i64 0, .int .i64 0, .int .i64 0, .int .i64 0, .int .i64 0, .int .i64 0, .int .i64 0, .int .i64 0, .int .i64 0, .int .i64 0, .int .i64 0, .int .i64 0, .int .i64 0, .slice none 0 0, .slice none 0 0], .slice none 0 0, .slice none 0 0, .slice none 0 0, .slice none 0 0] : Array Value).toList 8 = some ([.agg [.agg [.lit (.int .i64 0), .lit (.int .i64 0), .lit (.int .i64 0), .lit (.int .i64 0), .lit (.int .i64 0), .lit (.int .i64 0), .lit (.int .i64 0), .lit (.int .i64 0), .lit (.int .i64 0), .lit (.int .i64 0), .lit (.int .i64 0), .lit (.int .i64 0), .lit (.int .i64 0)], .lit (.int .i64 0), .lit (.int .i64 0), .nil, .nil], .nil, .nil, .nil, .nil], [], places) := ⟨[], by kernel_rfl⟩
set_option maxRecDepth 100000 in
theorem H0 (os : Os) (started : os.Started) (H : Type) (enc : TypeId × Value → H) (F : Stop.Interp) :
    ReturnsInHanded {} Tryz.checked os 5 .any ((Rows.OpenSpec.upto Rows.checkRunsSpec).preRow enc Tryz.prog Tryz.f5 Rows.checkRunsUptoRow.domain false Rows.checkRunsUptoRow.laid) (((Rows.OpenSpec.upto Rows.checkRunsSpec).at F).post enc Tryz.prog Tryz.f5 false true false false) := by
  obtain ⟨places, hx⟩ := ID os enc
  refine returnsInHanded_of_row (C := Tryz.checked) (s := (Rows.OpenSpec.upto Rows.checkRunsSpec)) own started (by kernel_rfl) Tryz.func5
    (witness_row_at (enc := enc) (C := Tryz.checked) false (Lb os) #[.agg #[.int .i64 0, .int .i64 0, .int .i64 0, .int .i64 0, .int .i64 0, .int .i64 0, .int .i64 0, .int .i64 0, .int .i64 0, .int .i64 0, .int .i64 0, .int .i64 0, .int .i64 0, .int .i64 0, .int .i64 0, .slice none 0 0, .slice none 0 0], .slice none 0 0, .slice none 0 0, .slice none 0 0, .slice none 0 0] rfl (by kernel_rfl) (by kernel_rfl) (by kernel_rfl)
      (OpenSpec.preRow_of_cond 8 hx (by kernel_rfl) (fun k hk => by cases hk; kernel_rfl) (by kernel_rfl) (IT os))) ?_
  intro W base args ds gs before hval hW _ hcond hsz hlaid _ _
  exact HB enc W base args ds gs before hval hW hsz (hcond _ rfl) hlaid

theorem Js : Rows.checkRunsUptoRow.wf (OpenSpec.ofChange (Rows.OpenSpec.upto Rows.checkRunsSpec).bare) = true := by kernel_rfl
theorem Jo : (Rows.checkRunsUptoRow.inPlace == Tryz.prog.inPlace 5) = true := by kernel_rfl
theorem Jn : (Rows.checkRunsUptoRow.unfollowed == Tryz.prog.unfollowed 5) = true := by kernel_rfl
theorem Ji : (Rows.checkRunsUptoRow.recurses == Tryz.prog.recurses 5) = true := by kernel_rfl
theorem Jx : (Rows.checkRunsUptoRow.named == Tryz.prog.varsNamed 5) = true := by kernel_rfl
theorem H7 : joinedFacts Tryz.prog 5 Tryz.f5 (Rows.OpenSpec.upto Rows.checkRunsSpec).bare Rows.checkRunsUptoRow = true := by
  unfold joinedFacts
  exact Ct (Ct (Ct (Ct (Ct (Ct (Ct (Ct (Ct (Ct (Ct (Ct (Ct (Ct (Ct (Ct (Ct (Ct (Ct (Ct (Ct (Ct (Ct (Ct (Ct (Ct (Ct (Ct (Ct (Ct (Ct (Js) Xp) Xi) (by kernel_rfl)) (by kernel_rfl)) (by kernel_rfl)) Vt) (by kernel_rfl)) VP) Jo) Jn) Ji) Jx) (by kernel_rfl)) (by kernel_rfl)) (by kernel_rfl)) (by kernel_rfl)) (by kernel_rfl)) (by kernel_rfl)) (by kernel_rfl)) (by kernel_rfl)) (by kernel_rfl)) YN) (by kernel_rfl)) Wo) V1) VJ) ZP) (by kernel_rfl)) (by kernel_rfl)) (by kernel_rfl)) (by kernel_rfl)
theorem Ii : Rows.CheckRunsUptoSaid :=
  OpenClaim.holds_of_cond 5 Tryz.f5 rfl rfl rfl rfl rfl rfl rfl ⟨rfl, rfl, rfl, rfl, rfl⟩ rfl rfl rfl rfl rfl (by kernel_rfl) Tryz.func5 H7
    (of_decide_eq_true (by kernel_rfl)) (by unfold Func.isWrapper; rw [if_neg (by decide +kernel)]; exact ⟨rfl, rfl⟩)
    (fun os started H enc _ F => by rw [OpenClaim.pre_eq_preRow]; exact H0 os started H enc F)
theorem II (f : FuncId) (fn : Func) (hf : Tryz.pinned.checked.prog.funcNamed "bitext/bitextlaw25.CheckRuns" = some f) (hfn : Tryz.pinned.checked.prog.funcs[f]? = some fn) :
    false = Tryz.pinned.checked.prog.looks [] ∧ ∀ (j : Nat) t, fn.params[j]? = some t → Tryz.pinned.checked.prog.wantsStandIn t = false := by
  obtain rfl : f = 5 := Option.some.inj ((show Tryz.prog.funcNamed "bitext/bitextlaw25.CheckRuns" = some 5 by kernel_rfl).symm.trans hf) |>.symm
  obtain rfl : fn = Tryz.f5 := (Option.some.inj (Tryz.func5.symm.trans hfn)).symm
  refine ⟨by kernel_rfl, fun j t ht => ?_⟩
  rw [Tryz.params5] at ht
  have hm := Array.mem_of_getElem? ht
  simp only [List.mem_toArray, List.mem_cons, List.not_mem_nil, or_false] at hm
  rcases hm with rfl | rfl | rfl | rfl | rfl
  · exact (show Tryz.prog.wantsStandIn 28 = false by kernel_rfl)
  · exact (show Tryz.prog.wantsStandIn 33 = false by kernel_rfl)
  · exact (show Tryz.prog.wantsStandIn 33 = false by kernel_rfl)
  · exact (show Tryz.prog.wantsStandIn 22 = false by kernel_rfl)
  · exact (show Tryz.prog.wantsStandIn 22 = false by kernel_rfl)
theorem checkRuns_holds : Rows.CheckRunsUptoCardSaid :=
  Claim7.holds_tied_plain_at .later [] _ _ _ _ Ii (fun _ h => by cases h) (by kernel_rfl) (fun _ h => by cases h) checkRunsUpto_row_tie rfl ⟨rfl, rfl⟩ (by kernel_rfl) rfl II (by kernel_rfl)
#print axioms checkRuns_holds
end Go.Proofs.YtlfjocbnbceceaaGreatDoor
