/-
  Library, plain laws and walks that the statements reach (joined by a program out of smaller texts).
-/
import Derived.Test.YtlfjocbnbceceaaGreatDoorAja
import Derived.Test.YtlfjocbnbceceaaGreatDoorRows
import Derived.Sort.KeysCollected
import Derived.Sort.Walk0
import Derived.Lib.ConvBytes
import Derived.ArgAppend
import Derived.Laws.IdiomCopy
import Derived.Shelf.SlIter.Nil
import Derived.Shelf.SortM.Plain
import Derived.Shelf.SortM.SortNone
import Derived.Ground.GgzProg
import Derived.Ground.SlgmProg
import Derived.Test.YtlfjocbnbceceaaGreatDoorProg
import Derived.Maps.Range
set_option linter.unusedVariables false
set_option linter.unusedSimpArgs false
namespace Go.Proofs.YtlfjocbnbceceaaGreatDoor
open Go.RowKit Go.Vc
theorem isname_calls {s : Str} {w0 : World}  :
    Calls Tryz.prog 140 #[S s] w0 fun e w' => e = .returned (.bool (isName s)) ∧ Evo w0 w' [] := by
 refine calls_enter (n := 51) Tryz.func140 rfl Tryz.ntmps140 rfl ?_
 have hV : Evo w0 w0 [] := Evo.refl _ _
 refine Zs ?_
 refine Zn asB ?_
 refine r_seq ?_
 refine Zs ?_
 refine Zo mvT ?_
 refine Zo (run_lenS rfl η Tryz.underlying9) ?_
 refine Zo (run_lss rfl η η) ?_
 refine Zo mvB ?_
 refine r_g rfl (wantF η) rfl (fun hg => mvT) ?_
 refine r_g rfl (wantF η) rfl (fun hg => run_lenS rfl (glv η (fun h => h) hg) Tryz.underlying9) ?_
 refine r_g rfl (wantF η) rfl (fun hg => run_gtr rfl (glv η (fun h => h) hg) η) ?_
 refine Zo (run_pick_or rfl η rfl (fun hq => glv η (fun h => h) hq)) ?_
 refine Zo mvB ?_
 refine r_g rfl (wantF η) rfl (fun hg => mvT) ?_
 refine r_g rfl (wantF η) rfl (fun hg => run_ixS (0) rfl Tryz.underlying9 (glv η (fun h => h) hg) η (by first | exact rfl | omega) ω) ?_
 refine r_g rfl (wantF η) rfl (fun hg => run_lss rfl (glv η (fun h => h) hg) η) ?_
 refine Zo (run_pick_or rfl η rfl (fun hq => glv η (fun h => h) hq)) ?_
 refine Zo mvB ?_
 refine r_g rfl (wantF η) rfl (fun hg => mvT) ?_
 refine r_g rfl (wantF η) rfl (fun hg => run_ixS (0) rfl Tryz.underlying9 (glv η (fun h => h) hg) η (by first | exact rfl | omega) ω) ?_
 refine r_g rfl (wantF η) rfl (fun hg => run_gtr rfl (glv η (fun h => h) hg) η) ?_
 refine Zn (run_pick_or rfl η rfl (fun hq => glv η (fun h => h) hq)) ?_
 refine r_cond η (fun hc1 => ?_) (fun hc1 => ?_)
 ·skip
  refine Zs ?_
  refine Zn asB ?_
  refine r_ret (res1 (v := .bool _) rfl η) ?_
  exact ⟨by rw [isName_len ω], hV⟩
 refine r_skip ?_
 refine r_seq ?_
 refine Zs ?_
 refine Zn asI ?_
 refine r_block ?_
 refine r_loop (α := Nat) [2, 3, 4, 23, 24, 25, 26, 27, 28, 29, 30, 31, 32, 33, 34, 35, 36, 37, 38, 39, 40, 41, 42, 43, 44, 45, 46, 47, 48, 49, 50] (fun k g w => g 3 = .int .i64 (k : Nat) ∧ (1 ≤ k ∧ k ≤ s.length) ∧ (∀ j, 1 ≤ j → j < k → nameB (s.getD j 0) = true) ∧ w0.heap.size ≤ w.heap.size ∧ Evo w0 w []) (fun k => s.length - k) 1 ?_ ?_
 ·refine ⟨σ, δ, (fun j h1 h2 => by omega), δ, hV⟩
 rintro k g w3 ⟨hj4, hk, hall, hzl2, hV⟩
 have hs_w3hV := hV.size
 refine Zk 3 (v := .int .i64 (k : Nat)) (by exact hj4) ?_
 refine r_seq ?_
 refine Zs ?_
 refine Zo mvI ?_
 refine Zo mvT ?_
 refine Zo (run_lenS rfl η Tryz.underlying9) ?_
 refine Zn (run_lss rfl η η) ?_
 refine r_cond η (fun hc5 => ?_) (fun hc5 => ?_)
 ·skip
  refine r_skip ?_
  refine r_seq ?_
  refine r_block ?_
  refine Zs ?_
  refine Zo mvT ?_
  refine Zo mvI ?_
  refine Zo (run_ixS (k) rfl Tryz.underlying9 η η (by first | exact rfl | omega) ω) ?_
  refine Zn asI ?_
  refine Zs ?_
  refine Zo mvI ?_
  refine Zo (run_geq rfl η η) ?_
  refine Zo mvB ?_
  refine r_g rfl (wantT η) rfl (fun hg => mvI) ?_
  refine r_g rfl (wantT η) rfl (fun hg => run_leq rfl (glv η (fun h => h) hg) η) ?_
  refine Zo (run_pick_and rfl η (fun hq => glv η (fun h => h) hq) rfl) ?_
  refine Zo mvB ?_
  refine r_g rfl (wantF η) rfl (fun hg => mvI) ?_
  refine r_g rfl (wantF η) rfl (fun hg => run_geq rfl (glv η (fun h => h) hg) η) ?_
  refine r_g rfl (wantF η) rfl (fun hg => run_mv (v := .bool _) rfl (glv η (fun h => h) hg)) ?_
  refine r_g rfl (wantTg η) rfl (fun hg => mvI) ?_
  refine r_g rfl (wantTg η) rfl (fun hg => run_leq rfl (glv η (fun h => h) hg) η) ?_
  refine r_g rfl (wantF η) rfl (fun hg => run_pick_and rfl (glv η (fun h => h) hg) (fun hq => glv η (fun h => h) (And.intro hg hq)) rfl) ?_
  refine Zo (run_pick_or rfl η rfl (fun hq => glv η (fun h => h) hq)) ?_
  refine Zo mvB ?_
  refine r_g rfl (wantF η) rfl (fun hg => mvI) ?_
  refine r_g rfl (wantF η) rfl (fun hg => run_eql rfl (glv η (fun h => h) hg) η) ?_
  refine Zo (run_pick_or rfl η rfl (fun hq => glv η (fun h => h) hq)) ?_
  refine Zn (run_not rfl η) ?_
  refine r_cond η (fun hc6 => ?_) (fun hc6 => ?_)
  ·skip
   refine Zs ?_
   refine Zn asB ?_
   refine r_ret (res1 (v := .bool _) rfl η) ?_
   exact ⟨by rw [isName_bad (k := k) ω ω], hV⟩
  refine r_skip ?_
  refine r_blk ?_
  refine r_region ?_
  refine Zo mvI ?_
  refine Zo (run_add rfl η η ω ω) ?_
  refine Zn asI ?_
  refine r_again (k + 1) ?_ ?_ ?_
  ·first | omega | (dsimp only; omega)
  ·refine ⟨σ, δ, (upto1 hall (fun _ => (nameB_iff _).2 ω)), δ, hV⟩
  exact ψ
 refine r_exit rfl ?_
 refine Zs ?_
 refine Zn asB ?_
 refine r_ret (res1 (v := .bool _) rfl η) ?_
 exact ⟨by rw [(isName_iff s).2 ⟨by omega, by omega, by omega, fun j h1 h2 => hall j h1 ω⟩], hV⟩
theorem rname_calls {s : Str} {w0 : World} (hs : s.length ≤ 140737488355328) :
    Calls Tryz.prog 75 #[S s] w0 fun e w' => e = .returned (S (nameL s)) ∧ Evo w0 w' [] := by
 refine calls_enter (n := 18) Tryz.func75 rfl Tryz.ntmps75 rfl ?_
 have hV : Evo w0 w0 [] := Evo.refl _ _
 refine Zs ?_
 refine Zn asT ?_
 refine r_seq ?_
 refine Zs ?_
 refine Zn asI ?_
 refine r_block ?_
 refine r_loop (α := Nat) [2, 3, 4, 5, 6, 7, 8, 9, 10, 11, 12, 13, 14, 15, 16] (fun k g w => g 3 = .int .i64 (k : Nat) ∧ k ≤ s.length ∧ (∀ j, j < k → (s.getD j 0).toNat ≠ 32) ∧ w0.heap.size ≤ w.heap.size ∧ Evo w0 w []) (fun k => s.length - k) 0 ?_ ?_
 ·refine ⟨σ, δ, (fun j h1 => by omega), δ, hV⟩
 rintro k g w2 ⟨hj3, hk, hall, hzl1, hV⟩
 have hs_w2hV := hV.size
 refine Zk 3 (v := .int .i64 (k : Nat)) (by exact hj3) ?_
 refine r_seq ?_
 refine Zs ?_
 refine Zo mvI ?_
 refine Zo mvT ?_
 refine Zo (run_lenS rfl η Tryz.underlying9) ?_
 refine Zn (run_lss rfl η η) ?_
 refine r_cond η (fun hc4 => ?_) (fun hc4 => ?_)
 ·skip
  refine r_skip ?_
  refine r_seq ?_
  refine r_block ?_
  refine Zs ?_
  refine Zo mvT ?_
  refine Zo mvI ?_
  refine Zo (run_ixS (k) rfl Tryz.underlying9 η η (by first | exact rfl | omega) ω) ?_
  refine Zn (run_eql rfl η η) ?_
  refine r_cond η (fun hc5 => ?_) (fun hc5 => ?_)
  ·skip
   refine Zs ?_
   refine Zo mvT ?_
   refine Zo mvI ?_
   refine Zo (by exact run_slS (0) (k) rfl Tryz.underlying9 η lo0 (at1 η (by first | exact rfl | omega)) (by first | omega | (simp; omega)) (by first | omega | (simp; omega))) ?_
   refine Zn asT ?_
   refine r_ret (res1 (v := S _) rfl η) ?_
   exact ⟨by rw [nameL_at hall ω ω]; simp, hV⟩
  refine r_skip ?_
  refine r_blk ?_
  refine r_region ?_
  refine Zo mvI ?_
  refine Zo (run_add rfl η η ω ω) ?_
  refine Zn asI ?_
  refine r_again (k + 1) ?_ ?_ ?_
  ·first | omega | (dsimp only; omega)
  ·refine ⟨σ, δ, (upto0 hall ω), δ, hV⟩
  exact ψ
 refine r_exit rfl ?_
 refine Zs ?_
 refine Zo mvT ?_
 refine Zn asT ?_
 refine r_ret (res1 (v := S _) rfl η) ?_
 exact ⟨by rw [nameL_all (fun j hj => hall j ω)], hV⟩
end Go.Proofs.YtlfjocbnbceceaaGreatDoor
namespace Go.Vc
open Go
def tagsL (f : List Item) : List Item := f.filter isTag
theorem tagsL_append (f g : List Item) : tagsL (f ++ g) = tagsL f ++ tagsL g := by simp [tagsL]
theorem tagsL_succ (f : List Item) (k : Nat) (h : k < f.length) : tagsL (f.take (k + 1)) = tagsL (f.take k) ++ (if isTag (f.getD k default) = true then [f.getD k default] else []) := by
  rw [take_succD f k h, tagsL_append]
  congr 1
  unfold tagsL
  by_cases ht : isTag (f.getD k default) = true
  · rw [if_pos ht, List.filter_cons_of_pos ht]; rfl
  · rw [if_neg ht, List.filter_cons_of_neg ht]; rfl
theorem tags_yes {f : List Item} {k : Nat} (h : k < f.length) (ht : isTag (f.getD k default) = true) : tagsL (f.take (k + 1)) = tagsL (f.take k) ++ [f.getD k default] := by rw [tagsL_succ f k h, if_pos ht]
theorem tags_no {f : List Item} {k : Nat} (h : k < f.length) (ht : ¬ isTag (f.getD k default) = true) : tagsL (f.take (k + 1)) = tagsL (f.take k) := by rw [tagsL_succ f k h, if_neg ht, List.append_nil]
theorem tagsL_len (f : List Item) : (tagsL f).length ≤ f.length := List.length_filter_le _ _
def slotsI (x : Item) : List Str := if x.kind = 5 then [x.text] else []
def slotsL (f : List Item) : List Str := f.flatMap slotsI
theorem slotsL_append (f g : List Item) : slotsL (f ++ g) = slotsL f ++ slotsL g := by simp [slotsL]
theorem slotsL_one (x : Item) : slotsL [x] = slotsI x := by simp [slotsL]
theorem slots_yes {f : List Item} {k : Nat} (h : k < f.length) (hk : (f.getD k default).kind = 5) : slotsL (f.take (k + 1)) = slotsL (f.take k) ++ [(f.getD k default).text] := by
  rw [take_succD f k h, slotsL_append, slotsL_one]; unfold slotsI; rw [if_pos hk]
theorem slots_no {f : List Item} {k : Nat} (h : k < f.length) (hk : ¬ (f.getD k default).kind = 5) : slotsL (f.take (k + 1)) = slotsL (f.take k) := by
  rw [take_succD f k h, slotsL_append, slotsL_one]; unfold slotsI; rw [if_neg hk, List.append_nil]
theorem slotsL_len (f : List Item) : (slotsL f).length ≤ f.length := by
  induction f with
  | nil => simp [slotsL]
  | cons x f ih =>
    have h : slotsL (x :: f) = slotsI x ++ slotsL f := by simp [slotsL]
    have h2 : (slotsI x).length ≤ 1 := by unfold slotsI; split <;> simp
    rw [h, List.length_append, List.length_cons]; omega
def sortS (l : List Str) : List Str := l.mergeSort (fun x y => decide (x ≤ y))
theorem sortS_len (l : List Str) : (sortS l).length = l.length := by unfold sortS; simp
def insS : List Str → Str → List Str
  | [], s => [s]
  | y :: l, s => if y ≤ s then y :: insS l s else s :: y :: l
theorem insS_perm : ∀ (l : List Str) (s : Str), (insS l s).Perm (l ++ [s])
  | [], s => List.Perm.refl _
  | y :: l, s => by
    unfold insS
    split
    · exact (insS_perm l s).cons y
    · show (s :: (y :: l)).Perm ((y :: l) ++ [s])
      exact (List.perm_append_comm (l₁ := [s]) (l₂ := y :: l))
theorem insS_mem {l : List Str} {s x : Str} (h : x ∈ insS l s) : x ∈ l ∨ x = s := by
  have := (insS_perm l s).mem_iff.1 h
  simpa using this
theorem insS_sorted : ∀ {l : List Str} (s : Str), l.Pairwise (fun a b => a ≤ b) → (insS l s).Pairwise (fun a b => a ≤ b)
  | [], s, _ => List.pairwise_singleton _ _
  | y :: l, s, h => by
    obtain ⟨h1, h2⟩ := List.pairwise_cons.1 h
    unfold insS
    split
    · rename_i hy
      refine List.pairwise_cons.2 ⟨fun x hx => ?_, insS_sorted s h2⟩
      rcases insS_mem hx with h3 | h3
      · exact h1 x h3
      · rw [h3]; exact hy
    · rename_i hy
      have hs : s ≤ y := (List.le_total s y).resolve_right hy
      refine List.pairwise_cons.2 ⟨fun x hx => ?_, h⟩
      rcases List.mem_cons.1 hx with rfl | h3
      · exact hs
      · exact List.le_trans hs (h1 x h3)
theorem fold_ins (l : List Str) : l.foldl insS [] = sortS l := by
  have key : ∀ l : List Str, (l.foldl insS []).Perm l ∧ (l.foldl insS []).Pairwise (fun a b => a ≤ b) := fun l => by
    refine snoc_cases (Q := fun l => (l.foldl insS []).Perm l ∧ (l.foldl insS []).Pairwise (fun a b => a ≤ b)) ⟨List.Perm.refl _, List.Pairwise.nil⟩ (fun l x ih => ?_) _ l rfl
    rw [List.foldl_append]
    exact ⟨(insS_perm _ x).trans (ih.1.append (List.Perm.refl [x])), insS_sorted x ih.2⟩
  obtain ⟨h1, h2⟩ := key l
  have h3 := mergeSort_of_perm h1
  have h4 : (l.foldl insS []).mergeSort leB = l.foldl insS [] := List.mergeSort_of_pairwise (h2.imp (fun h => by simpa [leB] using h))
  show _ = l.mergeSort leB
  rw [← h3, h4]
theorem fold_ins_len (l : List Str) : (l.foldl insS []).length = l.length := by rw [fold_ins, sortS_len]
def sC (f : List Item) : List Int := ((shapeL f).getD ([], [])).1
def sO (f : List Item) : List Int := ((shapeL f).getD ([], [])).2
def skelB (x : Item) : Bool := decide (¬ x.kind = 1)
def skel (f : List Item) : List Item := f.filter skelB
theorem skel_append (f g : List Item) : skel (f ++ g) = skel f ++ skel g := by simp [skel]
theorem skel_text {x : Item} (h : x.kind = 1) : skel [x] = [] := by unfold skel; rw [List.filter_cons_of_neg (by simp [skelB, h])]; rfl
theorem skel_norm (f : List Item) : skel (normL f) = skel f := by
  refine norm_ind (Q := fun f n => skel n = skel f) rfl (fun l x ih => ?_) f
  rw [skel_append]
  rcases norm_cases (normL l) x with ⟨h1, h2, e⟩ | ⟨h1, e⟩ | ⟨h1, e⟩ | ⟨h1, m, q, e0, hq, e⟩
  · rw [e, skel_text h1, List.append_nil, ih]
  · rw [e, skel_append, skel_text h1, skel_text (x := ⟨1, x.text, 0⟩) rfl, ih]
  · rw [e, skel_append, ih]
  · rw [e, skel_append, skel_text h1, skel_text (x := ⟨1, q.text ++ x.text, 0⟩) rfl, List.append_nil, List.append_nil, ← ih, e0, skel_append, skel_text hq, List.append_nil]
theorem tags_skel (f : List Item) : tagsL (skel f) = tagsL f := by
  unfold tagsL skel
  rw [List.filter_filter]
  congr 1
  funext x
  by_cases h : isTag x = true
  · have : ¬ x.kind = 1 := fun e => notag_of (.inl e) h
    simp [h, skelB, this]
  · rw [Bool.not_eq_true] at h; simp [h]
def tgtW (t : Str) : List Str := [[114, 111, 116], [100, 97, 115, 32, 65, 117, 116, 111], [], [101, 105, 110, 32] ++ t, t]
theorem tgtW_bd (t : Str) : ∀ j, ((tgtW t).getD j default).length ≤ t.length + 8
  | 0 => by show 3 ≤ _; omega
  | 1 => by show 8 ≤ _; omega
  | 2 => by show 0 ≤ _; omega
  | 3 => by show ([101, 105, 110, 32] ++ t : Str).length ≤ _; rw [List.length_append]; show 4 + _ ≤ _; omega
  | 4 => by show t.length ≤ _; omega
  | _ + 5 => Nat.zero_le _
theorem skel_step {f f2 : List Item} {x : Item} {t : Str} (h2 : skel f2 = skel f) (ht : ¬ x.kind = 1 → t = x.text) : skel (normL (f2 ++ [⟨x.kind, t, x.id⟩])) = skel f ++ skel [x] := by
  rw [skel_norm, skel_append, h2]
  congr 1
  by_cases h : x.kind = 1
  · rw [skel_text h, skel_text (x := ⟨x.kind, t, x.id⟩) h]
  · rw [ht h]
theorem skel_succ (f : List Item) (k : Nat) (h : k < f.length) : skel (f.take (k + 1)) = skel (f.take k) ++ skel [f.getD k default] := by rw [take_succD f k h, skel_append]
theorem skel_add {f : List Item} (t : Str) (i : Int) : skel (normL (f ++ [⟨1, t, i⟩])) = skel f := by rw [skel_norm, skel_append, skel_text (x := ⟨1, t, i⟩) rfl, List.append_nil]
def lwB (c : UInt8) : UInt8 := if 65 ≤ c.toNat ∧ c.toNat ≤ 90 then c + 32 else c
def lowS (s : Str) : Str := s.map lwB
theorem lwB_no {c : UInt8} (h : ¬ (65 ≤ c.toNat ∧ c.toNat ≤ 90)) : lwB c = c := by unfold lwB; rw [if_neg h]
theorem lwB_nat {c : UInt8} (h : 65 ≤ c.toNat ∧ c.toNat ≤ 90) : (lwB c).toNat = c.toNat + 32 := by
  unfold lwB; rw [if_pos h, UInt8.toNat_add]
  have h3 : (32 : UInt8).toNat = 32 := rfl
  omega
theorem wrap8 {n : Int} (h1 : 0 ≤ n) (h2 : n ≤ 255) : IntKind.wrap .u8 n = n := by simp [IntKind.wrap, IntKind.bits, IntKind.signed]; omega
theorem low_add {c : UInt8} (h1 : 65 ≤ c.toNat) (h2 : c.toNat ≤ 90) : IntKind.wrap .u8 (IntKind.wrap .u8 (((c.toNat : Nat) : Int) + 97) - 65) = (((lwB c).toNat : Nat) : Int) := by
  rw [wrap8 (n := (((c.toNat : Nat) : Int) + 97)) ω ω, wrap8 ω ω, lwB_nat ⟨h1, h2⟩]; omega
def lowK (s : Str) (k : Nat) : Str := lowS (s.take k) ++ s.drop k
@[simp] theorem lowK_len (s : Str) (k : Nat) : (lowK s k).length = s.length := by simp [lowK, lowS]; omega
theorem lowK_zero (s : Str) : lowK s 0 = s := by simp [lowK, lowS]
theorem lowK_all {s : Str} {k : Nat} (h : s.length ≤ k) : lowK s k = lowS s := by unfold lowK; rw [List.take_of_length_le h, List.drop_eq_nil_of_le h, List.append_nil]
theorem lowK_split {s : Str} {k : Nat} (h : k < s.length) : lowK s k = lowS (s.take k) ++ s.getD k 0 :: s.drop (k + 1) := by
  unfold lowK; rw [List.drop_eq_getElem_cons h]; simp [List.getD, h]
theorem lowK_next {s : Str} {k : Nat} (h : k < s.length) : lowK s (k + 1) = lowS (s.take k) ++ lwB (s.getD k 0) :: s.drop (k + 1) := by
  have e : s.getD k 0 = s[k] := by simp [List.getD, h]
  unfold lowK lowS; rw [List.take_succ_eq_append_getElem h, List.map_append, List.append_assoc, e]; rfl
theorem lowK_get {s : Str} {k : Nat} (h : k < s.length) : (lowK s k).getD k default = s.getD k 0 := by
  have e : (lowS (s.take k)).length = k := by simp [lowS]; omega
  rw [lowK_split h, List.getD_eq_getElem?_getD, List.getElem?_append_right ω, e]; simp
theorem lowK_set {s : Str} {k : Nat} (h : k < s.length) : (lowK s k).set k (lwB (s.getD k 0)) = lowK s (k + 1) := by
  have e : (lowS (s.take k)).length = k := by simp [lowS]; omega
  rw [lowK_split h, lowK_next h, List.set_append_right _ _ ω, e, Nat.sub_self]; rfl
theorem lowK_keep {s : Str} {k : Nat} (h : k < s.length) (hn : ¬ (65 ≤ (s.getD k 0).toNat ∧ (s.getD k 0).toNat ≤ 90)) : lowK s (k + 1) = lowK s k := by
  rw [lowK_split h, lowK_next h, lwB_no hn]
@[simp] theorem lowS_len (s : Str) : (lowS s).length = s.length := by simp [lowS]
theorem lowS_nil {s : Str} : lowS s = [] ↔ s = [] := by simp [lowS]
def clsB (c : UInt8) : Int :=
  if c.toNat = 9 ∨ c.toNat = 10 ∨ c.toNat = 13 ∨ c.toNat = 32 then 2 else if c.toNat < 32 ∨ c.toNat = 127 then 1 else if 48 ≤ c.toNat ∧ c.toNat ≤ 57 then 3
  else if (97 ≤ c.toNat ∧ c.toNat ≤ 122) ∨ (65 ≤ c.toNat ∧ c.toNat ≤ 90) ∨ 128 ≤ c.toNat then 4 else 5
theorem cls_space {c : UInt8} (h : c.toNat = 9 ∨ c.toNat = 10 ∨ c.toNat = 13 ∨ c.toNat = 32) : clsB c = 2 := by unfold clsB; rw [if_pos h]
theorem cls_control {c : UInt8} (h1 : ¬ (c.toNat = 9 ∨ c.toNat = 10 ∨ c.toNat = 13 ∨ c.toNat = 32)) (h : c.toNat < 32 ∨ c.toNat = 127) : clsB c = 1 := by unfold clsB; rw [if_neg h1, if_pos h]
theorem cls_digit {c : UInt8} (h : 48 ≤ c.toNat ∧ c.toNat ≤ 57) : clsB c = 3 := by unfold clsB; rw [if_neg ω, if_neg ω, if_pos h]
theorem cls_letter {c : UInt8} (h : (97 ≤ c.toNat ∧ c.toNat ≤ 122) ∨ (65 ≤ c.toNat ∧ c.toNat ≤ 90) ∨ 128 ≤ c.toNat) : clsB c = 4 := by unfold clsB; rw [if_neg ω, if_neg ω, if_neg ω, if_pos h]
theorem cls_mark {c : UInt8} (h1 : ¬ (c.toNat = 9 ∨ c.toNat = 10 ∨ c.toNat = 13 ∨ c.toNat = 32)) (h2 : ¬ (c.toNat < 32 ∨ c.toNat = 127)) (h3 : ¬ (48 ≤ c.toNat ∧ c.toNat ≤ 57)) (h : ¬ ((97 ≤ c.toNat ∧ c.toNat ≤ 122) ∨ (65 ≤ c.toNat ∧ c.toNat ≤ 90) ∨ 128 ≤ c.toNat)) : clsB c = 5 := by unfold clsB; rw [if_neg h1, if_neg h2, if_neg h3, if_neg h]
def smallL (s : Str) : Bool := s.all (fun c => decide (clsB c = 4)) && decide (lowS s = s)
theorem all_at {p : UInt8 → Bool} {s : Str} (h : ∀ j, j < s.length → p (s.getD j 0) = true) : s.all p = true := by
  rw [List.all_eq_true]
  intro c hc
  obtain ⟨i, hi, rfl⟩ := List.mem_iff_getElem.1 hc
  have := h i hi
  simpa [List.getD, hi] using this
theorem all_not {p : UInt8 → Bool} {s : Str} {k : Nat} (hk : k < s.length) (h : ¬ p (s.getD k 0) = true) : s.all p = false := by
  rw [← Bool.not_eq_true, List.all_eq_true]
  intro h2
  exact h (h2 _ (by simp [List.getD, hk]))
theorem small_yes {s : Str} (h : ∀ j, j < s.length → clsB (s.getD j 0) = 4) : smallL s = decide (lowS s = s) := by
  unfold smallL; rw [all_at (p := fun c => decide (clsB c = 4)) (fun j hj => decide_eq_true (h j hj)), Bool.true_and]
theorem small_bad {s : Str} {k : Nat} (hk : k < s.length) (h : ¬ clsB (s.getD k 0) = 4) : smallL s = false := by
  unfold smallL; rw [all_not (p := fun c => decide (clsB c = 4)) hk (fun h2 => h (of_decide_eq_true h2)), Bool.false_and]
def addS : List Str → Str → List Str
  | [], s => [s]
  | y :: l, s => if s ≤ y then (if s < y then s :: y :: l else y :: l) else y :: addS l s
section
variable {d : Bool} {o l : List Str} {x : Str} {k : Nat}
end
theorem slt_iff (a b : Str) : blt a b = true ↔ a < b := by
  have h1 : blt a b = decide (a < b) := by unfold blt; exact Go.Proofs.bytesLess_eq a b
  rw [h1, decide_eq_true_iff]
theorem addS_mem : ∀ {l : List Str} {s x : Str}, x ∈ addS l s ↔ x ∈ l ∨ x = s
  | [], s, x => by simp [addS]
  | y :: l, s, x => by
    unfold addS
    split
    · rename_i h1
      split
      · simp only [List.mem_cons]
        constructor
        · rintro (h | h)
          · exact .inr h
          · exact .inl h
        · rintro (h | h)
          · exact .inr h
          · exact .inl h
      · rename_i h2
        have e : y = s := List.le_antisymm (List.not_lt.1 h2) h1
        subst e
        constructor
        · exact fun h => .inl h
        · rintro (h | h)
          · exact h
          · subst h; simp
    · rw [List.mem_cons, addS_mem, List.mem_cons, or_assoc]
theorem addS_len : ∀ (l : List Str) (s : Str), (addS l s).length ≤ l.length + 1
  | [], s => by simp [addS]
  | y :: l, s => by
    have := addS_len l s
    unfold addS
    split
    · split <;> simp
    · simp; omega
section
variable {d : Bool} {o l : List Str} {x : Str} {k : Nat}
end
theorem addS_sorted : ∀ {l : List Str} (s : Str), l.Pairwise (fun a b => a < b) → (addS l s).Pairwise (fun a b => a < b)
  | [], s, _ => List.pairwise_singleton _ _
  | y :: l, s, h => by
    obtain ⟨h1, h2⟩ := List.pairwise_cons.1 h
    unfold addS
    split
    · split
      · rename_i h3
        refine List.pairwise_cons.2 ⟨fun x hx => ?_, h⟩
        rcases List.mem_cons.1 hx with rfl | h4
        · exact h3
        · exact List.lt_trans h3 (h1 x h4)
      · exact h
    · rename_i hy
      refine List.pairwise_cons.2 ⟨fun x hx => ?_, addS_sorted s h2⟩
      rcases addS_mem.1 hx with h3 | h3
      · exact h1 x h3
      · rw [h3]; exact List.not_le.1 hy
theorem nodup_of_lt {l : List Str} (h : l.Pairwise (fun a b => a < b)) : l.Nodup := h.imp (fun {a b} h e => by subst e; exact List.lt_irrefl a h)
theorem sorted_keys {ks l : List Str} (hn : ks.Nodup) (hl : l.Pairwise (fun a b => a < b)) (h : ∀ x, x ∈ ks ↔ x ∈ l) : sortS ks = l := by
  have hp : l.Perm ks := (List.perm_ext_iff_of_nodup (nodup_of_lt hl) hn).2 (fun x => (h x).symm)
  have h3 := mergeSort_of_perm hp
  have h4 : l.mergeSort leB = l := List.mergeSort_of_pairwise (hl.imp (fun h => by simpa [leB] using List.le_of_lt h))
  show ks.mergeSort leB = _
  rw [← h3, h4]
structure Ende where
  strip : Str
  add : Str
deriving DecidableEq, Inhabited
structure Clas where
  name : Str
  ends : List Ende
deriving DecidableEq, Inhabited
def turnL (s suf y : Str) : Option Str := if suf <:+ s then some (s.take (s.length - suf.length) ++ y) else none
theorem suffix_iff {s suf : Str} : suf <:+ s ↔ suf.length ≤ s.length ∧ s.drop (s.length - suf.length) = suf := by
  constructor
  · intro h
    refine ⟨h.length_le, ?_⟩
    obtain ⟨p, rfl⟩ := h
    simp
  · rintro ⟨_, h⟩
    exact ⟨s.take (s.length - suf.length), (congrArg (fun q => s.take (s.length - suf.length) ++ q) h.symm).trans (List.take_append_drop _ s)⟩
theorem suffix_iff2 {s t : Str} : t <:+ s ↔ t.length ≤ s.length ∧ (s.drop (s.length - t.length)).take (s.length - (s.length - t.length)) = t := by
  rw [suffix_iff, List.take_of_length_le (by rw [List.length_drop]; exact Nat.le_refl _)]
theorem turn_len (s t y : Str) : ((turnL s t y).getD []).length ≤ s.length + y.length := by
  unfold turnL
  split
  · show (s.take _ ++ y).length ≤ _
    rw [List.length_append]
    have : (s.take (s.length - t.length)).length ≤ s.length := List.length_take_le' _ _
    omega
  · exact Nat.zero_le _
def findC (c : List Clas) (n : Str) : Int := if c.findIdx (fun x => decide (x.name = n)) < c.length then (c.findIdx (fun x => decide (x.name = n)) : Nat) else -1
def endsL (c : List Clas) (n : Str) : List Ende := if 0 ≤ findC c n then (c.getD (findC c n).toNat default).ends else []
theorem findC_at {c : List Clas} {n : Str} {k : Nat} (h : k < c.length) (h0 : ∀ j, j < k → ¬ (c.getD j default).name = n) (h1 : (c.getD k default).name = n) : findC c n = (k : Nat) := by
  have e : c.findIdx (fun x => decide (x.name = n)) = k := by
    rw [List.findIdx_eq h]
    refine ⟨by simpa [List.getD, h] using h1, fun j hj => ?_⟩
    have := h0 j hj
    have hj2 : j < c.length := by omega
    simpa [List.getD, hj2] using this
  unfold findC; rw [e, if_pos h]
theorem findC_none {c : List Clas} {n : Str} (h0 : ∀ j, j < c.length → ¬ (c.getD j default).name = n) : findC c n = -1 := by
  have e : c.findIdx (fun x => decide (x.name = n)) = c.length := by
    rw [List.findIdx_eq_length]
    intro x hx
    obtain ⟨i, hi, rfl⟩ := List.mem_iff_getElem.1 hx
    have := h0 i hi
    simpa [List.getD, hi] using this
  unfold findC; rw [e, if_neg ω]
theorem findC_lt (c : List Clas) (n : Str) : findC c n < (c.length : Nat) ∧ -1 ≤ findC c n := by unfold findC; split <;> omega
theorem ends_at {c : List Clas} {n : Str} (h : 0 ≤ findC c n) : endsL c n = (c.getD (findC c n).toNat default).ends := if_pos h
theorem ends_none {c : List Clas} {n : Str} (h : ¬ 0 ≤ findC c n) : endsL c n = [] := if_neg h
theorem ends_if {c : List Clas} {n : Str} (h : ¬ (0 ≤ findC c n ∧ ¬ n = [])) : (if n = [] then ([] : List Ende) else endsL c n) = [] := by
  by_cases hn : n = []
  · rw [if_pos hn]
  · rw [if_neg hn, ends_none (fun h2 => h ⟨h2, hn⟩)]
def formS (ok : Str → Bool) (s : Str) (by' : Ende → Str × Str) (l : List Str) (x : Ende) : List Str :=
  match turnL s (by' x).1 (by' x).2 with
  | some f => if f ≠ [] ∧ ok f = true then addS l f else l
  | none => l
def foldF (ok : Str → Bool) (s : Str) (by' : Ende → Str × Str) (E : List Ende) : List Str := E.foldl (formS ok s by') [s]
theorem foldF_mem {ok : Str → Bool} {s : Str} {b : Ende → Str × Str} {E : List Ende} {y : Str} : y ∈ foldF ok s b E ↔ y = s ∨ (y ≠ [] ∧ ok y = true ∧ ∃ x ∈ E, turnL s (b x).1 (b x).2 = some y) := by
  unfold foldF
  have key : ∀ (E : List Ende) (l : List Str), y ∈ E.foldl (formS ok s b) l ↔ y ∈ l ∨ (y ≠ [] ∧ ok y = true ∧ ∃ x ∈ E, turnL s (b x).1 (b x).2 = some y) := by
    intro E
    induction E with
    | nil => intro l; simp
    | cons x E ih =>
      intro l
      rw [List.foldl_cons, ih]
      have h1 : y ∈ formS ok s b l x ↔ y ∈ l ∨ (y ≠ [] ∧ ok y = true ∧ turnL s (b x).1 (b x).2 = some y) := by
        unfold formS
        cases ht : turnL s (b x).1 (b x).2 with
        | none => simp
        | some f =>
          dsimp only
          by_cases hc : f ≠ [] ∧ ok f = true
          · rw [if_pos hc, addS_mem]
            constructor
            · rintro (h | rfl)
              · exact .inl h
              · exact .inr ⟨hc.1, hc.2, rfl⟩
            · rintro (h | ⟨_, _, h⟩)
              · exact .inl h
              · injection h with h; exact .inr h.symm
          · rw [if_neg hc]
            constructor
            · exact .inl
            · rintro (h | ⟨h2, h3, h⟩)
              · exact h
              · injection h with h; subst h; exact absurd ⟨h2, h3⟩ hc
      rw [h1]
      constructor
      · rintro ((h | ⟨h2, h3, h⟩) | ⟨h2, h3, z, hz, h⟩)
        · exact .inl h
        · exact .inr ⟨h2, h3, x, by simp, h⟩
        · exact .inr ⟨h2, h3, z, by simp [hz], h⟩
      · rintro (h | ⟨h2, h3, z, hz, h⟩)
        · exact .inl (.inl h)
        · rcases List.mem_cons.1 hz with rfl | hz
          · exact .inl (.inr ⟨h2, h3, h⟩)
          · exact .inr ⟨h2, h3, z, hz, h⟩
  rw [key]; simp
theorem formS_sorted {ok : Str → Bool} {s : Str} {b : Ende → Str × Str} {l : List Str} (x : Ende) (h : l.Pairwise (fun a b => a < b)) : (formS ok s b l x).Pairwise (fun a b => a < b) := by
  unfold formS
  split
  · split
    · exact addS_sorted _ h
    · exact h
  · exact h
theorem foldF_sorted (ok : Str → Bool) (s : Str) (b : Ende → Str × Str) (E : List Ende) : (foldF ok s b E).Pairwise (fun a b => a < b) := by
  unfold foldF
  have key : ∀ (E : List Ende) (l : List Str), l.Pairwise (fun a b => a < b) → (E.foldl (formS ok s b) l).Pairwise (fun a b => a < b) := by
    intro E
    induction E with
    | nil => exact fun l h => h
    | cons x E ih => exact fun l h => ih _ (formS_sorted x h)
  exact key E _ (List.pairwise_singleton _ _)
theorem foldF_len (ok : Str → Bool) (s : Str) (b : Ende → Str × Str) (E : List Ende) : (foldF ok s b E).length ≤ E.length + 1 := by
  unfold foldF
  have key : ∀ (E : List Ende) (l : List Str), (E.foldl (formS ok s b) l).length ≤ E.length + l.length := by
    intro E
    induction E with
    | nil => intro l; simp
    | cons x E ih =>
      intro l
      have h1 := ih (formS ok s b l x)
      have h2 : (formS ok s b l x).length ≤ l.length + 1 := by
        unfold formS
        split
        · split
          · exact addS_len _ _
          · omega
        · omega
      rw [List.foldl_cons, List.length_cons]; omega
  have := key E [s]
  simpa using this
theorem foldF_succ (ok : Str → Bool) (s : Str) (b : Ende → Str × Str) (E : List Ende) (k : Nat) (h : k < E.length) : foldF ok s b (E.take (k + 1)) = formS ok s b (foldF ok s b (E.take k)) (E.getD k default) := by
  unfold foldF; rw [take_succD E k h, List.foldl_append]; rfl
theorem fold_yes {ok : Str → Bool} {s : Str} {b : Ende → Str × Str} {E : List Ende} {k : Nat} (h : k < E.length) (h1 : (turnL s (b (E.getD k default)).1 (b (E.getD k default)).2).isSome = true ∧ ¬ (turnL s (b (E.getD k default)).1 (b (E.getD k default)).2).getD [] = []) (hok : ok ((turnL s (b (E.getD k default)).1 (b (E.getD k default)).2).getD []) = true) :
    foldF ok s b (E.take (k + 1)) = addS (foldF ok s b (E.take k)) ((turnL s (b (E.getD k default)).1 (b (E.getD k default)).2).getD []) := by
  rw [foldF_succ ok s b E k h]; unfold formS
  cases ht : turnL s (b (E.getD k default)).1 (b (E.getD k default)).2 with
  | none => rw [ht] at h1; exact absurd h1.1 (by simp)
  | some f => rw [ht] at h1 hok; dsimp only; rw [if_pos ⟨h1.2, hok⟩]; rfl
theorem fold_no {ok : Str → Bool} {s : Str} {b : Ende → Str × Str} {E : List Ende} {k : Nat} (h : k < E.length) (h1 : ¬ (((turnL s (b (E.getD k default)).1 (b (E.getD k default)).2).isSome = true ∧ ¬ (turnL s (b (E.getD k default)).1 (b (E.getD k default)).2).getD [] = []) ∧ ok ((turnL s (b (E.getD k default)).1 (b (E.getD k default)).2).getD []) = true)) :
    foldF ok s b (E.take (k + 1)) = foldF ok s b (E.take k) := by
  rw [foldF_succ ok s b E k h]; unfold formS
  cases ht : turnL s (b (E.getD k default)).1 (b (E.getD k default)).2 with
  | none => rfl
  | some f => rw [ht] at h1; dsimp only; rw [if_neg (fun h2 => h1 ⟨⟨rfl, h2.1⟩, h2.2⟩)]
def fwd (x : Ende) : Str × Str := (x.strip, x.add)
def formsC (c : List Clas) (stem cls : Str) : List Str := if stem = [] then [] else foldF (fun _ => true) (lowS stem) fwd (if cls = [] then [] else endsL c cls)
theorem keys_set {m : List (Str × Unit)} {l : List Str} {f : Str} (hn : (m.map (·.1)).Nodup) (h : ∀ x, x ∈ m.map (·.1) ↔ x ∈ l) : ∀ x, x ∈ (setM m f ()).map (·.1) ↔ x ∈ addS l f := fun x => by
  rw [addS_mem, ← h]
  rcases find_idx f m with h1 | ⟨i, u, h1, _⟩
  · rw [setM_miss h1]; simp
  · rw [setM_hit h1 hn, List.map_set]
    have hi := (List.getElem?_eq_some_iff.1 h1)
    have e : (m.map (·.1)).set i f = m.map (·.1) := by
      obtain ⟨hi, hv⟩ := hi
      have : (m.map (·.1))[i]'(by simpa using hi) = f := by simp [hv]
      rw [← this]; exact List.set_getElem_self _
    have hm : f ∈ m.map (·.1) := by
      have := List.mem_of_getElem? h1
      exact List.mem_map.2 ⟨_, this, rfl⟩
    rw [show ((f, ()) : Str × Unit).1 = f from rfl, e]
    constructor
    · exact .inl
    · rintro (h2 | rfl)
      · exact h2
      · exact hm
theorem forms_nil {c : List Clas} {p q : Str} (h : lowS p = []) : formsC c p q = [] := by unfold formsC; rw [if_pos (lowS_nil.1 h)]
theorem forms_if {c : List Clas} {p q : Str} (h : ¬ lowS p = []) : formsC c p q = foldF (fun _ => true) (lowS p) fwd (if q = [] then [] else endsL c q) := by unfold formsC; rw [if_neg (fun e => h (lowS_nil.2 e))]
def KeyIs (m : List (Str × Unit)) (l : List Str) : Prop := (m.map (·.1)).Nodup ∧ ∀ x, x ∈ m.map (·.1) ↔ x ∈ l
theorem KeyIs.one (s : Str) : KeyIs (setM [] s ()) [s] := ⟨by simp [setM], fun x => by simp [setM]⟩
theorem KeyIs.add {m : List (Str × Unit)} {l : List Str} (h : KeyIs m l) (f : Str) : KeyIs (setM m f ()) (addS l f) := ⟨keys_setM f () m h.1, keys_set h.1 h.2⟩
theorem KeyIs.sorted {m : List (Str × Unit)} {l : List Str} (h : KeyIs m l) (hl : l.Pairwise (fun a b => a < b)) : sortS (m.map (·.1)) = l := sorted_keys h.1 hl h.2
theorem cut_yes {s : Str} {E : List Ende} {k : Nat} {m : List (Str × Unit)} (h : KeyIs m (foldF (fun _ => true) s fwd (E.take k))) (hk : k < E.length)
    (h1 : decide ((E.getD k default).strip <:+ s) = true ∧ ¬ (if (E.getD k default).strip <:+ s then s.take (s.length - (E.getD k default).strip.length) else s) ++ (E.getD k default).add = []) :
    KeyIs (setM m ((if (E.getD k default).strip <:+ s then s.take (s.length - (E.getD k default).strip.length) else s) ++ (E.getD k default).add) ()) (foldF (fun _ => true) s fwd (E.take (k + 1))) := by
  have hs := of_decide_eq_true h1.1
  rw [if_pos hs] at h1 ⊢
  have e : turnL s (fwd (E.getD k default)).1 (fwd (E.getD k default)).2 = some (s.take (s.length - (E.getD k default).strip.length) ++ (E.getD k default).add) := if_pos hs
  have h2 := fold_yes (ok := fun _ => true) (s := s) (b := fwd) hk ⟨by rw [e]; rfl, by rw [e]; exact h1.2⟩ rfl
  rw [e] at h2
  rw [h2]
  exact h.add _
theorem cut_no {s : Str} {E : List Ende} {k : Nat} {m : List (Str × Unit)} (h : KeyIs m (foldF (fun _ => true) s fwd (E.take k))) (hk : k < E.length)
    (h1 : ¬ (decide ((E.getD k default).strip <:+ s) = true ∧ ¬ (if (E.getD k default).strip <:+ s then s.take (s.length - (E.getD k default).strip.length) else s) ++ (E.getD k default).add = [])) :
    KeyIs m (foldF (fun _ => true) s fwd (E.take (k + 1))) := by
  rw [fold_no (ok := fun _ => true) (s := s) (b := fwd) hk]
  · exact h
  · intro h2
    by_cases hs : (E.getD k default).strip <:+ s
    · have e : turnL s (fwd (E.getD k default)).1 (fwd (E.getD k default)).2 = some (s.take (s.length - (E.getD k default).strip.length) ++ (E.getD k default).add) := if_pos hs
      rw [e] at h2
      exact h1 ⟨decide_eq_true hs, by rw [if_pos hs]; exact h2.1.2⟩
    · have e : turnL s (fwd (E.getD k default)).1 (fwd (E.getD k default)).2 = none := if_neg hs
      rw [e] at h2
      exact absurd h2.1.1 (by simp)
end Go.Vc
namespace Go.Vc
open Go Go.RowKit Go.IntWalk
abbrev u8v (c : UInt8) : Value := .int .u8 ((c.toNat : Nat) : Int)
def ByB (w : World) (b cap : Nat) (l : List UInt8) : Prop := ∃ (cur : Array Value) (E : TypeId), w.heap[b]? = some (.cells cur E (cap, cap + 1)) ∧ cur.size = cap ∧ l.length ≤ cap ∧ l.length ≤ 140737488355328 ∧ cur.toList.take l.length = l.map u8v
section
variable {w w' : World} {b cap : Nat} {l : List UInt8} {X : List Nat}
theorem ByB.lt (h : ByB w b cap l) : b < w.heap.size := by
  obtain ⟨cur, E, hb, _⟩ := h
  rcases Nat.lt_or_ge b w.heap.size with h1 | h1
  · exact h1
  · rw [Array.getElem?_eq_none h1] at hb; cases hb
theorem ByB.evo (h : ByB w b cap l) (he : Evo w w' X) (hn : b ∉ X) : ByB w' b cap l := by
  have hl := h.lt
  obtain ⟨cur, E, hb, r⟩ := h
  exact ⟨cur, E, (he.same b hl hn).trans hb, r⟩
theorem ByB.evo0 (h : ByB w b cap l) (he : Evo w w' []) : ByB w' b cap l := h.evo he (by simp)
theorem ByB.len (h : ByB w b cap l) : l.length ≤ cap ∧ l.length ≤ 140737488355328 := by obtain ⟨cur, E, _, _, h1, h2, _⟩ := h; exact ⟨h1, h2⟩
theorem ByB.cell (h : ByB w b cap l) {i : Nat} (hi : i < l.length) : w.cell? ⟨b, i, none⟩ = some (u8v (l.getD i 0)) := by
  obtain ⟨cur, E, hb, h1, h2, h3, h4⟩ := h
  have h5 : (cur.toList.take l.length)[i]? = (l.map u8v)[i]? := by rw [h4]
  rw [List.getElem?_take_of_lt hi, Array.getElem?_toList, List.getElem?_map, List.getElem?_eq_getElem hi] at h5
  simp only [World.cell?, hb, Option.isSome_none, Bool.false_eq_true, if_false]
  rw [h5]
  simp [List.getD, hi]
theorem ByB.row (h : ByB w b cap l) : RowE w (some ⟨b, 0, none⟩) b 0 cap l := by
  refine ⟨⟨by simpa using h.len.1, by simpa using h.len.2⟩, fun _ => rfl, fun i cs hi => ?_⟩
  have hil : i < l.length := by
    rcases Nat.lt_or_ge i l.length with h1 | h1
    · exact h1
    · rw [List.getElem?_eq_none (by simpa using h1)] at hi; cases hi
  rw [List.getElem?_map, List.getElem?_eq_getElem hil] at hi
  injection hi with hi
  subst hi
  refine ⟨rfl, fun j v hj => ?_⟩
  have hj0 : j = 0 := by
    rcases Nat.eq_zero_or_pos j with h1 | h1
    · exact h1
    · rw [List.getElem?_eq_none (by show 1 ≤ j; exact h1)] at hj; cases hj
  subst hj0
  have h2 : some (u8v l[i]) = some v := hj
  injection h2 with h2
  have h3 := h.cell hil
  have e : l.getD i 0 = l[i] := by simp [List.getD, hil]
  rw [e, h2] at h3
  have e2 : 0 + i * Enc.n UInt8 + 0 = i := by show 0 + i * 1 + 0 = i; omega
  rw [e2]; exact h3
end
section
variable {P : Program} {B : Exit → Act → World → Prop} {n : Nat} {k : List Kont} {f : Fr} {w : World} {ops : Array Oper} {rest : List Oper}
theorem r_cvSB {T U E d : Nat} {t : TypeId} {pos : String} {aft : Array Edge} {x : Operand} {s : Str} (hd : Nat.blt d n = true) (hs : P.underlying T = some .string) (hu : P.underlying U = some (.slice E)) (he : P.underlying E = some (.int .u8)) (hx : opv f x = S s) (hb : s.length ≤ 140737488355328)
    (h : ∀ b cap w', b = w.heap.size → Evo w w' [] → ByB w' b cap s → w'.heap.size = b + 1 → KL P B n ops k rest (upd f d (.slice (some ⟨b, 0, none⟩) s.length cap)) w') :
    KL P B n ops k (⟨some d, .convert T U x, t, pos, aft, none⟩ :: rest) f w := by
  have hr := Lib.run_convert_string_bytes (P := P) w T U E ⟨s.toArray⟩ hs hu he
  have hsz : (⟨s.toArray⟩ : ByteArray).size = s.length := by simp [ByteArray.size]
  have hge := grownCap_ge w (⟨s.toArray⟩ : ByteArray).size 0 E
  have hcs : (Lib.bytesCells w E ⟨s.toArray⟩).size = grownCap w (⟨s.toArray⟩ : ByteArray).size 0 E := by
    simp only [Lib.bytesCells, Array.size_append, Array.size_map, Array.size_replicate]
    have e : s.toArray.size = (⟨s.toArray⟩ : ByteArray).size := rfl
    rw [e]; omega
  have hby : ByB (Lib.bytesWorld w E ⟨s.toArray⟩) w.heap.size (grownCap w (⟨s.toArray⟩ : ByteArray).size 0 E) s := by
    refine ⟨Lib.bytesCells w E ⟨s.toArray⟩, E, by rw [Lib.bytesWorld_at_new, hcs], hcs, by rw [hsz] at hge; rw [hsz]; exact hge, hb, ?_⟩
    simp [Lib.bytesCells]
  refine r_op (v := .slice (some ⟨w.heap.size, 0, none⟩) s.length (grownCap w (⟨s.toArray⟩ : ByteArray).size 0 E)) (w' := Lib.bytesWorld w E ⟨s.toArray⟩) rfl rfl hd ?_ (h _ _ _ rfl ⟨rfl, rfl, rfl, by rw [Lib.bytesWorld_size]; omega, fun j hj _ => Lib.bytesWorld_at_old w E ⟨s.toArray⟩ j hj⟩ hby (Lib.bytesWorld_size w E ⟨s.toArray⟩))
  unfold execOp
  simp only []
  rw [hx, ← hsz]
  simp only [Sem.run_bind]
  rw [show S s = Value.string ⟨s.toArray⟩ from rfl, hr]
  rfl
theorem ByB.set {b cap i : Nat} {l : List UInt8} (c : UInt8) (h : ByB w b cap l) (hi : i < l.length) : ByB (w.setCell ⟨b, i, none⟩ (u8v c)) b cap (l.set i c) := by
  obtain ⟨cur, E, hb, h1, h2, h3, h4⟩ := h
  refine ⟨cur.setIfInBounds i (u8v c), E, by simp [World.setCell, Array.getElem?_modify, hb], by simpa using h1, by simpa using h2, by simpa using h3, ?_⟩
  rw [List.length_set, Array.toList_setIfInBounds]
  apply List.ext_getElem?
  intro j
  have h5 := congrArg (fun q : List Value => q[j]?) h4
  simp only [List.getElem?_take, List.getElem?_map] at h5 ⊢
  rw [List.getElem?_set, List.getElem?_set]
  have hc : i < cur.toList.length := by rw [Array.length_toList, h1]; omega
  by_cases hj : j < l.length
  · simp only [hj, if_true] at h5 ⊢
    by_cases hij : i = j
    · subst hij; rw [if_pos rfl, if_pos rfl, if_pos hc, if_pos hi]; rfl
    · simp only [hij, if_false]; exact h5
  · simp only [hj, if_false]
    have : ¬ i = j := by omega
    simp [this, List.getElem?_eq_none (Nat.le_of_not_lt hj)]
theorem r_storeBy {T : TypeId} {t : TypeId} {pos : String} {aft : Array Edge} {x y : Operand} {b cap bb : Nat} {z : Option Value} {l : List UInt8} {c : UInt8} (i : Nat) (hx : opv f x = .pointer (some ⟨b, i, none⟩)) (hy : opv f y = u8v c) (hb : ByB w b cap l) (hi : i < l.length) (ht : tyP P T = some (1, bb, z))
    (h : ∀ w', Evo w w' [b] → w'.heap.size = w.heap.size → ByB w' b cap (l.set i c) → KL P B n ops k rest f w') :
    KL P B n ops k (⟨none, .store T x y, t, pos, aft, none⟩ :: rest) f w := by
  refine r_op0 (w' := w.setCell ⟨b, i, none⟩ (u8v c)) rfl rfl ?_ (h _ (Evo.setCell _ _ _) (by simp [World.setCell]) (hb.set c hi))
  have hcell := hb.cell hi
  have hfr : w.frozen? ⟨b, i, none⟩ = false := by
    have hl := hb.len.1
    obtain ⟨cur, E, hb', h1, h2, h3, h4⟩ := hb
    simp only [World.frozen?, hb']
    simp; omega
  have hst := run_storeCells_cells (P := P) b i [u8v c] 0 w (by intro j hj; simp at hj; subst hj; simp [hcell]) (by intro j hj; simp at hj; subst hj; simpa using hfr) (by intro v hv; simp at hv; subst hv; rfl)
  have hsc : (u8v c).cells = #[u8v c] := rfl
  simp only [execOp, Instr.storeAt, Instr.sureAddr, storeVar, hx, hy, Sem.run_bind, run_sizeOf ht, hsc, Sem.run_pure, Result.andThen_ok]
  simp
  simp at hst
  rw [hst]
  rfl
theorem r_storeBy2 {T : TypeId} {t : TypeId} {pos : String} {aft : Array Edge} {x y : Operand} {b cap bb j : Nat} {z : Option Value} {l : List UInt8} {m : Int} (i : Nat) (c : UInt8) (hx : opv f x = .pointer (some ⟨b, j, none⟩)) (hj : j = i) (hy : opv f y = .int .u8 m) (hm : m = ((c.toNat : Nat) : Int)) (hb : ByB w b cap l) (hi : i < l.length) (ht : tyP P T = some (1, bb, z))
    (h : ∀ w', Evo w w' [b] → w'.heap.size = w.heap.size → ByB w' b cap (l.set i c) → KL P B n ops k rest f w') :
    KL P B n ops k (⟨none, .store T x y, t, pos, aft, none⟩ :: rest) f w := by
  subst hj; subst hm
  exact r_storeBy _ hx hy hb hi ht h
def BA (w : World) (base : Nat) (E : TypeId) (v : Value) (l : List UInt8) : Prop := OwnE w base E v l ∨ ∃ b, v = .slice (some ⟨b, 0, none⟩) l.length l.length ∧ base ≤ b ∧ b < w.heap.size ∧ ByB w b l.length l ∧ l.length = 2
theorem BA.shape {base : Nat} {E : TypeId} {v : Value} {l : List UInt8} (h : BA w base E v l) : ∃ ao cap, v = .slice ao l.length cap := by
  rcases h with h | ⟨b, h, _⟩
  · exact h.shape
  · exact ⟨_, _, h⟩
theorem BA.own {base : Nat} {E : TypeId} {v : Value} {l : List UInt8} (h : BA w base E v l) (hl : ¬ l.length = 2) : OwnE w base E v l := by
  rcases h with h | ⟨b, _, _, _, _, h⟩
  · exact h
  · exact absurd h hl
theorem BA.evo0 {w' : World} {base : Nat} {E : TypeId} {v : Value} {l : List UInt8} (h : BA w base E v l) (he : Evo w w' []) : BA w' base E v l := by
  rcases h with h | ⟨b, h1, h2, h3, h4, h5⟩
  · exact .inl (h.evo0 he)
  · exact .inr ⟨b, h1, h2, Nat.lt_of_lt_of_le h3 he.size, h4.evo0 he, h5⟩
end
end Go.Vc
namespace Go.Proofs.YtlfjocbnbceceaaGreatDoor
open Go.RowKit Go.Vc
theorem ag_5 : aggP Tryz.prog 5 = some false := ζ
theorem ty_5 : tyP Tryz.prog 5 = some (1, 1, some (.int .u8 0)) := ζ
theorem of_calls {c : UInt8} {w0 : World}  :
    Calls Tryz.prog 143 #[.int .u8 ((c.toNat : Nat) : Int)] w0 fun e w' => e = .returned (.int .i64 (clsB c)) ∧ Evo w0 w' [] := by
 refine calls_enter (n := 51) Tryz.func143 rfl Tryz.ntmps143 rfl ?_
 have hV : Evo w0 w0 [] := Evo.refl _ _
 refine Zs ?_
 refine Zn asI ?_
 refine r_seq ?_
 refine r_block ?_
 refine Zs ?_
 refine Zo mvI ?_
 refine Zo (run_eql rfl η η) ?_
 refine Zo mvB ?_
 refine r_g rfl (wantF η) rfl (fun hg => mvI) ?_
 refine r_g rfl (wantF η) rfl (fun hg => run_eql rfl (glv η (fun h => h) hg) η) ?_
 refine Zo (run_pick_or rfl η rfl (fun hq => glv η (fun h => h) hq)) ?_
 refine Zo mvB ?_
 refine r_g rfl (wantF η) rfl (fun hg => mvI) ?_
 refine r_g rfl (wantF η) rfl (fun hg => run_eql rfl (glv η (fun h => h) hg) η) ?_
 refine Zo (run_pick_or rfl η rfl (fun hq => glv η (fun h => h) hq)) ?_
 refine Zo mvB ?_
 refine r_g rfl (wantF η) rfl (fun hg => mvI) ?_
 refine r_g rfl (wantF η) rfl (fun hg => run_eql rfl (glv η (fun h => h) hg) η) ?_
 refine Zo (run_pick_or rfl η rfl (fun hq => glv η (fun h => h) hq)) ?_
 refine Zn asB ?_
 refine r_cond η (fun hc1 => ?_) (fun hc1 => ?_)
 ·skip
  refine Zs ?_
  refine Zn asI ?_
  refine r_ret (res1 (v := .int _ _) rfl η) ?_
  exact ⟨ret_int (by rw [cls_space ω]), hV⟩
 refine Zs ?_
 refine Zo mvI ?_
 refine Zo (run_lss rfl η η) ?_
 refine Zo mvB ?_
 refine r_g rfl (wantF η) rfl (fun hg => mvI) ?_
 refine r_g rfl (wantF η) rfl (fun hg => run_eql rfl (glv η (fun h => h) hg) η) ?_
 refine Zo (run_pick_or rfl η rfl (fun hq => glv η (fun h => h) hq)) ?_
 refine Zn asB ?_
 refine r_cond η (fun hc2 => ?_) (fun hc2 => ?_)
 ·skip
  refine Zs ?_
  refine Zn asI ?_
  refine r_ret (res1 (v := .int _ _) rfl η) ?_
  exact ⟨ret_int (by rw [cls_control ω ω]), hV⟩
 refine Zs ?_
 refine Zo mvI ?_
 refine Zo (run_geq rfl η η) ?_
 refine Zo mvB ?_
 refine r_g rfl (wantT η) rfl (fun hg => mvI) ?_
 refine r_g rfl (wantT η) rfl (fun hg => run_leq rfl (glv η (fun h => h) hg) η) ?_
 refine Zo (run_pick_and rfl η (fun hq => glv η (fun h => h) hq) rfl) ?_
 refine Zn asB ?_
 refine r_cond η (fun hc3 => ?_) (fun hc3 => ?_)
 ·skip
  refine Zs ?_
  refine Zn asI ?_
  refine r_ret (res1 (v := .int _ _) rfl η) ?_
  exact ⟨ret_int (by rw [cls_digit ω]), hV⟩
 refine Zs ?_
 refine Zo mvI ?_
 refine Zo (run_geq rfl η η) ?_
 refine Zo mvB ?_
 refine r_g rfl (wantT η) rfl (fun hg => mvI) ?_
 refine r_g rfl (wantT η) rfl (fun hg => run_leq rfl (glv η (fun h => h) hg) η) ?_
 refine Zo (run_pick_and rfl η (fun hq => glv η (fun h => h) hq) rfl) ?_
 refine Zo mvB ?_
 refine r_g rfl (wantF η) rfl (fun hg => mvI) ?_
 refine r_g rfl (wantF η) rfl (fun hg => run_geq rfl (glv η (fun h => h) hg) η) ?_
 refine r_g rfl (wantF η) rfl (fun hg => run_mv (v := .bool _) rfl (glv η (fun h => h) hg)) ?_
 refine r_g rfl (wantTg η) rfl (fun hg => mvI) ?_
 refine r_g rfl (wantTg η) rfl (fun hg => run_leq rfl (glv η (fun h => h) hg) η) ?_
 refine r_g rfl (wantF η) rfl (fun hg => run_pick_and rfl (glv η (fun h => h) hg) (fun hq => glv η (fun h => h) (And.intro hg hq)) rfl) ?_
 refine Zo (run_pick_or rfl η rfl (fun hq => glv η (fun h => h) hq)) ?_
 refine Zo mvB ?_
 refine r_g rfl (wantF η) rfl (fun hg => mvI) ?_
 refine r_g rfl (wantF η) rfl (fun hg => run_geq rfl (glv η (fun h => h) hg) η) ?_
 refine Zo (run_pick_or rfl η rfl (fun hq => glv η (fun h => h) hq)) ?_
 refine Zn asB ?_
 refine r_cond η (fun hc4 => ?_) (fun hc4 => ?_)
 ·skip
  refine Zs ?_
  refine Zn asI ?_
  refine r_ret (res1 (v := .int _ _) rfl η) ?_
  exact ⟨ret_int (by rw [cls_letter ω]), hV⟩
 refine r_skip ?_
 refine r_blk ?_
 refine Zs ?_
 refine Zn asI ?_
 refine r_ret (res1 (v := .int _ _) rfl η) ?_
 exact ⟨ret_int (by rw [cls_mark ω ω ω ω]), hV⟩
theorem lower_calls {s : Str} {w0 : World} (hs : s.length ≤ 140737488355328) :
    Calls Tryz.prog 183 #[S s] w0 fun e w' => e = .returned (S (lowS s)) ∧ Evo w0 w' [] := by
 refine calls_enter (n := 30) Tryz.func183 rfl Tryz.ntmps183 rfl ?_
 have hV : Evo w0 w0 [] := Evo.refl _ _
 refine Zs ?_
 refine Zn asT ?_
 refine Zs ?_
 refine Zo mvT ?_
 refine r_cvSB rfl Tryz.underlying9 Tryz.underlying123 Tryz.underlying5 η (by first | omega | (simp; omega)) ?_
 intro b1 capb1 w2 J1 E2 hyb1 Y1
 have Q2 := E2.size
 replace hV := Z0 hV E2
 have hrb1 := hyb1.row
 refine Zn (run_asg (v := .slice (some ⟨b1, 0, none⟩) _ _) rfl η) ?_
 refine r_seq ?_
 refine Zs ?_
 refine Zo (run_mv (v := .slice (some ⟨b1, 0, none⟩) _ _) rfl η) ?_
 refine Zo (run_lenSl rfl η Tryz.underlying123) ?_
 refine Zn mvI ?_
 refine r_block ?_
 refine r_loop (α := Nat) [4, 5, 10, 11, 12, 13, 14, 15, 16, 17, 18, 19, 20, 21, 22, 23, 24, 25, 26, 27] (fun k g w => g 10 = .int .i64 (k : Nat) ∧ k ≤ s.length ∧ ByB w b1 capb1 (lowK s k) ∧ RowE w (some ⟨b1, 0, none⟩) b1 0 capb1 (lowK s k) ∧ w2.heap.size ≤ w.heap.size ∧ Evo w0 w []) (fun k => s.length - k) 0 ?_ ?_
 ·refine ⟨σ, δ, (by rw [lowK_zero]; exact hyb1), (by rw [lowK_zero]; exact hrb1), δ, hV⟩
 rintro k g w4 ⟨hj5, hk_k, hyb1, hrb1, hzl3, hV⟩
 have hs_w4hV := hV.size
 refine Zk 10 (v := .int .i64 (k : Nat)) (by exact hj5) ?_
 have hll := lowK_len s k
 have hlg := fun h => lowK_get (s := s) (k := k) h
 have hln := fun h => congrArg UInt8.toNat (lowK_get (s := s) (k := k) h)
 refine Zs ?_
 refine Zn (run_lss rfl η η) ?_
 refine r_seq ?_
 refine r_cond η (fun hc6 => ?_) (fun hc6 => ?_)
 ·skip
  refine r_skip ?_
  refine r_seq ?_
  refine r_block ?_
  refine Zs ?_
  refine Zo mvI ?_
  refine Zo (run_ix (k) rfl Tryz.underlying123 ty_5 η η (by first | exact rfl | omega) ω (hrb1.addr (i := k) ω)) ?_
  have hA7 := hrb1.atD (k) ω
  refine Zo (run_ld1 rfl ag_5 η (hA7.cell 0 η)) ?_
  refine Zo asI ?_
  refine Zn asI ?_
  refine Zs ?_
  refine Zo mvI ?_
  refine Zo (run_geq rfl η η) ?_
  refine Zo mvB ?_
  refine r_g rfl (wantT η) rfl (fun hg => mvI) ?_
  refine r_g rfl (wantT η) rfl (fun hg => run_leq rfl (glv η (fun h => h) hg) η) ?_
  refine Zn (run_pick_and rfl η (fun hq => glv η (fun h => h) hq) rfl) ?_
  refine r_cond η (fun hc8 => ?_) (fun hc8 => ?_)
  ·skip
   refine r_region ?_
   refine Zo (run_mv (v := .slice (some ⟨b1, 0, none⟩) _ _) rfl η) ?_
   refine Zo mvI ?_
   refine Zo mvI ?_
   refine Zo (run_addw rfl η η) ?_
   refine Zo (run_subw rfl η η) ?_
   refine Zo (run_ix (k) rfl Tryz.underlying123 ty_5 η η (by first | exact rfl | omega) ω (hrb1.addr (i := k) ω)) ?_
   have hA9 := hrb1.atD (k) ω
   refine r_storeBy2 (k) ((lwB (s.getD k 0))) η (by first | omega | (show 0 + _ * 1 = _; omega)) η (by have h8 := hlg ω; refine Eq.trans ?_ (low_add (c := s.getD k 0) (by rw [← h8]; omega) (by rw [← h8]; omega)); rw [h8]) hyb1 ω ty_5 ?_
   intro w10 E10 V10 hy_new
   have Q10 := E10.size
   replace hV := Z1 hV E10 ε
   have hyb1 := hy_new
   have hrb1 := hyb1.row
   clear hy_new
   refine r_nil ?_
   refine r_blk ?_
   refine r_region ?_
   refine Zo (run_add rfl η η ω ω) ?_
   refine Zn mvI ?_
   refine r_again (k + 1) ?_ ?_ ?_
   ·first | omega | (dsimp only; omega)
   ·refine ⟨σ, δ, (by first | (have h9 := hyb1; rw [lowK_set ω] at h9; exact h9) | (rw [lowK_keep ω (by have := hln ω; omega)]; exact hyb1)), (by first | (have h9 := hrb1; rw [lowK_set ω] at h9; exact h9) | (rw [lowK_keep ω (by have := hln ω; omega)]; exact hrb1)), δ, hV⟩
   exact ψ
  refine r_skip ?_
  refine r_blk ?_
  refine r_region ?_
  refine Zo (run_add rfl η η ω ω) ?_
  refine Zn mvI ?_
  refine r_again (k + 1) ?_ ?_ ?_
  ·first | omega | (dsimp only; omega)
  ·refine ⟨σ, δ, (by first | (have h9 := hyb1; rw [lowK_set ω] at h9; exact h9) | (rw [lowK_keep ω (by have := hln ω; omega)]; exact hyb1)), (by first | (have h9 := hrb1; rw [lowK_set ω] at h9; exact h9) | (rw [lowK_keep ω (by have := hln ω; omega)]; exact hrb1)), δ, hV⟩
  exact ψ
 refine r_exit rfl ?_
 refine Zs ?_
 refine Zo (run_mv (v := .slice (some ⟨b1, 0, none⟩) _ _) rfl η) ?_
 refine Zo (run_cvBS rfl Tryz.underlying123 Tryz.underlying5 Tryz.underlying9 η (by first | rfl | simp) hrb1) ?_
 refine Zn asT ?_
 refine r_ret (res1 (v := S _) rfl η) ?_
 exact ⟨by rw [← lowK_all (k := k) ω], hV⟩
end Go.Proofs.YtlfjocbnbceceaaGreatDoor
namespace Go.Vc
open Go Go.RowKit Go.IntWalk Go.Deep
instance : Enc Ende := ⟨2, fun x => [S x.strip, S x.add], fun _ => rfl, fun _ => rfl, by decide⟩
def BdE (x : Ende) : Prop := x.strip.length ≤ 140737488351232 ∧ x.add.length ≤ 140737488351232
def BdC (x : Clas) : Prop := x.name.length ≤ 140737488351232 ∧ (∀ y ∈ x.ends, BdE y) ∧ x.ends.length ≤ 4398046510976
instance : Rep Clas where
  n := 2
  rep w cs x := (∃ ao b off cap, cs = [S x.name, .slice ao x.ends.length cap] ∧ RowE w ao b off cap x.ends) ∧ BdC x
  len := fun ⟨⟨_, _, _, _, h, _⟩, _⟩ => by rw [h]; rfl
  evo0 := fun ⟨⟨ao, b, off, cap, h, hr⟩, hb⟩ he => ⟨⟨ao, b, off, cap, h, hr.evo0 he⟩, hb⟩
  pos := by decide
theorem clas_atK {w : World} {E : List Nat} {ao : Option Addr} {b off cap : Nat} {l : List Clas} (h : RowRK w E ao b off cap l) (k : Nat) (hk : k < l.length) :
    ∃ ao' b' off' cap', ∀ w', Evo w w' E → At w' b (off + k * 2) [S (l.getD k default).name, .slice ao' (l.getD k default).ends.length cap'] ∧ RowE w' ao' b' off' cap' (l.getD k default).ends := by
  obtain ⟨cs, h1⟩ := h.atD k hk
  obtain ⟨ao', b', off', cap', h2, h3⟩ := (h1 w (Evo.refl _ _)).2.1
  refine ⟨ao', b', off', cap', fun w' he => ⟨h2 ▸ (h1 w' he).1, ?_⟩⟩
  obtain ⟨ao2, b2, off2, cap2, h4, h5⟩ := (h1 w' he).2.1
  rw [h2] at h4
  simp only [List.cons.injEq, Value.slice.injEq, and_true, true_and] at h4
  obtain ⟨rfl, rfl⟩ := h4
  exact rowE_same h5 h3
theorem clas_bd {w : World} {ao : Option Addr} {b off cap : Nat} {l : List Clas} (h : RowR w ao b off cap l) : ∀ x ∈ l, BdC x := fun x hx => by
  obtain ⟨css, _, hl, hr⟩ := h
  obtain ⟨i, hi⟩ := List.getElem?_of_mem hx
  have hi2 : i < l.length := (List.getElem?_eq_some_iff.1 hi).1
  exact (hr i (css[i]'ω) x (by simp [hl, hi2]) hi).2
theorem elem_ende {P : Program} {e : TypeId} {f0 f1 : Field} (ht : P.underlying e = some (.struct #[f0, f1])) (h2 : P.cellsOf e = 2) (o0 : f0.offset = 0) (c0 : P.cellsOf f0.type = 1) (o1 : f1.offset = 1) (c1 : P.cellsOf f1.type = 1)
    (u0 : P.underlying f0.type = some .string) (u1 : P.underlying f1.type = some .string) {H : Type} {enc : TypeId × Value → H} {w : World} {base : Nat} {sp : Nat → Bool} {hd : Bool} {n : Nat} {cs : List Value} {d : DataW H} {pl : List MemPlace}
    (h : DataW.trod enc P w base sp hd n e cs = some (d, pl)) (hw : ∀ m ∈ d.weights P e, m ≤ reachBytes) : ∃ x : Ende, cs = Enc.enc x ∧ BdE x := by
  obtain ⟨y0, y1, m, hxd, hl, h3, h4⟩ := ChangeShapes.trod_struct2 ht h
  rw [o0, c0] at h3
  rw [o1, c1] at h4
  rw [h2] at hl
  match cs, hl with
  | [v0, v1], _ =>
    obtain ⟨s, e0, e0a, _⟩ := DataW.trod_string u0 (by simpa using h3)
    obtain ⟨t, e1, e1a, _⟩ := DataW.trod_string u1 (by simpa using h4)
    simp only [List.cons.injEq, and_true] at e0 e1
    subst e0; subst e1
    have hd2 : d = .agg [y0.1, y1.1] := congrArg Prod.fst hxd
    have hy0 : y0.1 = .lit (.string s.data.toList) := congrArg Prod.fst e0a
    have hy1 : y1.1 = .lit (.string t.data.toList) := congrArg Prod.fst e1a
    have h5 : reachBytes = 140737488351232 := rfl
    have h6 := hw s.data.toList.length (by rw [hd2, hy0]; simp [DataW.weights, ht, DataW.weightsEach])
    have h7 := hw t.data.toList.length (by rw [hd2, hy1]; simp [DataW.weights, ht, DataW.weightsEach])
    exact ⟨⟨s.data.toList, t.data.toList⟩, by cases s; cases t; rfl, by show s.data.toList.length ≤ _; omega, by show t.data.toList.length ≤ _; omega⟩
theorem open_len {P : Program} {H : Type} {enc : TypeId × Value → H} {w : World} {base : Nat} {sp : Nat → Bool} {hd : Bool} {t e : TypeId} (hu : P.underlying t = some (.slice e)) {fuel : Nat} {ao : Option Addr} {len cap : Nat} {d : DataW H} {pl : List MemPlace}
    (h : DataW.trod enc P w base sp hd fuel t [.slice ao len cap] = some (d, pl)) (hw : ∀ m ∈ d.weights P t, m ≤ reachBytes) : len * P.bytesOf e ≤ reachBytes := by
  rcases open_slice hu h with ⟨h1, _⟩ | ⟨a, len', cap', m, n, D, Pl, h1, _, hl, _, hm, hx, hall⟩
  · simp only [List.cons.injEq, Value.slice.injEq, and_true] at h1
    obtain ⟨rfl, rfl, rfl⟩ := h1
    simp
  · simp only [List.cons.injEq, Value.slice.injEq, and_true] at h1
    obtain ⟨rfl, rfl, rfl⟩ := h1
    have hd2 : d = _ := congrArg Prod.fst hx
    have h3 := hw ((((List.range len).map D).length + ((List.range (m - len)).map fun j => D (len + j)).length) * P.bytesOf e) (by rw [hd2]; simp [DataW.weights, hu])
    simp only [List.length_map, List.length_range] at h3
    exact Nat.le_trans (Nat.mul_le_mul ω (Nat.le_refl _)) h3
theorem elem_clas {P : Program} {e se : TypeId} {f0 f1 g0 g1 : Field} (ht : P.underlying e = some (.struct #[f0, f1])) (h2 : P.cellsOf e = 2) (o0 : f0.offset = 0) (c0 : P.cellsOf f0.type = 1) (o1 : f1.offset = 1) (c1 : P.cellsOf f1.type = 1)
    (u0 : P.underlying f0.type = some .string) (u1 : P.underlying f1.type = some (.slice se)) (cs0 : P.cellsOf se = 2) (bs0 : P.bytesOf se = 32)
    (ht2 : P.underlying se = some (.struct #[g0, g1])) (o2 : g0.offset = 0) (c2 : P.cellsOf g0.type = 1) (o3 : g1.offset = 1) (c3 : P.cellsOf g1.type = 1) (u2 : P.underlying g0.type = some .string) (u3 : P.underlying g1.type = some .string) : ElemR Clas P e := by
  intro H enc w base sp hd n cs d pl h hw
  obtain ⟨y0, y1, m, hx, hl, h3, h4⟩ := ChangeShapes.trod_struct2 ht h
  rw [o0, c0] at h3
  rw [o1, c1] at h4
  rw [h2] at hl
  match cs, hl with
  | [v, u], _ =>
    obtain ⟨s, h5, h5a, _⟩ := DataW.trod_string u0 (by simpa using h3)
    simp only [List.cons.injEq, and_true] at h5
    subst h5
    simp only [List.drop_succ_cons, List.drop_zero, List.take_succ_cons, List.take_zero] at h4
    have hd2 : d = .agg [y0.1, y1.1] := congrArg Prod.fst hx
    have hy0 : y0.1 = .lit (.string s.data.toList) := congrArg Prod.fst h5a
    have h8 : reachBytes = 140737488351232 := rfl
    have h9 := hw s.data.toList.length (by rw [hd2, hy0]; simp [DataW.weights, ht, DataW.weightsEach])
    have hw1 : ∀ q ∈ y1.1.weights P f1.type, q ≤ reachBytes := fun q hq => hw q (by rw [hd2]; simp [DataW.weights, ht, DataW.weightsEach, hq])
    rcases open_slice u1 h4 with ⟨h6, _⟩ | ⟨a, len, cap, _, _, _, _, h6, _⟩
    · simp only [List.cons.injEq, and_true] at h6
      subst h6
      exact ⟨⟨s.data.toList, []⟩, ⟨none, 0, 0, 0, by cases s; rfl, RowE.nil _ _ _ _ _⟩, by show s.data.toList.length ≤ _; omega, by simp, Nat.zero_le _⟩
    · simp only [List.cons.injEq, and_true] at h6
      subst h6
      have hln := open_len u1 (d := y1.1) (pl := y1.2) (by simpa using h4) hw1
      rw [bs0] at hln
      obtain ⟨b, off, l, rfl, hr, hq⟩ := openEQ (α := Ende) u1 cs0 ω (fun n cs d pl h hw => elem_ende ht2 cs0 o2 c2 o3 c3 u2 u3 h hw) (d := y1.1) (pl := y1.2) (by simpa using h4) hw1
      exact ⟨⟨s.data.toList, l⟩, ⟨_, b, off, cap, by cases s; rfl, hr⟩, by show s.data.toList.length ≤ _; omega, hq, by show l.length ≤ _; omega⟩
theorem getD_in {α : Type} [Inhabited α] {l : List α} {k : Nat} (h : k < l.length) : l.getD k default ∈ l := by
  have e : l.getD k default = l[k] := by simp [List.getD, h]
  rw [e]; exact List.getElem_mem _
theorem ends_bd {c : List Clas} (h : ∀ x ∈ c, BdC x) (n : Str) (k : Nat) : BdE ((endsL c n).getD k default) := by
  have h0 : BdE default := ⟨Nat.zero_le _, Nat.zero_le _⟩
  by_cases h1 : 0 ≤ findC c n
  · rw [ends_at h1]
    rcases Nat.lt_or_ge k (c.getD (findC c n).toNat default).ends.length with h2 | h2
    · have h3 := findC_lt c n
      have h4 : (findC c n).toNat < c.length := by omega
      exact (h _ (getD_in h4)).2.1 _ (getD_in h2)
    · rw [List.getD_eq_getElem?_getD, List.getElem?_eq_none h2]; exact h0
  · rw [ends_none h1]; exact h0
theorem ends_len {c : List Clas} (h : ∀ x ∈ c, BdC x) (n : Str) : (endsL c n).length ≤ 4398046510976 := by
  by_cases h1 : 0 ≤ findC c n
  · rw [ends_at h1]
    have h3 := findC_lt c n
    exact (h _ (getD_in (by omega : (findC c n).toNat < c.length))).2.2
  · rw [ends_none h1]; exact Nat.zero_le _
theorem ends_ifbd {c : List Clas} {q : Str} (h : ∀ k, BdE ((endsL c q).getD k default)) (k : Nat) : BdE ((if q = [] then ([] : List Ende) else endsL c q).getD k default) := by
  by_cases hq : q = []
  · rw [if_pos hq]; exact ⟨Nat.zero_le _, Nat.zero_le _⟩
  · rw [if_neg hq]; exact h k
theorem ends_iflen {c : List Clas} {q : Str} {n : Nat} (h : (endsL c q).length ≤ n) : (if q = [] then ([] : List Ende) else endsL c q).length ≤ n := by
  by_cases hq : q = []
  · rw [if_pos hq]; exact Nat.zero_le _
  · rw [if_neg hq]; exact h
end Go.Vc
namespace Go.Proofs.YtlfjocbnbceceaaGreatDoor
open Go.RowKit Go.Vc
theorem ag_110 : aggP Tryz.prog 110 = some true := ζ
theorem ag_9 : aggP Tryz.prog 9 = some false := ζ
theorem fo_110_0 : fieldP Tryz.prog 110 0 = some 0 := ζ
theorem ty_110 : tyP Tryz.prog 110 = some (2, 40, some (.agg #[(.string ⟨#[]⟩), (.slice none 0 0)])) := ζ
theorem sl_hs_calls {s t : Str} {w0 : World} (hs : s.length ≤ 140737488355328) (ht : t.length ≤ 140737488355328) :
    Calls Tryz.prog 253 #[S s, S t] w0 fun e w' => e = .returned (.bool (decide (t <:+ s))) ∧ Evo w0 w' [] := by
 refine calls_enter (n := 21) Tryz.func253 rfl Tryz.ntmps253 rfl ?_
 have hV : Evo w0 w0 [] := Evo.refl _ _
 refine Zs ?_
 refine Zn asB ?_
 refine Zs ?_
 refine Zo mvT ?_
 refine Zo (run_lenS rfl η Tryz.underlying9) ?_
 refine Zo mvT ?_
 refine Zo (run_lenS rfl η Tryz.underlying9) ?_
 refine Zo (run_geq rfl η η) ?_
 refine Zo mvB ?_
 refine r_g rfl (wantT η) rfl (fun hg => mvT) ?_
 refine r_g rfl (wantT η) rfl (fun hg => mvT) ?_
 refine r_g rfl (wantT η) rfl (fun hg => run_lenS rfl (glv η (fun h => h) hg) Tryz.underlying9) ?_
 refine r_g rfl (wantT η) rfl (fun hg => mvT) ?_
 refine r_g rfl (wantT η) rfl (fun hg => run_lenS rfl (glv η (fun h => h) hg) Tryz.underlying9) ?_
 refine r_g rfl (wantT η) rfl (fun hg => run_sub rfl (glv η (fun h => h) hg) (glv η (fun h => h) hg) ω ω) ?_
 refine r_g rfl (wantT η) rfl (fun hg => run_slS ((s.length - t.length)) (_) rfl Tryz.underlying9 (glv η (fun h => h) hg) (at1 (glv η (fun h => h) hg) ω) hi0 (by first | omega | (simp; omega)) (by first | omega | (simp; omega))) ?_
 refine r_g rfl (wantT η) rfl (fun hg => mvT) ?_
 refine r_g rfl (wantT η) rfl (fun hg => run_seql rfl (glv η (fun h => h) hg) (glv η (fun h => h) hg)) ?_
 refine Zo (run_pick_and rfl η (fun hq => glv η (fun h => h) hq) rfl) ?_
 refine Zn asB ?_
 refine r_ret (res1 (v := .bool _) rfl η) ?_
 exact ⟨ret_bool (by rw [Bool.eq_iff_iff, decide_eq_true_iff, decide_eq_true_iff, suffix_iff2]; first | omega | (constructor <;> (rintro ⟨h1, h2⟩; exact ⟨by omega, h2⟩))), hV⟩
theorem sl_cs_calls {s t : Str} {w0 : World} (hs : s.length ≤ 140737488355328) (ht : t.length ≤ 140737488355328) :
    Calls Tryz.prog 239 #[S s, S t] w0 fun e w' => e = .returned (.tuple #[S (if t <:+ s then s.take (s.length - t.length) else s), .bool (decide (t <:+ s))]) ∧ Evo w0 w' [] := by
 refine calls_enter (n := 18) Tryz.func239 rfl Tryz.ntmps239 rfl ?_
 have hV : Evo w0 w0 [] := Evo.refl _ _
 refine Zs ?_
 refine Zo asT ?_
 refine Zn asB ?_
 refine r_seq ?_
 refine Zs ?_
 refine Zo mvT ?_
 refine Zo mvT ?_
 refine Zr [S _, S _] rfl η Tryz.func253 (sl_hs_calls (by first | omega | (simp; omega)) (by first | omega | (simp; omega))) ?_
 rintro e w1 ⟨rfl, F1⟩
 refine ⟨_, rfl, ?_⟩
 have Q1 := F1.size
 replace hV := Z0 hV F1
 refine Zn (run_notb rfl η) ?_
 refine r_condb η (fun hc2 => ?_) (fun hc2 => ?_)
 ·skip
  refine Zs ?_
  refine Zo mvT ?_
  refine Zo asT ?_
  refine Zn asB ?_
  refine r_ret (res2 (v := S _) (u := .bool _) rfl η η) ?_
  exact ⟨by rw [if_neg (by simpa using hc2)]; simp_all, hV⟩
 refine r_skip ?_
 refine r_seq ?_
 have hsx := (suffix_iff.1 (by simpa using hc2 : t <:+ s)).1
 refine r_region ?_
 refine Zo mvT ?_
 refine Zo mvT ?_
 refine Zo (run_lenS rfl η Tryz.underlying9) ?_
 refine Zo mvT ?_
 refine Zo (run_lenS rfl η Tryz.underlying9) ?_
 refine Zo (run_sub rfl η η ω ω) ?_
 refine Zo (by exact run_slS (0) ((s.length - t.length)) rfl Tryz.underlying9 η lo0 (at1 η ω) (by first | omega | (simp; omega)) (by first | omega | (simp; omega))) ?_
 refine Zo asT ?_
 refine Zn asB ?_
 refine r_ret (res2 (v := S _) (u := .bool _) rfl η η) ?_
 exact ⟨by rw [if_pos (by simpa using hc2)]; simp_all, hV⟩
theorem s_cs_calls {s t : Str} {w0 : World} (hs : s.length ≤ 140737488355328) (ht : t.length ≤ 140737488355328) :
    Calls Tryz.prog 226 #[S s, S t] w0 fun e w' => e = .returned (.tuple #[S (if t <:+ s then s.take (s.length - t.length) else s), .bool (decide (t <:+ s))]) ∧ Evo w0 w' [] := by
 refine calls_enter (n := 11) Tryz.func226 rfl Tryz.ntmps226 rfl ?_
 have hV : Evo w0 w0 [] := Evo.refl _ _
 refine Zs ?_
 refine Zo asT ?_
 refine Zn asB ?_
 refine Zs ?_
 refine Zo mvT ?_
 refine Zo mvT ?_
 refine Zr [S _, S _] rfl η Tryz.func239 (sl_cs_calls (by first | omega | (simp; omega)) (by first | omega | (simp; omega))) ?_
 rintro e w1 ⟨rfl, F1⟩
 refine ⟨_, rfl, ?_⟩
 have Q1 := F1.size
 replace hV := Z0 hV F1
 refine Zo (run_extract (v := S _) rfl η η) ?_
 refine Zo (run_extract (v := .bool _) rfl η η) ?_
 refine Zo asT ?_
 refine Zn asB ?_
 refine r_ret (res2 (v := S _) (u := .bool _) rfl η η) ?_
 exact ⟨rfl, hV⟩
theorem ty_9 : tyP Tryz.prog 9 = some (1, 16, some (.string ⟨#[]⟩)) := ζ
theorem ag_108 : aggP Tryz.prog 108 = some false := ζ
theorem fo_110_1 : fieldP Tryz.prog 110 1 = some 1 := ζ
theorem ag_112 : aggP Tryz.prog 112 = some true := ζ
theorem fo_112_0 : fieldP Tryz.prog 112 0 = some 0 := ζ
theorem fo_112_1 : fieldP Tryz.prog 112 1 = some 1 := ζ
theorem fo_88_0 : fieldP Tryz.prog 88 0 = some 0 := ζ
theorem fo_88_1 : fieldP Tryz.prog 88 1 = some 1 := ζ
theorem ty_112 : tyP Tryz.prog 112 = some (2, 32, some (.agg #[(.string ⟨#[]⟩), (.string ⟨#[]⟩)])) := ζ
end Go.Proofs.YtlfjocbnbceceaaGreatDoor
namespace Go.Vc
open Go Go.RowKit Go.IntWalk
section
variable {P : Program} {f : Fr} {w : World} {o : Oper}
theorem run_mkF {g : FuncId} {xs : List Operand} {vs : List Value} (ho : o.op = .makeFunc (.func g) #[] xs.toArray) (hvs : xs.map (opv f) = vs) : (execOp (opv f) o).run P w = .ok (.value (.func (.func g) #[] vs.toArray)) w := by
  unfold execOp; rw [ho]; simp only []
  rw [show xs.toArray.map (opv f) = vs.toArray from by rw [← hvs]; simp]
  simp [Instr.makeFunc]
theorem run_callfn {g : FuncId} {F : Operand} {args : List Operand} {ts : Array TypeId} {vs cs : List Value} {fn : Func} {c : Code} (ho : o.op = .call ⟨.value F, args.toArray, ts⟩) (hF : opv f F = .func (.func g) #[] cs.toArray) (hvs : args.map (opv f) = vs)
    (hf : P.funcs[g]? = some fn) (hb : fn.body = some c) (hn : (fn.name == "runtime.NumGoroutine") = false) : (execOp (opv f) o).run P w = .ok (.enter g (vs ++ cs).toArray) w := by
  unfold execOp; rw [ho]; simp only [resolve]
  rw [show args.toArray.map (opv f) = vs.toArray from by rw [← hvs]; simp, hF]
  have hn' : ¬ fn.name = "runtime.NumGoroutine" := by simpa using hn
  simp [Deferred.ofValue, invoke, callFunc, hf, hb, hn']
end
section
variable {α β : Type} {P : Program} {B : Exit → Act → World → Prop} {n : Nat} {k : List Kont} {f : Fr} {w : World} {ops : Array Oper} {rest : List Oper} {K E : TypeId} {ek : α → Value} {ev : β → Value} {m : List (α × β)} {b : Nat}
theorem r_mapins [DecidableEq α] (L : KeyLaw P K ek) {T : TypeId} {t : TypeId} {pos : String} {aft : Array Edge} {x y z : Operand} {a : α} {v : β} (hu : P.underlying T = some (.map K E)) (hx : opv f x = .map (some b)) (hy : opv f y = ek a) (hz : opv f z = ev v)
    (h : MapIs w b ek ev m) (h2 : ∀ w', Evo w w' [b] → w'.heap.size = w.heap.size → MapIs w' b ek ev (setM m a v) → KL P B n ops k rest f w') :
    KL P B n ops k (⟨none, .insert T x y z, t, pos, aft, none⟩ :: rest) f w := by
  obtain ⟨w', hr, he, hs, hm⟩ := run_mapset L hu a v h
  refine r_op0 (w' := w') rfl rfl ?_ (h2 w' he hs hm)
  simp [execOp, hx, hy, hz, hr]
end
end Go.Vc
namespace Go.Proofs.YtlfjocbnbceceaaGreatDoor
open Go.RowKit Go.Vc
theorem find1_calls {m n : Str} {v : Value} {bn : Nat} {w0 : World} (hn : Blk w0 bn 9 [S n]) :
    Calls Tryz.prog 145 #[.agg #[S m, v], .pointer (some ⟨bn, 0, none⟩)] w0 fun e w' => e = .returned (.bool (decide (m = n))) ∧ Evo w0 w' [] := by
 have hAn := hn.at; have hnlt := hn.lt
 refine calls_enter (n := 8) Tryz.func145 rfl Tryz.ntmps145 rfl ?_
 have hV : Evo w0 w0 [] := Evo.refl _ _
 refine Zs ?_
 refine r_box (vs := [_, _]) η η rfl ?_
 intro b1 w2 J1 E2 B1 Y1
 have Q2 := E2.size
 replace hV := Z0 hV E2
 replace hAn := hAn.evo0 E2
 refine Zn asB ?_
 refine Zs ?_
 refine Zo (run_fa rfl η fo_110_0) ?_
 refine Zo (run_ld1 rfl ag_9 η (B1.at.cell 0 η)) ?_
 refine Zo (run_ld1 rfl ag_9 η (hAn.cell 0 η)) ?_
 refine Zo (run_seql rfl η η) ?_
 refine Zn asB ?_
 refine r_ret (res1 (v := .bool _) rfl η) ?_
 exact ⟨rfl, hV⟩
theorem indexf_calls {ao : Option Addr} {b off cap : Nat} {c : List Clas} {n : Str} {bn : Nat} {w0 : World} (hc : RowR w0 ao b off cap c) (hn : Blk w0 bn 9 [S n]) :
    Calls Tryz.prog 144 #[.slice ao c.length cap, .func (.func 145) #[] #[.pointer (some ⟨bn, 0, none⟩)]] w0 fun e w' => e = .returned (.int .i64 (findC c n)) ∧ Evo w0 w' [] := by
 have hAn := hn.at; have hnlt := hn.lt
 refine calls_enter (n := 19) Tryz.func144 rfl Tryz.ntmps144 rfl ?_
 have hV : Evo w0 w0 [] := Evo.refl _ _
 have hc0 := hc.keep
 have hbd_hc := hc.bd
 refine Zs ?_
 refine Zn asI ?_
 refine r_seq ?_
 refine Zs ?_
 refine Zo mvS ?_
 refine Zo (run_lenSl rfl η Tryz.underlying26) ?_
 refine Zn mvI ?_
 refine r_block ?_
 refine r_loop (α := Nat) [4, 5, 8, 9, 10, 11, 12, 13, 14, 15, 16, 17, 18] (fun k g w => g 8 = .int .i64 (k : Nat) ∧ k ≤ c.length ∧ Blk w bn 9 [S n] ∧ (∀ j, j < k → ¬ (c.getD j default).name = n) ∧ w0.heap.size ≤ w.heap.size ∧ Evo w0 w []) (fun k => c.length - k) 0 ?_ ?_
 ·refine ⟨σ, δ, hn, (fun j h => by omega), δ, hV⟩
 rintro k g w2 ⟨hj3, hk_k, hn, hno, hzl1, hV⟩
 have hs_w2hV := hV.size
 have hlt4 := hn.lt
 replace hc := hc0.now hV
 refine Zk 8 (v := .int .i64 (k : Nat)) (by exact hj3) ?_
 refine Zs ?_
 refine Zn (run_lss rfl η η) ?_
 refine r_seq ?_
 refine r_cond η (fun hc5 => ?_) (fun hc5 => ?_)
 ·skip
  refine r_skip ?_
  refine r_seq ?_
  refine r_block ?_
  refine Zs ?_
  refine Zo mvI ?_
  refine Zn asI ?_
  refine Zs ?_
  refine Zo (run_mv (v := .func _ _ _) rfl η) ?_
  refine Zo mvS ?_
  refine Zo mvI ?_
  refine Zo (run_ix (k) rfl Tryz.underlying26 ty_110 η η (by first | exact rfl | omega) ω (hc.addr (i := k) ω)) ?_
  obtain ⟨ao6, b6, off6, cap6, hX⟩ := clas_atK hc0 (k) ω
  have hA60 := fun (w' : World) (h : Evo w0 w' []) => (hX w' h).1
  have hA6 := hA60 _ hV
  have hR60 := fun (w' : World) (h : Evo w0 w' []) => (hX w' h).2
  have hR6 := hR60 _ hV
  clear hX
  have hbd_hR6 := hR6.bd
  refine Zo (run_ldN rfl ag_110 ty_110 η rfl hA6) ?_
  refine r_opcall rfl rfl rfl (run_callfn (vs := [.agg _]) (cs := [.pointer (some ⟨bn, 0, none⟩)]) rfl η η Tryz.func145 rfl ζ) (find1_calls hn) ?_
  rintro e w7 ⟨rfl, F7⟩
  refine ⟨_, rfl, ?_⟩
  have Q7 := F7.size
  replace hV := Z0 hV F7
  replace hc := hc0.now hV
  replace hn := hn.evo0 F7
  refine r_nil ?_
  refine r_condb η (fun hc8 => ?_) (fun hc8 => ?_)
  ·skip
   refine Zs ?_
   refine Zo mvI ?_
   refine Zn asI ?_
   refine r_ret (res1 (v := .int _ _) rfl η) ?_
   exact ⟨ret_int (by rw [findC_at (k := k) ω hno (of_decide_eq_true hc8)]), hV⟩
  refine r_skip ?_
  refine r_blk ?_
  refine r_region ?_
  refine Zo (run_add rfl η η ω ω) ?_
  refine Zn mvI ?_
  refine r_again (k + 1) ?_ ?_ ?_
  ·first | omega | (dsimp only; omega)
  ·refine ⟨σ, δ, hn, (upto0 hno (of_decide_eq_false hc8)), δ, hV⟩
  exact ψ
 refine r_exit rfl ?_
 refine Zs ?_
 refine Zn asI ?_
 refine r_ret (res1 (v := .int _ _) rfl η) ?_
 exact ⟨ret_int (by rw [findC_none (fun j hj => hno j ω)]), hV⟩
theorem find_calls {ao : Option Addr} {b off cap : Nat} {c : List Clas} {n : Str} {w0 : World} (hc : RowR w0 ao b off cap c) :
    Calls Tryz.prog 97 #[.slice ao c.length cap, S n] w0 fun e w' => e = .returned (.int .i64 (findC c n)) ∧ Evo w0 w' [] := by
 refine calls_enter (n := 8) Tryz.func97 rfl Tryz.ntmps97 rfl ?_
 have hV : Evo w0 w0 [] := Evo.refl _ _
 have hc0 := hc.keep
 have hbd_hc := hc.bd
 refine Zs ?_
 refine r_box (vs := [_]) η η rfl ?_
 intro b1 w2 J1 E2 B1 Y1
 have Q2 := E2.size
 replace hV := Z0 hV E2
 replace hc := hc0.now hV
 refine Zn asI ?_
 refine Zs ?_
 refine Zo mvS ?_
 refine Zo (run_mkF (vs := [.pointer _]) rfl η) ?_
 refine Zr [.slice _ _ _, .func _ _ _] rfl η Tryz.func144 (indexf_calls hc B1) ?_
 rintro e w3 ⟨rfl, F3⟩
 refine ⟨_, rfl, ?_⟩
 have Q3 := F3.size
 replace hV := Z0 hV F3
 refine Zn asI ?_
 refine r_ret (res1 (v := .int _ _) rfl η) ?_
 exact ⟨rfl, hV⟩
theorem ends_calls {wb : World} {ao : Option Addr} {b off cap : Nat} {c : List Clas} {n : Str} {w0 : World} (hc : RowRK wb [] ao b off cap c) (hW : Evo wb w0 []) :
    Calls Tryz.prog 225 #[.slice ao c.length cap, S n] w0 fun e w' => ∃ ao' b' off' cap', e = .returned (.slice ao' (if n = [] then ([] : List Ende) else endsL c n).length cap') ∧ Evo w0 w' [] ∧ ∀ w2, Evo wb w2 [] → RowE w2 ao' b' off' cap' (if n = [] then [] else endsL c n) := by
 refine calls_enter (n := 20) Tryz.func225 rfl Tryz.ntmps225 rfl ?_
 have hV : Evo w0 w0 [] := Evo.refl _ _
 have hc0 := hc
 replace hc := hc0.now hW
 have hbd_hc := hc.bd
 refine Zs ?_
 refine Zn asS ?_
 refine r_seq ?_
 refine Zs ?_
 refine Zo mvS ?_
 refine Zo mvT ?_
 refine Zr [.slice _ _ _, S _] rfl η Tryz.func97 (find_calls hc) ?_
 rintro e w1 ⟨rfl, F1⟩
 refine ⟨_, rfl, ?_⟩
 have Q1 := F1.size
 replace hV := Z0 hV F1
 replace hW := Z0 hW F1
 replace hc := hc0.now hW
 refine Zn asI ?_
 refine Zs ?_
 refine Zo mvI ?_
 refine Zo (run_geq rfl η η) ?_
 refine Zo mvB ?_
 refine r_g rfl (wantT η) rfl (fun hg => mvT) ?_
 refine r_g rfl (wantT η) rfl (fun hg => run_sneq rfl (glv η (fun h => h) hg) η) ?_
 refine Zn (run_pick_and rfl η (fun hq => glv η (fun h => h) hq) rfl) ?_
 refine r_cond η (fun hc2 => ?_) (fun hc2 => ?_)
 ·skip
  refine Zs ?_
  refine Zo mvS ?_
  refine Zo mvI ?_
  refine Zo (run_ix ((findC c n).toNat) rfl Tryz.underlying26 ty_110 η η (by have := findC_lt c n; omega) (by have := findC_lt c n; omega) (hc.addr (i := (findC c n).toNat) (by have := findC_lt c n; omega))) ?_
  obtain ⟨ao3, b3, off3, cap3, hX⟩ := clas_atK hc0 ((findC c n).toNat) (by have := findC_lt c n; omega)
  have hA30 := fun (w' : World) (h : Evo wb w' []) => (hX w' h).1
  have hA3 := hA30 _ hW
  have hR30 := fun (w' : World) (h : Evo wb w' []) => (hX w' h).2
  have hR3 := hR30 _ hW
  clear hX
  have hbd_hR3 := hR3.bd
  refine Zo (run_fa rfl η fo_110_1) ?_
  refine Zo (run_ld1 rfl ag_108 η (hA3.cell 1 η)) ?_
  refine Zn asS ?_
  refine r_ret (res1 (v := .slice _ _ _) rfl η) ?_
  exact ⟨_, _, _, _, by rw [if_neg hc2.2, ends_at ω], hV, by rw [if_neg hc2.2, ends_at ω]; exact hR30⟩
 refine r_skip ?_
 refine Zs ?_
 refine Zn asS ?_
 refine r_ret (res1 (v := .slice _ _ _) rfl η) ?_
 exact ⟨none, 0, 0, 0, by rw [ends_if hc2]; rfl, hV, by rw [ends_if hc2]; exact fun w2 _ => RowE.nil _ _ _ _ _⟩
theorem small_calls {s : Str} {w0 : World} (hs : s.length ≤ 140737488355328) :
    Calls Tryz.prog 141 #[S s] w0 fun e w' => e = .returned (.bool (smallL s)) ∧ Evo w0 w' [] := by
 refine calls_enter (n := 19) Tryz.func141 rfl Tryz.ntmps141 rfl ?_
 have hV : Evo w0 w0 [] := Evo.refl _ _
 refine Zs ?_
 refine Zn asB ?_
 refine r_seq ?_
 refine Zs ?_
 refine Zo mvT ?_
 refine Zo (run_lenS rfl η Tryz.underlying9) ?_
 refine Zn mvI ?_
 refine r_block ?_
 refine r_loop (α := Nat) [2, 3, 6, 7, 8, 9, 10, 11, 12, 13, 14] (fun k g w => g 6 = .int .i64 (k : Nat) ∧ k ≤ s.length ∧ (∀ j, j < k → clsB (s.getD j 0) = 4) ∧ w0.heap.size ≤ w.heap.size ∧ Evo w0 w []) (fun k => s.length - k) 0 ?_ ?_
 ·refine ⟨σ, δ, (fun j h => by omega), δ, hV⟩
 rintro k g w2 ⟨hj3, hk_k, hall, hzl1, hV⟩
 have hs_w2hV := hV.size
 refine Zk 6 (v := .int .i64 (k : Nat)) (by exact hj3) ?_
 refine Zs ?_
 refine Zn (run_lss rfl η η) ?_
 refine r_seq ?_
 refine r_cond η (fun hc4 => ?_) (fun hc4 => ?_)
 ·skip
  refine r_skip ?_
  refine r_seq ?_
  refine r_block ?_
  refine Zs ?_
  refine Zo mvI ?_
  refine Zn asI ?_
  refine Zs ?_
  refine Zo mvT ?_
  refine Zo mvI ?_
  refine Zo (run_ixS (k) rfl Tryz.underlying9 η η (by first | exact rfl | omega) ω) ?_
  refine Zr [.int _ _] rfl η Tryz.func143 of_calls ?_
  rintro e w5 ⟨rfl, F5⟩
  refine ⟨_, rfl, ?_⟩
  have Q5 := F5.size
  replace hV := Z0 hV F5
  refine Zn (run_neq rfl η η) ?_
  refine r_cond η (fun hc6 => ?_) (fun hc6 => ?_)
  ·skip
   refine Zs ?_
   refine Zn asB ?_
   refine r_ret (res1 (v := .bool _) rfl η) ?_
   exact ⟨ret_bool (by rw [small_bad (k := k) ω hc6]), hV⟩
  refine r_skip ?_
  refine r_blk ?_
  refine r_region ?_
  refine Zo (run_add rfl η η ω ω) ?_
  refine Zn mvI ?_
  refine r_again (k + 1) ?_ ?_ ?_
  ·first | omega | (dsimp only; omega)
  ·refine ⟨σ, δ, (upto0 hall (Classical.not_not.1 hc6)), δ, hV⟩
  exact ψ
 refine r_exit rfl ?_
 refine Zs ?_
 refine Zo mvT ?_
 refine Zr [S _] rfl η Tryz.func183 (lower_calls (by first | omega | (simp; omega))) ?_
 rintro e w7 ⟨rfl, F7⟩
 refine ⟨_, rfl, ?_⟩
 have Q7 := F7.size
 replace hV := Z0 hV F7
 refine Zo mvT ?_
 refine Zo (run_seql rfl η η) ?_
 refine Zn asB ?_
 refine r_ret (res1 (v := .bool _) rfl η) ?_
 exact ⟨ret_bool (by rw [small_yes (fun j hj => hall j ω)]), hV⟩
def namedL (c : List Clas) (n : Str) : Int := if isName n = true then (if 0 ≤ findC c n then 5 else 0) else 4
theorem named_no {c : List Clas} {n : Str} (h : ¬ isName n = true) : namedL c n = 4 := if_neg h
theorem named_dup {c : List Clas} {n : Str} (h : isName n = true) (h2 : 0 ≤ findC c n) : namedL c n = 5 := by unfold namedL; rw [if_pos h, if_pos h2]
theorem named_ok {c : List Clas} {n : Str} (h : isName n = true) (h2 : ¬ 0 ≤ findC c n) : namedL c n = 0 := by unfold namedL; rw [if_pos h, if_neg h2]
theorem named_calls {ao : Option Addr} {b off cap : Nat} {c : List Clas} {n : Str} {w0 : World} (hc : RowR w0 ao b off cap c) :
    Calls Tryz.prog 94 #[.slice ao c.length cap, S n] w0 fun e w' => e = .returned (.int .i64 (namedL c n)) ∧ Evo w0 w' [] := by
 refine calls_enter (n := 14) Tryz.func94 rfl Tryz.ntmps94 rfl ?_
 have hV : Evo w0 w0 [] := Evo.refl _ _
 have hc0 := hc.keep
 have hbd_hc := hc.bd
 refine Zs ?_
 refine Zn asI ?_
 refine r_seq ?_
 refine r_block ?_
 refine Zs ?_
 refine Zo mvT ?_
 refine Zr [S _] rfl η Tryz.func140 isname_calls ?_
 rintro e w1 ⟨rfl, F1⟩
 refine ⟨_, rfl, ?_⟩
 have Q1 := F1.size
 replace hV := Z0 hV F1
 replace hc := hc0.now hV
 refine Zo (run_notb rfl η) ?_
 refine Zn asB ?_
 refine r_condb η (fun hc2 => ?_) (fun hc2 => ?_)
 ·skip
  refine Zs ?_
  refine Zn asI ?_
  refine r_ret (res1 (v := .int _ _) rfl η) ?_
  exact ⟨ret_int (by rw [named_no (by simp_all)]), hV⟩
 refine Zs ?_
 refine Zo mvS ?_
 refine Zo mvT ?_
 refine Zr [.slice _ _ _, S _] rfl η Tryz.func97 (find_calls hc) ?_
 rintro e w3 ⟨rfl, F3⟩
 refine ⟨_, rfl, ?_⟩
 have Q3 := F3.size
 replace hV := Z0 hV F3
 replace hc := hc0.now hV
 refine Zo (run_geq rfl η η) ?_
 refine Zn asB ?_
 refine r_cond η (fun hc4 => ?_) (fun hc4 => ?_)
 ·skip
  refine Zs ?_
  refine Zn asI ?_
  refine r_ret (res1 (v := .int _ _) rfl η) ?_
  exact ⟨ret_int (by rw [named_dup (by simp_all) ω]), hV⟩
 refine r_skip ?_
 refine r_blk ?_
 refine Zs ?_
 refine Zn asI ?_
 refine r_ret (res1 (v := .int _ _) rfl η) ?_
 exact ⟨ret_int (by rw [named_ok (by simp_all) ω]), hV⟩
end Go.Proofs.YtlfjocbnbceceaaGreatDoor
namespace Go.Proofs
open Go.RowKit Go.Maps Go.Sort Go.Shelf
def Tryz.keys160_ren : Go.Shelf.Ren := ⟨fun | 7 => 160 | 10 => 195 | n => n, fun | 23 => 171 | 26 => 9 | 3 => 172 | 28 => 175 | 0 => 0 | 27 => 174 | 33 => 89 | 4 => 4 | n => n, fun | n => n⟩
theorem Tryz.keys160 : Go.Proofs.SlLaysZ.n7 Tryz.prog Tryz.keys160_ren := {
  mixed := by kernel_rfl
  f7 := ⟨Tryz.f160.name, by decide, Tryz.func160.trans (congrArg some (by kernel_rfl))⟩
  f10 := ⟨Tryz.f195.name, by decide, Tryz.func195.trans (congrArg some (by kernel_rfl))⟩
  t0 := Tryz.underlying0
  a0 := Tryz.isAgg0
  z0 := Tryz.sizeOf0
  v0 := Tryz.zeroValue0
  t4 := Tryz.underlying4
  a4 := Tryz.isAgg4
  z4 := Tryz.sizeOf4
  v4 := Tryz.zeroValue4
  t23 := Tryz.underlying171
  a23 := Tryz.isAgg171
  z23 := Tryz.sizeOf171
  v23 := Tryz.zeroValue171
  t26 := Tryz.underlying9
  a26 := Tryz.isAgg9
  z26 := Tryz.sizeOf9
  v26 := Tryz.zeroValue9
  t27 := Tryz.underlying174
  a27 := Tryz.isAgg174
  z27 := Tryz.sizeOf174
  v27 := Tryz.zeroValue174
  t28 := Tryz.underlying175
  a28 := Tryz.isAgg175
  z28 := Tryz.sizeOf175
  v28 := Tryz.zeroValue175
  t33 := Tryz.underlying89
  a33 := Tryz.isAgg89
  z33 := Tryz.sizeOf89
  v33 := Tryz.zeroValue89 }
def Tryz.sorted159_ren : Go.Shelf.Ren := ⟨fun | 6 => 159 | 8 => 194 | 9 => 91 | 11 => 213 | 13 => 69 | 12 => 139 | 23 => 122 | 24 => 123 | 14 => 174 | 15 => 175 | 16 => 176 | 17 => 177 | 18 => 178 | 19 => 179 | 20 => 180 | 21 => 181 | 22 => 182 | 25 => 201 | 26 => 162 | 27 => 163 | 28 => 202 | 29 => 203 | 30 => 71 | 31 => 216 | n => n, fun | 26 => 9 | 28 => 175 | 24 => 77 | 0 => 0 | 3 => 3 | 37 => 105 | 48 => 151 | 50 => 153 | 4 => 4 | 40 => 144 | 39 => 143 | 45 => 148 | 5 => 5 | 9 => 9 | 51 => 177 | 55 => 181 | 57 => 204 | 58 => 131 | 33 => 89 | n => n, fun | n => n⟩
theorem Tryz.sorted159 : Go.Proofs.SlLaysZ.n6 Tryz.prog Tryz.sorted159_ren := {
  mixed := by kernel_rfl
  f6 := ⟨Tryz.f159.name, by decide, Tryz.func159.trans (congrArg some (by kernel_rfl))⟩
  f8 := ⟨Tryz.f194.name, by decide, Tryz.func194.trans (congrArg some (by kernel_rfl))⟩
  f11 := ⟨Tryz.f213.name, by decide, Tryz.func213.trans (congrArg some (by kernel_rfl))⟩
  t0 := Tryz.underlying0
  a0 := Tryz.isAgg0
  z0 := Tryz.sizeOf0
  v0 := Tryz.zeroValue0
  t24 := Tryz.underlying77
  a24 := Tryz.isAgg77
  z24 := Tryz.sizeOf77
  v24 := Tryz.zeroValue77
  t26 := Tryz.underlying9
  a26 := Tryz.isAgg9
  z26 := Tryz.sizeOf9
  v26 := Tryz.zeroValue9
  t28 := Tryz.underlying175
  a28 := Tryz.isAgg175
  z28 := Tryz.sizeOf175
  v28 := Tryz.zeroValue175
  i26 := by kernel_rfl }
def Tryz.sort91_ren : Go.Shelf.Ren := ⟨fun | 6 => 91 | 8 => 69 | 9 => 139 | 19 => 122 | 20 => 123 | 21 => 174 | 22 => 175 | 23 => 176 | 24 => 177 | 25 => 178 | 26 => 179 | 27 => 180 | 28 => 181 | 29 => 182 | 36 => 201 | 31 => 162 | 32 => 163 | 37 => 202 | 38 => 203 | 39 => 71 | 41 => 216 | n => n, fun | 27 => 77 | 29 => 9 | 3 => 3 | 32 => 105 | 26 => 77 | 0 => 0 | 44 => 151 | 46 => 153 | 4 => 4 | 36 => 144 | 35 => 143 | 41 => 148 | 5 => 5 | 9 => 9 | 53 => 177 | 57 => 181 | 63 => 204 | 64 => 131 | n => n, fun | n => n⟩
theorem Tryz.sort91 : Go.Proofs.SlLaysM.n6 Tryz.prog Tryz.sort91_ren := {
  mixed := by kernel_rfl
  f6 := ⟨Tryz.f91.name, by decide, Tryz.func91.trans (congrArg some (by kernel_rfl))⟩
  f8 := Tryz.func69.trans (congrArg some (by kernel_rfl))
  f9 := ⟨Tryz.f139.name, by decide, Tryz.func139.trans (congrArg some (by kernel_rfl))⟩
  f19 := Tryz.func122.trans (congrArg some (by kernel_rfl))
  f20 := Tryz.func123.trans (congrArg some (by kernel_rfl))
  f21 := ⟨Tryz.f174.name, by decide, Tryz.func174.trans (congrArg some (by kernel_rfl))⟩
  f22 := ⟨Tryz.f175.name, by decide, Tryz.func175.trans (congrArg some (by kernel_rfl))⟩
  f23 := ⟨Tryz.f176.name, by decide, Tryz.func176.trans (congrArg some (by kernel_rfl))⟩
  f24 := ⟨Tryz.f177.name, by decide, Tryz.func177.trans (congrArg some (by kernel_rfl))⟩
  f25 := ⟨Tryz.f178.name, by decide, Tryz.func178.trans (congrArg some (by kernel_rfl))⟩
  f26 := ⟨Tryz.f179.name, by decide, Tryz.func179.trans (congrArg some (by kernel_rfl))⟩
  f27 := ⟨Tryz.f180.name, by decide, Tryz.func180.trans (congrArg some (by kernel_rfl))⟩
  f28 := ⟨Tryz.f181.name, by decide, Tryz.func181.trans (congrArg some (by kernel_rfl))⟩
  f29 := ⟨Tryz.f182.name, by decide, Tryz.func182.trans (congrArg some (by kernel_rfl))⟩
  f31 := Tryz.func162.trans (congrArg some (by kernel_rfl))
  f32 := Tryz.func163.trans (congrArg some (by kernel_rfl))
  f36 := ⟨Tryz.f201.name, by decide, Tryz.func201.trans (congrArg some (by kernel_rfl))⟩
  f37 := ⟨Tryz.f202.name, by decide, Tryz.func202.trans (congrArg some (by kernel_rfl))⟩
  f38 := ⟨Tryz.f203.name, by decide, Tryz.func203.trans (congrArg some (by kernel_rfl))⟩
  f39 := ⟨Tryz.f71.name, by decide, Tryz.func71.trans (congrArg some (by kernel_rfl))⟩
  f41 := ⟨Tryz.f216.name, by decide, Tryz.func216.trans (congrArg some (by kernel_rfl))⟩
  t0 := Tryz.underlying0
  a0 := Tryz.isAgg0
  z0 := Tryz.sizeOf0
  v0 := Tryz.zeroValue0
  t3 := Tryz.underlying3
  a3 := Tryz.isAgg3
  z3 := Tryz.sizeOf3
  v3 := Tryz.zeroValue3
  t4 := Tryz.underlying4
  a4 := Tryz.isAgg4
  z4 := Tryz.sizeOf4
  v4 := Tryz.zeroValue4
  t5 := Tryz.underlying5
  a5 := Tryz.isAgg5
  z5 := Tryz.sizeOf5
  v5 := Tryz.zeroValue5
  t9 := Tryz.underlying9
  a9 := Tryz.isAgg9
  z9 := Tryz.sizeOf9
  v9 := Tryz.zeroValue9
  t26 := Tryz.underlying77
  a26 := Tryz.isAgg77
  z26 := Tryz.sizeOf77
  v26 := Tryz.zeroValue77
  t27 := Tryz.underlying77
  a27 := Tryz.isAgg77
  z27 := Tryz.sizeOf77
  v27 := Tryz.zeroValue77
  t29 := Tryz.underlying9
  a29 := Tryz.isAgg9
  z29 := Tryz.sizeOf9
  v29 := Tryz.zeroValue9
  t32 := Tryz.underlying105
  a32 := Tryz.isAgg105
  z32 := Tryz.sizeOf105
  v32 := Tryz.zeroValue105
  t35 := Tryz.underlying143
  a35 := Tryz.isAgg143
  z35 := Tryz.sizeOf143
  v35 := Tryz.zeroValue143
  t36 := Tryz.underlying144
  a36 := Tryz.isAgg144
  z36 := Tryz.sizeOf144
  v36 := Tryz.zeroValue144
  t41 := Tryz.underlying148
  a41 := Tryz.isAgg148
  z41 := Tryz.sizeOf148
  v41 := Tryz.zeroValue148
  t44 := Tryz.underlying151
  a44 := Tryz.isAgg151
  z44 := Tryz.sizeOf151
  v44 := Tryz.zeroValue151
  t46 := Tryz.underlying153
  a46 := Tryz.isAgg153
  z46 := Tryz.sizeOf153
  v46 := Tryz.zeroValue153
  t53 := Tryz.underlying177
  a53 := Tryz.isAgg177
  z53 := Tryz.sizeOf177
  v53 := Tryz.zeroValue177
  t57 := Tryz.underlying181
  a57 := Tryz.isAgg181
  z57 := Tryz.sizeOf181
  v57 := Tryz.zeroValue181
  t63 := Tryz.underlying204
  a63 := Tryz.isAgg204
  z63 := Tryz.sizeOf204
  v63 := Tryz.zeroValue204
  t64 := Tryz.underlying131
  a64 := Tryz.isAgg131
  z64 := Tryz.sizeOf131
  v64 := Tryz.zeroValue131 }
theorem Tryz.sorts159 (m : Nat) : AnyZ.SortsIn Tryz.prog Tryz.sorted159_ren Fence.wide m :=
  ⟨fun blk off cap ss W hH hblk hsz => callsIn_wide.2 (AnyM.slices_Sort_string Tryz.sort91 blk off cap ss W hH hblk hsz),
   fun p cap W => callsIn_wide.2 (AnyM.slices_Sort_string_none Tryz.sort91 p cap W)⟩
theorem Tryz.maps_Keys_160 (mb : Option Nat) (W : World) : CallsIn Fence.wide 5 Tryz.prog 160 #[.map mb] W fun e w' => e = .returned (.func (.func 195) #[] #[.pointer (some ⟨W.heap.size, 0, none⟩)]) ∧ w' = W.alloc (.cells #[.map mb] 171) :=
  AnyZ.keys_in Tryz.keys160 Fence.wide 5 trivial rfl mb W
set_option maxHeartbeats 1000000 in
theorem Tryz.slices_Sorted_keys_159_160 {H : Type} (b nn : Nat) (D0 : DataW H) (R : Value → Option (DataW H × List MemPlace)) (w : World) (hown : w.ownsMap Tryz.prog 9 R b nn D0) (hmax : Maps.size D0 ≤ maxLen) (hbytes : Maps.size D0 * 16 ≤ 140737488355328) :
    CallsIn Fence.wide 5 Tryz.prog 159 #[.func (.func 195) #[] #[.pointer (some ⟨w.heap.size, 0, none⟩)]] (w.alloc (.cells #[.map (some b)] 171)) fun e w' => ∃ (v : Value) (ss : List (List UInt8)), e = .returned v ∧ ss.Perm (strKeys D0) ∧
      w'.ownsRow (w.alloc (.cells #[.map (some b)] 171)).heap.size 9 1 v ss.length ((ss.mergeSort (fun x y => decide (x ≤ y))).map encStr) ∧ (v = .slice none 0 0 ↔ ss = []) ∧ Below (w.alloc (.cells #[.map (some b)] 171)).heap.size (w.alloc (.cells #[.map (some b)] 171)) w' := by
  have hbl := hown.lt
  have hseq : SeqGives Fence.wide 2 Tryz.prog 195 #[.pointer (some ⟨w.heap.size, 0, none⟩)] encStr (fun ss => ss.Perm (strKeys D0)) (Maps.size D0) (w.alloc (.cells #[.map (some b)] 171)) :=
    AnyZ.keys_gives (ρ := Tryz.keys160_ren) { Tryz.keys160 with } Fence.wide _ trivial rfl (by omega) w.heap.size b nn D0 _ (by simp) (by simp) (by
      obtain ⟨es, clock, hb, Ft, hs, hD⟩ := hown
      exact ⟨es, clock, (Below.heap_alloc _ _ b hbl).trans hb, Ft, hs, hD⟩)
  exact AnyZ.sorted_in Tryz.sorted159 Fence.wide 5 trivial trivial trivial trivial rfl (by omega) (Tryz.sorts159 _) (enters_of Tryz.func91 (by kernel_rfl) rfl) 195 #[.pointer (some ⟨w.heap.size, 0, none⟩)] trivial (enters_of Tryz.func195 (by kernel_rfl) rfl) _ _ hmax hbytes _ hseq
end Go.Proofs
namespace Go.Vc
open Go Go.RowKit Go.Maps Go.ChangeMaps Go.MapKept
def R0 : Value → Option (DataW Unit × List MemPlace) := fun _ => some (.nil, [])
theorem keyOf_S {P : Program} {K : TypeId} (hk : P.underlying K = some .string) {s : Str} (hs : s.length ≤ maxLen) : keyOf P K (S s) = some (.string s) := by
  simp [keyOf, hk, mapKey, S]; exact hs
theorem map_owns {β : Type} {P : Program} {K : TypeId} (hk : P.underlying K = some .string) {w : World} {b : Nat} {ev : β → Value} {m : List (Str × β)} (h : MapIs w b S ev m) (hm : m.length ≤ maxLen) (hl : ∀ p ∈ m, p.1.length ≤ maxLen) :
    ∃ D : DataW Unit, w.ownsMap P K R0 b m.length D ∧ Maps.size D = m.length ∧ (strKeys D).Perm (m.map (·.1)) := by
  obtain ⟨es, clock, hb, he, h1, h2, h3⟩ := h.ex
  have hsz : es.size = m.length := by have := congrArg List.length he; simpa using this
  have hkeys : es.toList.map (·.key) = m.map (fun p => S p.1) := by
    have := congrArg (List.map Prod.fst) he
    simpa [Function.comp_def] using this
  have hrd : ∀ x ∈ es.toList, ∃ s : Str, x.key = S s ∧ WideElems.rd P K R0 x = some (.string s, .nil) := fun x hx => by
    have : x.key ∈ m.map (fun p => S p.1) := hkeys ▸ List.mem_map.2 ⟨x, hx, rfl⟩
    obtain ⟨p, hpm, hp⟩ := List.mem_map.1 this
    exact ⟨p.1, hp.symm, by unfold WideElems.rd; rw [← hp, keyOf_S hk (hl p hpm)]; rfl⟩
  have hstr : es.toList.map (fun x => strOf (WideElems.rg P K R0 x).1) = m.map (·.1) := by
    have e1 : es.toList.map (fun x => strOf (WideElems.rg P K R0 x).1) = (es.toList.map (·.key)).map (fun v => match v with | .string b => b.data.toList | _ => []) := by
      rw [List.map_map]
      refine List.map_congr_left (fun x hx => ?_)
      obtain ⟨s, h5, h6⟩ := hrd x hx
      show strOf (WideElems.rg P K R0 x).1 = _
      unfold WideElems.rg; rw [h6]; simp [h5, strOf, S]
    rw [e1, hkeys, List.map_map]
    refine List.map_congr_left (fun p _ => ?_)
    simp [S]
  refine ⟨_, ⟨es, clock, hb, ⟨by omega, ⟨h2, h1, ?_⟩, fun x hx => ?_⟩, by omega, rfl⟩, ?_, ?_⟩
  · rw [hkeys]
    have e : m.map (fun p => S p.1) = (m.map (·.1)).map S := by rw [List.map_map]; rfl
    rw [e]
    exact List.pairwise_map.2 (h3.imp (fun hne h9 => hne (S_inj h9)))
  · obtain ⟨s, _, h6⟩ := hrd x hx
    exact ⟨_, h6⟩
  · show ((es.toList.map _).foldr DataW.insert []).length = _
    rw [length_sorted, List.length_map, Array.length_toList, hsz]
  · show (((es.toList.map (WideElems.rg P K R0)).foldr DataW.insert []).map (fun p => strOf p.1)).Perm _
    refine ((Go.WideShapes.sorted_perm _).map _).trans ?_
    rw [List.map_map]
    have e : (fun p : Lit × DataW Unit => strOf p.1) ∘ WideElems.rg P K R0 = fun x => strOf (WideElems.rg P K R0 x).1 := rfl
    rw [e, hstr]
theorem evo_below {w w' : World} (h : RowKit.Below w.heap.size w w') : Evo w w' [] := ⟨h.os, h.tape, h.output, h.size, fun b hb _ => h.block b hb⟩
end Go.Vc
namespace Go.Proofs.YtlfjocbnbceceaaGreatDoor
open Go.RowKit Go.Vc
theorem keys_calls {w : World} {b : Nat} : Calls Tryz.prog 160 #[.map (some b)] w fun e w' => e = .returned (.func (.func 195) #[] #[.pointer (some ⟨w.heap.size, 0, none⟩)]) ∧ Evo w w' [] ∧ w' = w.alloc (.cells #[.map (some b)] 171) :=
  (callsIn_wide.1 (Tryz.maps_Keys_160 (some b) w)).mono fun e w' ⟨h1, h2⟩ => ⟨h1, by subst h2; exact evo_below (Below.refl _ _ |>.alloc (Nat.le_refl _) _), h2⟩
theorem sortedk_calls {w w1 : World} {b : Nat} {β : Type} {ev : β → Value} {m : List (Str × β)} (hm : MapIs w b S ev m) (hk : w1 = w.alloc (.cells #[.map (some b)] 171)) (hl : ∀ p ∈ m, p.1.length ≤ maxLen) (hb : m.length * 16 ≤ 140737488355328) :
    Calls Tryz.prog 159 #[.func (.func 195) #[] #[.pointer (some ⟨w.heap.size, 0, none⟩)]] w1 fun e w' => ∃ v, e = .returned v ∧ Evo w1 w' [] ∧ OwnE w' w1.heap.size 9 v (sortS (m.map (·.1))) := by
  subst hk
  obtain ⟨D, hD, hz, hp⟩ := map_owns (P := Tryz.prog) (K := 9) Tryz.underlying9 hm (by unfold maxLen; omega) hl
  refine (callsIn_wide.1 (Tryz.slices_Sorted_keys_159_160 b m.length D R0 w hD (by rw [hz]; unfold maxLen; omega) (by rw [hz]; exact hb))).mono ?_
  rintro e w' ⟨v, ss, rfl, hS, hrow, _, hbl⟩
  have hlen : ss.length = m.length := by have := (hS.trans hp).length_eq; simpa using this
  have hst : sortS (m.map (·.1)) = ss.mergeSort (fun x y => decide (x ≤ y)) := (mergeSort_of_perm (hS.trans hp)).symm
  refine ⟨v, rfl, evo_below hbl, ?_⟩
  rw [hst]
  exact OwnE.of1 (enc1 := encStr) rfl (fun _ => rfl) θ (by rw [show (ss.mergeSort (fun x y => decide (x ≤ y))).length = ss.length from by simp]; exact hrow)
theorem sorted_calls {b : Nat} {β : Type} {ev : β → Value} {m : List (Str × β)} {w0 : World} (hm0 : MapIs w0 b S ev m) (hl : ∀ p ∈ m, p.1.length ≤ maxLen) (hb : m.length * 16 ≤ 140737488355328) :
    Calls Tryz.prog 227 #[.map (some b)] w0 fun e w' => ∃ v, e = .returned v ∧ Evo w0 w' [] ∧ OwnE w' w0.heap.size 9 v (sortS (m.map (·.1))) := by
 refine calls_enter (n := 6) Tryz.func227 rfl Tryz.ntmps227 rfl ?_
 have hV : Evo w0 w0 [] := Evo.refl _ _
 refine Zs ?_
 refine Zn asS ?_
 refine Zs ?_
 refine Zo mvM ?_
 refine Zr [.map _] rfl η Tryz.func160 keys_calls ?_
 rintro e w1 ⟨rfl, F1, hky1⟩
 refine ⟨_, rfl, ?_⟩
 have Q1 := F1.size
 replace hV := Z0 hV F1
 refine Zr [.func _ _ _] rfl η Tryz.func159 (sortedk_calls hm0 hky1 hl hb) ?_
 rintro e w2 ⟨vs2, rfl, F2, hsr2⟩
 refine ⟨_, rfl, ?_⟩
 have Q2 := F2.size
 replace hV := Z0 hV F2
 refine Zn (run_asg (v := vs2) rfl η) ?_
 refine r_ret (res1 (v := vs2) rfl η) ?_
 exact ⟨_, rfl, hV, hsr2.base_le ω⟩
theorem pl_172 : placesP Tryz.prog 172 = some [] := ζ
theorem ty_172 : tyP Tryz.prog 172 = some (0, 0, some (.agg #[])) := ζ
theorem cut_len (s t : Str) : (if t <:+ s then s.take (s.length - t.length) else s).length ≤ s.length := by
  split
  · exact List.length_take_le' _ _
  · exact Nat.le_refl _
theorem key_len {m : List (Str × Unit)} {ok : Str → Bool} {s : Str} {E : List Ende} {k : Nat} (h : KeyIs m (foldF ok s fwd (E.take k))) (hb : ∀ k, BdE (E.getD k default)) (hs : s.length ≤ 140737488355328) : ∀ p ∈ m, p.1.length ≤ maxLen := fun p hp => by
  have h1 := (h.2 p.1).1 (List.mem_map.2 ⟨p, hp, rfl⟩)
  unfold maxLen
  rcases foldF_mem.1 h1 with h2 | ⟨_, _, x, hx, h2⟩
  · rw [h2]; omega
  · have h3 := turn_len s (fwd x).1 (fwd x).2
    rw [h2] at h3
    obtain ⟨i, hi, rfl⟩ := List.mem_iff_getElem.1 (List.mem_of_mem_take hx)
    have h4 := (hb i).2
    have e : E.getD i default = E[i] := by simp [List.getD, hi]
    rw [e] at h4
    have h5 : p.1.length ≤ s.length + E[i].add.length := h3
    omega
theorem key_cnt {m : List (Str × Unit)} {l : List Str} (h : KeyIs m l) (hl : l.Pairwise (fun a b => a < b)) : m.length = l.length := by
  have := congrArg List.length (h.sorted hl)
  rw [sortS_len, List.length_map] at this
  exact this
theorem take_bothI {α : Type} [Inhabited α] {a b : List α} {k : Nat} (hp : a.take k = b.take k) (ha : k < a.length) (hb : k < b.length) (h : a.getD k default = b.getD k default) : a.take (k + 1) = b.take (k + 1) := by
  rw [take_succD a k ha, take_succD b k hb, hp, h]
end Go.Proofs.YtlfjocbnbceceaaGreatDoor
namespace Go.Vc
open Go Go.RowKit Go.IntWalk Go.Deep
def decW (n : Nat) (s : Str) : Str := if n / 10 = 0 then UInt8.ofNat (48 + n % 10) :: s else decW (n / 10) (UInt8.ofNat (48 + n % 10) :: s)
termination_by n
decreasing_by omega
theorem decW_stop {n : Nat} (s : Str) (h : n / 10 = 0) : decW n s = UInt8.ofNat (48 + n % 10) :: s := by rw [decW, if_pos h]
theorem decW_go {n : Nat} (s : Str) (h : ¬ n / 10 = 0) : decW n s = decW (n / 10) (UInt8.ofNat (48 + n % 10) :: s) := by rw [decW, if_neg h]
theorem decW_len : ∀ (k n : Nat) (s : Str), n < 10 ^ (k + 1) → (decW n s).length ≤ s.length + (k + 1)
  | 0, n, s, h => by rw [decW_stop s ω]; simp
  | k + 1, n, s, h => by
    by_cases h1 : n / 10 = 0
    · rw [decW_stop s h1]; simp
    · rw [decW_go s h1]
      have := decW_len k (n / 10) (UInt8.ofNat (48 + n % 10) :: s) (by rw [Nat.pow_succ] at h; omega)
      simp only [List.length_cons] at this
      omega
theorem dig_wrap {n : Nat} {z : Int} (h : z = (n : Int)) : Go.IntKind.u8.wrap (48 + z.tmod 10) = (((UInt8.ofNat (48 + n % 10)).toNat : Nat) : Int) := by
  subst h
  have h1 : ((n : Int)).tmod 10 = ((n % 10 : Nat) : Int) := by rw [Int.tmod_eq_emod_of_nonneg ω]; omega
  have h2 : n % 10 < 10 := Nat.mod_lt _ (by decide)
  rw [h1]
  have h3 : (UInt8.ofNat (48 + n % 10)).toNat = 48 + n % 10 := by rw [UInt8.toNat_ofNat']; omega
  rw [h3]
  have : ∀ m, m < 10 → Go.IntKind.u8.wrap (48 + ((m : Nat) : Int)) = ((48 + m : Nat) : Int) := by decide
  exact this _ h2
theorem decW_ge (n : Nat) : ∀ s : Str, s.length + 1 ≤ (decW n s).length := by
  induction n using Nat.strongRecOn with
  | _ n ih =>
    intro s
    by_cases h : n / 10 = 0
    · rw [decW_stop s h]; simp
    · rw [decW_go s h]
      have := ih (n / 10) ω (UInt8.ofNat (48 + n % 10) :: s)
      simp only [List.length_cons] at this
      omega
theorem clas_own {w : World} {base E : Nat} {Y : List Nat} {v vs : Value} {ls : List Ende} (m : Str) (h : OwnE w base E vs ls) (hY : ∀ y ∈ Y, y < base) (hv : ∀ g, v.ownBlock = some g → g < base) (hb : BdC ⟨m, ls⟩) :
    ∀ w', Evo w w' (Y ++ v.ownBlock.toList) → Rep.rep w' [S m, vs] (⟨m, ls⟩ : Clas) := fun w' he => by
  have h2 := h.evo he (fun g hg hm => by
    have hb := (h.block hg).1
    rcases List.mem_append.1 hm with h3 | h3
    · have := hY g h3; omega
    · have := hv g (by simpa using h3); omega)
  obtain ⟨ao, g, cap, hv2, hr, _⟩ := h2.rowOf
  exact ⟨⟨ao, g, 0, cap, by rw [hv2], hr⟩, hb⟩
theorem ret_str {a b : Str} (h : a = b) : Ending.returned (S a) = .returned (S b) := by rw [h]
theorem tdiv_nat (m k : Nat) : ((m : Int)).tdiv (k : Int) = ((m / k : Nat) : Int) := by
  rw [Int.tdiv_eq_ediv_of_nonneg ω]; rfl
theorem tdiv_ten (m : Nat) : ((m : Int)).tdiv 10 = ((m / 10 : Nat) : Int) := tdiv_nat m 10
def stripsL : List Str := [[], [], [121], [115], [97]]
def addsL : List Str := [[115], [105, 101, 115], [], [101, 115], [97], [101, 114]]
def MadeE (es : List Ende) : Prop := es.Nodup ∧ ∀ e ∈ es, e.strip ∈ stripsL ∧ e.add ∈ addsL
def MadeP (cl : List Clas) (N i : Nat) : Prop := cl.length + i = N ∧ (∀ k, (h : k < cl.length) → (cl[k]'h).name = 99 :: decW (N - k) []) ∧ ∀ x ∈ cl, MadeE x.ends ∧ x.ends.length ≤ 3
theorem MadeE.nil : MadeE [] := ⟨List.nodup_nil, by simp⟩
theorem MadeE.snoc {es : List Ende} {x : Ende} (h : MadeE es) (hx : ¬ x ∈ es) (h1 : x.strip ∈ stripsL) (h2 : x.add ∈ addsL) : MadeE (es ++ [x]) := by
  refine ⟨?_, fun e he => ?_⟩
  · rw [List.nodup_append]
    refine ⟨h.1, by simp, fun a ha b hb => ?_⟩
    have : b = x := by simpa using hb
    intro hab
    exact hx (by rw [← this, ← hab]; exact ha)
  · rcases List.mem_append.1 he with h3 | h3
    · exact h.2 e h3
    · have : e = x := by simpa using h3
      rw [this]; exact ⟨h1, h2⟩
theorem MadeP.nil (N : Nat) : MadeP [] N N := ⟨by simp, by simp, by simp⟩
theorem MadeP.snoc {cl : List Clas} {N i : Nat} {es : List Ende} {m : Str} (h : MadeP cl N i) (hi : 0 < i) (hm : m = 99 :: decW i []) (he : MadeE es) (hl : es.length ≤ 3) : MadeP (cl ++ [⟨m, es⟩]) N (i - 1) := by
  obtain ⟨h1, h2, h3⟩ := h
  refine ⟨by simp; omega, fun k hk => ?_, fun x hx => ?_⟩
  · rcases Nat.lt_or_ge k cl.length with h4 | h4
    · rw [List.getElem_append_left h4]; exact h2 k h4
    · rw [List.getElem_append_right h4]
      simp only [List.length_append, List.length_cons, List.length_nil] at hk
      have h5 : k - cl.length = 0 := by omega
      have h6 : N - k = i := by omega
      simp only [h5, List.getElem_cons_zero]
      rw [h6]; exact hm
  · rcases List.mem_append.1 hx with h4 | h4
    · exact h3 x h4
    · have : x = ⟨m, es⟩ := by simpa using h4
      rw [this]; exact ⟨he, hl⟩
theorem strip_len {s : Str} (h : s ∈ stripsL) : s.length ≤ 1 := by
  have : ∀ s ∈ stripsL, s.length ≤ 1 := by decide
  exact this s h
theorem add_len {s : Str} (h : s ∈ addsL) : s.length ≤ 3 := by
  have : ∀ s ∈ addsL, s.length ≤ 3 := by decide
  exact this s h
theorem MadeE.bd {es : List Ende} (h : MadeE es) : ∀ e ∈ es, BdE e := fun e he => by
  have h1 := strip_len (h.2 e he).1
  have h2 := add_len (h.2 e he).2
  exact ⟨by omega, by omega⟩
theorem made_bdC {es : List Ende} {n : Nat} (h : MadeE es) (hl : es.length ≤ 3) (hn : n ≤ 9) : BdC ⟨99 :: decW n [], es⟩ := by
  have := decW_len 0 n [] ω
  refine ⟨?_, h.bd, ?_⟩
  · simp only [List.length_cons, List.length_nil] at this ⊢; omega
  · show es.length ≤ _; omega
theorem MadeP.mem {cl : List Clas} {N i : Nat} (h : MadeP cl N i) {x : Clas} (hx : x ∈ cl) : MadeE x.ends ∧ x.ends.length ≤ 3 := h.2.2 x hx
theorem MadeP.bd {cl : List Clas} {N i : Nat} (h : MadeP cl N i) (hN : N ≤ 9) : ∀ x ∈ cl, BdC x := fun x hx => by
  obtain ⟨k, hk, rfl⟩ := List.mem_iff_getElem.1 hx
  have h1 := h.2.1 k hk
  have h2 := h.2.2 _ hx
  have h3 := made_bdC (n := N - k) h2.1 h2.2 ω
  rw [← h1] at h3
  exact h3
section
variable {P : Program} {w : World} {f : Fr} {o : Oper}
theorem equalIn_str (d : Nat) {T : TypeId} (u : P.underlying T = some .string) (a b : Str) : (Op.equalIn (d + 1) T (S a) (S b)).run P w = .ok (a == b) w := by
  have := run_equalIn_string (P := P) w d T ⟨a.toArray⟩ ⟨b.toArray⟩ u
  rw [toList_S, toList_S] at this
  exact this
theorem equalIn_ende (d : Nat) {T : TypeId} {f0 f1 : Field} (hu : P.underlying T = some (.struct #[f0, f1])) (hp : P.stoodInHeld T = false) (n0 : f0.name ≠ "_") (n1 : f1.name ≠ "_")
    (o0 : f0.offset = 0) (o1 : f1.offset = 1) (u0 : P.underlying f0.type = some .string) (u1 : P.underlying f1.type = some .string)
    (a0 : aggP P f0.type = some false) (a1 : aggP P f1.type = some false) (x y : Ende) :
    (Op.equalIn (d + 2) T (.agg (Enc.enc x).toArray) (.agg (Enc.enc y).toArray)).run P w = .ok (decide (x = y)) w := by
  have hf : P.fieldsOf T = #[f0, f1] := by simp [Program.fieldsOf, hu]
  rw [run_equalIn_struct (P := P) w (d + 1) T _ _ (by rw [hf]; exact hu) hp, hf]
  have p0 : ∀ (z : Ende), (part f0.type (Enc.enc z).toArray 0).run P w = .ok (S z.strip) w := fun z => run_part1 a0 rfl
  have p1 : ∀ (z : Ende), (part f1.type (Enc.enc z).toArray 1).run P w = .ok (S z.add) w := fun z => run_part1 a1 rfl
  have e0 := equalIn_str (P := P) (w := w) d u0 x.strip y.strip
  have e1 := equalIn_str (P := P) (w := w) d u1 x.add y.add
  have key : (Op.eqFields (d + 1) (Enc.enc x).toArray (Enc.enc y).toArray [f0, f1]).run P w = .ok ((x.strip == y.strip) && (x.add == y.add)) w := by
    simp only [Op.eqFields, n0, n1, o0, o1, ne_eq, not_false_eq_true, if_true, Sem.run_bind, p0, e0, Result.andThen_ok]
    cases (x.strip == y.strip) with
    | false => simp
    | true =>
      simp only [Bool.not_true, Bool.false_eq_true, if_false, Sem.run_bind, p1, e1, Result.andThen_ok, Bool.true_and]
      cases (x.add == y.add) with
      | false => simp
      | true => simp
  have e3 : ((x.strip == y.strip) && (x.add == y.add)) = decide (x = y) := by
    obtain ⟨k1, t1⟩ := x
    obtain ⟨k2, t2⟩ := y
    rw [Bool.eq_iff_iff]
    simp
  rw [← e3]
  exact key
theorem run_eqlG {α : Type} [Enc α] [DecidableEq α] {T T2 : TypeId} {x y : Operand} (a b : α) (ho : o.op = .binOp .eql T x y T2) (hg : P.eqGuardType P.depth T = false) (he : ∀ (w : World) (x y : α), (Op.equalIn 10000 T (.agg (Enc.enc x).toArray) (.agg (Enc.enc y).toArray)).run P w = .ok (decide (x = y)) w)
    (hx : opv f x = .agg (Enc.enc a).toArray) (hy : opv f y = .agg (Enc.enc b).toArray) : (execOp (opv f) o).run P w = .ok (.value (.bool (decide (a = b)))) w := by
  unfold execOp; rw [ho]; simp only []; rw [hx, hy]
  simp only [Sem.run_bind, run_eqGuard_agg w .eql T x y _ _ hg, Result.andThen_ok, run_eql_struct, he, Sem.run_pure]
end
end Go.Vc
namespace Go.Proofs.YtlfjocbnbceceaaGreatDoor
open Go.RowKit Go.Vc
theorem ag_22 : aggP Tryz.prog 22 = some false := ζ
theorem ag_3 : aggP Tryz.prog 3 = some false := ζ
theorem fo_70_0 : fieldP Tryz.prog 70 0 = some 0 := ζ
theorem fo_70_1 : fieldP Tryz.prog 70 1 = some 1 := ζ
theorem ty_3 : tyP Tryz.prog 3 = some (1, 8, some (.int .i64 0)) := ζ
theorem place_calls (x n : Int) {w0 : World} (hn : 1 ≤ n) (hn2 : n ≤ 1000000000) :
    Calls Tryz.prog 11 #[.int .i64 x, .int .i64 n] w0 fun e w' => e = .returned (.int .i64 (x % n)) ∧ w0 = w' := by
 refine calls_enter (n := 14) Tryz.func11 rfl Tryz.ntmps11 rfl ?_
 have hV : Evo w0 w0 [] := Evo.refl _ _
 refine Zs ?_
 refine Zn asI ?_
 refine Zs ?_
 refine Zo mvI ?_
 refine Zo mvI ?_
 refine Zo (run_rem rfl η η ω) ?_
 refine Zn asI ?_
 refine r_seq ?_
 refine Zs ?_
 refine Zo mvI ?_
 refine Zn (run_lss rfl η η) ?_
 refine r_cond η (fun hc1 => ?_) (fun hc1 => ?_)
 ·skip
  refine r_region ?_
  refine Zo mvI ?_
  refine Zo mvI ?_
  refine Zo (run_add rfl η η (by have := tmod_bd x n ω; omega) (by have := tmod_bd x n ω; omega)) ?_
  refine Zn asI ?_
  refine Zs ?_
  refine Zo mvI ?_
  refine Zn asI ?_
  refine r_ret (res1 (v := .int _ _) rfl η) ?_
  exact ⟨ret_int (by rw [← place_neg x n ω ω]), rfl⟩
 refine r_skip ?_
 refine Zs ?_
 refine Zo mvI ?_
 refine Zn asI ?_
 refine r_ret (res1 (v := .int _ _) rfl η) ?_
 exact ⟨ret_int (by rw [← place_pos x n ω ω]), rfl⟩
theorem next_calls {T bs : Nat} {ao : Option Addr} {b off cap : Nat} {l : List Int} {N : Nat} {n : Int} {w0 : World} (hb : Blk w0 bs T [.slice ao l.length cap, .int .i64 (N : Nat)]) (hl : RowE w0 ao b off cap l) (hN : N ≤ 1000000) (hn : 1 ≤ n) (hn2 : n ≤ 1000000000) :
    Calls Tryz.prog 38 #[.pointer (some ⟨bs, 0, none⟩), .int .i64 n] w0 fun e w' => e = .returned (.int .i64 (nextL l N n)) ∧ Evo w0 w' [bs] ∧ Blk w' bs T [.slice ao l.length cap, .int .i64 (N + 1 : Nat)] := by
 have hAs := hb.at
 refine calls_enter (n := 36) Tryz.func38 rfl Tryz.ntmps38 rfl ?_
 have hV : Evo w0 w0 [bs] := Evo.refl _ _
 have hbd_hl := hl.bd
 refine Zs ?_
 refine Zn asI ?_
 refine Zs ?_
 refine Zn asI ?_
 refine r_seq ?_
 refine r_seq ?_
 refine r_qregion ζ ζ ?_
 refine Zq (fun w' hC => mvP) ?_
 refine Zq (fun w' hC => run_nc rfl η) ?_
 refine Zq (fun w' hC => run_fa rfl η fo_70_1) ?_
 refine Zq (fun w' hC => run_ld1 rfl ag_3 η ((hAs.evo0 hC).cell 1 η)) ?_
 refine Zq (fun w' hC => mvP) ?_
 refine Zq (fun w' hC => run_nc rfl η) ?_
 refine Zq (fun w' hC => run_fa rfl η fo_70_0) ?_
 refine Zq (fun w' hC => run_ld1 rfl ag_22 η ((hAs.evo0 hC).cell 0 η)) ?_
 refine Zq (fun w' hC => run_lenSl rfl η Tryz.underlying22) ?_
 refine Zq (fun w' hC => run_lss rfl η η) ?_
 refine q_nil (fun w1 F2 => ?_)
 have Q1 := F2.size
 replace hV := Z0 hV F2
 replace hb := hb.evo0 F2
 replace hAs := hAs.evo0 F2
 replace hl := hl.evo0 F2
 refine r_cond η (fun hc3 => ?_) (fun hc3 => ?_)
 ·skip
  refine r_qregion ζ ζ ?_
  refine Zq (fun w' hC => mvP) ?_
  refine Zq (fun w' hC => run_nc rfl η) ?_
  refine Zq (fun w' hC => run_fa rfl η fo_70_0) ?_
  refine Zq (fun w' hC => run_ld1 rfl ag_22 η ((hAs.evo0 hC).cell 0 η)) ?_
  refine Zq (fun w' hC => mvP) ?_
  refine Zq (fun w' hC => run_nc rfl η) ?_
  refine Zq (fun w' hC => run_fa rfl η fo_70_1) ?_
  refine Zq (fun w' hC => run_ld1 rfl ag_3 η ((hAs.evo0 hC).cell 1 η)) ?_
  refine Zq (fun w' hC => run_ix (N) rfl Tryz.underlying22 ty_3 η η (by first | exact rfl | omega) ω (hl.addr (i := N) ω)) ?_
  have hA4 := hl.atD (N) ω
  refine Zq (fun w' hC => run_ld1 rfl ag_3 η ((hA4.evo0 hC).cell 0 η)) ?_
  refine Zq (fun w' hC => asI) ?_
  refine q_nil (fun w5 F6 => ?_)
  have Q5 := F6.size
  replace hV := Z0 hV F6
  replace hb := hb.evo0 F6
  replace hAs := hAs.evo0 F6
  refine Zs ?_
  refine Zo mvP ?_
  refine Zo (run_nc rfl η) ?_
  refine Zo (run_fa rfl η fo_70_1) ?_
  refine Zo (run_ld1 rfl ag_3 η (hAs.cell 1 η)) ?_
  refine Zo (run_add rfl η η ω ω) ?_
  refine Zo (run_nc rfl η) ?_
  refine Zo (run_fa rfl η fo_70_1) ?_
  refine r_store (v := .int _ _) (vs := [_]) (cs' := [_, _]) η η hb ty_3 η rfl η rfl η ?_
  intro w7 E7 V7 hb_new
  have Q7 := E7.size
  replace hV := Z1 hV E7 (.inr (by simp))
  replace hb := hb_new
  clear hb_new
  refine r_nil ?_
  refine Zs ?_
  refine Zo mvI ?_
  refine Zo mvI ?_
  refine Zr [.int _ _, .int _ _] rfl η Tryz.func11 (place_calls _ _ ω ω) ?_
  rintro e w8 ⟨rfl, rfl⟩
  refine ⟨_, rfl, ?_⟩
  refine Zn asI ?_
  refine r_ret (res1 (v := .int _ _) rfl η) ?_
  exact ⟨ret_int (by first | rfl | (unfold nextL; simp [List.getD, List.getElem?_eq_none (by omega : l.length ≤ N)]; done)), hV, hb⟩
 refine r_skip ?_
 refine Zs ?_
 refine Zo mvP ?_
 refine Zo (run_nc rfl η) ?_
 refine Zo (run_fa rfl η fo_70_1) ?_
 refine Zo (run_ld1 rfl ag_3 η (hAs.cell 1 η)) ?_
 refine Zo (run_add rfl η η ω ω) ?_
 refine Zo (run_nc rfl η) ?_
 refine Zo (run_fa rfl η fo_70_1) ?_
 refine r_store (v := .int _ _) (vs := [_]) (cs' := [_, _]) η η hb ty_3 η rfl η rfl η ?_
 intro w9 E9 V9 hb_new
 have Q9 := E9.size
 replace hV := Z1 hV E9 (.inr (by simp))
 replace hb := hb_new
 clear hb_new
 refine r_nil ?_
 refine Zs ?_
 refine Zo mvI ?_
 refine Zo mvI ?_
 refine Zr [.int _ _, .int _ _] rfl η Tryz.func11 (place_calls _ _ ω ω) ?_
 rintro e w10 ⟨rfl, rfl⟩
 refine ⟨_, rfl, ?_⟩
 refine Zn asI ?_
 refine r_ret (res1 (v := .int _ _) rfl η) ?_
 exact ⟨ret_int (by first | rfl | (unfold nextL; simp [List.getD, List.getElem?_eq_none (by omega : l.length ≤ N)]; done)), hV, hb⟩
theorem nx_calls {w0 : World} {T bs : Nat} {ao : Option Addr} {b off cap : Nat} {l : List Int} {N : Nat} {n : Int} (hb : Blk w0 bs T [.slice ao l.length cap, .int .i64 (N : Nat)]) (hl : RowE w0 ao b off cap l) (hN : N ≤ 1000000) (hn : 1 ≤ n) (hn2 : n ≤ 1000000000) :
    Calls Tryz.prog 38 #[.pointer (some ⟨bs, 0, none⟩), .int .i64 n] w0 fun e w' => ∃ r, e = .returned (.int .i64 r) ∧ (0 ≤ r ∧ r < n) ∧ Evo w0 w' [bs] ∧ Blk w' bs T [.slice ao l.length cap, .int .i64 (N + 1 : Nat)] :=
  (next_calls hb hl hN hn hn2).mono fun e w' ⟨h1, h2, h3⟩ => ⟨_, h1, nextL_bd l N n hn, h2, h3⟩
theorem decimal_calls {n : Nat} {w0 : World} (hn : n < 1000000000) :
    Calls Tryz.prog 124 #[.int .i64 (n : Nat)] w0 fun e w' => e = .returned (S (decW n [])) ∧ Evo w0 w' [] := by
 have hdl := decW_len 8 n [] ω; have hdg := decW_ge
 refine calls_enter (n := 17) Tryz.func124 rfl Tryz.ntmps124 rfl ?_
 have hV : Evo w0 w0 [] := Evo.refl _ _
 refine Zs ?_
 refine Zn asT ?_
 refine Zs ?_
 refine Zn asT ?_
 refine r_block ?_
 refine r_loop (α := Nat) [0, 2, 3, 4, 5, 6, 7, 8, 9, 10, 11, 12, 13, 14, 15, 16] (fun m g w => ∃ s1 : Str, g 0 = .int .i64 (m : Nat) ∧ g 3 = S s1 ∧ (m < 1000000000 ∧ s1.length ≤ 20) ∧ decW n [] = decW m s1 ∧ w0.heap.size ≤ w.heap.size ∧ Evo w0 w []) (fun m => m) n ?_ ?_
 ·refine ⟨[], rfl, rfl, θ, rfl, δ, hV⟩
 rintro m g w2 ⟨s1, hj3, hj4, hm, hdw, hzl1, hV⟩
 have hs_w2hV := hV.size
 refine Zk 0 (v := .int .i64 (m : Nat)) (by exact hj3) ?_
 refine Zk 3 (v := S s1) (by exact hj4) ?_
 have hdm := hdg m s1
 have htd := tdiv_ten m
 refine r_block ?_
 refine Zs ?_
 refine Zo mvI ?_
 refine Zo (run_rem rfl η η ω) ?_
 refine Zo (run_add rfl η η (by have := tmod_bd (m : Int) 10 ω; omega) (by have := tmod_bd (m : Int) 10 ω; omega)) ?_
 refine Zo (run_cvInt rfl Tryz.underlying3 Tryz.underlying5 η) ?_
 refine r_bslice (pv := [(0, .int _ _)]) (zs := [_]) (cs := [_]) Tryz.underlying123 ty_5 η rfl η rfl η ?_
 intro b5 w6 J5 E6 B5 Y5
 have Q6 := E6.size
 replace hV := Z0 hV E6
 have hrb5 : RowE w6 (some ⟨b5, 0, none⟩) b5 0 1 ([UInt8.ofNat (48 + m % 10)] : List UInt8) := rowLit ([UInt8.ofNat (48 + m % 10)] : List UInt8) B5 (congrArg (fun z => [Value.int .u8 z]) (dig_wrap (n := m) rfl)) rfl
 refine Zo (run_cvBS rfl Tryz.underlying123 Tryz.underlying5 Tryz.underlying9 η (by first | rfl | simp) hrb5) ?_
 refine Zo mvT ?_
 refine Zo (run_sadd rfl η η (by first | omega | (simp; done) | (simp; omega))) ?_
 refine Zn asT ?_
 refine Zs ?_
 refine Zo mvI ?_
 refine Zo (run_quo rfl η η ω (by have h8 := tdiv_ten m; omega) (by have h8 := tdiv_ten m; omega)) ?_
 refine Zn asI ?_
 refine Zs ?_
 refine Zo mvI ?_
 refine Zn (run_eql rfl η η) ?_
 refine r_cond η (fun hc7 => ?_) (fun hc7 => ?_)
 ·skip
  refine Zs ?_
  refine Zo mvT ?_
  refine Zn asT ?_
  refine r_ret (res1 (v := S _) rfl η) ?_
  exact ⟨ret_str (by rw [hdw, decW_stop s1 ω]; rfl), hV⟩
 refine r_skip ?_
 refine r_blk ?_
 refine r_again (m / 10) ?_ ?_ ?_
 ·first | omega | (dsimp only; omega)
 ·refine ⟨_, (congrArg (Value.int _) htd), rfl, (by have h8 := congrArg List.length (hdw.trans (decW_go s1 ω)); have h7 := hdg (m / 10) (UInt8.ofNat (48 + m % 10) :: s1); simp at h7 h8 hdl ⊢; omega), (hdw.trans (decW_go s1 ω)), δ, hV⟩
 exact ψ
theorem Decimal_calls {n : Nat} {w0 : World} (hn : n < 1000000000) :
    Calls Tryz.prog 72 #[.int .i64 (n : Nat)] w0 fun e w' => e = .returned (S (decW n [])) ∧ Evo w0 w' [] := by
 refine calls_enter (n := 16) Tryz.func72 rfl Tryz.ntmps72 rfl ?_
 have hV : Evo w0 w0 [] := Evo.refl _ _
 refine Zs ?_
 refine Zn asT ?_
 refine r_seq ?_
 refine Zs ?_
 refine Zo mvI ?_
 refine Zo (run_lss rfl η η) ?_
 refine Zo mvB ?_
 refine r_g rfl (wantT η) rfl (fun hg => mvI) ?_
 refine r_g rfl (wantT η) rfl (fun hg => run_gtr rfl (glv η (fun h => h) hg) η) ?_
 refine Zn (run_pick_and rfl η (fun hq => glv η (fun h => h) hq) rfl) ?_
 refine r_cond η (fun hc1 => ?_) (fun hc1 => ?_)
 ·skip
  exfalso; omega
 refine r_skip ?_
 refine Zs ?_
 refine Zo mvI ?_
 refine Zo (run_max rfl η η) ?_
 refine r_knowL (i := 14) (v := .int .i64 (n : Nat)) (congrArg (Value.int _) ω) ?_
 refine Zr [.int _ _] rfl η Tryz.func124 (decimal_calls ω) ?_
 rintro e w2 ⟨rfl, F2⟩
 refine ⟨_, rfl, ?_⟩
 have Q2 := F2.size
 replace hV := Z0 hV F2
 refine Zn asT ?_
 refine r_ret (res1 (v := S _) rfl η) ?_
 exact ⟨rfl, hV⟩
end Go.Proofs.YtlfjocbnbceceaaGreatDoor
namespace Go.Vc
open Go Go.RowKit Go.IntWalk
section
variable {P : Program} {ops : Array Oper} {Q : Exit → Act → World → Prop} {S : World → Prop}
def YC (P : Program) (ops : Array Oper) (S : World → Prop) (o : Oper) (v : Value) (a : Act) : Prop :=
  Region.wanted o (yielded ops a.tmps) = true ∧ ∀ w, S w → ∃ g args, (execOp a.eval o).run P w = .ok (.enter g args) w ∧ Calls P g args w (fun e w' => e = .returned v ∧ w' = w)
theorem YC.of_same {o : Oper} {v : Value} {a a' : Act} (hy : YC P ops S o v a) (he : execOp a'.eval o = execOp a.eval o) (hw : Region.wanted o (yielded ops a'.tmps) = Region.wanted o (yielded ops a.tmps)) : YC P ops S o v a' := by
  unfold YC at *
  rw [he, hw]
  exact hy
theorem YC.wpOp {i : Nat} {o : Oper} {v : Value} {a : Act} (hi : ops[i]? = some o) (hy : YC P ops S o v a) {K : Act → World → Prop} {w : World} (hS : S w) (h : K (a.put o.dst v) w) : wpOp P ops Q i K a w := by
  unfold Go.wpOp
  simp only [hi]
  obtain ⟨hw, hv⟩ := hy
  obtain ⟨g, args, h1, h2⟩ := hv w hS
  simp only [hw, if_true, Oper.wp, h1, Oper.upon]
  refine .inl (Calls.mono h2 (fun e w' he => ?_))
  obtain ⟨rfl, rfl⟩ := he
  exact h
theorem wpOp_putC {j : Nat} {oi oj : Oper} {v : Value} (hj : ops[j]? = some oj) (hap : oi.apart ops oj = true)
    (hsi : ∀ cs b, oi.op ≠ .select cs b) (hsj : ∀ cs b, oj.op ≠ .select cs b)
    (hQ : ∀ c a w, Q (.panic c) (a.put oi.dst v) w → Q (.panic c) a w) {K : Act → World → Prop} {a : Act} {w : World}
    (hy : YC P ops S oi v a) (h : wpOp P ops Q j K (a.put oi.dst v) w) :
    wpOp P ops Q j (fun a' w' => YC P ops S oi v a' ∧ K (a'.put oi.dst v) w') a w := by
  obtain ⟨h1, h2, h3⟩ := Oper.apart_spec hap
  have keep : ∀ (a : Act), YC P ops S oi v a → ∀ u, YC P ops S oi v (a.put oj.dst u) := fun a hy u =>
    hy.of_same (execOp_put oi hsi a oj.dst u h3) (wanted_put oi a oj.dst u h3)
  have keepD : ∀ d, YC P ops S oi v { a with defers := d :: a.defers } := fun d => hy.of_same rfl rfl
  unfold wpOp at *
  simp only [hj] at *
  rw [wanted_put oj a oi.dst v h1] at h
  split
  · rename_i hw
    simp only [hw, if_true] at h
    rcases h with h | ⟨hasks, hlets⟩
    case inr => exact .inr ⟨by unfold Oper.asks at *; rw [execOp_put oj hsj a oi.dst v h1] at hasks; exact hasks, hlets⟩
    refine .inl ?_
    unfold Oper.wp at *
    rw [execOp_put oj hsj a oi.dst v h1] at h
    generalize (execOp a.eval oj).run P w = r at *
    cases r with
    | ok n w' =>
      cases n <;> simp only [Oper.upon] at h ⊢
      case value u => exact ⟨keep a hy u, by rw [← Act.put_comm a v u h2]; exact h⟩
      case skip => exact ⟨keep a hy _, by rw [← Act.put_comm a v undef h2]; exact h⟩
      case defer d =>
        refine ⟨keep _ (keepD d) _, ?_⟩
        rw [← Act.put_comm _ v undef h2, ← Act.put_defers]
        exact h
      case enter f args =>
        refine Calls.mono h fun e w'' he => ?_
        cases e with
        | returned u => exact ⟨keep a hy u, by rw [← Act.put_comm a v u h2]; exact he⟩
        | panicked c => exact hQ _ _ _ he
        | outgrown => exact he
      case row row args => exact Rows.mono h fun u w'' he => ⟨keep a hy u, by rw [← Act.put_comm a v u h2]; exact he⟩
    | halt x w' =>
      cases x <;> simp only [Oper.upon] at h ⊢
      case panic u => exact hQ _ _ _ h
  · rename_i hw
    simp only [hw] at h
    exact ⟨keep a hy _, by rw [← Act.put_comm a v undef h2]; exact h⟩
theorem AnyC_first {i : Nat} {oi : Oper} {v : Value} (hi : ops[i]? = some oi) (hsel : ∀ (j : Nat) (o : Oper) cs b, ops[j]? = some o → o.op ≠ .select cs b) (hQ : ∀ c a w, Q (.panic c) (a.put oi.dst v) w → Q (.panic c) a w) :
    ∀ (m : Nat) (l : Array Bool) (a : Act) (w : World), closedB ops l = true → (∀ j oj, ops[j]? = some oj → j ≠ i → l.getD j true = false → (∀ e ∈ oj.after, Region.binds .any e = true → e.on ≠ i) → oi.apart ops oj = true) →
      i ∈ Region.ready .any ops l → YC P ops S oi v a → S w → AnyF P ops Q S m (l.setIfInBounds i true) (a.put oi.dst v) w → AnyF P ops Q S (m + 1) l a w := by
  have hlt : i < ops.size := (Array.getElem?_eq_some_iff.1 hi).1
  intro m
  induction m with
  | zero =>
    intro l a w _ _ hr hy hS H
    refine ⟨fun h => absurd (h ▸ hr) (by simp), fun j hj => ?_⟩
    by_cases hji : j = i
    · subst hji; exact hy.wpOp hi hS ⟨fun _ => hS, H⟩
    · have h1 := ready_mono hj hji
      rw [H.1] at h1
      exact absurd h1 (by simp)
  | succ m ih =>
    intro l a w hcl hfree hr hy hS H
    refine ⟨fun h => absurd (h ▸ hr) (by simp), fun j hj => ?_⟩
    by_cases hji : j = i
    · subst hji; exact hy.wpOp hi hS ⟨fun _ => hS, H⟩
    · have h1 := H.2 j (ready_mono hj hji)
      obtain ⟨hjun, oj, hoj, hall⟩ := mem_ready.1 hj
      have h0 := (mem_ready.1 hr).1
      have hil : l.getD i false = false := by
        rcases Nat.lt_or_ge i l.size with h' | h'
        · simp [h'] at h0 ⊢; exact h0
        · simp [Array.getElem?_eq_none h'] at h0
      have hnot : ∀ e ∈ oj.after, Region.binds .any e = true → e.on ≠ i := fun e he hb heq => by
        have h3 := hall e he hb
        rw [heq, hil] at h3
        cases h3
      have hun : l.getD i true = false := by simpa using h0
      have hallT : ∀ e ∈ oj.after, Region.binds .any e = true → l.getD e.on true = true := fun e he hb => by
        have h3 := hall e he hb
        rcases Nat.lt_or_ge e.on l.size with h' | h'
        · simp [h'] at h3 ⊢; exact h3
        · simp [Array.getElem?_eq_none h']
      have hdiT : ∀ ok, ops[i]? = some ok → ∀ e ∈ ok.after, Region.binds .any e = true → l.getD e.on true = true := fun ok hok e he hb => by
        obtain ⟨_, o2, ho2, hall2⟩ := mem_ready.1 hr
        rw [hok] at ho2; injection ho2 with ho2; subst ho2
        have h3 := hall2 e he hb
        rcases Nat.lt_or_ge e.on l.size with h' | h'
        · simp [h'] at h3 ⊢; exact h3
        · simp [Array.getElem?_eq_none h']
      have hfin := final_false hcl hji hlt hoj hallT hun hjun hdiT
      have hcl2 : closedB ops (l.setIfInBounds j true) = true := closedB_mk fun k ok hok hk e he hb => by
        have hset : ∀ q, l.getD q true = true → (l.setIfInBounds j true).getD q true = true := fun q hq => by
          by_cases hjq : j = q
          · subst hjq
            rcases Nat.lt_or_ge j l.size with h' | h'
            · simp [h']
            · simp
          · rw [getD_set_ne true hjq]; exact hq
        by_cases hjk : j = k
        · subst hjk
          rw [hoj] at hok; injection hok with hok; subst hok
          exact hset _ (hallT e he hb)
        · rw [getD_set_ne true hjk] at hk
          exact hset _ (closedB_spec hcl hok hk e he hb)
      have h2 := wpOp_putC hoj (hfree j oj hoj hji hjun hnot) (fun cs b => hsel i oi cs b hi) (fun cs b => hsel j oj cs b hoj) hQ hy h1
      refine wpOp_mono (fun a' w' h3 => ?_) h2
      have hS' := h3.2.1 hfin
      refine ⟨fun _ => hS', ih (l.setIfInBounds j true) a' w' hcl2 (fun k ok hk hki hun hno => ?_) (ready_mono hr (Ne.symm hji)) h3.1 hS' ?_⟩
      · refine hfree k ok hk hki ?_ hno
        by_cases hjk : j = k
        · subst hjk; exact hjun
        · rw [getD_set_ne true hjk] at hun; exact hun
      · rw [Array.setIfInBounds_comm _ _ hji]
        exact h3.2.2
end
section
variable {P : Program} {B : Exit → Act → World → Prop} {n : Nat} {k : List Kont} {f : Fr} {w : World} {ops : Array Oper} {S : World → Prop} {fuel : Nat} {d : List Nat}
theorem h_takeC {i s : Nat} {oi : Oper} {v : Value} (hi : ops[i]? = some oi) (hg : oi.guard = none) (hdst : oi.dst = some s) (hd : Nat.blt s n = true) (hc : takeB ops d i = true)
    (hrun : ∀ w', S w' → ∃ g args, (execOp (opv f) oi).run P w' = .ok (.enter g args) w' ∧ Calls P g args w' (fun e w'' => e = .returned v ∧ w'' = w')) (hS : S w) (h : HA P B n k S ops fuel (i :: d) (upd f s v) w) : HA P B n k S ops (fuel + 1) d f w := by
  intro a ha
  simp only [takeB, Bool.and_eq_true] at hc
  refine AnyC_first (v := v) hi (Region.noSelect_spec hc.1.1.1) (fun _ _ _ h => (h : False).elim) fuel (lst ops d) a w hc.2 (Region.free_spec hi hc.1.1.2) (by simpa using hc.1.2) ⟨by simp [Region.wanted, hg], fun w' hw' => ?_⟩ hS ?_
  · rw [ha.eval]; exact hrun w' hw'
  · rw [hdst]; exact h _ (ha.put hd v)
end
def ordB (ops : Array Oper) : Bool := (List.range ops.size).all fun i => match ops[i]? with
  | some o => o.after.all fun e => !(Region.binds .any e) || Nat.blt e.on i
  | none => true
def BI (n : Nat) (I : Array Bool → Fr → World → Prop) (l : Array Bool) : Exit → Act → World → Prop
  | .normal, a, w => ∃ f, Is n f a ∧ I l f w
  | _, _, _ => False
section
variable {P : Program} {B : Exit → Act → World → Prop} {n : Nat} {k : List Kont} {ops : Array Oper} {I : Array Bool → Fr → World → Prop}
theorem rg_do {f : Fr} {w : World} {i : Nat} {oi : Oper} {l : Array Bool} (hi : ops[i]? = some oi) (h : KL P (BI n I l) n ops [] [oi] f w) : ∀ a, Is n f a → wpOp P ops (HQ P B k) i (fun a' w' => BI n I l .normal a' w') a w := by
  intro a ha
  have h1 := h a ha
  unfold wpOp
  simp only [hi]
  unfold wpList at h1
  split
  · rename_i hw
    rw [if_pos hw] at h1
    rcases h1 with h1 | ⟨_, _, _, h2⟩
    · refine .inl ?_
      unfold Oper.wp at h1 ⊢
      generalize (execOp a.eval oi).run P w = r at h1 ⊢
      cases r with
      | ok nx w' =>
        cases nx <;> simp only [Oper.upon] at h1 ⊢ <;>
          first
            | exact h1
            | exact Calls.mono h1 (fun e w'' he => by cases e <;> first | exact he | exact (he : False).elim | (obtain ⟨_, _, h2⟩ := he; exact (h2 : False).elim))
            | exact Rows.mono h1 (fun _ _ he => he)
      | halt x w' => cases x <;> simp only [Oper.upon] at h1 ⊢ <;> first | exact (h1 : False).elim | exact h1
    · exact (h2 : False).elim
  · rename_i hw
    rw [if_neg hw] at h1
    exact h1
theorem all_true {l : Array Bool} {m : Nat} (hs : l.size = m) (h : ∀ i, i < m → l.getD i true = true) : l = Array.replicate m true := by
  refine Array.ext (by simp [hs]) fun i h1 h2 => ?_
  have := h i ω
  simp only [Array.getElem_replicate]
  rw [← this]
  simp [h1]
theorem rg_none {l : Array Bool} (hord : ordB ops = true) (hs : l.size = ops.size) (hr : Region.ready .any ops l = []) : ∀ i, i < ops.size → l.getD i true = true := by
  intro i
  induction i using Nat.strongRecOn with
  | _ i ih =>
    intro hi
    cases hu : l.getD i true with
    | true => rfl
    | false =>
      have h1 := List.all_eq_true.1 hord i (List.mem_range.2 hi)
      rw [Array.getElem?_eq_getElem hi] at h1
      have h2 := Array.all_eq_true_iff_forall_mem.1 h1
      have : i ∈ Region.ready .any ops l := mem_ready.2 ⟨by first | exact hu | simpa using hu, ops[i], Array.getElem?_eq_getElem hi, fun e he hb => by
        have h3 := h2 e he
        rw [hb] at h3
        simp only [Bool.not_true, Bool.false_or] at h3
        have h4 : e.on < i := by simpa using h3
        have h5 := ih e.on h4 ω
        have h6 : e.on < l.size := by omega
        simp [h6] at h5 ⊢; exact h5⟩
      rw [hr] at this
      cases this
theorem rg_any (hord : ordB ops = true) (hstep : ∀ i oi, ops[i]? = some oi → ∀ l f w, l.getD i true = false → (∀ e ∈ oi.after, Region.binds .any e = true → l.getD e.on false = true) → I l f w → KL P (BI n I (l.setIfInBounds i true)) n ops [] [oi] f w)
    (hend : ∀ f w, I (Array.replicate ops.size true) f w → KF P B n k f w) :
    ∀ (m : Nat) (l : Array Bool) (a : Act) (w : World) (f : Fr), l.size = ops.size → Is n f a → I l f w → l.toList.count false ≤ m → wpAny P .any ops (HQ P B k) m l a w
  | 0, l, a, w, f, hs, ha, hI, hc => by
    have hall : ∀ i, i < ops.size → l.getD i true = true := fun i hi => by
      have h0 : l.toList.count false = 0 := by omega
      rw [List.count_eq_zero] at h0
      have h1 : i < l.size := by omega
      cases h2 : l[i] with
      | true => simp [h1, h2]
      | false => exact absurd (by rw [← h2]; exact Array.getElem_mem_toList h1) h0
    have hl := all_true hs hall
    refine ⟨List.eq_nil_iff_forall_not_mem.2 fun i hi => ?_, ?_⟩
    · obtain ⟨h1, oi, h2, _⟩ := mem_ready.1 hi
      have h3 : i < ops.size := (Array.getElem?_eq_some_iff.1 h2).1
      rw [hall i h3] at h1
      cases h1
    · rw [hl] at hI
      exact NoPanic.normal (hend f w hI a ha)
  | m + 1, l, a, w, f, hs, ha, hI, hc => by
    refine ⟨fun hr => ?_, fun i hi => ?_⟩
    · have hl := all_true hs (rg_none hord hs hr)
      rw [hl] at hI
      exact NoPanic.normal (hend f w hI a ha)
    · obtain ⟨h1, oi, h2, h3⟩ := mem_ready.1 hi
      have h4 := rg_do (B := B) (k := k) h2 (hstep i oi h2 l f w (by first | exact h1 | simpa using h1) h3 hI) a ha
      refine wpOp_mono (fun a' w' h5 => ?_) h4
      obtain ⟨f', ha', hI'⟩ := h5
      have h6 : i < ops.size := (Array.getElem?_eq_some_iff.1 h2).1
      have h7 : i < l.toList.length := by simp; omega
      refine rg_any hord hstep hend m _ a' w' f' (by simp [hs]) ha' hI' ?_
      rw [Array.toList_setIfInBounds, List.count_set h7]
      have h8 : l.toList[i] = false := by
        have h9 : i < l.size := by omega
        simp [h9] at h1
        simpa using h1
      have h10 : 0 < l.toList.count false := List.count_pos_iff.2 (h8 ▸ List.getElem_mem h7)
      simp [h8]
      simp at hc h10
      omega
theorem h_rg {id : Nat} {f : Fr} {w : World} {ol : List Oper} (I : Array Bool → Fr → World → Prop) (hm : P.follows .mixedOrders = true) (hord : ordB ol.toArray = true)
    (h0 : ∀ w1, Evo w w1 [] → I (Array.replicate ol.toArray.size false) f w1)
    (hend : ∀ f w, I (Array.replicate ol.toArray.size true) f w → KF P B n k f w)
    (hstep : ∀ i oi, ol.toArray[i]? = some oi → ∀ l f w, l.getD i true = false → (∀ e ∈ oi.after, Region.binds .any e = true → l.getD e.on false = true) → I l f w → KL P (BI n I (l.setIfInBounds i true)) n ol.toArray [] [oi] f w) :
    KF P B n (.code (.region id ol.toArray true) :: k) f w := by
  intro a ha
  show (Code.region id ol.toArray true).wp P (Kx P B k) a w
  refine wp_region_noPanic (wp_region_any hm (rg_any hord hstep hend _ _ a _ f (by simp) ha (h0 _ (Evo.drew _ _)) ?_))
  simp [List.count_replicate]
def Steps (P : Program) (n : Nat) (I : Array Bool → Fr → World → Prop) (ops : Array Oper) : Nat → List Oper → Prop
  | _, [] => True
  | i, o :: r => (∀ l f w, l.getD i true = false → (∀ e ∈ o.after, Region.binds .any e = true → l.getD e.on false = true) → I l f w → KL P (BI n I (l.setIfInBounds i true)) n ops [] [o] f w) ∧ Steps P n I ops (i + 1) r
theorem Steps.get {ops : Array Oper} : ∀ {r : List Oper} {i : Nat}, Steps P n I ops i r → ∀ j o, r[j]? = some o → ∀ l f w, l.getD (i + j) true = false → (∀ e ∈ o.after, Region.binds .any e = true → l.getD e.on false = true) → I l f w → KL P (BI n I (l.setIfInBounds (i + j) true)) n ops [] [o] f w
  | [], _, _, j, o, hj => by simp at hj
  | a :: r, i, h, 0, o, hj => by
    simp at hj; subst hj
    exact h.1
  | a :: r, i, h, j + 1, o, hj => by
    have := Steps.get h.2 j o (by simpa using hj)
    rw [show i + (j + 1) = i + 1 + j by omega]
    exact this
theorem rg_end {f : Fr} {w : World} {l : Array Bool} (h : I l f w) : KL P (BI n I l) n ops [] [] f w := fun _ ha => ⟨f, ha, h⟩
theorem h_rgs {id : Nat} {f : Fr} {w : World} {ol : List Oper} (I : Array Bool → Fr → World → Prop) (hm : P.follows .mixedOrders = true) (hord : ordB ol.toArray = true)
    (h0 : ∀ w1, Evo w w1 [] → I (Array.replicate ol.toArray.size false) f w1)
    (hend : ∀ f w, I (Array.replicate ol.toArray.size true) f w → KF P B n k f w)
    (hstep : Steps P n I ol.toArray 0 ol) : KF P B n (.code (.region id ol.toArray true) :: k) f w :=
  h_rg I hm hord h0 hend fun i oi hi l f w h1 h2 h3 => by
    have := hstep.get i oi (by simpa using hi) l f w (by simpa using h1) h2 h3
    simpa using this
theorem h_rgm {id : Nat} {f : Fr} {w : World} {ol : List Oper} (M : List Nat) (I : Array Bool → Fr → World → Prop) (hm : P.follows .mixedOrders = true) (hord : ordB ol.toArray = true)
    (h0 : ∀ w1, Evo w w1 [] → I (Array.replicate ol.toArray.size false) f w1)
    (hend : ∀ g w, I (Array.replicate ol.toArray.size true) g w → KF P B n k (merge M f g) w)
    (hstep : Steps P n (fun l g w => I l g w ∧ Agree M f g) ol.toArray 0 ol) : KF P B n (.code (.region id ol.toArray true) :: k) f w :=
  h_rgs (fun l g w => I l g w ∧ Agree M f g) hm hord (fun w1 he => ⟨h0 w1 he, Agree.refl _ _⟩) (fun g w ⟨h1, h2⟩ => by have := hend g w h1; rwa [merge_of h2] at this) hstep
theorem rg_step {f g : Fr} {M : List Nat} {ops : Array Oper} {w : World} {l : List Oper} {B' : Exit → Act → World → Prop} (hA : Agree M f g) (h : KL P B' n ops [] l (merge M f g) w) : KL P B' n ops [] l g w := by rwa [merge_of hA] at h
end
section
variable {P : Program} {B : Exit → Act → World → Prop} {n : Nat} {k : List Kont} {f : Fr} {w : World} {ops : Array Oper} {S : World → Prop} {fuel : Nat} {d : List Nat}
theorem h_takeY {i s j sj : Nat} {b : Bool} {g : Prop} [Decidable g] {oi : Oper} {v : Value} (hi : ops[i]? = some oi) (hgd : oi.guard = some (j, b)) (hj : (ops[j]?).bind (·.dst) = some sj) (hw : Wanted f sj b g) (hg : g) (hdst : oi.dst = some s) (hd : Nat.blt s n = true) (hc : takeB ops d i = true)
    (hrun : ∀ w', S w' → (execOp (opv f) oi).run P w' = .ok (.value v) w') (hS : S w) (h : HA P B n k S ops fuel (i :: d) (upd f s v) w) : HA P B n k S ops (fuel + 1) d f w := by
  intro a ha
  simp only [takeB, Bool.and_eq_true] at hc
  have hwa := (wanted_of ha hj hw).1 hg
  refine AnyF_take (v := v) hi hc.1.1.1 hc.1.1.2 hc.1.2 hc.2 (fun _ _ _ h => (h : False).elim) (.inl ⟨by simp only [Region.wanted, hgd]; exact hwa, fun w' hw' => ?_⟩) hS ?_
  · rw [ha.eval]; exact hrun w' hw'
  · rw [hdst]; exact h _ (ha.put hd v)
end
def depB (o : Oper) (j : Nat) : Bool := o.after.any fun e => Region.binds .any e && Nat.beq e.on j
theorem dep_of {o : Oper} {l : Array Bool} (hd : ∀ e ∈ o.after, Region.binds .any e = true → l.getD e.on false = true) (j : Nat) (h : depB o j = true) : l.getD j false = true := by
  obtain ⟨e, he, hb⟩ := Array.any_eq_true'.1 h
  simp only [Bool.and_eq_true] at hb
  have := hd e he hb.1
  have h2 : e.on = j := by simpa using hb.2
  rwa [h2] at this
theorem un_false {l : Array Bool} {i : Nat} (h : l.getD i true = false) : l.getD i false = false ∧ i < l.size := by
  rcases Nat.lt_or_ge i l.size with h1 | h1
  · simp [h1] at h ⊢; exact h
  · simp [Array.getElem?_eq_none h1] at h
theorem set_ne {l : Array Bool} {i j : Nat} (h : j ≠ i) : (l.setIfInBounds i true).getD j false = l.getD j false := by
  simp [Array.getElem?_setIfInBounds, Ne.symm h]
theorem set_eq {l : Array Bool} {i : Nat} (h : i < l.size) : (l.setIfInBounds i true).getD i false = true := by
  simp [h]
theorem same_merge {M : List Nat} {f g : Fr} : ∀ q, elemN q M = true → merge M f g q = g q := fun q h => by simp only [merge, h, cond_true]
theorem same_know {M : List Nat} {f g : Fr} {i : Nat} {v : Value} (h : ∀ q, elemN q M = true → f q = g q) (hv : g i = v) : ∀ q, elemN q M = true → upd f i v q = g q := fun q hq => by
  by_cases e : q = i
  · subst e; rw [upd_same, hv]
  · rw [upd_ne _ _ _ _ e]; exact h q hq
theorem same_put {M : List Nat} {f g : Fr} {d : Nat} {v : Value} (h : ∀ q, elemN q M = true → f q = g q) : ∀ q, elemN q M = true → q ≠ d → upd f d v q = g q := fun q hq hne => by rw [upd_ne _ _ _ _ hne]; exact h q hq
def M9 : List Nat := [9, 31, 32, 33, 34, 35, 36, 37, 38, 39, 40, 41]
def slot9 (j : Nat) : Nat := [31, 32, 33, 34, 35, 36, 37, 38, 39, 40, 41, 9].getD j 0
def cn9 (l : Array Bool) : Nat := (l.getD 2 false).toNat + (l.getD 7 false).toNat
def Phi9 (z bs EN : Nat) : Nat → Fr → World → Prop
  | 0, g, w => ∃ b, (z ≤ b ∧ b < w.heap.size) ∧ g 31 = .slice (some ⟨b, 0, none⟩) 5 5 ∧ RowE w (some ⟨b, 0, none⟩) b 0 5 stripsL
  | 1, g, _ => g 32 = .pointer (some ⟨bs, 0, none⟩)
  | 2, g, _ => ∃ r, g 33 = .int .i64 r ∧ 0 ≤ r ∧ r < 5
  | 3, g, w => ∃ b j s, (z ≤ b ∧ b < w.heap.size) ∧ g 34 = .pointer (some ⟨b, j, none⟩) ∧ At w b j [S s] ∧ s ∈ stripsL
  | 4, g, _ => ∃ s, g 35 = S s ∧ s ∈ stripsL
  | 5, g, w => ∃ b, (z ≤ b ∧ b < w.heap.size) ∧ g 36 = .slice (some ⟨b, 0, none⟩) 6 6 ∧ RowE w (some ⟨b, 0, none⟩) b 0 6 addsL
  | 6, g, _ => g 37 = .pointer (some ⟨bs, 0, none⟩)
  | 7, g, _ => ∃ r, g 38 = .int .i64 r ∧ 0 ≤ r ∧ r < 6
  | 8, g, w => ∃ b j s, (z ≤ b ∧ b < w.heap.size) ∧ g 39 = .pointer (some ⟨b, j, none⟩) ∧ At w b j [S s] ∧ s ∈ addsL
  | 9, g, _ => ∃ s, g 40 = S s ∧ s ∈ addsL
  | 10, g, _ => ∃ s t, g 41 = .agg #[S s, S t] ∧ s ∈ stripsL ∧ t ∈ addsL
  | 11, g, w => ∃ b, (z ≤ b ∧ b < w.heap.size) ∧ g 9 = .pointer (some ⟨b, 0, none⟩) ∧ ∃ s t, Blk w b EN [S s, S t]
  | _, _, _ => True
def Fin9 (z EN : Nat) (g : Fr) (w : World) : Prop := ∃ b s t, (z ≤ b ∧ b < w.heap.size) ∧ g 9 = .pointer (some ⟨b, 0, none⟩) ∧ Blk w b EN [S s, S t] ∧ s ∈ stripsL ∧ t ∈ addsL
def I9 (wR : World) (bs EN T N2 : Nat) (c : Value) (l : Array Bool) (g : Fr) (w : World) : Prop :=
  Evo wR w [bs] ∧ Blk w bs T [c, .int .i64 (N2 + cn9 l : Nat)] ∧ ((l.getD 12 false = false ∧ ∀ j, l.getD j false = true → Phi9 wR.heap.size bs EN j g w) ∨ (l.getD 12 false = true ∧ Fin9 wR.heap.size EN g w ∧ ∀ j, j < 12 → l.getD j false = true))
theorem stab9 {z bs EN d : Nat} (hbs : bs < z) {g g' : Fr} {w w' : World} (he : Evo w w' [bs]) (hfr : ∀ q, elemN q M9 = true → q ≠ d → g' q = g q) : ∀ j, slot9 j ≠ d → Phi9 z bs EN j g w → Phi9 z bs EN j g' w' := by
  have hsz := he.size
  intro j hj h
  match j with
  | 0 => obtain ⟨b, h1, h2, h3⟩ := h; exact ⟨b, by omega, by rw [hfr 31 rfl hj]; exact h2, h3.evo he θ⟩
  | 1 => show g' 32 = _; rw [hfr 32 rfl hj]; exact h
  | 2 => obtain ⟨r, h2, h3⟩ := h; exact ⟨r, by rw [hfr 33 rfl hj]; exact h2, h3⟩
  | 3 => obtain ⟨b, q, s, h1, h2, h3, h4⟩ := h; exact ⟨b, q, s, by omega, by rw [hfr 34 rfl hj]; exact h2, h3.evo he θ, h4⟩
  | 4 => obtain ⟨r, h2, h3⟩ := h; exact ⟨r, by rw [hfr 35 rfl hj]; exact h2, h3⟩
  | 5 => obtain ⟨b, h1, h2, h3⟩ := h; exact ⟨b, by omega, by rw [hfr 36 rfl hj]; exact h2, h3.evo he θ⟩
  | 6 => show g' 37 = _; rw [hfr 37 rfl hj]; exact h
  | 7 => obtain ⟨r, h2, h3⟩ := h; exact ⟨r, by rw [hfr 38 rfl hj]; exact h2, h3⟩
  | 8 => obtain ⟨b, q, s, h1, h2, h3, h4⟩ := h; exact ⟨b, q, s, by omega, by rw [hfr 39 rfl hj]; exact h2, h3.evo he θ, h4⟩
  | 9 => obtain ⟨r, h2, h3⟩ := h; exact ⟨r, by rw [hfr 40 rfl hj]; exact h2, h3⟩
  | 10 => obtain ⟨s, t, h2, h3⟩ := h; exact ⟨s, t, by rw [hfr 41 rfl hj]; exact h2, h3⟩
  | 11 => obtain ⟨b, h1, h2, s, t, h3⟩ := h; exact ⟨b, by omega, by rw [hfr 9 rfl hj]; exact h2, s, t, h3.evo he θ⟩
  | _ + 12 => trivial
theorem slot9_ne {i j : Nat} (hi : i < 12) (hj : j < 12) (h : j ≠ i) : slot9 j ≠ slot9 i := by
  have : ∀ i, i < 12 → ∀ j, j < 12 → j ≠ i → slot9 j ≠ slot9 i := by decide
  exact this i hi j hj h
theorem cn9_set {l : Array Bool} {i : Nat} (h2 : i ≠ 2) (h7 : i ≠ 7) : cn9 (l.setIfInBounds i true) = cn9 l := by
  unfold cn9; rw [set_ne (Ne.symm h2), set_ne (Ne.symm h7)]
theorem cn9_2 {l : Array Bool} (h : l.getD 2 true = false) : cn9 (l.setIfInBounds 2 true) = cn9 l + 1 := by
  have h1 := un_false h
  unfold cn9; rw [set_eq h1.2, set_ne (by decide), h1.1]; simp; omega
theorem cn9_7 {l : Array Bool} (h : l.getD 7 true = false) : cn9 (l.setIfInBounds 7 true) = cn9 l + 1 := by
  have h1 := un_false h
  unfold cn9; rw [set_eq h1.2, set_ne (by decide), h1.1]; simp
theorem cn9_le (l : Array Bool) : cn9 l ≤ 2 := by
  unfold cn9
  have := Bool.toNat_le (l.getD 2 false); have := Bool.toNat_le (l.getD 7 false)
  omega
theorem I9.deps {wR w : World} {bs EN T N2 : Nat} {c : Value} {l : Array Bool} {g : Fr} {i : Nat} (hi : i < 13) (hu : l.getD i true = false) (h : I9 wR bs EN T N2 c l g w) :
    Evo wR w [bs] ∧ Blk w bs T [c, .int .i64 (N2 + cn9 l : Nat)] ∧ l.getD 12 false = false ∧ ∀ j, l.getD j false = true → Phi9 wR.heap.size bs EN j g w := by
  obtain ⟨h1, h2, h3 | h3⟩ := h
  · exact ⟨h1, h2, h3.1, h3.2⟩
  · by_cases h12 : i = 12
    · subst h12
      rw [(un_false hu).1] at h3; exact absurd h3.1 (by simp)
    · have := h3.2.2 i ω; rw [(un_false hu).1] at this; cases this
theorem I9.step {wR w w' : World} {bs EN T N2 : Nat} {c : Value} {l : Array Bool} {g g' : Fr} {i : Nat} (hi : i < 12) (hu : l.getD i true = false) (hbs : bs < wR.heap.size) (h12 : l.getD 12 false = false) (hP : ∀ j, l.getD j false = true → Phi9 wR.heap.size bs EN j g w)
    (he1 : Evo w w' [bs]) (he : Evo wR w' [bs]) (hb : Blk w' bs T [c, .int .i64 (N2 + cn9 (l.setIfInBounds i true) : Nat)]) (hfr : ∀ q, elemN q M9 = true → q ≠ slot9 i → g' q = g q) (hn : Phi9 wR.heap.size bs EN i g' w') :
    I9 wR bs EN T N2 c (l.setIfInBounds i true) g' w' := by
  refine ⟨he, hb, .inl ⟨by rw [set_ne ω]; exact h12, fun j hj => ?_⟩⟩
  by_cases hji : j = i
  · subst hji; exact hn
  · rw [set_ne hji] at hj
    by_cases hj12 : j < 12
    · exact stab9 hbs he1 hfr j (slot9_ne hi hj12 hji) (hP j hj)
    · match j, hj12 with
      | j + 12, _ => trivial
      | 0, h | 1, h | 2, h | 3, h | 4, h | 5, h | 6, h | 7, h | 8, h | 9, h | 10, h | 11, h => exact absurd (by decide) h
theorem I9.last {wR w' : World} {bs EN T N2 : Nat} {c : Value} {l : Array Bool} {g' : Fr} (hu : l.getD 12 true = false) (hall : ∀ j, j < 12 → l.getD j false = true)
    (he : Evo wR w' [bs]) (hb : Blk w' bs T [c, .int .i64 (N2 + cn9 (l.setIfInBounds 12 true) : Nat)]) (hn : Fin9 wR.heap.size EN g' w') : I9 wR bs EN T N2 c (l.setIfInBounds 12 true) g' w' :=
  ⟨he, hb, .inr ⟨set_eq (un_false hu).2, hn, fun j hj => by rw [set_ne ω]; exact hall j hj⟩⟩
theorem I9.init {wR w : World} {bs EN T N2 : Nat} {c : Value} {g : Fr} (he : Evo wR w [bs]) (hb : Blk w bs T [c, .int .i64 (N2 : Nat)]) : I9 wR bs EN T N2 c (Array.replicate 13 false) g w :=
  ⟨he, hb, .inl ⟨rfl, fun j hj => by
    rcases Nat.lt_or_ge j 13 with h | h
    · simp [h] at hj
    · simp [Array.getElem?_eq_none (show (Array.replicate 13 false).size ≤ j by simpa using h)] at hj⟩⟩
theorem I9.done {wR w : World} {bs EN T N2 : Nat} {c : Value} {g : Fr} (h : I9 wR bs EN T N2 c (Array.replicate 13 true) g w) : Evo wR w [bs] ∧ Blk w bs T [c, .int .i64 (N2 + 2 : Nat)] ∧ Fin9 wR.heap.size EN g w := by
  obtain ⟨h1, h2, h3 | h3⟩ := h
  · exact absurd h3.1 (by decide)
  · exact ⟨h1, h2, h3.2.1⟩
theorem elem_in {w : World} {b j k : Nat} {l : List Str} {cap : Nat} (h : RowE w (some ⟨b, 0, none⟩) b 0 cap l) (hk : k < l.length) (hj : j = 0 + k * 1) : ∃ s, At w b j [S s] ∧ s ∈ l := by
  subst hj
  exact ⟨_, h.at k hk, List.getElem_mem hk⟩
theorem deps_all {o : Oper} {l : Array Bool} {m : Nat} (hd : ∀ e ∈ o.after, Region.binds .any e = true → l.getD e.on false = true) (h : (List.range m).all (depB o) = true) : ∀ j, j < m → l.getD j false = true := fun j hj =>
  dep_of hd j (List.all_eq_true.1 h j (List.mem_range.2 hj))
end Go.Vc
namespace Go.Proofs.YtlfjocbnbceceaaGreatDoor
open Go.RowKit Go.Vc
theorem pl_110 : placesP Tryz.prog 110 = some [(0, 1), (1, 1)] := ζ
theorem pl_112 : placesP Tryz.prog 112 = some [(0, 1), (1, 1)] := ζ
theorem ty_108 : tyP Tryz.prog 108 = some (1, 24, some (.slice none 0 0)) := ζ
theorem ee_112 : ∀ (w : World) (x y : Ende), (Op.equalIn 10000 112 (.agg (Enc.enc x).toArray) (.agg (Enc.enc y).toArray)).run Tryz.prog w = .ok (decide (x = y)) w := fun w x y => equalIn_ende 9998 Tryz.underlying112 Tryz.stoodInHeld112 (by decide) (by decide) rfl rfl Tryz.underlying9 Tryz.underlying9 ag_9 ag_9 x y
theorem mem_takeS {α : Type} [Inhabited α] {x : α} {l : List α} {k : Nat} (h : k < l.length) : (x ∈ l.take k ∨ x = l.getD k default) ↔ x ∈ l.take (k + 1) := by
  rw [take_succD l k h, List.mem_append, List.mem_singleton]
theorem pos_all {α : Type} [Inhabited α] {l : List α} {x : α} {k : Nat} (h : ∀ j, j < k → ¬ x = l.getD j default) (hk : l.length ≤ k) : ¬ x ∈ l := fun hx => by
  obtain ⟨j, hj, rfl⟩ := List.mem_iff_getElem.1 hx
  exact h j ω (by simp [List.getD, hj])
theorem pos_at {α : Type} [Inhabited α] {l : List α} {x : α} {k : Nat} (hk : k < l.length) (h : x = l.getD k default) : x ∈ l := by rw [h]; exact getD_in hk
def endedL (b : List Ende) (x : Ende) : Int := if (smallL x.strip = true ∧ x.strip.length ≤ 8) ∧ (smallL x.add = true ∧ x.add.length ≤ 8) then (if x ∈ b then 5 else 0) else 1
def firstE (f : Nat → Int) : Nat → Int
  | 0 => 0
  | n + 1 => if firstE f n = 0 then f n else firstE f n
theorem firstE_none {f : Nat → Int} : ∀ {n : Nat}, (∀ j, j < n → f j = 0) → firstE f n = 0
  | 0, _ => rfl
  | n + 1, h => by unfold firstE; rw [if_pos (firstE_none (fun j hj => h j ω))]; exact h n ω
theorem firstE_at {f : Nat → Int} {k : Nat} (h : ∀ j, j < k → f j = 0) (hk : ¬ f k = 0) : ∀ {n : Nat}, k < n → firstE f n = f k
  | 0, h1 => by omega
  | n + 1, h1 => by
    by_cases e : k = n
    · subst e; unfold firstE; rw [if_pos (firstE_none h)]
    · have := firstE_at h hk (n := n) ω
      unfold firstE; rw [this, if_neg hk]
def endsErr (es : List Ende) : Int := firstE (fun k => endedL (es.take k) (es.getD k default)) es.length
def classErr (c : List Clas) (i : Nat) : Int := if namedL (c.take i) (c.getD i default).name = 0 then (if 16 < (c.getD i default).ends.length then 3 else endsErr (c.getD i default).ends) else namedL (c.take i) (c.getD i default).name
def validC (c : List Clas) : Int := if 32 < c.length then 3 else firstE (classErr c) c.length
theorem cls_named {c : List Clas} {i : Nat} (h : ¬ namedL (c.take i) (c.getD i default).name = 0) : classErr c i = namedL (c.take i) (c.getD i default).name := by unfold classErr; rw [if_neg h]
theorem cls_many {c : List Clas} {i : Nat} (h : namedL (c.take i) (c.getD i default).name = 0) (h2 : 16 < (c.getD i default).ends.length) : classErr c i = 3 := by unfold classErr; rw [if_pos h, if_pos h2]
theorem cls_ends {c : List Clas} {i : Nat} (h : namedL (c.take i) (c.getD i default).name = 0) (h2 : ¬ 16 < (c.getD i default).ends.length) : classErr c i = endsErr (c.getD i default).ends := by unfold classErr; rw [if_pos h, if_neg h2]
theorem valid_at {c : List Clas} {i : Nat} {e : Int} (h : ¬ 32 < c.length) (h1 : ∀ j, j < i → classErr c j = 0) (h2 : classErr c i = e) (h3 : ¬ e = 0) (hi : i < c.length) : validC c = e := by
  unfold validC; rw [if_neg h, firstE_at h1 (by rw [h2]; exact h3) hi, h2]
theorem valid_ok {c : List Clas} {i : Nat} (h : ¬ 32 < c.length) (h1 : ∀ j, j < i → classErr c j = 0) (hi : c.length ≤ i) : validC c = 0 := by
  unfold validC; rw [if_neg h, firstE_none (fun j hj => h1 j ω)]
theorem ends_err {es : List Ende} {k : Nat} (h : ∀ j, j < k → endedL (es.take j) (es.getD j default) = 0) (h2 : ¬ endedL (es.take k) (es.getD k default) = 0) (hk : k < es.length) : endsErr es = endedL (es.take k) (es.getD k default) := firstE_at h h2 hk
theorem ends_ok {es : List Ende} {k : Nat} (h : ∀ j, j < k → endedL (es.take j) (es.getD j default) = 0) (hk : es.length ≤ k) : endsErr es = 0 := firstE_none (fun j hj => h j ω)
theorem ixende_calls {ao : Option Addr} {b off cap : Nat} {es : List Ende} {x : Ende} {w0 : World} (he : RowE w0 ao b off cap es) :
    Calls Tryz.prog 184 #[.slice ao es.length cap, (.agg (Enc.enc x).toArray)] w0 fun e w' => ∃ z : Int, e = .returned (.int .i64 z) ∧ (0 ≤ z ↔ x ∈ es) ∧ Evo w0 w' [] := by
 refine calls_enter (n := 19) Tryz.func184 rfl Tryz.ntmps184 rfl ?_
 have hV : Evo w0 w0 [] := Evo.refl _ _
 have he0 := keepE he
 have hbd_he := he.bd
 refine Zs ?_
 refine r_box (vs := [_, _]) η η rfl ?_
 intro b1 w2 J1 E2 B1 Y1
 have Q2 := E2.size
 replace hV := Z0 hV E2
 replace he := he0 _ hV
 have hAb1 := B1.at
 refine Zn asI ?_
 refine r_seq ?_
 refine Zs ?_
 refine Zo mvS ?_
 refine Zo (run_lenSl rfl η Tryz.underlying108) ?_
 refine Zn mvI ?_
 refine r_block ?_
 refine r_loop (α := Nat) [4, 5, 8, 9, 10, 11, 12, 13, 14, 15, 16, 17, 18] (fun k g w => g 8 = .int .i64 (k : Nat) ∧ k ≤ es.length ∧ Blk w b1 112 (Enc.enc x) ∧ At w b1 0 (Enc.enc x) ∧ (∀ j, j < k → ¬ x = es.getD j default) ∧ w2.heap.size ≤ w.heap.size ∧ Evo w0 w []) (fun k => es.length - k) 0 ?_ ?_
 ·refine ⟨σ, δ, B1, hAb1, (fun j h => by omega), δ, hV⟩
 rintro k g w4 ⟨hj5, hk_k, B1, hAb1, hno, hzl3, hV⟩
 have hs_w4hV := hV.size
 have hlt6 := B1.lt
 refine Zk 8 (v := .int .i64 (k : Nat)) (by exact hj5) ?_
 refine Zs ?_
 refine Zn (run_lss rfl η η) ?_
 refine r_seq ?_
 refine r_cond η (fun hc7 => ?_) (fun hc7 => ?_)
 ·skip
  refine r_skip ?_
  refine r_seq ?_
  refine r_block ?_
  refine Zs ?_
  refine Zo mvI ?_
  refine Zn asI ?_
  refine r_seq ?_
  have hbb1_q := B1
  have hAb1_q := hAb1
  have hV_q := hV
  refine h_region ([]) ζ ?_
  intro w8 F9 hCst4
  have Q8 := F9.size
  replace hV := Z0 hV F9
  replace he := he0 _ hV
  replace B1 := B1.evo0 F9
  replace hAb1 := hAb1.evo0 F9
  refine Zt (i := 0) η (fun w' hC => run_ldN rfl ag_112 ty_112 η rfl (hAb1_q.evo0 hC)) hCst4 ?_
  refine Zt (i := 1) η (fun w' hC => mvS) hCst4 ?_
  refine Zt (i := 2) η (fun w' hC => mvI) hCst4 ?_
  refine Zt (i := 3) η (fun w' hC => run_ix (k) rfl Tryz.underlying108 ty_112 η η (by first | exact rfl | omega) ω (he.addr (i := k) ω)) hCst4 ?_
  have hA100 := fun (w' : World) (h : Evo w0 w' []) => (he0 w' h).atD (k) ω
  have hA10 := hA100 _ hV
  refine Zt (i := 4) η (fun w' hC => run_ldN rfl ag_112 ty_112 η rfl (hA100 _ (evo_step0 hV_q hC))) hCst4 ?_
  refine Zt (i := 5) η (fun w' hC => run_eqlG (α := Ende) _ _ rfl Tryz.eqGuardType112 ee_112 η η) hCst4 ?_
  refine h_done ζ ?_
  refine r_cond η (fun hc11 => ?_) (fun hc11 => ?_)
  ·skip
   refine Zs ?_
   refine Zo mvI ?_
   refine Zn asI ?_
   refine r_ret (res1 (v := .int _ _) rfl η) ?_
   exact ⟨_, rfl, ⟨fun _ => pos_at ω hc11, fun _ => by omega⟩, hV⟩
  refine r_skip ?_
  refine r_blk ?_
  refine r_region ?_
  refine Zo (run_add rfl η η ω ω) ?_
  refine Zn mvI ?_
  refine r_again (k + 1) ?_ ?_ ?_
  ·first | omega | (dsimp only; omega)
  ·refine ⟨σ, δ, B1, hAb1, (upto0 hno hc11), δ, hV⟩
  exact ψ
 refine r_exit rfl ?_
 refine Zs ?_
 refine Zn asI ?_
 refine r_ret (res1 (v := .int _ _) rfl η) ?_
 exact ⟨_, rfl, ⟨fun h => by omega, fun h => absurd h (pos_all hno ω)⟩, hV⟩
theorem contende_calls {ao : Option Addr} {b off cap : Nat} {es : List Ende} {x : Ende} {w0 : World} (he : RowE w0 ao b off cap es) :
    Calls Tryz.prog 142 #[.slice ao es.length cap, (.agg (Enc.enc x).toArray)] w0 fun e w' => e = .returned (.bool (decide (x ∈ es))) ∧ Evo w0 w' [] := by
 refine calls_enter (n := 9) Tryz.func142 rfl Tryz.ntmps142 rfl ?_
 have hV : Evo w0 w0 [] := Evo.refl _ _
 have he0 := keepE he
 have hbd_he := he.bd
 refine Zs ?_
 refine r_box (vs := [_, _]) η η rfl ?_
 intro b1 w2 J1 E2 B1 Y1
 have Q2 := E2.size
 replace hV := Z0 hV E2
 replace he := he0 _ hV
 refine Zn asB ?_
 refine Zs ?_
 refine Zo mvS ?_
 refine Zo (run_ldN rfl ag_112 ty_112 η rfl B1.at) ?_
 refine Zr [.slice _ _ _, .agg _] rfl η Tryz.func184 (ixende_calls he) ?_
 rintro e w3 ⟨zx3, rfl, hzx3, F3⟩
 refine ⟨_, rfl, ?_⟩
 have Q3 := F3.size
 replace hV := Z0 hV F3
 refine Zo (run_geq rfl η η) ?_
 refine Zn asB ?_
 refine r_ret (res1 (v := .bool _) rfl η) ?_
 exact ⟨ret_bool (decide_eq_decide.2 hzx3), hV⟩
theorem ended_bad {b : List Ende} {p q : Str} (h : ¬ ((smallL p = true ∧ p.length ≤ 8) ∧ (smallL q = true ∧ q.length ≤ 8))) : endedL b ⟨p, q⟩ = 1 := if_neg h
theorem ended_dup {b : List Ende} {p q : Str} (h : (smallL p = true ∧ p.length ≤ 8) ∧ (smallL q = true ∧ q.length ≤ 8)) (h2 : (⟨p, q⟩ : Ende) ∈ b) : endedL b ⟨p, q⟩ = 5 := by unfold endedL; rw [if_pos h, if_pos h2]
theorem ended_ok {b : List Ende} {p q : Str} (h : (smallL p = true ∧ p.length ≤ 8) ∧ (smallL q = true ∧ q.length ≤ 8)) (h2 : ¬ (⟨p, q⟩ : Ende) ∈ b) : endedL b ⟨p, q⟩ = 0 := by unfold endedL; rw [if_pos h, if_neg h2]
theorem end_c1 {p q : Str} : ((8 : Int) < (p.length : Int) ∨ (8 : Int) < (q.length : Int) ∨ smallL p = false ∨ smallL q = false) ↔ ¬ ((smallL p = true ∧ p.length ≤ 8) ∧ (smallL q = true ∧ q.length ≤ 8)) := by
  by_cases h1 : smallL p = true <;> by_cases h2 : smallL q = true <;> simp [h1, h2] <;> omega
theorem end_n1 {p q : Str} (h : (((p.length : Int) ≤ 8 ∧ (q.length : Int) ≤ 8) ∧ smallL p = true) ∧ smallL q = true) : (smallL p = true ∧ p.length ≤ 8) ∧ (smallL q = true ∧ q.length ≤ 8) := ⟨⟨h.1.2, by omega⟩, h.2, by omega⟩
theorem ending_calls {ao : Option Addr} {b off cap : Nat} {es : List Ende} {p q : Str} {w0 : World} (he : RowE w0 ao b off cap es) (hp : p.length ≤ 140737488355328) (hq : q.length ≤ 140737488355328) :
    Calls Tryz.prog 95 #[.slice ao es.length cap, (.agg #[S p, S q])] w0 fun e w' => e = .returned (.int .i64 (endedL es ⟨p, q⟩)) ∧ Evo w0 w' [] := by
 refine calls_enter (n := 32) Tryz.func95 rfl Tryz.ntmps95 rfl ?_
 have hV : Evo w0 w0 [] := Evo.refl _ _
 have he0 := keepE he
 have hbd_he := he.bd
 refine Zs ?_
 refine r_box (vs := [_, _]) η η rfl ?_
 intro b1 w2 J1 E2 B1 Y1
 have Q2 := E2.size
 replace hV := Z0 hV E2
 refine Zn asI ?_
 refine r_seq ?_
 refine r_block ?_
 refine Zs ?_
 refine Zo (run_fa rfl η fo_112_0) ?_
 refine Zo (run_ld1 rfl ag_9 η (B1.at.cell 0 η)) ?_
 refine Zo (run_lenS rfl η Tryz.underlying9) ?_
 refine Zo (run_gtr rfl η η) ?_
 refine Zo mvB ?_
 refine r_g rfl (wantF η) rfl (fun hg => run_fa rfl η fo_112_1) ?_
 refine r_g rfl (wantF η) rfl (fun hg => run_ld1 rfl ag_9 (glv η (fun h => h) hg) (B1.at.cell 1 η)) ?_
 refine r_g rfl (wantF η) rfl (fun hg => run_lenS rfl (glv η (fun h => h) hg) Tryz.underlying9) ?_
 refine r_g rfl (wantF η) rfl (fun hg => run_gtr rfl (glv η (fun h => h) hg) η) ?_
 refine Zo (run_pick_or rfl η rfl (fun hq => glv η (fun h => h) hq)) ?_
 refine Zo mvB ?_
 refine r_g rfl (wantF η) rfl (fun hg => run_fa rfl η fo_112_0) ?_
 refine r_g rfl (wantF η) rfl (fun hg => run_ld1 rfl ag_9 (glv η (fun h => h) hg) (B1.at.cell 0 η)) ?_
 refine r_gcall rfl (wantF η) rfl (fun hg => run_callf rfl (argcons (v := S _) (glv η (fun h => h) hg) (rfl)) Tryz.func141 rfl ζ) (fun hg => (small_calls (by first | omega | (simp; omega))).mono (fun e w' h => ⟨h.1, h.2⟩)) (fun w3 F4 => ?_)
 have Q3 := F4.size
 replace hV := Z0 hV F4
 replace B1 := B1.evo0 F4
 refine r_g rfl (wantF η) rfl (fun hg => run_notb rfl (glv η (fun h => h) hg)) ?_
 refine Zo (run_pick_orB rfl η rfl (fun hq => glv η (fun h => h) hq)) ?_
 refine Zo mvB ?_
 refine r_g rfl (wantF η) rfl (fun hg => run_fa rfl η fo_112_1) ?_
 refine r_g rfl (wantF η) rfl (fun hg => run_ld1 rfl ag_9 (glv η (fun h => h) hg) (B1.at.cell 1 η)) ?_
 refine r_gcall rfl (wantF η) rfl (fun hg => run_callf rfl (argcons (v := S _) (glv η (fun h => h) hg) (rfl)) Tryz.func141 rfl ζ) (fun hg => (small_calls (by first | omega | (simp; omega))).mono (fun e w' h => ⟨h.1, h.2⟩)) (fun w5 F6 => ?_)
 have Q5 := F6.size
 replace hV := Z0 hV F6
 replace he := he0 _ hV
 replace B1 := B1.evo0 F6
 refine r_g rfl (wantF η) rfl (fun hg => run_notb rfl (glv η (fun h => h) hg)) ?_
 refine Zo (run_pick_orB rfl η rfl (fun hq => glv η (fun h => h) hq)) ?_
 refine Zn asB ?_
 refine r_cond η (fun hc7 => ?_) (fun hc7 => ?_)
 ·skip
  refine Zs ?_
  refine Zn asI ?_
  refine r_ret (res1 (v := .int _ _) rfl η) ?_
  exact ⟨ret_int (by rw [ended_bad (end_c1.1 (by simpa [or_assoc] using hc7))]), hV⟩
 refine Zs ?_
 refine Zo mvS ?_
 refine Zo (run_ldN rfl ag_112 ty_112 η rfl B1.at) ?_
 refine Zr [.slice _ _ _, .agg _] rfl η Tryz.func142 (contende_calls (x := ⟨p, q⟩) he) ?_
 rintro e w8 ⟨rfl, F8⟩
 refine ⟨_, rfl, ?_⟩
 have Q8 := F8.size
 replace hV := Z0 hV F8
 refine Zn asB ?_
 refine r_condb η (fun hc9 => ?_) (fun hc9 => ?_)
 ·skip
  refine Zs ?_
  refine Zn asI ?_
  refine r_ret (res1 (v := .int _ _) rfl η) ?_
  exact ⟨ret_int (by rw [ended_dup (end_n1 (by simpa using hc7)) (of_decide_eq_true hc9)]), hV⟩
 refine r_skip ?_
 refine r_blk ?_
 refine Zs ?_
 refine Zn asI ?_
 refine r_ret (res1 (v := .int _ _) rfl η) ?_
 exact ⟨ret_int (by rw [ended_ok (end_n1 (by simpa using hc7)) (of_decide_eq_false hc9)]), hV⟩
theorem validate_calls {ao : Option Addr} {b off cap : Nat} {c : List Clas} {w0 : World} (hc : RowR w0 ao b off cap c) :
    Calls Tryz.prog 53 #[.slice ao c.length cap] w0 fun e w' => e = .returned (.int .i64 (validC c)) ∧ Evo w0 w' [] := by
 have hcb := clas_bd hc
 refine calls_enter (n := 51) Tryz.func53 rfl Tryz.ntmps53 rfl ?_
 have hV : Evo w0 w0 [] := Evo.refl _ _
 have hc0 := hc.keep
 have hbd_hc := hc.bd
 refine Zs ?_
 refine Zn asI ?_
 refine r_seq ?_
 refine Zs ?_
 refine Zo mvS ?_
 refine Zo (run_lenSl rfl η Tryz.underlying26) ?_
 refine Zn (run_gtr rfl η η) ?_
 refine r_cond η (fun hc1 => ?_) (fun hc1 => ?_)
 ·skip
  refine Zs ?_
  refine Zn asI ?_
  refine r_ret (res1 (v := .int _ _) rfl η) ?_
  exact ⟨ret_int (by unfold validC; rw [if_pos ω]), hV⟩
 refine r_skip ?_
 refine r_seq ?_
 refine Zs ?_
 refine Zo mvS ?_
 refine Zo (run_lenSl rfl η Tryz.underlying26) ?_
 refine Zn mvI ?_
 refine r_block ?_
 refine r_loop (α := Nat) [2, 3, 4, 5, 6, 7, 8, 14, 15, 16, 17, 18, 19, 20, 21, 22, 23, 24, 25, 26, 27, 28, 29, 30, 31, 32, 33, 34, 35, 36, 37, 38, 39, 40, 41, 42, 43, 44, 45, 46, 47, 48, 49, 50] (fun i g w => g 14 = .int .i64 (i : Nat) ∧ i ≤ c.length ∧ (∀ j, j < i → classErr c j = 0) ∧ w0.heap.size ≤ w.heap.size ∧ Evo w0 w []) (fun i => c.length - i) 0 ?_ ?_
 ·refine ⟨σ, δ, (fun j h => by omega), δ, hV⟩
 rintro i g w3 ⟨hj4, hk_i, hno, hzl2, hV⟩
 have hs_w3hV := hV.size
 replace hc := hc0.now hV
 refine Zk 14 (v := .int .i64 (i : Nat)) (by exact hj4) ?_
 refine Zs ?_
 refine Zn (run_lss rfl η η) ?_
 refine r_seq ?_
 refine r_cond η (fun hc5 => ?_) (fun hc5 => ?_)
 ·skip
  refine r_skip ?_
  refine r_seq ?_
  refine r_block ?_
  refine Zs ?_
  refine Zo mvI ?_
  refine Zo (run_ix (i) rfl Tryz.underlying26 ty_110 η η (by first | exact rfl | omega) ω (hc.addr (i := i) ω)) ?_
  obtain ⟨ao6, b6, off6, cap6, hX⟩ := clas_atK hc0 (i) ω
  have hA60 := fun (w' : World) (h : Evo w0 w' []) => (hX w' h).1
  have hA6 := hA60 _ hV
  have hR60 := fun (w' : World) (h : Evo w0 w' []) => (hX w' h).2
  have hR6 := hR60 _ hV
  clear hX
  have hbd_hR6 := hR6.bd
  refine Zo (run_ldN rfl ag_110 ty_110 η rfl hA6) ?_
  refine r_alloc (zs := [_, _]) ty_110 η rfl ?_
  intro b7 w8 J7 E8 B7 Y7
  have Q8 := E8.size
  replace hV := Z0 hV E8
  replace hA6 := hA60 _ hV
  have hAb7 := B7.at
  refine Zo asI ?_
  refine r_store (v := .agg _) (vs := [_, _]) (cs' := [_, _]) η η B7 ty_110 η rfl η rfl η ?_
  intro w9 E9 V9 hb_new
  have Q9 := E9.size
  replace hV := Z1 hV E9 ε
  replace hc := hc0.now hV
  replace B7 := hb_new
  have hAb7 := B7.at
  clear hb_new
  refine r_nil ?_
  refine r_seq ?_
  refine r_seq ?_
  refine r_qregion ζ ζ ?_
  refine Zq (fun w' hC => mvS) ?_
  refine Zq (fun w' hC => mvI) ?_
  refine Zq (fun w' hC => run_slR (0) (i) rfl Tryz.underlying26 ty_110 η (hc.evo0 hC) lo0 (at1 η ω) (by first | omega | (simp; omega)) (by first | omega | (simp; omega)) List.drop_zero) ?_
  have hS100 := (by have h9 := (hc0.take (i)).drop (0); rw [List.drop_zero] at h9; exact h9)
  have hS10 := (by have h9 := (hc.take (i)).drop (0); rw [List.drop_zero] at h9; exact h9)
  have hbd_hS10 := hS10.bd
  refine Zq (fun w' hC => run_fa rfl η fo_110_0) ?_
  refine Zq (fun w' hC => run_ld1 rfl ag_9 η ((hAb7.evo0 hC).cell 0 η)) ?_
  refine q_call rfl rfl rfl (fun w' hC => run_callf rfl (argcons (v := .slice _ _ _) η (argcons (v := S _) η (rfl))) Tryz.func94 rfl ζ) (fun w' hC => (named_calls (hS10.evo0 hC)).mono (fun e w'' h => ⟨h.1, evo_step0 hC h.2⟩)) ?_
  refine Zq (fun w' hC => asI) ?_
  refine q_nil (fun w11 F12 => ?_)
  have Q11 := F12.size
  replace hV := Z0 hV F12
  replace hc := hc0.now hV
  replace hR6 := hR60 _ hV
  replace B7 := B7.evo0 F12
  replace hAb7 := hAb7.evo0 F12
  refine Zs ?_
  refine Zo mvI ?_
  refine Zn (run_neq rfl η η) ?_
  refine r_cond η (fun hc13 => ?_) (fun hc13 => ?_)
  ·skip
   refine Zs ?_
   refine Zo mvI ?_
   refine Zn asI ?_
   refine r_ret (res1 (v := .int _ _) rfl η) ?_
   exact ⟨ret_int (by rw [valid_at ω hno (cls_named hc13) hc13 ω]), hV⟩
  refine r_skip ?_
  refine r_seq ?_
  refine Zs ?_
  refine Zo (run_fa rfl η fo_110_1) ?_
  refine Zo (run_ld1 rfl ag_108 η (hAb7.cell 1 η)) ?_
  refine Zo (run_lenSl rfl η Tryz.underlying108) ?_
  refine Zn (run_gtr rfl η η) ?_
  refine r_cond η (fun hc14 => ?_) (fun hc14 => ?_)
  ·skip
   refine Zs ?_
   refine Zn asI ?_
   refine r_ret (res1 (v := .int _ _) rfl η) ?_
   exact ⟨ret_int (by rw [valid_at ω hno (cls_many (Classical.not_not.1 (by assumption)) ω) (by decide) ω]), hV⟩
  refine r_skip ?_
  refine Zs ?_
  refine Zo (run_fa rfl η fo_110_1) ?_
  refine Zo (run_ld1 rfl ag_108 η (hAb7.cell 1 η)) ?_
  refine Zo (run_lenSl rfl η Tryz.underlying108) ?_
  refine Zn mvI ?_
  refine r_block ?_
  refine r_loop (α := Nat) [2, 6, 7, 8, 35, 36, 37, 38, 39, 40, 41, 42, 43, 44, 45, 46, 47, 48, 49] (fun k g w => g 35 = .int .i64 (k : Nat) ∧ k ≤ (c.getD i default).ends.length ∧ At w b7 0 [S (c.getD i default).name, .slice ao6 (c.getD i default).ends.length cap6] ∧ (∀ j, j < k → endedL ((c.getD i default).ends.take j) ((c.getD i default).ends.getD j default) = 0) ∧ w11.heap.size ≤ w.heap.size ∧ Evo w0 w []) (fun k => (c.getD i default).ends.length - k) 0 ?_ ?_
  ·refine ⟨σ, δ, hAb7, (fun j h => by omega), δ, hV⟩
  rintro k g w16 ⟨hj17, hk_k, hAb7, hnk, hzl15, hV⟩
  have hs_w16hV := hV.size
  replace hc := hc0.now hV
  replace hA6 := hA60 _ hV
  replace hR6 := hR60 _ hV
  replace hS10 := hS100.now hV
  refine Zk 35 (v := .int .i64 (k : Nat)) (by exact hj17) ?_
  have hbx := hcb _ (getD_in (show i < c.length by omega))
  refine Zs ?_
  refine Zn (run_lss rfl η η) ?_
  refine r_seq ?_
  refine r_cond η (fun hc18 => ?_) (fun hc18 => ?_)
  ·skip
   refine r_skip ?_
   refine r_seq ?_
   refine r_block ?_
   refine Zs ?_
   refine Zo mvI ?_
   refine Zo (run_ix (k) rfl Tryz.underlying108 ty_112 η η (by first | exact rfl | omega) ω (hR6.addr (i := k) ω)) ?_
   have hA190 := fun (w' : World) (h : Evo w0 w' []) => (hR60 w' h).atD (k) ω
   have hA19 := hA190 _ hV
   refine Zo (run_ldN rfl ag_112 ty_112 η rfl hA19) ?_
   refine r_alloc (zs := [_, _]) ty_112 η rfl ?_
   intro b20 w21 J20 E21 B20 Y20
   have Q21 := E21.size
   replace hV := Z0 hV E21
   replace hAb7 := hAb7.evo0 E21
   replace hA19 := hA190 _ hV
   refine Zo asI ?_
   refine r_store (v := .agg _) (vs := [_, _]) (cs' := [_, _]) η η B20 ty_112 η rfl η rfl η ?_
   intro w22 E22 V22 hb_new
   have Q22 := E22.size
   replace hV := Z1 hV E22 ε
   replace hR6 := hR60 _ hV
   replace hAb7 := hAb7.evo E22 θ
   replace B20 := hb_new
   clear hb_new
   refine r_nil ?_
   refine r_seq ?_
   have hbk := hbx.2.1 _ (getD_in (show k < (c.getD i default).ends.length by omega))
   refine r_qregion ζ ζ ?_
   refine Zq (fun w' hC => run_fa rfl η fo_110_1) ?_
   refine Zq (fun w' hC => run_ld1 rfl ag_108 η ((hAb7.evo0 hC).cell 1 η)) ?_
   refine Zq (fun w' hC => mvI) ?_
   refine Zq (fun w' hC => run_slE (0) (k) rfl Tryz.underlying108 ty_112 η (hR6.evo0 hC) lo0 (at1 η ω) (by first | omega | (simp; omega)) (by first | omega | (simp; omega)) List.drop_zero) ?_
   have hS230 := fun (w' : World) (h : Evo w0 w' []) => (by have h9 := ((hR60 w' h).take (k)).drop (0); rw [List.drop_zero] at h9; exact h9)
   have hS23 := (by have h9 := (hR6.take (k)).drop (0); rw [List.drop_zero] at h9; exact h9)
   have hbd_hS23 := hS23.bd
   refine Zq (fun w' hC => run_ldN rfl ag_112 ty_112 η rfl (B20.at.evo0 hC)) ?_
   refine q_call rfl rfl rfl (fun w' hC => run_callf rfl (argcons (v := .slice _ _ _) η (argcons (v := .agg _) η (rfl))) Tryz.func95 rfl ζ) (fun w' hC => (ending_calls (hS23.evo0 hC) (Nat.le_trans hbk.1 (by decide)) (Nat.le_trans hbk.2 (by decide))).mono (fun e w'' h => ⟨h.1, evo_step0 hC h.2⟩)) ?_
   refine Zq (fun w' hC => asI) ?_
   refine q_nil (fun w24 F25 => ?_)
   have Q24 := F25.size
   replace hV := Z0 hV F25
   replace hc := hc0.now hV
   replace hR6 := hR60 _ hV
   replace hAb7 := hAb7.evo0 F25
   refine Zs ?_
   refine Zo mvI ?_
   refine Zn (run_neq rfl η η) ?_
   refine r_cond η (fun hc26 => ?_) (fun hc26 => ?_)
   ·skip
    refine Zs ?_
    refine Zo mvI ?_
    refine Zn asI ?_
    refine r_ret (res1 (v := .int _ _) rfl η) ?_
    exact ⟨ret_int (by rw [valid_at ω hno ((cls_ends (Classical.not_not.1 (by assumption)) ω).trans (ends_err hnk hc26 ω)) hc26 ω]), hV⟩
   refine r_skip ?_
   refine r_blk ?_
   refine r_region ?_
   refine Zo (run_add rfl η η ω ω) ?_
   refine Zn mvI ?_
   refine r_again (k + 1) ?_ ?_ ?_
   ·first | omega | (dsimp only; omega)
   ·refine ⟨σ, δ, hAb7, (upto0 hnk (Classical.not_not.1 hc26)), δ, hV⟩
   exact ψ
  refine r_exit rfl ?_
  refine r_blk ?_
  refine r_region ?_
  refine Zo (run_add rfl η η ω ω) ?_
  refine Zn mvI ?_
  refine r_again (i + 1) ?_ ?_ ?_
  ·first | omega | (dsimp only; omega)
  ·refine ⟨σ, δ, (upto0 hno ((cls_ends (Classical.not_not.1 (by assumption)) ω).trans (ends_ok hnk ω))), δ, hV⟩
  exact ψ
 refine r_exit rfl ?_
 refine Zs ?_
 refine Zn asI ?_
 refine r_ret (res1 (v := .int _ _) rfl η) ?_
 exact ⟨ret_int (by rw [valid_ok ω hno ω]), hV⟩
end Go.Proofs.YtlfjocbnbceceaaGreatDoor
namespace Go.Vc
open Go Go.RowKit Go.IntWalk
section
variable {α : Type} [Rep α] {w w' : World} {base : Nat} {E : TypeId} {Y : List Nat} {v : Value} {l : List α}
theorem own_step {X : List Nat} {v' : Value} (hE0 : Evo w w' v.ownBlock.toList) (hloc : v'.ownBlock = v.ownBlock ∨ ∃ g, v'.ownBlock = some g ∧ w.heap.size ≤ g) (w'' : World) (he2 : Evo w' w'' (X ++ v'.ownBlock.toList)) : Evo w w'' (X ++ v.ownBlock.toList) :=
  Evo.trans (hE0.weaken (fun x hx => .inl (List.mem_append_right _ hx))) he2 (fun x hx hlt => by
    rcases List.mem_append.1 hx with h4 | h4
    · exact List.mem_append_left _ h4
    · have h5 : v'.ownBlock = some x := by simpa using h4
      rcases hloc with h6 | ⟨g, h6, h7⟩
      · exact List.mem_append_right _ (by rw [← h6]; exact h4)
      · rw [h5] at h6; injection h6 with h6; omega)
end
section
variable {P : Program} {B : Exit → Act → World → Prop} {n : Nat} {k : List Kont} {f : Fr} {w : World} {ops : Array Oper} {rest : List Oper}
theorem r_appendR {α : Type} [Rep α] {base : Nat} {E : TypeId} {Y : List Nat} {v : Value} {l : List α} {T d bb m : Nat} {t : TypeId} {pos : String} {aft : Array Edge} {x y : Operand} {z : Value} {ao : Option Addr} {b off cap len : Nat} {l' : List α} {E' : List Nat} {w1 : World}
    (hd : Nat.blt d n = true) (hu : P.underlying T = some (.slice E)) (ht : tyP P E = some (m, bb, some z)) (hm : (m == Rep.n α && z.cells.size == Rep.n α) = true) (hone : ∀ (w : World) cs (x : α), Rep.rep w cs x → oneCells cs = true)
    (hown : OwnR w base E Y v l) (hx : opv f x = v) (hy : opv f y = .slice ao len cap) (hr : RowRK w1 E' ao b off cap l') (hw1 : ∀ w'', Evo w w'' (Y ++ v.ownBlock.toList) → Evo w1 w'' E') (hl : len = l'.length)
    (hbytes : (l.length + l'.length) * bb ≤ 140737488355328) (hlen : l.length + l'.length ≤ 140737488355328) (hbase : base ≤ w.heap.size)
    (h : ∀ v' w', Evo w w' v.ownBlock.toList → OwnR w' base E Y v' (l ++ l') → (v'.ownBlock = v.ownBlock ∨ v'.ownBlock = some w.heap.size) → KL P B n ops k rest (upd f d v') w') :
    KL P B n ops k (⟨some d, .call ⟨.builtin .append, #[x, y], #[T, T]⟩, t, pos, aft, none⟩ :: rest) f w := by
  simp only [Bool.and_eq_true, beq_iff_eq] at hm
  obtain ⟨rfl, h2⟩ := hm
  obtain ⟨css, ho, hL⟩ := hown
  obtain ⟨css2, hr2⟩ := hr
  have h0 := hr2 w (hw1 w (Evo.refl _ _))
  have e1 := (hL w (Evo.refl _ _)).1
  have e2 := h0.2.1
  refine r_append (news := css2) hd hu ht h2 Rep.pos ho hx hy h0.1 (by rw [e2]; exact hl) (fun cs hcs => ?_) (by rw [e1, e2]; exact hbytes) (by rw [e1, e2]; exact hlen) hbase ?_
  · obtain ⟨i, hi⟩ := List.getElem?_of_mem hcs
    have hi2 : i < l'.length := by rw [← e2]; exact (List.getElem?_eq_some_iff.1 hi).1
    exact hone w cs l'[i] (h0.2.2 i cs _ hi (by simp [hi2]))
  intro v' w' he ho' hloc
  refine h v' w' he ⟨_, ho', fun w'' he2 => ?_⟩ hloc
  have h5 := own_step (X := Y) he (hloc.imp_right fun h => ⟨_, h, Nat.le_refl _⟩) w'' he2
  exact (hL w'' h5).append (hr2 w'' (hw1 w'' h5)).2
end
def jnL (inner : UInt8 → Bool) (a b : UInt8) : Str → Nat
  | [] => 0
  | c :: t => if inner c = true then 1 + jnL inner a b t else if c = a ∨ c = b then (match t with
      | [] => 0
      | d :: t' => if inner d = true then 2 + jnL inner a b t' else 0) else 0
theorem jnL_len (inner : UInt8 → Bool) (a b : UInt8) : ∀ s : Str, jnL inner a b s ≤ s.length
  | [] => Nat.le_refl _
  | [c] => by
    unfold jnL
    split
    · simp [jnL]
    · split <;> simp
  | c :: d :: t => by
    have h1 := jnL_len inner a b (d :: t)
    have h2 := jnL_len inner a b t
    unfold jnL
    simp only [List.length_cons] at *
    split
    · omega
    · split
      · split <;> omega
      · omega
theorem drop_two {s : Str} {n : Nat} (h : n + 1 < s.length) : s.drop n = s.getD n default :: s.getD (n + 1) default :: s.drop (n + 2) := by
  rw [List.drop_eq_getElem_cons ω, List.drop_eq_getElem_cons h]
  simp [List.getD, h, Nat.lt_of_succ_lt h]
theorem drop_one {s : Str} {n : Nat} (h : n < s.length) : s.drop n = s.getD n default :: s.drop (n + 1) := by
  rw [List.drop_eq_getElem_cons h]; simp [List.getD, h]
section
variable {inner : UInt8 → Bool} {a b : UInt8} {s : Str} {n : Nat}
theorem jn_end (h : s.length ≤ n) : jnL inner a b (s.drop n) = 0 := by rw [List.drop_eq_nil_of_le h]; rfl
theorem jn_in (h : n < s.length) (hi : inner (s.getD n default) = true) : jnL inner a b (s.drop n) = 1 + jnL inner a b (s.drop (n + 1)) := by
  rw [drop_one h]; conv => lhs; unfold jnL
  rw [if_pos hi]
theorem jn_two (h : n + 1 < s.length) (hi : ¬ inner (s.getD n default) = true) (hj : s.getD n default = a ∨ s.getD n default = b) (h2 : inner (s.getD (n + 1) default) = true) : jnL inner a b (s.drop n) = 2 + jnL inner a b (s.drop (n + 2)) := by
  rw [drop_two h]; conv => lhs; unfold jnL
  rw [if_neg hi, if_pos hj]
  dsimp only
  rw [if_pos h2]
theorem jn_no (h : n < s.length) (hi : ¬ inner (s.getD n default) = true) (hj : ¬ (s.getD n default = a ∨ s.getD n default = b) ∨ ¬ n + 1 < s.length ∨ ¬ inner (s.getD (n + 1) default) = true) : jnL inner a b (s.drop n) = 0 := by
  by_cases h1 : n + 1 < s.length
  · rw [drop_two h1]; unfold jnL
    rw [if_neg hi]
    split
    · rename_i h3
      dsimp only
      rw [if_neg (by rcases hj with h | h | h
                     · exact absurd h3 h
                     · exact absurd h1 h
                     · exact h)]
    · rfl
  · rw [drop_one h, List.drop_eq_nil_of_le ω]; unfold jnL
    rw [if_neg hi]
    split <;> rfl
end
def blL : Str → Nat
  | [] => 0
  | c :: t => if clsB c = 2 then 1 + blL t else 0
theorem blL_len : ∀ s : Str, blL s ≤ s.length
  | [] => Nat.le_refl _
  | c :: t => by
    have h1 := blL_len t
    unfold blL
    simp only [List.length_cons]
    split <;> omega
theorem bl_end {s : Str} {n : Nat} (h : s.length ≤ n) : blL (s.drop n) = 0 := by rw [List.drop_eq_nil_of_le h]; rfl
theorem bl_yes {s : Str} {n : Nat} (h : n < s.length) (hc : clsB (s.getD n default) = 2) : blL (s.drop n) = 1 + blL (s.drop (n + 1)) := by
  rw [drop_one h]; conv => lhs; unfold blL
  rw [if_pos hc]
theorem bl_no {s : Str} {n : Nat} (h : n < s.length) (hc : ¬ clsB (s.getD n default) = 2) : blL (s.drop n) = 0 := by
  rw [drop_one h]; unfold blL; rw [if_neg hc]
def wdB (c : UInt8) : Bool := decide (clsB c = 4) || decide (clsB c = 3)
def dgtB (c : UInt8) : Bool := decide (clsB c = 3)
def tokN (s : Str) : Int × Nat :=
  if clsB (s.getD 0 default) = 4 then (6, 1 + jnL wdB 39 45 (s.drop 1))
  else if clsB (s.getD 0 default) = 3 then (7, 1 + jnL dgtB 46 44 (s.drop 1))
  else if clsB (s.getD 0 default) = 2 then (8, 1 + blL (s.drop 1))
  else (9, 1)
theorem tokN_pos (s : Str) : 1 ≤ (tokN s).2 := by
  unfold tokN
  repeat' split
  all_goals (dsimp only; omega)
theorem tokN_len {s : Str} (h : s ≠ []) : (tokN s).2 ≤ s.length := by
  have h0 : 0 < s.length := List.length_pos_iff.2 h
  have h1 := jnL_len wdB 39 45 (s.drop 1)
  have h2 := jnL_len dgtB 46 44 (s.drop 1)
  have h3 := blL_len (s.drop 1)
  rw [List.length_drop] at h1 h2 h3
  unfold tokN
  repeat' split
  all_goals (dsimp only; omega)
def cutT (s : Str) : List Item :=
  if h : s = [] then [] else ⟨(tokN s).1, s.take (tokN s).2, 0⟩ :: cutT (s.drop (tokN s).2)
termination_by s.length
decreasing_by
  have h1 := tokN_pos s
  have h2 : 0 < s.length := List.length_pos_iff.2 h
  rw [List.length_drop]; omega
theorem cutT_nil : cutT [] = [] := by unfold cutT; simp
theorem cutT_cons {s : Str} (h : s ≠ []) : cutT s = ⟨(tokN s).1, s.take (tokN s).2, 0⟩ :: cutT (s.drop (tokN s).2) := by
  conv => lhs; unfold cutT
  rw [dif_neg h]
theorem cutT_len : ∀ (n : Nat) (s : Str), s.length = n → (cutT s).length ≤ s.length := by
  intro n
  induction n using Nat.strongRecOn with
  | ind n ih =>
    intro s hs
    by_cases h : s = []
    · subst h; rw [cutT_nil]; simp
    · have h1 := tokN_pos s
      have h2 : 0 < s.length := List.length_pos_iff.2 h
      rw [cutT_cons h]
      have h3 := ih _ (by rw [← hs]; show (s.drop (tokN s).2).length < s.length; rw [List.length_drop]; omega) (s.drop (tokN s).2) rfl
      rw [List.length_drop] at h3
      rw [List.length_cons]; omega
def tokI (x : Item) : List Item := if x.kind = 1 then cutT x.text else if 2 ≤ x.kind ∧ x.kind ≤ 5 then [x] else []
def toks (f : List Item) : List Item := f.flatMap tokI
theorem toks_succ {f : List Item} {k : Nat} (h : k < f.length) : toks (f.take (k + 1)) = toks (f.take k) ++ tokI (f.getD k default) := by
  unfold toks; rw [take_succD f k h]; simp
def fLen (f : List Item) : Nat := (f.map (fun x => x.text.length)).sum
theorem toks_len : ∀ f : List Item, (toks f).length ≤ fLen f + f.length
  | [] => by simp [toks]
  | x :: f => by
    have h1 := toks_len f
    have h2 : (tokI x).length ≤ x.text.length + 1 := by
      unfold tokI
      split
      · have := cutT_len _ x.text rfl; omega
      · split <;> simp
    have e : toks (x :: f) = tokI x ++ toks f := by simp [toks]
    rw [e, List.length_append, List.length_cons]
    simp only [fLen, List.map_cons, List.sum_cons] at *
    omega
end Go.Vc
namespace Go.Proofs.YtlfjocbnbceceaaGreatDoor
open Go.RowKit Go.Vc
theorem u8i {c d : UInt8} : ((c.toNat : Nat) : Int) = ((d.toNat : Nat) : Int) ↔ c = d := ⟨fun h => UInt8.toNat_inj.1 ω, fun h => by rw [h]⟩
theorem wd_iff {c : UInt8} : wdB c = true ↔ (clsB c = 4 ∨ clsB c = 3) := by unfold wdB; simp
section
variable {inner : UInt8 → Bool} {a b : UInt8} {s : Str} {n : Nat}
theorem jn_twoC (hi : inner (s.getD n 0) = false) (hc : (((((s.getD n 0).toNat : Nat) : Int) = (((([a, b] : Str).getD 0 0).toNat : Nat) : Int) ∨ (((s.getD n 0).toNat : Nat) : Int) = (((([a, b] : Str).getD 1 0).toNat : Nat) : Int)) ∧ (n : Int) + 1 < (s.length : Int)) ∧ inner (s.getD (n + 1) 0) = true) :
    jnL inner a b (s.drop n) = 2 + jnL inner a b (s.drop (n + 2)) :=
  jn_two ω (by show ¬ inner (s.getD n 0) = true; rw [hi]; simp) (hc.1.1.imp u8i.1 u8i.1) hc.2
theorem jn_noC (hn : n < s.length) (hi : inner (s.getD n 0) = false) (hc : ¬ ((((((s.getD n 0).toNat : Nat) : Int) = (((([a, b] : Str).getD 0 0).toNat : Nat) : Int) ∨ (((s.getD n 0).toNat : Nat) : Int) = (((([a, b] : Str).getD 1 0).toNat : Nat) : Int)) ∧ (n : Int) + 1 < (s.length : Int)) ∧ inner (s.getD (n + 1) 0) = true)) :
    jnL inner a b (s.drop n) = 0 := by
  refine jn_no hn (by show ¬ inner (s.getD n 0) = true; rw [hi]; simp) ?_
  by_cases h1 : s.getD n 0 = a ∨ s.getD n 0 = b
  · by_cases h2 : n + 1 < s.length
    · exact .inr (.inr fun h3 => hc ⟨⟨h1.imp u8i.2 u8i.2, by omega⟩, h3⟩)
    · exact .inr (.inl h2)
  · exact .inl h1
end
theorem wordly_calls {c : UInt8} {w0 : World}  :
    Calls Tryz.prog 150 #[.int .u8 ((c.toNat : Nat) : Int)] w0 fun e w' => e = .returned (.bool (wdB c)) ∧ Evo w0 w' [] := by
 refine calls_enter (n := 12) Tryz.func150 rfl Tryz.ntmps150 rfl ?_
 have hV : Evo w0 w0 [] := Evo.refl _ _
 refine Zs ?_
 refine Zn asB ?_
 refine Zs ?_
 refine Zo mvI ?_
 refine Zr [.int _ _] rfl η Tryz.func143 of_calls ?_
 rintro e w1 ⟨rfl, F1⟩
 refine ⟨_, rfl, ?_⟩
 have Q1 := F1.size
 replace hV := Z0 hV F1
 refine Zn asI ?_
 refine Zs ?_
 refine Zo mvI ?_
 refine Zo (run_eql rfl η η) ?_
 refine Zo mvB ?_
 refine r_g rfl (wantF η) rfl (fun hg => mvI) ?_
 refine r_g rfl (wantF η) rfl (fun hg => run_eql rfl (glv η (fun h => h) hg) η) ?_
 refine Zo (run_pick_or rfl η rfl (fun hq => glv η (fun h => h) hq)) ?_
 refine Zn asB ?_
 refine r_ret (res1 (v := .bool _) rfl η) ?_
 exact ⟨ret_bool (by rw [Bool.eq_iff_iff, decide_eq_true_iff, wd_iff]), hV⟩
theorem digit_calls {c : UInt8} {w0 : World}  :
    Calls Tryz.prog 151 #[.int .u8 ((c.toNat : Nat) : Int)] w0 fun e w' => e = .returned (.bool (dgtB c)) ∧ Evo w0 w' [] := by
 refine calls_enter (n := 6) Tryz.func151 rfl Tryz.ntmps151 rfl ?_
 have hV : Evo w0 w0 [] := Evo.refl _ _
 refine Zs ?_
 refine Zn asB ?_
 refine Zs ?_
 refine Zo mvI ?_
 refine Zr [.int _ _] rfl η Tryz.func143 of_calls ?_
 rintro e w1 ⟨rfl, F1⟩
 refine ⟨_, rfl, ?_⟩
 have Q1 := F1.size
 replace hV := Z0 hV F1
 refine Zo (run_eql rfl η η) ?_
 refine Zn asB ?_
 refine r_ret (res1 (v := .bool _) rfl η) ?_
 exact ⟨rfl, hV⟩
theorem joinedW_calls {s : Str} {w0 : World} (hs : s.length ≤ 140737488355328) (hs1 : 1 ≤ s.length) :
    Calls Tryz.prog 149 #[S s, S [39, 45], .func (.func 150) #[] #[]] w0 fun e w' => e = .returned (.int .i64 ((1 + jnL wdB 39 45 (s.drop 1) : Nat) : Int)) ∧ Evo w0 w' [] := by
 refine calls_enter (n := 54) Tryz.func149 rfl Tryz.ntmps149 rfl ?_
 have hV : Evo w0 w0 [] := Evo.refl _ _
 refine Zs ?_
 refine Zn asI ?_
 refine Zs ?_
 refine Zn asI ?_
 refine r_seq ?_
 refine r_block ?_
 refine r_loop (α := Nat) [6, 7, 8, 9, 10, 11, 12, 13, 14, 15, 16, 17, 18, 19, 20, 21, 22, 23, 24, 25, 26, 27, 28, 29, 30, 31, 32, 33, 34, 35, 36, 37, 38, 39, 40, 41, 42, 43, 44, 45, 46, 47, 48, 49, 50, 51, 52] (fun n g w => g 7 = .int .i64 (n : Nat) ∧ (1 ≤ n ∧ n ≤ s.length) ∧ n + jnL wdB 39 45 (s.drop n) = 1 + jnL wdB 39 45 (s.drop 1) ∧ w0.heap.size ≤ w.heap.size ∧ Evo w0 w []) (fun n => s.length - n) 1 ?_ ?_
 ·refine ⟨rfl, δ, δ, δ, hV⟩
 rintro n g w2 ⟨hj3, hn1, hj, hzl1, hV⟩
 have hs_w2hV := hV.size
 refine Zk 7 (v := .int .i64 (n : Nat)) (by exact hj3) ?_
 refine r_seq ?_
 refine Zs ?_
 refine Zo mvI ?_
 refine Zo mvT ?_
 refine Zo (run_lenS rfl η Tryz.underlying9) ?_
 refine Zn (run_lss rfl η η) ?_
 refine r_cond η (fun hc4 => ?_) (fun hc4 => ?_)
 ·skip
  refine r_skip ?_
  refine r_block ?_
  refine r_block ?_
  refine Zs ?_
  refine Zo (run_mv (v := .func _ _ _) rfl η) ?_
  refine Zo mvT ?_
  refine Zo mvI ?_
  refine Zo (run_ixS (n) rfl Tryz.underlying9 η η (by first | exact rfl | omega) ω) ?_
  refine r_opcall rfl rfl rfl (run_callfn (vs := [.int _ _]) (cs := []) rfl η η Tryz.func150 rfl ζ) wordly_calls ?_
  rintro e w5 ⟨rfl, F5⟩
  refine ⟨_, rfl, ?_⟩
  have Q5 := F5.size
  replace hV := Z0 hV F5
  refine Zn asB ?_
  refine r_condb η (fun hc6 => ?_) (fun hc6 => ?_)
  ·skip
   refine r_region ?_
   refine Zo mvI ?_
   refine Zo (run_add rfl η η ω ω) ?_
   refine r_knowL (i := 20) (v := .int .i64 ((n + 1 : Nat) : Int)) (congrArg (Value.int _) ω) ?_
   refine Zn asI ?_
   refine r_blk ?_
   refine r_blk ?_
   refine r_again (n + 1) ?_ ?_ ?_
   ·first | omega | (dsimp only; omega)
   ·refine ⟨rfl, δ, (by first | (have h8 := jn_in (a := 39) (b := 45) (s := s) (n := n) ω hc6; omega) | (have h8 := jn_twoC (a := 39) (b := 45) (inner := wdB) (s := s) (n := n) (by assumption) hc6; omega)), δ, hV⟩
   exact ψ
  refine r_seq ?_
  refine r_qregion ζ ζ ?_
  refine Zq (fun w' hC => mvT) ?_
  refine Zq (fun w' hC => mvI) ?_
  refine Zq (fun w' hC => run_ixS (n) rfl Tryz.underlying9 η η (by first | exact rfl | omega) ω) ?_
  refine Zq (fun w' hC => mvT) ?_
  refine Zq (fun w' hC => run_ixS (0) rfl Tryz.underlying9 η η (by first | exact rfl | omega) (by decide)) ?_
  refine Zq (fun w' hC => run_eql rfl η η) ?_
  refine Zq (fun w' hC => mvB) ?_
  refine q_g rfl (wantF η) rfl (fun hg w' hC => mvT) ?_
  refine q_g rfl (wantF η) rfl (fun hg w' hC => mvI) ?_
  refine q_g rfl (wantF η) rfl (fun hg w' hC => run_ixS (n) rfl Tryz.underlying9 (glv η (fun h => h) hg) (glv η (fun h => h) hg) (by first | exact rfl | omega) ω) ?_
  refine q_g rfl (wantF η) rfl (fun hg w' hC => mvT) ?_
  refine q_g rfl (wantF η) rfl (fun hg w' hC => run_ixS (1) rfl Tryz.underlying9 (glv η (fun h => h) hg) η (by first | exact rfl | omega) (by decide)) ?_
  refine q_g rfl (wantF η) rfl (fun hg w' hC => run_eql rfl (glv η (fun h => h) hg) (glv η (fun h => h) hg)) ?_
  refine Zq (fun w' hC => run_pick_or rfl η rfl (fun hq => glv η (fun h => h) hq)) ?_
  refine Zq (fun w' hC => mvB) ?_
  refine q_g rfl (wantT η) rfl (fun hg w' hC => mvI) ?_
  refine q_g rfl (wantT η) rfl (fun hg w' hC => run_add rfl (glv η (fun h => h) hg) η ω ω) ?_
  refine q_g rfl (wantT η) rfl (fun hg w' hC => mvT) ?_
  refine q_g rfl (wantT η) rfl (fun hg w' hC => run_lenS rfl (glv η (fun h => h) hg) Tryz.underlying9) ?_
  refine q_g rfl (wantT η) rfl (fun hg w' hC => run_lss rfl (glv η (fun h => h) hg) (glv η (fun h => h) hg)) ?_
  refine Zq (fun w' hC => run_pick_and rfl η (fun hq => glv η (fun h => h) hq) rfl) ?_
  refine Zq (fun w' hC => mvB) ?_
  refine q_g rfl (wantT η) rfl (fun hg w' hC => run_mv (v := .func _ _ _) rfl η) ?_
  refine q_g rfl (wantT η) rfl (fun hg w' hC => mvT) ?_
  refine q_g rfl (wantT η) rfl (fun hg w' hC => mvI) ?_
  refine q_g rfl (wantT η) rfl (fun hg w' hC => run_add rfl (glv η (fun h => h) hg) η ω ω) ?_
  refine q_g rfl (wantT η) rfl (fun hg w' hC => run_ixS ((n + 1)) rfl Tryz.underlying9 (glv η (fun h => h) hg) (glv η (fun h => h) hg) ω ω) ?_
  refine q_gcall rfl (wantT η) rfl (fun hg w' hC => run_callfn (cs := []) rfl (glv η (fun h => h) hg) (argcons (v := .int _ _) (glv η (fun h => h) hg) (rfl)) Tryz.func150 rfl ζ) (fun hg w' hC => (wordly_calls ).mono (fun e w'' h => ⟨h.1, evo_step0 hC h.2⟩)) ?_
  refine Zq (fun w' hC => run_pick_andB rfl η (fun hq => glv η (fun h => h) hq) rfl) ?_
  refine Zq (fun w' hC => asB) ?_
  refine q_nil (fun w7 F8 => ?_)
  have Q7 := F8.size
  replace hV := Z0 hV F8
  refine r_cond η (fun hc9 => ?_) (fun hc9 => ?_)
  ·skip
   refine r_region ?_
   refine Zo mvI ?_
   refine Zo (run_add rfl η η ω ω) ?_
   refine r_knowL (i := 52) (v := .int .i64 ((n + 2 : Nat) : Int)) (congrArg (Value.int _) ω) ?_
   refine Zn asI ?_
   refine r_blk ?_
   refine r_blk ?_
   refine r_again (n + 2) ?_ ?_ ?_
   ·first | omega | (dsimp only; omega)
   ·refine ⟨rfl, δ, (by first | (have h8 := jn_in (a := 39) (b := 45) (s := s) (n := n) ω hc9; omega) | (have h8 := jn_twoC (a := 39) (b := 45) (inner := wdB) (s := s) (n := n) (by assumption) hc9; omega)), δ, hV⟩
   exact ψ
  refine Zs ?_
  refine Zo mvI ?_
  refine Zn asI ?_
  refine r_ret (res1 (v := .int _ _) rfl η) ?_
  exact ⟨ret_int (by have h8 := jn_noC (a := 39) (b := 45) (inner := wdB) (s := s) (n := n) ω (by assumption) hc9; omega), hV⟩
 refine r_exit rfl ?_
 refine Zs ?_
 refine Zo mvI ?_
 refine Zn asI ?_
 refine r_ret (res1 (v := .int _ _) rfl η) ?_
 exact ⟨ret_int (by have h8 := jn_end (a := 39) (b := 45) (inner := wdB) (s := s) (n := n) ω; omega), hV⟩
theorem joinedD_calls {s : Str} {w0 : World} (hs : s.length ≤ 140737488355328) (hs1 : 1 ≤ s.length) :
    Calls Tryz.prog 149 #[S s, S [46, 44], .func (.func 151) #[] #[]] w0 fun e w' => e = .returned (.int .i64 ((1 + jnL dgtB 46 44 (s.drop 1) : Nat) : Int)) ∧ Evo w0 w' [] := by
 refine calls_enter (n := 54) Tryz.func149 rfl Tryz.ntmps149 rfl ?_
 have hV : Evo w0 w0 [] := Evo.refl _ _
 refine Zs ?_
 refine Zn asI ?_
 refine Zs ?_
 refine Zn asI ?_
 refine r_seq ?_
 refine r_block ?_
 refine r_loop (α := Nat) [6, 7, 8, 9, 10, 11, 12, 13, 14, 15, 16, 17, 18, 19, 20, 21, 22, 23, 24, 25, 26, 27, 28, 29, 30, 31, 32, 33, 34, 35, 36, 37, 38, 39, 40, 41, 42, 43, 44, 45, 46, 47, 48, 49, 50, 51, 52] (fun n g w => g 7 = .int .i64 (n : Nat) ∧ (1 ≤ n ∧ n ≤ s.length) ∧ n + jnL dgtB 46 44 (s.drop n) = 1 + jnL dgtB 46 44 (s.drop 1) ∧ w0.heap.size ≤ w.heap.size ∧ Evo w0 w []) (fun n => s.length - n) 1 ?_ ?_
 ·refine ⟨rfl, δ, δ, δ, hV⟩
 rintro n g w2 ⟨hj3, hn1, hj, hzl1, hV⟩
 have hs_w2hV := hV.size
 refine Zk 7 (v := .int .i64 (n : Nat)) (by exact hj3) ?_
 refine r_seq ?_
 refine Zs ?_
 refine Zo mvI ?_
 refine Zo mvT ?_
 refine Zo (run_lenS rfl η Tryz.underlying9) ?_
 refine Zn (run_lss rfl η η) ?_
 refine r_cond η (fun hc4 => ?_) (fun hc4 => ?_)
 ·skip
  refine r_skip ?_
  refine r_block ?_
  refine r_block ?_
  refine Zs ?_
  refine Zo (run_mv (v := .func _ _ _) rfl η) ?_
  refine Zo mvT ?_
  refine Zo mvI ?_
  refine Zo (run_ixS (n) rfl Tryz.underlying9 η η (by first | exact rfl | omega) ω) ?_
  refine r_opcall rfl rfl rfl (run_callfn (vs := [.int _ _]) (cs := []) rfl η η Tryz.func151 rfl ζ) digit_calls ?_
  rintro e w5 ⟨rfl, F5⟩
  refine ⟨_, rfl, ?_⟩
  have Q5 := F5.size
  replace hV := Z0 hV F5
  refine Zn asB ?_
  refine r_condb η (fun hc6 => ?_) (fun hc6 => ?_)
  ·skip
   refine r_region ?_
   refine Zo mvI ?_
   refine Zo (run_add rfl η η ω ω) ?_
   refine r_knowL (i := 20) (v := .int .i64 ((n + 1 : Nat) : Int)) (congrArg (Value.int _) ω) ?_
   refine Zn asI ?_
   refine r_blk ?_
   refine r_blk ?_
   refine r_again (n + 1) ?_ ?_ ?_
   ·first | omega | (dsimp only; omega)
   ·refine ⟨rfl, δ, (by first | (have h8 := jn_in (a := 46) (b := 44) (s := s) (n := n) ω hc6; omega) | (have h8 := jn_twoC (a := 46) (b := 44) (inner := dgtB) (s := s) (n := n) (by assumption) hc6; omega)), δ, hV⟩
   exact ψ
  refine r_seq ?_
  refine r_qregion ζ ζ ?_
  refine Zq (fun w' hC => mvT) ?_
  refine Zq (fun w' hC => mvI) ?_
  refine Zq (fun w' hC => run_ixS (n) rfl Tryz.underlying9 η η (by first | exact rfl | omega) ω) ?_
  refine Zq (fun w' hC => mvT) ?_
  refine Zq (fun w' hC => run_ixS (0) rfl Tryz.underlying9 η η (by first | exact rfl | omega) (by decide)) ?_
  refine Zq (fun w' hC => run_eql rfl η η) ?_
  refine Zq (fun w' hC => mvB) ?_
  refine q_g rfl (wantF η) rfl (fun hg w' hC => mvT) ?_
  refine q_g rfl (wantF η) rfl (fun hg w' hC => mvI) ?_
  refine q_g rfl (wantF η) rfl (fun hg w' hC => run_ixS (n) rfl Tryz.underlying9 (glv η (fun h => h) hg) (glv η (fun h => h) hg) (by first | exact rfl | omega) ω) ?_
  refine q_g rfl (wantF η) rfl (fun hg w' hC => mvT) ?_
  refine q_g rfl (wantF η) rfl (fun hg w' hC => run_ixS (1) rfl Tryz.underlying9 (glv η (fun h => h) hg) η (by first | exact rfl | omega) (by decide)) ?_
  refine q_g rfl (wantF η) rfl (fun hg w' hC => run_eql rfl (glv η (fun h => h) hg) (glv η (fun h => h) hg)) ?_
  refine Zq (fun w' hC => run_pick_or rfl η rfl (fun hq => glv η (fun h => h) hq)) ?_
  refine Zq (fun w' hC => mvB) ?_
  refine q_g rfl (wantT η) rfl (fun hg w' hC => mvI) ?_
  refine q_g rfl (wantT η) rfl (fun hg w' hC => run_add rfl (glv η (fun h => h) hg) η ω ω) ?_
  refine q_g rfl (wantT η) rfl (fun hg w' hC => mvT) ?_
  refine q_g rfl (wantT η) rfl (fun hg w' hC => run_lenS rfl (glv η (fun h => h) hg) Tryz.underlying9) ?_
  refine q_g rfl (wantT η) rfl (fun hg w' hC => run_lss rfl (glv η (fun h => h) hg) (glv η (fun h => h) hg)) ?_
  refine Zq (fun w' hC => run_pick_and rfl η (fun hq => glv η (fun h => h) hq) rfl) ?_
  refine Zq (fun w' hC => mvB) ?_
  refine q_g rfl (wantT η) rfl (fun hg w' hC => run_mv (v := .func _ _ _) rfl η) ?_
  refine q_g rfl (wantT η) rfl (fun hg w' hC => mvT) ?_
  refine q_g rfl (wantT η) rfl (fun hg w' hC => mvI) ?_
  refine q_g rfl (wantT η) rfl (fun hg w' hC => run_add rfl (glv η (fun h => h) hg) η ω ω) ?_
  refine q_g rfl (wantT η) rfl (fun hg w' hC => run_ixS ((n + 1)) rfl Tryz.underlying9 (glv η (fun h => h) hg) (glv η (fun h => h) hg) ω ω) ?_
  refine q_gcall rfl (wantT η) rfl (fun hg w' hC => run_callfn (cs := []) rfl (glv η (fun h => h) hg) (argcons (v := .int _ _) (glv η (fun h => h) hg) (rfl)) Tryz.func151 rfl ζ) (fun hg w' hC => (digit_calls ).mono (fun e w'' h => ⟨h.1, evo_step0 hC h.2⟩)) ?_
  refine Zq (fun w' hC => run_pick_andB rfl η (fun hq => glv η (fun h => h) hq) rfl) ?_
  refine Zq (fun w' hC => asB) ?_
  refine q_nil (fun w7 F8 => ?_)
  have Q7 := F8.size
  replace hV := Z0 hV F8
  refine r_cond η (fun hc9 => ?_) (fun hc9 => ?_)
  ·skip
   refine r_region ?_
   refine Zo mvI ?_
   refine Zo (run_add rfl η η ω ω) ?_
   refine r_knowL (i := 52) (v := .int .i64 ((n + 2 : Nat) : Int)) (congrArg (Value.int _) ω) ?_
   refine Zn asI ?_
   refine r_blk ?_
   refine r_blk ?_
   refine r_again (n + 2) ?_ ?_ ?_
   ·first | omega | (dsimp only; omega)
   ·refine ⟨rfl, δ, (by first | (have h8 := jn_in (a := 46) (b := 44) (s := s) (n := n) ω hc9; omega) | (have h8 := jn_twoC (a := 46) (b := 44) (inner := dgtB) (s := s) (n := n) (by assumption) hc9; omega)), δ, hV⟩
   exact ψ
  refine Zs ?_
  refine Zo mvI ?_
  refine Zn asI ?_
  refine r_ret (res1 (v := .int _ _) rfl η) ?_
  exact ⟨ret_int (by have h8 := jn_noC (a := 46) (b := 44) (inner := dgtB) (s := s) (n := n) ω (by assumption) hc9; omega), hV⟩
 refine r_exit rfl ?_
 refine Zs ?_
 refine Zo mvI ?_
 refine Zn asI ?_
 refine r_ret (res1 (v := .int _ _) rfl η) ?_
 exact ⟨ret_int (by have h8 := jn_end (a := 46) (b := 44) (inner := dgtB) (s := s) (n := n) ω; omega), hV⟩
theorem tokN_word {s : Str} (h : clsB (s.getD 0 default) = 4) : tokN s = (6, 1 + jnL wdB 39 45 (s.drop 1)) := by unfold tokN; rw [if_pos h]
theorem tokN_num {s : Str} (h : ¬ clsB (s.getD 0 default) = 4) (h2 : clsB (s.getD 0 default) = 3) : tokN s = (7, 1 + jnL dgtB 46 44 (s.drop 1)) := by unfold tokN; rw [if_neg h, if_pos h2]
theorem tokN_blank {s : Str} (h : ¬ clsB (s.getD 0 default) = 4) (h2 : ¬ clsB (s.getD 0 default) = 3) (h3 : clsB (s.getD 0 default) = 2) : tokN s = (8, 1 + blL (s.drop 1)) := by unfold tokN; rw [if_neg h, if_neg h2, if_pos h3]
theorem tokN_sign {s : Str} (h : ¬ clsB (s.getD 0 default) = 4) (h2 : ¬ clsB (s.getD 0 default) = 3) (h3 : ¬ clsB (s.getD 0 default) = 2) : tokN s = (9, 1) := by unfold tokN; rw [if_neg h, if_neg h2, if_neg h3]
theorem bl_noC {s : Str} {k : Nat} (hk : k ≤ s.length) (h : ¬ ((k : Int) < (s.length : Int) ∧ clsB (s.getD k 0) = 2)) : blL (s.drop k) = 0 := by
  by_cases h1 : k < s.length
  · exact bl_no h1 (fun h2 => h ⟨by omega, h2⟩)
  · exact bl_end ω
theorem ret_tok {p : Int × Nat} {a : Int} {b : Nat} (h : p = (a, b)) : Ending.returned (.tuple #[.int .i64 a, .int .i64 ((b : Nat) : Int)]) = .returned (.tuple #[.int .i64 p.1, .int .i64 ((p.2 : Nat) : Int)]) := by rw [h]
theorem tnext_calls {s : Str} {w0 : World} (hs : s.length ≤ 140737488355328) (hs1 : 1 ≤ s.length) :
    Calls Tryz.prog 102 #[S s] w0 fun e w' => e = .returned (.tuple #[.int .i64 (tokN s).1, .int .i64 (((tokN s).2 : Nat) : Int)]) ∧ Evo w0 w' [] := by
 refine calls_enter (n := 32) Tryz.func102 rfl Tryz.ntmps102 rfl ?_
 have hV : Evo w0 w0 [] := Evo.refl _ _
 refine Zs ?_
 refine Zo asI ?_
 refine Zn asI ?_
 refine r_seq ?_
 refine Zs ?_
 refine Zo mvT ?_
 refine Zo (run_ixS (0) rfl Tryz.underlying9 η η (by first | exact rfl | omega) ω) ?_
 refine Zr [.int _ _] rfl η Tryz.func143 of_calls ?_
 rintro e w1 ⟨rfl, F1⟩
 refine ⟨_, rfl, ?_⟩
 have Q1 := F1.size
 replace hV := Z0 hV F1
 refine r_nil ?_
 refine r_block ?_
 refine Zs ?_
 refine Zo (run_eql rfl η η) ?_
 refine Zn asB ?_
 refine r_cond η (fun hc2 => ?_) (fun hc2 => ?_)
 ·skip
  refine Zs ?_
  refine Zo mvT ?_
  refine Zr [S _, S _, .func _ _ _] rfl η Tryz.func149 (id (joinedW_calls (s := s) ω ω)) ?_
  rintro e w3 ⟨rfl, F3⟩
  refine ⟨_, rfl, ?_⟩
  have Q3 := F3.size
  replace hV := Z0 hV F3
  refine Zo asI ?_
  refine Zn asI ?_
  refine r_ret (res2 (v := .int _ _) (u := .int _ _) rfl η η) ?_
  exact ⟨ret_tok (tokN_word hc2), hV⟩
 refine Zs ?_
 refine Zo (run_eql rfl η η) ?_
 refine Zn asB ?_
 refine r_cond η (fun hc4 => ?_) (fun hc4 => ?_)
 ·skip
  refine Zs ?_
  refine Zo mvT ?_
  refine Zr [S _, S _, .func _ _ _] rfl η Tryz.func149 (id (joinedD_calls (s := s) ω ω)) ?_
  rintro e w5 ⟨rfl, F5⟩
  refine ⟨_, rfl, ?_⟩
  have Q5 := F5.size
  replace hV := Z0 hV F5
  refine Zo asI ?_
  refine Zn asI ?_
  refine r_ret (res2 (v := .int _ _) (u := .int _ _) rfl η η) ?_
  exact ⟨ret_tok (tokN_num (by assumption) hc4), hV⟩
 refine Zs ?_
 refine Zo (run_eql rfl η η) ?_
 refine Zn asB ?_
 refine r_cond η (fun hc6 => ?_) (fun hc6 => ?_)
 ·skip
  refine Zs ?_
  refine Zn asI ?_
  refine r_seq ?_
  refine r_block ?_
  refine r_loop (α := Nat) [4, 18, 19, 20, 21, 22, 23, 24, 25, 26, 27, 28, 29, 30] (fun k g w => g 4 = .int .i64 (k : Nat) ∧ (1 ≤ k ∧ k ≤ s.length) ∧ k + blL (s.drop k) = 1 + blL (s.drop 1) ∧ w1.heap.size ≤ w.heap.size ∧ Evo w0 w []) (fun k => s.length - k) 1 ?_ ?_
  ·refine ⟨rfl, δ, δ, δ, hV⟩
  rintro k g w8 ⟨hj9, hk1, hb, hzl7, hV⟩
  have hs_w8hV := hV.size
  refine Zk 4 (v := .int .i64 (k : Nat)) (by exact hj9) ?_
  refine r_seq ?_
  refine Zs ?_
  refine Zo mvI ?_
  refine Zo mvT ?_
  refine Zo (run_lenS rfl η Tryz.underlying9) ?_
  refine Zo (run_lss rfl η η) ?_
  refine Zo mvB ?_
  refine r_g rfl (wantT η) rfl (fun hg => mvT) ?_
  refine r_g rfl (wantT η) rfl (fun hg => mvI) ?_
  refine r_g rfl (wantT η) rfl (fun hg => run_ixS (k) rfl Tryz.underlying9 (glv η (fun h => h) hg) (glv η (fun h => h) hg) (by first | exact rfl | omega) ω) ?_
  refine r_gcall rfl (wantT η) rfl (fun hg => run_callf rfl (argcons (v := .int _ _) (glv η (fun h => h) hg) (rfl)) Tryz.func143 rfl ζ) (fun hg => (of_calls ).mono (fun e w' h => ⟨h.1, h.2⟩)) (fun w10 F11 => ?_)
  have Q10 := F11.size
  replace hV := Z0 hV F11
  refine r_g rfl (wantT η) rfl (fun hg => run_eql rfl (glv η (fun h => h) hg) η) ?_
  refine Zn (run_pick_and rfl η (fun hq => glv η (fun h => h) hq) rfl) ?_
  refine r_cond η (fun hc12 => ?_) (fun hc12 => ?_)
  ·skip
   refine r_skip ?_
   refine r_block ?_
   refine r_region ?_
   refine Zo mvI ?_
   refine Zo (run_add rfl η η ω ω) ?_
   refine Zn asI ?_
   refine r_blk ?_
   refine r_again (k + 1) ?_ ?_ ?_
   ·first | omega | (dsimp only; omega)
   ·refine ⟨σ, δ, (by have h8 := bl_yes (s := s) (n := k) ω hc12.2; omega), δ, hV⟩
   exact ψ
  refine r_exit rfl ?_
  refine Zs ?_
  refine Zo mvI ?_
  refine Zo asI ?_
  refine Zn asI ?_
  refine r_ret (res2 (v := .int _ _) (u := .int _ _) rfl η η) ?_
  exact ⟨ret_tok (by rw [tokN_blank (by assumption) (by assumption) (by assumption)]; have h8 := bl_noC (s := s) (k := k) ω hc12; congr 1; omega), hV⟩
 refine r_skip ?_
 refine r_blk ?_
 refine Zs ?_
 refine Zo asI ?_
 refine Zn asI ?_
 refine r_ret (res2 (v := .int _ _) (u := .int _ _) rfl η η) ?_
 exact ⟨ret_tok (tokN_sign (by assumption) (by assumption) (by assumption)), hV⟩
theorem ag_32 : aggP Tryz.prog 32 = some true := ζ
theorem fo_32_0 : fieldP Tryz.prog 32 0 = some 0 := ζ
theorem fo_32_1 : fieldP Tryz.prog 32 1 = some 1 := ζ
theorem fo_32_2 : fieldP Tryz.prog 32 2 = some 2 := ζ
theorem pl_96 : placesP Tryz.prog 96 = some [(0, 1), (1, 1), (2, 1)] := ζ
theorem ty_32 : tyP Tryz.prog 32 = some (3, 32, some (.agg #[(.int .i64 0), (.string ⟨#[]⟩), (.int .i64 0)])) := ζ
theorem ty_96 : tyP Tryz.prog 96 = some (3, 32, some (.agg #[(.int .i64 0), (.string ⟨#[]⟩), (.int .i64 0)])) := ζ
theorem cut_step {r : Str} {l L : List Vc.Item} {p : Int × Nat} (hp : tokN r = p) (hacc : l ++ cutT r = L) (hr : ¬ r = []) : (l ++ [⟨p.1, r.take p.2, 0⟩]) ++ cutT (r.drop p.2) = L := by
  rw [cutT_cons hr, hp] at hacc
  rw [List.append_assoc]; exact hacc
theorem fLen_at : ∀ (f : List Vc.Item) (k : Nat), (f.getD k default).text.length ≤ fLen f
  | [], k => by show ([] : Str).length ≤ _; exact Nat.zero_le _
  | x :: f, 0 => by simp [fLen]
  | x :: f, k + 1 => by
    have := fLen_at f k
    simp only [fLen, List.map_cons, List.sum_cons, List.getD_cons_succ] at *
    omega
theorem fLen_take : ∀ (f : List Vc.Item) (k : Nat), fLen (f.take k) ≤ fLen f
  | [], k => by simp
  | x :: f, 0 => by simp [fLen]
  | x :: f, k + 1 => by
    have := fLen_take f k
    simp only [fLen, List.take_succ_cons, List.map_cons, List.sum_cons] at *
    omega
theorem fLen_snoc (f : List Vc.Item) (k : Nat) (h : k < f.length) : fLen (f.take k) + (f.getD k default).text.length ≤ fLen f := by
  have h1 := fLen_take f (k + 1)
  rw [take_succD f k h] at h1
  simpa [fLen] using h1
theorem tokI_text {x : Vc.Item} (h : x.kind = 1) : tokI x = cutT x.text := if_pos h
theorem tokI_tag {x : Vc.Item} (h : x.kind = 2 ∨ x.kind = 3 ∨ x.kind = 4 ∨ x.kind = 5) : tokI x = [x] := by unfold tokI; rw [if_neg ω, if_pos ω]
theorem tokI_none {x : Vc.Item} (h : ¬ x.kind = 1) (h2 : ¬ x.kind = 2) (h3 : ¬ x.kind = 3) (h4 : ¬ x.kind = 4) (h5 : ¬ x.kind = 5) : tokI x = [] := by unfold tokI; rw [if_neg h, if_neg ω]
theorem cut_bd (s : Str) : (cutT s).length ≤ s.length := cutT_len _ s rfl
theorem len_pos {r : Str} (h : ¬ r = []) : 0 < r.length := List.length_pos_iff.2 h
theorem tokens_calls {ao : Option Addr} {b off cap : Nat} {f : List Vc.Item} {w0 : World} (hf : RowE w0 ao b off cap f) (hz : fLen f + f.length ≤ 1000000000) :
    Calls Tryz.prog 59 #[.slice ao f.length cap] w0 fun e w' => ∃ v, e = .returned v ∧ Evo w0 w' [] ∧ OwnE w' w0.heap.size 96 v (toks f) := by
 refine calls_enter (n := 50) Tryz.func59 rfl Tryz.ntmps59 rfl ?_
 have hV : Evo w0 w0 [] := Evo.refl _ _
 have hf0 := keepE hf
 have hbd_hf := hf.bd
 refine Zs ?_
 refine Zn asS ?_
 refine Zs ?_
 refine Zn asS ?_
 refine r_seq ?_
 refine Zs ?_
 refine Zo mvS ?_
 refine Zo (run_lenSl rfl η Tryz.underlying33) ?_
 refine Zn mvI ?_
 refine r_block ?_
 refine r_loop (α := Nat) [3, 5, 6, 7, 8, 11, 12, 13, 14, 15, 16, 17, 18, 19, 20, 21, 22, 23, 24, 25, 26, 27, 28, 29, 30, 31, 32, 33, 34, 35, 36, 37, 38, 39, 40, 41, 42, 43, 44, 45, 46, 47, 48] (fun k g w => ∃ vo : Value, g 11 = .int .i64 (k : Nat) ∧ g 3 = vo ∧ k ≤ f.length ∧ OwnE w w0.heap.size 96 vo (toks (f.take k)) ∧ w0.heap.size ≤ w.heap.size ∧ Evo w0 w []) (fun k => f.length - k) 0 ?_ ?_
 ·refine ⟨_, σ, rfl, δ, (OwnE.nil _ _ _), δ, hV⟩
 rintro k g w2 ⟨vo, hj3, hj4, hk_k, hoo, hzl1, hV⟩
 have hs_w2hV := hV.size
 replace hf := hf0 _ hV
 refine Zk 11 (v := .int .i64 (k : Nat)) (by exact hj3) ?_
 refine Zk 3 (v := vo) (by exact hj4) ?_
 have htl := toks_len (f.take k); have hfl := fLen_take f k
 have hfa := fLen_at f k
 have hft : (f.take k).length ≤ k := List.length_take_le _ _
 have hcb := cut_bd (f.getD k default).text
 have hfs := fun h => fLen_snoc f k h
 refine Zs ?_
 refine Zn (run_lss rfl η η) ?_
 refine r_seq ?_
 refine r_cond η (fun hc5 => ?_) (fun hc5 => ?_)
 ·skip
  refine r_skip ?_
  refine r_seq ?_
  refine r_block ?_
  refine Zs ?_
  refine Zo (run_ix (k) rfl Tryz.underlying33 ty_32 η η (by first | exact rfl | omega) ω (hf.addr (i := k) ω)) ?_
  have hA60 := fun (w' : World) (h : Evo w0 w' []) => (hf0 w' h).atD (k) ω
  have hA6 := hA60 _ hV
  refine Zo (run_ldN rfl ag_32 ty_32 η rfl hA6) ?_
  have hob7 := fun g hg => (hoo.block (g := g) hg).2
  refine r_var (zs := [_, _, _]) (vs := [_, _, _]) ty_32 η rfl η (fun _ => rfl) η rfl rfl η ?_
  intro b8 w9 J8 E9 B8 Y8
  have Q9 := E9.size
  replace hV := Z0 hV E9
  replace hf := hf0 _ hV
  replace hoo := hoo.evo0 E9
  refine r_nil ?_
  refine Zs ?_
  refine Zo (run_fa rfl η fo_32_0) ?_
  refine Zn (run_ld1 rfl ag_3 η (B8.at.cell 0 η)) ?_
  refine r_block ?_
  refine r_seq ?_
  refine Zs ?_
  refine Zo (run_eql rfl η η) ?_
  refine Zn asB ?_
  refine r_cond η (fun hc10 => ?_) (fun hc10 => ?_)
  ·skip
   refine r_skip ?_
   refine r_condT η hc10 ?_
   refine r_region ?_
   refine Zo (run_mv (v := vo) rfl η) ?_
   refine Zo (run_ldN rfl ag_32 ty_32 η rfl B8.at) ?_
   refine r_append1E (u := .agg _) (y := (f.getD k default : Vc.Item)) rfl rfl Tryz.underlying94 ty_96 η hoo (fun _ => η) η (by first | exact rfl | (show _ = List.toArray [_, _, _]; first | (dsimp only; done) | exact rfl | (dsimp only; exact rfl))) ((by first | omega | (simp; omega))) ((by first | omega | (simp; omega))) ω ?_
   intro q_v11 v11 w12 E12 hov11 hlv11
   have Q12 := E12.size
   replace hV := evo_stepo hV E12 (fun g hg => .inl (by first | exact (hoo.block hg).1 | (have := hoo.block hg; omega)))
   replace hf := hf0 _ hV
   refine Zn (run_asg (v := v11) rfl η) ?_
   refine r_blk ?_
   refine r_blk ?_
   refine r_region ?_
   refine Zo (run_add rfl η η ω ω) ?_
   refine Zn mvI ?_
   refine r_again (k + 1) ?_ ?_ ?_
   ·first | omega | (dsimp only; omega)
   ·refine ⟨_, σ, rfl, δ, (by rw [toks_succ ω]; first | (rw [tokI_text (by assumption)]; have h8 : r = [] := Classical.not_not.1 (by assumption); rw [h8, cutT_nil, List.append_nil] at hacc; rw [← hacc]; exact ho2) | (rw [tokI_text (by assumption)]; exact hov11) | (rw [tokI_tag (by first | exact .inl (by assumption) | exact .inr (.inl (by assumption)) | exact .inr (.inr (.inl (by assumption))) | exact .inr (.inr (.inr (by assumption))))]; exact hov11) | (rw [tokI_none (by assumption) (by assumption) (by assumption) (by assumption) (by assumption), List.append_nil]; exact hov11)), δ, hV⟩
   exact ψ
  refine Zs ?_
  refine Zo (run_eql rfl η η) ?_
  refine Zn asB ?_
  refine r_cond η (fun hc13 => ?_) (fun hc13 => ?_)
  ·skip
   refine r_skip ?_
   refine r_condT η hc13 ?_
   refine r_region ?_
   refine Zo (run_mv (v := vo) rfl η) ?_
   refine Zo (run_ldN rfl ag_32 ty_32 η rfl B8.at) ?_
   refine r_append1E (u := .agg _) (y := (f.getD k default : Vc.Item)) rfl rfl Tryz.underlying94 ty_96 η hoo (fun _ => η) η (by first | exact rfl | (show _ = List.toArray [_, _, _]; first | (dsimp only; done) | exact rfl | (dsimp only; exact rfl))) ((by first | omega | (simp; omega))) ((by first | omega | (simp; omega))) ω ?_
   intro q_v14 v14 w15 E15 hov14 hlv14
   have Q15 := E15.size
   replace hV := evo_stepo hV E15 (fun g hg => .inl (by first | exact (hoo.block hg).1 | (have := hoo.block hg; omega)))
   replace hf := hf0 _ hV
   refine Zn (run_asg (v := v14) rfl η) ?_
   refine r_blk ?_
   refine r_blk ?_
   refine r_region ?_
   refine Zo (run_add rfl η η ω ω) ?_
   refine Zn mvI ?_
   refine r_again (k + 1) ?_ ?_ ?_
   ·first | omega | (dsimp only; omega)
   ·refine ⟨_, σ, rfl, δ, (by rw [toks_succ ω]; first | (rw [tokI_text (by assumption)]; have h8 : r = [] := Classical.not_not.1 (by assumption); rw [h8, cutT_nil, List.append_nil] at hacc; rw [← hacc]; exact ho2) | (rw [tokI_text (by assumption)]; exact hov14) | (rw [tokI_tag (by first | exact .inl (by assumption) | exact .inr (.inl (by assumption)) | exact .inr (.inr (.inl (by assumption))) | exact .inr (.inr (.inr (by assumption))))]; exact hov14) | (rw [tokI_none (by assumption) (by assumption) (by assumption) (by assumption) (by assumption), List.append_nil]; exact hov14)), δ, hV⟩
   exact ψ
  refine Zs ?_
  refine Zo (run_eql rfl η η) ?_
  refine Zn asB ?_
  refine r_cond η (fun hc16 => ?_) (fun hc16 => ?_)
  ·skip
   refine r_skip ?_
   refine r_condT η hc16 ?_
   refine r_region ?_
   refine Zo (run_mv (v := vo) rfl η) ?_
   refine Zo (run_ldN rfl ag_32 ty_32 η rfl B8.at) ?_
   refine r_append1E (u := .agg _) (y := (f.getD k default : Vc.Item)) rfl rfl Tryz.underlying94 ty_96 η hoo (fun _ => η) η (by first | exact rfl | (show _ = List.toArray [_, _, _]; first | (dsimp only; done) | exact rfl | (dsimp only; exact rfl))) ((by first | omega | (simp; omega))) ((by first | omega | (simp; omega))) ω ?_
   intro q_v17 v17 w18 E18 hov17 hlv17
   have Q18 := E18.size
   replace hV := evo_stepo hV E18 (fun g hg => .inl (by first | exact (hoo.block hg).1 | (have := hoo.block hg; omega)))
   replace hf := hf0 _ hV
   refine Zn (run_asg (v := v17) rfl η) ?_
   refine r_blk ?_
   refine r_blk ?_
   refine r_region ?_
   refine Zo (run_add rfl η η ω ω) ?_
   refine Zn mvI ?_
   refine r_again (k + 1) ?_ ?_ ?_
   ·first | omega | (dsimp only; omega)
   ·refine ⟨_, σ, rfl, δ, (by rw [toks_succ ω]; first | (rw [tokI_text (by assumption)]; have h8 : r = [] := Classical.not_not.1 (by assumption); rw [h8, cutT_nil, List.append_nil] at hacc; rw [← hacc]; exact ho2) | (rw [tokI_text (by assumption)]; exact hov17) | (rw [tokI_tag (by first | exact .inl (by assumption) | exact .inr (.inl (by assumption)) | exact .inr (.inr (.inl (by assumption))) | exact .inr (.inr (.inr (by assumption))))]; exact hov17) | (rw [tokI_none (by assumption) (by assumption) (by assumption) (by assumption) (by assumption), List.append_nil]; exact hov17)), δ, hV⟩
   exact ψ
  refine r_region ?_
  refine Zo (run_eql rfl η η) ?_
  refine Zn asB ?_
  refine r_cond η (fun hc19 => ?_) (fun hc19 => ?_)
  ·skip
   refine r_region ?_
   refine Zo (run_mv (v := vo) rfl η) ?_
   refine Zo (run_ldN rfl ag_32 ty_32 η rfl B8.at) ?_
   refine r_append1E (u := .agg _) (y := (f.getD k default : Vc.Item)) rfl rfl Tryz.underlying94 ty_96 η hoo (fun _ => η) η (by first | exact rfl | (show _ = List.toArray [_, _, _]; first | (dsimp only; done) | exact rfl | (dsimp only; exact rfl))) ((by first | omega | (simp; omega))) ((by first | omega | (simp; omega))) ω ?_
   intro q_v20 v20 w21 E21 hov20 hlv20
   have Q21 := E21.size
   replace hV := evo_stepo hV E21 (fun g hg => .inl (by first | exact (hoo.block hg).1 | (have := hoo.block hg; omega)))
   replace hf := hf0 _ hV
   refine Zn (run_asg (v := v20) rfl η) ?_
   refine r_blk ?_
   refine r_blk ?_
   refine r_region ?_
   refine Zo (run_add rfl η η ω ω) ?_
   refine Zn mvI ?_
   refine r_again (k + 1) ?_ ?_ ?_
   ·first | omega | (dsimp only; omega)
   ·refine ⟨_, σ, rfl, δ, (by rw [toks_succ ω]; first | (rw [tokI_text (by assumption)]; have h8 : r = [] := Classical.not_not.1 (by assumption); rw [h8, cutT_nil, List.append_nil] at hacc; rw [← hacc]; exact ho2) | (rw [tokI_text (by assumption)]; exact hov20) | (rw [tokI_tag (by first | exact .inl (by assumption) | exact .inr (.inl (by assumption)) | exact .inr (.inr (.inl (by assumption))) | exact .inr (.inr (.inr (by assumption))))]; exact hov20) | (rw [tokI_none (by assumption) (by assumption) (by assumption) (by assumption) (by assumption), List.append_nil]; exact hov20)), δ, hV⟩
   exact ψ
  refine Zs ?_
  refine Zo (run_eql rfl η η) ?_
  refine Zn asB ?_
  refine r_cond η (fun hc22 => ?_) (fun hc22 => ?_)
  ·skip
   refine Zs ?_
   refine Zo (run_fa rfl η fo_32_1) ?_
   refine Zo (run_ld1 rfl ag_9 η (B8.at.cell 1 η)) ?_
   refine Zn asT ?_
   refine r_block ?_
   refine r_loop (α := Str) [3, 6, 7, 8, 30, 31, 32, 33, 34, 35, 36, 37, 38, 39, 40, 41, 42, 43, 44, 45, 46, 47] (fun r g w => ∃ vo2 : Value, ∃ l : List Vc.Item, g 6 = S r ∧ g 3 = vo2 ∧ OwnE w w0.heap.size 96 vo2 l ∧ l ++ cutT r = toks (f.take k) ++ cutT (f.getD k default).text ∧ r.length ≤ (f.getD k default).text.length ∧ w9.heap.size ≤ w.heap.size ∧ Evo w0 w []) (fun r => r.length) (f.getD k default).text ?_ ?_
   ·refine ⟨_, _, rfl, rfl, hoo, rfl, (Nat.le_refl _), δ, hV⟩
   rintro r g w24 ⟨vo2, l, hj25, hj26, ho2, hacc, hrl, hzl23, hV⟩
   have hs_w24hV := hV.size
   replace hf := hf0 _ hV
   replace hA6 := hA60 _ hV
   refine Zk 6 (v := S r) (by exact hj25) ?_
   refine Zk 3 (v := vo2) (by exact hj26) ?_
   have hla := congrArg List.length hacc
   rw [List.length_append, List.length_append] at hla
   refine r_seq ?_
   refine Zs ?_
   refine Zo mvT ?_
   refine Zn (run_sneq rfl η η) ?_
   refine r_cond η (fun hc27 => ?_) (fun hc27 => ?_)
   ·skip
    refine r_skip ?_
    refine r_block ?_
    refine r_seq ?_
    have hne : ¬ r = [] := hc27; have htl0 := tokN_len hne; have htp := tokN_pos r; have hr0 := len_pos hne
    refine r_region ?_
    refine Zo mvT ?_
    refine Zr [S _] rfl η Tryz.func102 (tnext_calls ω ω) ?_
    rintro e w28 ⟨rfl, F28⟩
    refine ⟨_, rfl, ?_⟩
    have Q28 := F28.size
    replace hV := Z0 hV F28
    replace ho2 := ho2.evo0 F28
    refine Zo mvU ?_
    refine Zo (run_extract (v := .int _ _) rfl η η) ?_
    refine Zo (run_extract (v := .int _ _) rfl η η) ?_
    refine Zo asI ?_
    refine Zn asI ?_
    refine Zs ?_
    refine Zo (run_mv (v := vo2) rfl η) ?_
    refine Zo mvI ?_
    refine Zo mvT ?_
    refine Zo mvI ?_
    refine Zo (by exact run_slS (0) ((tokN r).2) rfl Tryz.underlying9 η lo0 (at1 η ω) (by first | omega | (simp; omega)) (by first | omega | (simp; omega))) ?_
    refine Zo (run_bld (pv := [(0, .int _ _), (1, S _)]) (zs := [_, _, _]) (cells := [_, _, _]) rfl ty_96 η pl_96 η η) ?_
    refine r_append1E (u := .agg _) (y := (⟨(tokN r).1, r.take (tokN r).2, 0⟩ : Vc.Item)) rfl rfl Tryz.underlying94 ty_96 η ho2 (fun _ => η) η (by first | exact rfl | (show _ = List.toArray [_, _, _]; first | (dsimp only; done) | exact rfl | (dsimp only; exact rfl))) ((by first | omega | (simp; omega))) ((by first | omega | (simp; omega))) ω ?_
    intro q_v29 v29 w30 E30 hov29 hlv29
    have Q30 := E30.size
    replace hV := evo_stepo hV E30 (fun g hg => .inl (by first | exact (ho2.block hg).1 | (have := ho2.block hg; omega)))
    replace hf := hf0 _ hV
    refine Zn (run_asg (v := v29) rfl η) ?_
    refine r_region ?_
    refine Zo mvT ?_
    refine Zo mvI ?_
    refine Zo (by exact run_slS ((tokN r).2) (_) rfl Tryz.underlying9 η (at1 η ω) hi0 (by first | omega | (simp; omega)) (by first | omega | (simp; omega))) ?_
    refine Zn asT ?_
    refine r_blk ?_
    refine r_again (r.drop (tokN r).2) ?_ ?_ ?_
    ·rw [List.length_drop]; have := len_pos hne; omega
    ·refine ⟨_, _, (congrArg S (List.take_of_length_le (by rw [List.length_drop]; exact Nat.le_refl _))), rfl, hov29, (cut_step (p := ((tokN r).1, (tokN r).2)) rfl hacc hne), (by rw [List.length_drop]; omega), δ, hV⟩
    exact ψ
   refine r_exit rfl ?_
   refine r_blk ?_
   refine r_blk ?_
   refine r_region ?_
   refine Zo (run_add rfl η η ω ω) ?_
   refine Zn mvI ?_
   refine r_again (k + 1) ?_ ?_ ?_
   ·first | omega | (dsimp only; omega)
   ·refine ⟨_, σ, rfl, δ, (by rw [toks_succ ω]; first | (rw [tokI_text (by assumption)]; have h8 : r = [] := Classical.not_not.1 (by assumption); rw [h8, cutT_nil, List.append_nil] at hacc; rw [← hacc]; exact ho2) | (rw [tokI_text (by assumption)]; exact ho2) | (rw [tokI_tag (by first | exact .inl (by assumption) | exact .inr (.inl (by assumption)) | exact .inr (.inr (.inl (by assumption))) | exact .inr (.inr (.inr (by assumption))))]; exact ho2) | (rw [tokI_none (by assumption) (by assumption) (by assumption) (by assumption) (by assumption), List.append_nil]; exact ho2)), δ, hV⟩
   exact ψ
  refine r_skip ?_
  refine r_blk ?_
  refine r_blk ?_
  refine r_region ?_
  refine Zo (run_add rfl η η ω ω) ?_
  refine Zn mvI ?_
  refine r_again (k + 1) ?_ ?_ ?_
  ·first | omega | (dsimp only; omega)
  ·refine ⟨_, σ, rfl, δ, (by rw [toks_succ ω]; first | (rw [tokI_text (by assumption)]; have h8 : r = [] := Classical.not_not.1 (by assumption); rw [h8, cutT_nil, List.append_nil] at hacc; rw [← hacc]; exact ho2) | (rw [tokI_text (by assumption)]; exact hoo) | (rw [tokI_tag (by first | exact .inl (by assumption) | exact .inr (.inl (by assumption)) | exact .inr (.inr (.inl (by assumption))) | exact .inr (.inr (.inr (by assumption))))]; exact hoo) | (rw [tokI_none (by assumption) (by assumption) (by assumption) (by assumption) (by assumption), List.append_nil]; exact hoo)), δ, hV⟩
  exact ψ
 refine r_exit rfl ?_
 refine Zs ?_
 refine Zo (run_mv (v := vo) rfl η) ?_
 refine Zn (run_asg (v := vo) rfl η) ?_
 refine r_ret (res1 (v := vo) rfl η) ?_
 exact ⟨_, rfl, hV, by rw [List.take_of_length_le ω] at hoo; exact hoo⟩
end Go.Proofs.YtlfjocbnbceceaaGreatDoor
