/-
  Plain: slices of valid fragments are valid, and join again. No program in sight.
-/
import Derived.Test.YtkdgoghmkmpfnaaPf
namespace Go.Vc
open Go
/-! ### what a valid fragment is -/
theorem formed_nil {b : List Item} {x : Item} : formed b x = true ↔ formed [] x = true ∧ (x.kind = 1 → lastNT b) := by
  by_cases hk : x.kind = 1
  · rw [formed_textb hk, formed_textb hk]
    constructor
    · rintro ⟨h1, h2⟩; exact ⟨⟨h1, .inl rfl⟩, fun _ => lastNT_of h2⟩
    · rintro ⟨⟨h1, _⟩, h2⟩; exact ⟨h1, lastNT_to (h2 hk)⟩
  · have e : formed b x = formed [] x := by unfold formed; rw [if_neg hk, if_neg hk]
    rw [e]
    exact ⟨fun h => ⟨h, fun h2 => absurd h2 hk⟩, fun h => h.1⟩
def hd1 : List Item → Prop
  | [] => False
  | y :: _ => y.kind = 1
/-- no two texts side by side -/
def NA : List Item → Prop
  | [] => True
  | x :: l => ¬ (x.kind = 1 ∧ hd1 l) ∧ NA l
theorem lastNT_cons (y z : Item) (r : List Item) : lastNT (y :: z :: r) ↔ lastNT (z :: r) := by
  unfold lastNT
  have e : (y :: z :: r).getD ((y :: z :: r).length - 1) default = (z :: r).getD ((z :: r).length - 1) default := by simp [List.getD]
  rw [e]
  simp only [List.length_cons]
  constructor
  · intro h h2; exact h ⟨by omega, h2.2⟩
  · intro h h2; exact h ⟨by omega, h2.2⟩
theorem NA_snoc : ∀ (f : List Item) (x : Item), NA (f ++ [x]) ↔ NA f ∧ (x.kind = 1 → lastNT f)
  | [], x => by simp [NA, hd1, lastNT_nil]
  | [y], x => by
    have h : lastNT [y] ↔ ¬ y.kind = 1 := by unfold lastNT; simp
    simp [NA, hd1, h]
    constructor
    · intro h1 h2 h3; exact h1 h3 h2
    · intro h1 h2 h3; exact h1 h3 h2
  | y :: z :: r, x => by
    have ih := NA_snoc (z :: r) x
    rw [lastNT_cons]
    simp only [List.cons_append] at ih ⊢
    show (¬ (y.kind = 1 ∧ z.kind = 1) ∧ NA (z :: (r ++ [x]))) ↔ (¬ (y.kind = 1 ∧ z.kind = 1) ∧ NA (z :: r)) ∧ _
    rw [ih, and_assoc]
def QQ (y x : Item) : Prop := isTag x = true → clash x y = false
theorem any_clash {f : List Item} {x : Item} : ¬ (isTag x = true ∧ f.any (clash x) = true) ↔ ∀ y ∈ f, QQ y x := by
  unfold QQ
  constructor
  · intro h y hy ht
    cases hc : clash x y with
    | false => rfl
    | true => exact absurd ⟨ht, List.any_eq_true.2 ⟨y, hy, hc⟩⟩ h
  · rintro h ⟨ht, ha⟩
    obtain ⟨y, hy, hc⟩ := List.any_eq_true.1 ha
    rw [h y hy ht] at hc; cases hc
theorem check_iff {b : List Item} {x : Item} : checkL b x = 0 ↔ formed b x = true ∧ ∀ y ∈ b, QQ y x := by
  constructor
  · intro h
    refine ⟨checkL_form h, any_clash.1 fun h2 => ?_⟩
    rw [check_tag (checkL_form h) h2.1 h2.2] at h; cases h
  · rintro ⟨h1, h2⟩
    exact check_ok h1 (any_clash.2 h2)
structure VF (f : List Item) : Prop where
  each : ∀ x ∈ f, formed [] x = true
  na : NA f
  qq : f.Pairwise QQ
theorem val_iff (f : List Item) : valGo [] f = 0 ↔ VF f := by
  refine snoc_cases (Q := fun f => valGo [] f = 0 ↔ VF f) ⟨fun _ => ⟨by simp, trivial, List.Pairwise.nil⟩, fun _ => rfl⟩ (fun l x ih => ?_) _ f rfl
  rw [val_snoc, ih, check_iff, formed_nil]
  constructor
  · rintro ⟨h1, ⟨h2, h3⟩, h4⟩
    refine ⟨fun y hy => ?_, (NA_snoc l x).2 ⟨h1.na, h3⟩, List.pairwise_append.2 ⟨h1.qq, List.pairwise_singleton _ _, fun a ha b hb => ?_⟩⟩
    · rcases List.mem_append.1 hy with h5 | h5
      · exact h1.each y h5
      · simp at h5; subst h5; exact h2
    · simp at hb; subst hb; exact h4 a ha
  · intro h
    have h1 := (NA_snoc l x).1 h.na
    have h2 := List.pairwise_append.1 h.qq
    exact ⟨⟨fun y hy => h.each y (List.mem_append_left _ hy), h1.1, h2.1⟩, ⟨h.each x (by simp), h1.2⟩, fun y hy => h2.2.2 y hy x (by simp)⟩
theorem notag_text {y x : Item} (h : y.kind = 1) : QQ y x := fun _ => by
  rw [← Bool.not_eq_true, clash_iff]
  rintro ⟨⟨h1, _⟩, _⟩
  exact notag_of (.inl h) h1
theorem notag_text2 {y x : Item} (h : x.kind = 1) : QQ y x := fun ht => absurd ht (notag_of (.inl h))
/-! ### pieces -/
theorem pieces_past (fr to_ : Int) : ∀ (f : List Item) (at_ : Int), to_ ≤ at_ → pieces f at_ fr to_ = []
  | [], _, _ => rfl
  | x :: f, at_, h => by
    have := width_bd x
    rw [pieces, piece_none (by omega), pieces_past fr to_ f _ (by omega)]; rfl
theorem piece_mem {x y : Item} {at_ fr to_ : Int} (h : y ∈ piece x at_ fr to_) : (y = x ∧ ¬ x.kind = 1) ∨ (y.kind = 1 ∧ x.kind = 1 ∧ y.id = x.id ∧ ¬ y.text = []) := by
  by_cases hl : max fr at_ < min to_ (at_ + widthL x)
  · by_cases hk : x.kind = 1
    · rw [piece_text hl hk] at h
      simp at h; subst h
      refine .inr ⟨hk, hk, rfl, fun e => ?_⟩
      have hw := width_text hk
      have this := congrArg List.length e
      dsimp only at this
      rw [List.length_take, List.length_drop, List.length_nil] at this
      omega
    · rw [piece_other hl hk] at h
      simp at h; exact .inl ⟨h, hk⟩
  · rw [piece_none hl] at h; cases h
theorem pieces_mem {y : Item} {fr to_ : Int} : ∀ {f : List Item} {at_ : Int}, y ∈ pieces f at_ fr to_ → (y ∈ f ∧ ¬ y.kind = 1) ∨ (y.kind = 1 ∧ ¬ y.text = [] ∧ ∃ x ∈ f, x.kind = 1 ∧ y.id = x.id)
  | x :: f, at_, h => by
    rw [pieces] at h
    rcases List.mem_append.1 h with h | h
    · rcases piece_mem h with ⟨rfl, h2⟩ | ⟨h1, h2, h3, h4⟩
      · exact .inl ⟨by simp, h2⟩
      · exact .inr ⟨h1, h4, x, by simp, h2, h3⟩
    · rcases pieces_mem h with ⟨h1, h2⟩ | ⟨h1, h2, x', h3, h4⟩
      · exact .inl ⟨by simp [h1], h2⟩
      · exact .inr ⟨h1, h2, x', by simp [h3], h4⟩
theorem pieces_hd {x : Item} {f : List Item} {at_ fr to_ : Int} (hx : x.kind = 1) (hn : NA (x :: f)) (hat : fr < at_) : ¬ hd1 (pieces f at_ fr to_) := by
  cases f with
  | nil => exact fun h => h
  | cons y f =>
    have hy : ¬ y.kind = 1 := fun h => hn.1 ⟨hx, h⟩
    have hw := width_other hy
    by_cases h : at_ < to_
    · rw [pieces, piece_other (by omega) hy]
      exact hy
    · rw [pieces_past _ _ _ _ (by omega)]; exact fun h => h
theorem NA_tail {x : Item} {l : List Item} (h : NA (x :: l)) : NA l := h.2
theorem pieces_NA (fr to_ : Int) : ∀ (f : List Item) (at_ : Int), (∀ x ∈ f, formed [] x = true) → NA f → NA (pieces f at_ fr to_)
  | [], _, _, _ => trivial
  | x :: f, at_, he, hn => by
    have ih := pieces_NA fr to_ f (at_ + widthL x) (fun y hy => he y (by simp [hy])) (NA_tail hn)
    rw [pieces]
    by_cases hl : max fr at_ < min to_ (at_ + widthL x)
    · by_cases hk : x.kind = 1
      · rw [piece_text hl hk]
        exact ⟨fun h => pieces_hd hk hn (by omega) h.2, ih⟩
      · rw [piece_other hl hk]
        exact ⟨fun h => hk h.1, ih⟩
    · rw [piece_none hl]; exact ih
theorem pieces_qq (fr to_ : Int) : ∀ (f : List Item) (at_ : Int), f.Pairwise QQ → (pieces f at_ fr to_).Pairwise QQ
  | [], _, _ => List.Pairwise.nil
  | x :: f, at_, h => by
    obtain ⟨h1, h2⟩ := List.pairwise_cons.1 h
    rw [pieces]
    refine List.pairwise_append.2 ⟨?_, pieces_qq fr to_ f _ h2, fun a ha b hb => ?_⟩
    · unfold piece; split
      · exact List.pairwise_singleton _ _
      · exact List.Pairwise.nil
    · rcases piece_mem ha with ⟨rfl, _⟩ | ⟨h3, _⟩
      · rcases pieces_mem hb with ⟨h4, _⟩ | ⟨h4, _⟩
        · exact h1 b h4
        · exact notag_text2 h4
      · exact notag_text h3
theorem VF.pieces {f : List Item} (h : VF f) (at_ fr to_ : Int) : VF (Vc.pieces f at_ fr to_) := by
  refine ⟨fun y hy => ?_, pieces_NA fr to_ f at_ h.each h.na, pieces_qq fr to_ f at_ h.qq⟩
  rcases pieces_mem hy with ⟨h1, _⟩ | ⟨h1, h2, x, h3, h4, h5⟩
  · exact h.each y h1
  · have h6 := (formed_textb h4).1 (h.each x h3)
    exact (formed_textb h1).2 ⟨⟨h2, h5.trans h6.1.2⟩, .inl rfl⟩
/-! ### units -/
def Eqv (A B : List Item) : Prop := ∀ o : List Item, A.foldl normStep o = B.foldl normStep o
theorem Eqv.refl (A : List Item) : Eqv A A := fun _ => rfl
theorem Eqv.symm {A B : List Item} (h : Eqv A B) : Eqv B A := fun o => (h o).symm
theorem Eqv.trans {A B C : List Item} (h : Eqv A B) (h2 : Eqv B C) : Eqv A C := fun o => (h o).trans (h2 o)
theorem Eqv.append {A B A' B' : List Item} (h : Eqv A A') (h2 : Eqv B B') : Eqv (A ++ B) (A' ++ B') := fun o => by rw [List.foldl_append, List.foldl_append, h, h2]
theorem Eqv.norm {A B : List Item} (h : Eqv A B) : normL A = normL B := h []
theorem eqv_norm (A : List Item) : Eqv (normL A) A := fun o => norm_absorb o A
def one (c : UInt8) : Item := ⟨1, [c], 0⟩
def unitsI (x : Item) : List Item := if x.kind = 1 then x.text.map one else [x]
def units (f : List Item) : List Item := f.flatMap unitsI
theorem eqv_text : ∀ (s : Str) (i : Int), Eqv [⟨1, s, i⟩] (s.map one)
  | [], i => fun o => by simp only [List.foldl_cons, List.foldl_nil, List.map_nil]; exact norm_empty rfl rfl
  | c :: s, i => fun o => by
    show normStep o ⟨1, c :: s, i⟩ = (s.map one).foldl normStep (normStep o (one c))
    rw [← eqv_text s 0]
    exact (norm_two o (y := one c) (x := ⟨1, s, 0⟩) rfl rfl i).symm
theorem eqv_item (x : Item) : Eqv [x] (unitsI x) := by
  unfold unitsI
  split
  · rename_i h
    obtain ⟨k, s, i⟩ := x
    obtain rfl : k = 1 := h
    exact eqv_text s i
  · exact Eqv.refl _
theorem eqv_units : ∀ f : List Item, Eqv f (units f)
  | [] => Eqv.refl _
  | x :: f => by
    have h : Eqv ([x] ++ f) (unitsI x ++ units f) := (eqv_item x).append (eqv_units f)
    simpa [units] using h
theorem unitsI_len (x : Item) : ((unitsI x).length : Int) = widthL x := by
  unfold unitsI widthL
  split <;> simp
theorem units_len : ∀ f : List Item, ((units f).length : Int) = lengthL f
  | [] => rfl
  | x :: f => by
    have h1 := unitsI_len x
    have h2 := units_len f
    have h3 : lengthL (x :: f) = widthL x + lengthL f := by simp [lengthL]
    have h4 : units (x :: f) = unitsI x ++ units f := by simp [units]
    rw [h3, h4, List.length_append]
    omega
theorem eqv_piece (x : Item) (at_ fr to_ : Int) : Eqv (piece x at_ fr to_) (((unitsI x).take (to_ - at_).toNat).drop (fr - at_).toNat) := by
  by_cases hk : x.kind = 1
  · have hw := width_text hk
    unfold unitsI
    rw [if_pos hk, ← List.map_take, ← List.map_drop]
    by_cases hl : max fr at_ < min to_ (at_ + widthL x)
    · rw [piece_text hl hk, hk]
      have e : (x.text.drop (max fr at_ - at_).toNat).take ((min to_ (at_ + widthL x) - at_).toNat - (max fr at_ - at_).toNat) = (x.text.take (to_ - at_).toNat).drop (fr - at_).toNat := by
        have e1 : (max fr at_ - at_).toNat = (fr - at_).toNat := by omega
        rw [e1, List.drop_take]
        rcases Int.le_total to_ (at_ + widthL x) with h | h
        · rw [show min to_ (at_ + widthL x) = to_ by omega]
        · rw [show min to_ (at_ + widthL x) = at_ + widthL x by omega, List.take_of_length_le (by rw [List.length_drop]; omega), List.take_of_length_le (by rw [List.length_drop]; omega)]
      rw [e]
      exact eqv_text _ _
    · rw [piece_none hl]
      have e : (x.text.take (to_ - at_).toNat).drop (fr - at_).toNat = [] := List.drop_eq_nil_of_le (by rw [List.length_take]; omega)
      rw [e]; exact Eqv.refl _
  · have hw := width_other hk
    unfold unitsI
    rw [if_neg hk]
    by_cases hl : max fr at_ < min to_ (at_ + widthL x)
    · rw [piece_other hl hk, List.take_of_length_le (by simp; omega), show (fr - at_).toNat = 0 by omega]
      exact Eqv.refl _
    · rw [piece_none hl]
      have e : ([x].take (to_ - at_).toNat).drop (fr - at_).toNat = [] := List.drop_eq_nil_of_le (by rw [List.length_take]; simp; omega)
      rw [e]; exact Eqv.refl _
theorem eqv_pieces (fr to_ : Int) : ∀ (f : List Item) (at_ : Int), Eqv (pieces f at_ fr to_) (((units f).take (to_ - at_).toNat).drop (fr - at_).toNat)
  | [], at_ => by simp [pieces, units]; exact Eqv.refl _
  | x :: f, at_ => by
    have h4 : units (x :: f) = unitsI x ++ units f := by simp [units]
    have hl := unitsI_len x
    have hw := width_bd x
    have h5 : ((units (x :: f)).take (to_ - at_).toNat).drop (fr - at_).toNat = (((unitsI x).take (to_ - at_).toNat).drop (fr - at_).toNat) ++ (((units f).take (to_ - (at_ + widthL x)).toNat).drop (fr - (at_ + widthL x)).toNat) := by
      rw [h4, List.take_append, List.drop_append, List.length_take]
      have e1 : (to_ - at_).toNat - (unitsI x).length = (to_ - (at_ + widthL x)).toNat := by omega
      rw [e1]
      congr 1
      rcases Nat.le_total (unitsI x).length (to_ - at_).toNat with h | h
      · rw [Nat.min_eq_right h]; congr 1; omega
      · rw [show (to_ - (at_ + widthL x)).toNat = 0 by omega]; simp
    rw [h5, pieces]
    exact (eqv_piece x at_ fr to_).append (eqv_pieces fr to_ f _)
theorem eqv_slice (f : List Item) (fr to_ : Int) : Eqv (pieces f 0 fr to_) (((units f).take to_.toNat).drop fr.toNat) := by
  have h := eqv_pieces fr to_ f 0
  rw [Int.sub_zero, Int.sub_zero] at h
  exact h
theorem cut_two {α : Type} (u : List α) {i k : Nat} (h : i ≤ k) : u.take k = u.take i ++ (u.take k).drop i := by
  have h1 := (List.take_append_drop i (u.take k)).symm
  rw [List.take_take, Nat.min_eq_left h] at h1
  exact h1
theorem slices_two (f : List Item) {k n : Int} (_ : 0 ≤ k) (h1 : k ≤ n) (hn : n = lengthL f) : Eqv (pieces f 0 0 k ++ pieces f 0 k n) f := by
  have hu := units_len f
  refine ((eqv_slice f 0 k).append (eqv_slice f k n)).trans ?_
  have e : ((units f).take k.toNat).drop (0 : Int).toNat ++ ((units f).take n.toNat).drop k.toNat = units f := by
    show (units f).take k.toNat ++ _ = _
    rw [← cut_two (units f) (show k.toNat ≤ n.toNat by omega), List.take_of_length_le (by omega)]
  rw [e]; exact (eqv_units f).symm
theorem slices_three (f : List Item) {i k n : Int} (_ : 0 ≤ i) (h1 : i ≤ k) (h2 : k ≤ n) (hn : n = lengthL f) : Eqv (pieces f 0 0 i ++ pieces f 0 i k ++ pieces f 0 k n) f := by
  have hu := units_len f
  refine (((eqv_slice f 0 i).append (eqv_slice f i k)).append (eqv_slice f k n)).trans ?_
  have e : ((units f).take i.toNat).drop (0 : Int).toNat ++ ((units f).take k.toNat).drop i.toNat ++ ((units f).take n.toNat).drop k.toNat = units f := by
    show (units f).take i.toNat ++ _ ++ _ = _
    rw [← cut_two (units f) (show i.toNat ≤ k.toNat by omega), ← cut_two (units f) (show k.toNat ≤ n.toNat by omega), List.take_of_length_le (by omega)]
  rw [e]; exact (eqv_units f).symm
theorem eqv_length {A B : List Item} (h : Eqv A B) : lengthL A = lengthL B := by rw [← normL_length A, ← normL_length B, h.norm]
theorem eqv_plain {A B : List Item} (h : Eqv A B) : plainL A = plainL B := by rw [← normL_plain A, ← normL_plain B, h.norm]
theorem units_width : ∀ (u : List Item), (∀ x ∈ u, widthL x = 1) → lengthL u = (u.length : Nat)
  | [], _ => rfl
  | x :: u, h => by
    have h1 := h x (by simp)
    have h2 := units_width u (fun y hy => h y (by simp [hy]))
    have h3 : lengthL (x :: u) = widthL x + lengthL u := by simp [lengthL]
    rw [h3, h1, h2, List.length_cons]; omega
theorem units_one {f : List Item} {x : Item} (h : x ∈ units f) : widthL x = 1 := by
  obtain ⟨y, _, hy⟩ := List.mem_flatMap.1 h
  unfold unitsI at hy
  split at hy
  · obtain ⟨c, _, rfl⟩ := List.mem_map.1 hy; rfl
  · rename_i hk
    simp at hy; subst hy; exact width_other hk
theorem slice_length (f : List Item) {i k : Int} (h0 : 0 ≤ i) (h1 : i ≤ k) (h2 : k ≤ lengthL f) : lengthL (pieces f 0 i k) = k - i := by
  have hu := units_len f
  rw [eqv_length (eqv_slice f i k), units_width _ (fun x hx => units_one (List.mem_of_mem_take (List.mem_of_mem_drop hx))), List.length_drop, List.length_take]
  omega
theorem sliceL_in {f : List Item} {i k : Int} (h0 : 0 ≤ i) (h1 : i ≤ k) (h2 : k ≤ lengthL f) : sliceL f i k = (pieces f 0 i k, true) := by unfold sliceL; rw [if_neg (by omega)]
theorem pieces_len2 (f : List Item) (fr to_ : Int) : (pieces f 0 fr to_).length ≤ f.length := by
  have := pieces_len f f.length fr to_
  rwa [List.take_of_length_le (Nat.le_refl _)] at this
theorem piece_size (x : Item) (at_ fr to_ : Int) : sizeL (piece x at_ fr to_) ≤ x.text.length := by
  by_cases hl : max fr at_ < min to_ (at_ + widthL x)
  · by_cases hk : x.kind = 1
    · rw [piece_text hl hk, sizeL_one]; dsimp only; rw [List.length_take, List.length_drop]; omega
    · rw [piece_other hl hk, sizeL_one]; exact Nat.le_refl _
  · rw [piece_none hl]; exact Nat.zero_le _
theorem pieces_size (fr to_ : Int) : ∀ (f : List Item) (at_ : Int), sizeL (pieces f at_ fr to_) ≤ sizeL f
  | [], _ => Nat.le_refl _
  | x :: f, at_ => by
    have h1 := piece_size x at_ fr to_
    have h2 := pieces_size fr to_ f (at_ + widthL x)
    have h3 : sizeL (x :: f) = x.text.length + sizeL f := by simp [sizeL]
    rw [pieces, sizeL_append, h3]; omega
theorem pieces_small {f : List Item} (h : Small f) (fr to_ : Int) : Small (pieces f 0 fr to_) := ⟨by have := pieces_len2 f fr to_; have := h.1; omega, by have := pieces_size fr to_ f 0; have := h.2; omega⟩
/-- a slice is valid -/
theorem slice_valid {f : List Item} (hv : valGo [] f = 0) (hl : f.length ≤ 512) {i k : Int} (h0 : 0 ≤ i) (h1 : i ≤ k) (h2 : k ≤ lengthL f) (h3 : lengthL f ≤ 1024) : validateL (pieces f 0 i k) = 0 := by
  have h4 := slice_length f h0 h1 h2
  have h5 := pieces_len2 f i k
  unfold validateL
  rw [if_neg (by omega)]
  exact (val_iff _).2 (((val_iff f).1 hv).pieces 0 i k)
end Go.Vc
