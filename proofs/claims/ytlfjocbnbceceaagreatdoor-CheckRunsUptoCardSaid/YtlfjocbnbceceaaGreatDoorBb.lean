/-
  Library, plain laws and walks that the statements reach (joined by a program out of smaller texts).
-/
import Derived.Test.YtlfjocbnbceceaaGreatDoorBa
import Derived.Test.YtlfjocbnbceceaaGreatDoorRows
import Derived.Sort.KeysCollected
import Derived.Sort.Walk0
import Derived.Lib.ConvBytes
import Derived.ArgAppend
import Derived.Laws.IdiomCopy
import Derived.Shelf.SlIter.Nil
import Derived.Shelf.SortM.Plain
import Derived.Shelf.SortM.SortNone
import Derived.Ground.GgzProg
import Derived.Ground.SlgmProg
import Derived.Test.YtlfjocbnbceceaaGreatDoorProg
import Derived.Maps.Range
set_option linter.unusedVariables false
set_option linter.unusedSimpArgs false
namespace Go.Proofs.YtlfjocbnbceceaaGreatDoor
open Go.RowKit Go.Vc Go.Proofs.Tryz
theorem Qw {s : AQ} {I : World}  :
    Calls Tryz.prog 140 #[S s] I fun e w' => e = .returned (.bool (Cs s)) ∧ Evo I w' [] := by
 refine AG (n := 51) func140 rfl ntmps140 rfl ?_
 have C : Evo I I [] := Evo.refl _ _
 refine Zs (Zn A6 (AB (Zs (Zo Au (Zo (Al rfl η underlying9) (Zo Bu (Zo Br ?_)))))))
 refine Ab rfl Ay rfl (fun o => Au) ?_
 refine Ab rfl Ay rfl (fun o => Al rfl (Af o) underlying9) ?_
 refine Ab rfl Ay rfl (fun o => Bf rfl (Af o) η) ?_
 refine Zo Ee (Zo Br ?_)
 refine Ab rfl Ay rfl (fun o => Au) ?_
 refine Ab rfl Ay rfl (fun o => A3 (0) rfl underlying9 (Af o) η χ ω) ?_
 refine Ab rfl Ay rfl (fun o => Cx rfl (Af o) η) ?_
 refine Zo Ee (Zo Br ?_)
 refine Ab rfl Ay rfl (fun o => Au) ?_
 refine Ab rfl Ay rfl (fun o => A3 (0) rfl underlying9 (Af o) η χ ω) ?_
 refine Ab rfl Ay rfl (fun o => Bf rfl (Af o) η) ?_
 refine Zn Ee (AE η (fun R => ?_) (fun R => ?_))
 refine Zs (Zn A6 (AK Dk ?_))
 exact ⟨by rw [OG ω], C⟩
 refine AF (AB (Zs (Zn Ah (AD (AZ (α := Nat) [2, 3, 4, 23, 24, 25, 26, 27, 28, 29, 30, 31, 32, 33, 34, 35, 36, 37, 38, 39, 40, 41, 42, 43, 44, 45, 46, 47, 48, 49, 50] (fun k g w => g 3 = .int .i64 (k : Nat) ∧ (1 ≤ k ∧ k ≤ s.length) ∧ (∀ j, 1 ≤ j → j < k → NT (s.getD j 0) = true) ∧ I.heap.size ≤ w.heap.size ∧ Evo I w []) (fun k => s.length - k) 1 ?_ ?_)))))
 refine ⟨σ, δ, (fun j h1 h2 => by omega), δ, C⟩
 rintro k g w3 ⟨ao, hk, hall, hzl2, C⟩
 have J := C.size
 refine Zk 3 ao (AB (Zs (Zo AN (Zo Au (Zo (Al rfl η underlying9) (Zn Bu (AE η (fun U => ?_) (fun U => ?_))))))))
 refine AF (AB (AD (Zs (Zo Au (Zo AN (Zo (A3 (k) rfl underlying9 η η χ ω) (Zn Ah (Zs (Zo AN ?_)))))))))
 refine Zo (BQ rfl η η) (Zo Br ?_)
 refine Ab rfl Aq rfl (fun o => AN) ?_
 refine Ab rfl Aq rfl (fun o => Cy rfl (Af o) η) ?_
 refine Zo Fm (Zo Br ?_)
 refine Ab rfl Ay rfl (fun o => AN) ?_
 refine Ab rfl Ay rfl (fun o => BQ rfl (Af o) η) ?_
 refine Ab rfl Ay rfl (fun o => AP (v := .bool _) rfl (Af o)) ?_
 refine Ab rfl (Ce η) rfl (fun o => AN) ?_
 refine Ab rfl (Ce η) rfl (fun o => Cy rfl (Af o) η) ?_
 refine Ab rfl Ay rfl (fun o => Bc rfl (Af o) (fun hq => IK η (fun h => h) (And.intro o hq)) rfl) ?_
 refine Zo Ee (Zo Br ?_)
 refine Ab rfl Ay rfl (fun o => AN) ?_
 refine Ab rfl Ay rfl (fun o => A1 rfl (Af o) η) ?_
 refine Zo Ee (Zn (CQ rfl η) (AE η (fun ag => ?_) (fun ag => ?_)))
 refine Zs (Zn A6 (AK Dk ?_))
 exact ⟨by rw [OK (k := k) ω ω], C⟩
 refine AF (AO (AA (Zo AN (Zo A8 (Zn Ah (Zg (k + 1) ?_))))))
 refine ⟨σ, δ, (ad hall (fun _ => (Lg _).2 ω)), δ, C⟩
 refine AW rfl (Zs (Zn A6 (AK Dk ?_)))
 exact ⟨by rw [(H6 s).2 ⟨by omega, by omega, by omega, fun j h1 h2 => hall j h1 ω⟩], C⟩
theorem PB {s : AQ} {I : World}  :
    Calls Tryz.prog 147 #[S s] I fun e w' => e = .returned (.bool (Cs s)) ∧ Evo I w' [] := by
 refine AG (n := 44) func147 rfl ntmps147 rfl ?_
 have C : Evo I I [] := Evo.refl _ _
 refine Zs (Zn A6 (AB (Zs (Zo Au (Zo (Al rfl η underlying9) (Zo Bu (Zo Br ?_)))))))
 refine Ab rfl Ay rfl (fun o => Au) ?_
 refine Ab rfl Ay rfl (fun o => Al rfl (Af o) underlying9) ?_
 refine Ab rfl Ay rfl (fun o => Bf rfl (Af o) η) ?_
 refine Zn Ee (AE η (fun U => ?_) (fun U => ?_))
 refine Zs (Zn A6 (AK Dk ?_))
 exact ⟨by rw [OG ω], C⟩
 refine AF (AB (Zs (Zn Ah (AD (AZ (α := Nat) [2, 3, 4, 13, 14, 15, 16, 17, 18, 19, 20, 21, 22, 23, 24, 25, 26, 27, 28, 29, 30, 31, 32, 33, 34, 35, 36, 37, 38, 39, 40, 41, 42, 43] (fun k g w => g 3 = .int .i64 (k : Nat) ∧ k ≤ s.length ∧ (k = 0 ∨ (97 ≤ (s.getD 0 0).toNat ∧ (s.getD 0 0).toNat ≤ 122)) ∧ (∀ j, 1 ≤ j → j < k → NT (s.getD j 0) = true) ∧ I.heap.size ≤ w.heap.size ∧ Evo I w []) (fun k => s.length - k) 0 ?_ ?_)))))
 refine ⟨σ, δ, (.inl rfl), (fun j h1 h2 => by omega), δ, C⟩
 rintro k g w3 ⟨az, hk, hlow, hall, hzl2, C⟩
 have R := C.size
 refine Zk 3 az (AB (Zs (Zo AN (Zo Au (Zo (Al rfl η underlying9) (Zn Bu (AE η (fun ag => ?_) (fun ag => ?_))))))))
 refine AF (AB (AD (Zs (Zo Au (Zo AN (Zo (A3 (k) rfl underlying9 η η χ ω) (Zn Ah (AB (Zs ?_)))))))))
 refine Zo AN (Zo (BQ rfl η η) (Zo Br ?_))
 refine Ab rfl Aq rfl (fun o => AN) ?_
 refine Ab rfl Aq rfl (fun o => Cy rfl (Af o) η) ?_
 refine Zo Fm (Zo Br ?_)
 refine Ab rfl Ay rfl (fun o => AN) ?_
 refine Ab rfl Ay rfl (fun o => Bf rfl (Af o) η) ?_
 refine Ab rfl Ay rfl (fun o => AP (v := .bool _) rfl (Af o)) ?_
 refine Ab rfl (Ce η) rfl (fun o => AN) ?_
 refine Ab rfl (Ce η) rfl (fun o => BQ rfl (Af o) η) ?_
 refine Ab rfl (Ce η) rfl (fun o => AP (v := .bool _) rfl (Af o)) ?_
 refine Ab rfl (Ce η) rfl (fun o => AN) ?_
 refine Ab rfl (Ce η) rfl (fun o => Cy rfl (Af o) η) ?_
 refine Ab rfl (Ce η) rfl (fun o => Bc rfl (Af o) (fun J => IK η (fun h => h) (And.intro o J)) rfl) ?_
 refine Ab rfl (Ce η) rfl (fun o => AP (v := .bool _) rfl (Af o)) ?_
 refine Ab rfl (CP η) rfl (fun o => AN) ?_
 refine Ab rfl (CP η) rfl (fun o => A1 rfl (Af o) η) ?_
 refine Ab rfl (Ce η) rfl (fun o => Cq rfl (Af o) rfl (fun J => IK η (fun h => h) (And.intro o J))) ?_
 refine Ab rfl Ay rfl (fun o => Bc rfl (Af o) (fun J => IK η (fun h => h) (And.intro o J)) rfl) ?_
 refine Zn Ee (AE η (fun ao => ?_) (fun ao => ?_))
 refine AW rfl (AA (Zo AN (Zo A8 (Zn Ah (Zg (k + 1) ?_)))))
 refine ⟨σ, δ, (.inr (hlow.elim (fun h => by subst h; omega) id)), (ad hall (fun _ => (Lg _).2 ω)), δ, C⟩
 refine AF (Zs (Zn A6 (AK Dk ?_)))
 exact ⟨by rw [OK (k := k) ω ω], C⟩
 refine AW rfl (Zs (Zn A6 (AK Dk ?_)))
 exact ⟨by rw [(H6 s).2 ⟨by omega, by omega, by omega, fun j h1 h2 => hall j h1 ω⟩], C⟩
theorem Gw {s : AQ} {C : World} (hs : s.length ≤ 140737488355328) :
    Calls Tryz.prog 75 #[S s] C fun e w' => e = .returned (S (C0 s)) ∧ Evo C w' [] := by
 refine AG (n := 18) func75 rfl ntmps75 rfl ?_
 have o : Evo C C [] := Evo.refl _ _
 refine Zs (Zn CD (AB (Zs (Zn Ah (AD (AZ (α := Nat) [2, 3, 4, 5, 6, 7, 8, 9, 10, 11, 12, 13, 14, 15, 16] (fun k g w => g 3 = .int .i64 (k : Nat) ∧ k ≤ s.length ∧ (∀ j, j < k → (s.getD j 0).toNat ≠ 32) ∧ C.heap.size ≤ w.heap.size ∧ Evo C w []) (fun k => s.length - k) 0 ?_ ?_))))))
 refine ⟨σ, δ, (fun j h1 => by omega), δ, o⟩
 rintro k g w2 ⟨U, hk, hall, hzl1, o⟩
 have I := o.size
 refine Zk 3 U (AB (Zs (Zo AN (Zo Au (Zo (Al rfl η underlying9) (Zn Bu (AE η (fun J => ?_) (fun J => ?_))))))))
 refine AF (AB (AD (Zs (Zo Au (Zo AN (Zo (A3 (k) rfl underlying9 η η χ ω) (Zn C3 (AE η (fun R => ?_) (fun R => ?_)))))))))
 refine Zs (Zo Au (Zo AN (Zo (by exact BP (0) (k) rfl underlying9 η LU (at1 η χ) τ τ) (Zn CD (AK (BN (v := S _) rfl η) ?_)))))
 exact ⟨by rw [Xc hall ω ω]; simp, o⟩
 refine AF (AO (AA (Zo AN (Zo A8 (Zn Ah (Zg (k + 1) ?_))))))
 refine ⟨σ, δ, (CS hall ω), δ, o⟩
 refine AW rfl (Zs (Zo Au (Zn CD (AK (BN (v := S _) rfl η) ?_))))
 exact ⟨by rw [WZ (fun j hj => hall j ω)], o⟩
end Go.Proofs.YtlfjocbnbceceaaGreatDoor
namespace Go.Vc
open Go
def Ac (f : List Item) : List Item := f.filter DE
theorem RF (f g : List Item) : Ac (f ++ g) = Ac f ++ Ac g := by simp [Ac]
theorem OV (f : List Item) (k : Nat) (h : k < f.length) : Ac (f.take (k + 1)) = Ac (f.take k) ++ (if DE (f.getD k default) = true then [f.getD k default] else []) := by
  rw [Ai f k h, RF]
  congr 1
  unfold Ac
  by_cases j : DE (f.getD k default) = true
  · rw [if_pos j, List.filter_cons_of_pos j]; rfl
  · rw [if_neg j, List.filter_cons_of_neg j]; rfl
theorem KX {f : List Item} {k : Nat} (h : k < f.length) (j : DE (f.getD k default) = true) : Ac (f.take (k + 1)) = Ac (f.take k) ++ [f.getD k default] := by rw [OV f k h, if_pos j]
theorem aN {f : List Item} {k : Nat} (h : k < f.length) (j : ¬ DE (f.getD k default) = true) : Ac (f.take (k + 1)) = Ac (f.take k) := by rw [OV f k h, if_neg j, List.append_nil]
theorem Ei (f : List Item) : (Ac f).length ≤ f.length := List.length_filter_le _ _
def Jq (x : Item) : List AQ := if x.kind = 5 then [x.text] else []
def Bv (f : List Item) : List AQ := f.flatMap Jq
theorem JS (f g : List Item) : Bv (f ++ g) = Bv f ++ Bv g := by simp [Bv]
theorem On (x : Item) : Bv [x] = Jq x := by simp [Bv]
theorem Lx {f : List Item} {k : Nat} (h : k < f.length) (hk : (f.getD k default).kind = 5) : Bv (f.take (k + 1)) = Bv (f.take k) ++ [(f.getD k default).text] := by
  rw [Ai f k h, JS, On]; unfold Jq; rw [if_pos hk]
theorem Ko {f : List Item} {k : Nat} (h : k < f.length) (hk : ¬ (f.getD k default).kind = 5) : Bv (f.take (k + 1)) = Bv (f.take k) := by
  rw [Ai f k h, JS, On]; unfold Jq; rw [if_neg hk, List.append_nil]
theorem Dp (f : List Item) : (Bv f).length ≤ f.length := by
  induction f with
  | nil => simp [Bv]
  | cons x f ih =>
    have h : Bv (x :: f) = Jq x ++ Bv f := by simp [Bv]
    have j : (Jq x).length ≤ 1 := by unfold Jq; split <;> simp
    rw [h, List.length_append, List.length_cons]; omega
def Fu (l : List AQ) : List AQ := l.mergeSort (fun x y => decide (x ≤ y))
theorem Ek (l : List AQ) : (Fu l).length = l.length := by unfold Fu; simp
theorem Iy (a b : AQ) : (blt a b || a == b) = true ↔ a ≤ b := by
  have h1 : blt a b = decide (a < b) := by unfold blt; exact Go.Proofs.bytesLess_eq a b
  rw [h1, Bool.or_eq_true, decide_eq_true_iff, beq_iff_eq]
  constructor
  · rintro (h | h)
    · exact List.le_of_lt h
    · subst h; exact List.le_refl _
  · intro h
    rcases List.le_total b a with h2 | h2
    · exact .inr (List.le_antisymm h h2)
    · by_cases e : a = b
      · exact .inr e
      · exact .inl (by
          rcases Decidable.em (a < b) with h3 | h3
          · exact h3
          · exact absurd (List.le_antisymm h (List.not_lt.1 h3)) e)
def Gj : List AQ → AQ → List AQ
  | [], s => [s]
  | y :: l, s => if y ≤ s then y :: Gj l s else s :: y :: l
theorem Uv : ∀ (l : List AQ) (s : AQ) (k : Nat), k ≤ l.length → (∀ j, j < k → l.getD j default ≤ s) → (k = l.length ∨ ¬ l.getD k default ≤ s) → l.take k ++ [s] ++ l.drop k = Gj l s
  | [], s, k, hk, _, _ => by
    have : k = 0 := by simpa using hk
    subst this; rfl
  | y :: l, s, 0, _, _, h => by
    have h1 : ¬ y ≤ s := by
      rcases h with h | h
      · simp at h
      · simpa using h
    unfold Gj; rw [if_neg h1]; rfl
  | y :: l, s, k + 1, hk, h0, h => by
    have h1 : y ≤ s := by simpa using h0 0 ω
    have o := Uv l s k (by simpa using hk) (fun j C => by simpa using h0 (j + 1) ω) (h.imp (fun e => by simpa using e) (fun e => by simpa using e))
    unfold Gj; rw [if_pos h1, ← o]; rfl
theorem Lv : ∀ (l : List AQ) (s : AQ), (Gj l s).Perm (l ++ [s])
  | [], s => List.Perm.refl _
  | y :: l, s => by
    unfold Gj
    split
    · exact (Lv l s).cons y
    · show (s :: (y :: l)).Perm ((y :: l) ++ [s])
      exact (List.perm_append_comm (l₁ := [s]) (l₂ := y :: l))
theorem X2 {l : List AQ} {s x : AQ} (h : x ∈ Gj l s) : x ∈ l ∨ x = s := by
  have := (Lv l s).mem_iff.1 h
  simpa using this
theorem L7 : ∀ {l : List AQ} (s : AQ), l.Pairwise (fun a b => a ≤ b) → (Gj l s).Pairwise (fun a b => a ≤ b)
  | [], s, _ => List.pairwise_singleton _ _
  | y :: l, s, h => by
    obtain ⟨h1, h2⟩ := List.pairwise_cons.1 h
    unfold Gj
    split
    · rename_i hy
      refine List.pairwise_cons.2 ⟨fun x hx => ?_, L7 s h2⟩
      rcases X2 hx with h3 | h3
      · exact h1 x h3
      · rw [h3]; exact hy
    · rename_i hy
      have hs : s ≤ y := (List.le_total s y).resolve_right hy
      refine List.pairwise_cons.2 ⟨fun x hx => ?_, h⟩
      rcases List.mem_cons.1 hx with rfl | h3
      · exact hs
      · exact List.le_trans hs (h1 x h3)
theorem TQ (l : List AQ) : l.foldl Gj [] = Fu l := by
  have key : ∀ l : List AQ, (l.foldl Gj []).Perm l ∧ (l.foldl Gj []).Pairwise (fun a b => a ≤ b) := fun l => by
    refine Hz (Q := fun l => (l.foldl Gj []).Perm l ∧ (l.foldl Gj []).Pairwise (fun a b => a ≤ b)) ⟨List.Perm.refl _, List.Pairwise.nil⟩ (fun l x j => ?_) _ l rfl
    rw [List.foldl_append]
    exact ⟨(Lv _ x).trans (j.1.append (List.Perm.refl [x])), L7 x j.2⟩
  obtain ⟨h1, o⟩ := key l
  have C := mergeSort_of_perm h1
  have I : (l.foldl Gj []).mergeSort leB = l.foldl Gj [] := List.mergeSort_of_pairwise (o.imp (fun h => by simpa [leB] using h))
  show _ = l.mergeSort leB
  rw [← C, I]
theorem JO {f : List Item} {k : Nat} (h : k < f.length) (hk : (f.getD k default).kind = 5) : (Bv (f.take (k + 1))).foldl Gj [] = Gj ((Bv (f.take k)).foldl Gj []) (f.getD k default).text := by
  rw [Lx h hk, List.foldl_append]; rfl
theorem LA (l : List AQ) : (l.foldl Gj []).length = l.length := by rw [TQ, Ek]
def sC (f : List Item) : List Int := ((BE f).getD ([], [])).1
def sO (f : List Item) : List Int := ((BE f).getD ([], [])).2
def Yd (x : Item) : Bool := decide (¬ x.kind = 1)
def Em (f : List Item) : List Item := f.filter Yd
theorem DS (f g : List Item) : Em (f ++ g) = Em f ++ Em g := by simp [Em]
theorem D9 {x : Item} (h : x.kind = 1) : Em [x] = [] := by unfold Em; rw [List.filter_cons_of_neg (by simp [Yd, h])]; rfl
theorem PW (f : List Item) : Em (CE f) = Em f := by
  refine NN (Q := fun f n => Em n = Em f) rfl (fun l x j => ?_) f
  rw [DS]
  rcases Hs (CE l) x with ⟨h1, h2, e⟩ | ⟨h1, e⟩ | ⟨h1, e⟩ | ⟨h1, m, q, e0, hq, e⟩
  · rw [e, D9 h1, List.append_nil, j]
  · rw [e, DS, D9 h1, D9 (x := ⟨1, x.text, 0⟩) rfl, j]
  · rw [e, DS, j]
  · rw [e, DS, D9 h1, D9 (x := ⟨1, q.text ++ x.text, 0⟩) rfl, List.append_nil, List.append_nil, ← j, e0, DS, D9 hq, List.append_nil]
theorem Pu (f : List Item) : Ac (Em f) = Ac f := by
  unfold Ac Em
  rw [List.filter_filter]
  congr 1
  funext x
  by_cases h : DE x = true
  · have : ¬ x.kind = 1 := fun e => NY (.inl e) h
    simp [h, Yd, this]
  · rw [Bool.not_eq_true] at h; simp [h]
def ZK (t : AQ) : List AQ := [[114, 111, 116], [100, 97, 115, 32, 65, 117, 116, 111], [], [101, 105, 110, 32] ++ t, t]
theorem Ux (t : AQ) : ∀ j, ((ZK t).getD j default).length ≤ t.length + 8
  | 0 => by show 3 ≤ _; omega
  | 1 => by show 8 ≤ _; omega
  | 2 => by show 0 ≤ _; omega
  | 3 => by show ([101, 105, 110, 32] ++ t : AQ).length ≤ _; rw [List.length_append]; show 4 + _ ≤ _; omega
  | 4 => by show t.length ≤ _; omega
  | _ + 5 => Nat.zero_le _
theorem Vf {f f2 : List Item} {x : Item} {t : AQ} (j : Em f2 = Em f) (o : ¬ x.kind = 1 → t = x.text) : Em (CE (f2 ++ [⟨x.kind, t, x.id⟩])) = Em f ++ Em [x] := by
  rw [PW, DS, j]
  congr 1
  by_cases h : x.kind = 1
  · rw [D9 h, D9 (x := ⟨x.kind, t, x.id⟩) h]
  · rw [o h]
theorem Vg (f : List Item) (k : Nat) (h : k < f.length) : Em (f.take (k + 1)) = Em (f.take k) ++ Em [f.getD k default] := by rw [Ai f k h, DS]
theorem NO {f : List Item} (t : AQ) (i : Int) : Em (CE (f ++ [⟨1, t, i⟩])) = Em f := by rw [PW, DS, D9 (x := ⟨1, t, i⟩) rfl, List.append_nil]
def Wp (c : UInt8) : UInt8 := if 65 ≤ c.toNat ∧ c.toNat ≤ 90 then c + 32 else c
def Cc (s : AQ) : AQ := s.map Wp
theorem bN {c : UInt8} (h : ¬ (65 ≤ c.toNat ∧ c.toNat ≤ 90)) : Wp c = c := by unfold Wp; rw [if_neg h]
theorem U8 {c : UInt8} (h : 65 ≤ c.toNat ∧ c.toNat ≤ 90) : (Wp c).toNat = c.toNat + 32 := by
  unfold Wp; rw [if_pos h, UInt8.toNat_add]
  have j : (32 : UInt8).toNat = 32 := rfl
  omega
theorem YO {n : Int} (h1 : 0 ≤ n) (j : n ≤ 255) : IntKind.wrap .u8 n = n := by simp [IntKind.wrap, IntKind.bits, IntKind.signed]; omega
theorem Z2 {c : UInt8} (h1 : 65 ≤ c.toNat) (j : c.toNat ≤ 90) : IntKind.wrap .u8 (IntKind.wrap .u8 (((c.toNat : Nat) : Int) + 97) - 65) = (((Wp c).toNat : Nat) : Int) := by
  rw [YO (n := (((c.toNat : Nat) : Int) + 97)) ω ω, YO ω ω, U8 ⟨h1, j⟩]; omega
theorem XZ {c : UInt8} (h1 : 65 ≤ c.toNat) (j : c.toNat ≤ 90) : IntKind.wrap .u8 (((c.toNat : Nat) : Int) + 32) = (((Wp c).toNat : Nat) : Int) := by
  rw [YO ω ω, U8 ⟨h1, j⟩]; omega
def Hw (s : AQ) (k : Nat) : AQ := Cc (s.take k) ++ s.drop k
@[simp] theorem lowK_len (s : AQ) (k : Nat) : (Hw s k).length = s.length := by simp [Hw, Cc]; omega
theorem I2 (s : AQ) : Hw s 0 = s := by simp [Hw, Cc]
theorem Ry {s : AQ} {k : Nat} (h : s.length ≤ k) : Hw s k = Cc s := by unfold Hw; rw [List.take_of_length_le h, List.drop_eq_nil_of_le h, List.append_nil]
theorem Jy {s : AQ} {k : Nat} (h : k < s.length) : Hw s k = Cc (s.take k) ++ s.getD k 0 :: s.drop (k + 1) := by
  unfold Hw; rw [List.drop_eq_getElem_cons h]; simp [List.getD, h]
theorem PT {s : AQ} {k : Nat} (h : k < s.length) : Hw s (k + 1) = Cc (s.take k) ++ Wp (s.getD k 0) :: s.drop (k + 1) := by
  have e : s.getD k 0 = s[k] := by simp [List.getD, h]
  unfold Hw Cc; rw [List.take_succ_eq_append_getElem h, List.map_append, List.append_assoc, e]; rfl
theorem KY {s : AQ} {k : Nat} (h : k < s.length) : (Hw s k).getD k default = s.getD k 0 := by
  have e : (Cc (s.take k)).length = k := by simp [Cc]; omega
  rw [Jy h, List.getD_eq_getElem?_getD, List.getElem?_append_right ω, e]; simp
theorem Fl {s : AQ} {k : Nat} (h : k < s.length) : (Hw s k).set k (Wp (s.getD k 0)) = Hw s (k + 1) := by
  have e : (Cc (s.take k)).length = k := by simp [Cc]; omega
  rw [Jy h, PT h, List.set_append_right _ _ ω, e, Nat.sub_self]; rfl
theorem El {s : AQ} {k : Nat} (h : k < s.length) (j : ¬ (65 ≤ (s.getD k 0).toNat ∧ (s.getD k 0).toNat ≤ 90)) : Hw s (k + 1) = Hw s k := by
  rw [Jy h, PT h, bN j]
@[simp] theorem lowS_len (s : AQ) : (Cc s).length = s.length := by simp [Cc]
theorem Ri {s : AQ} : Cc s = [] ↔ s = [] := by simp [Cc]
def BM (c : UInt8) : Int :=
  if c.toNat = 9 ∨ c.toNat = 10 ∨ c.toNat = 13 ∨ c.toNat = 32 then 2 else if c.toNat < 32 ∨ c.toNat = 127 then 1 else if 48 ≤ c.toNat ∧ c.toNat ≤ 57 then 3
  else if (97 ≤ c.toNat ∧ c.toNat ≤ 122) ∨ (65 ≤ c.toNat ∧ c.toNat ≤ 90) ∨ 128 ≤ c.toNat then 4 else 5
theorem PI {c : UInt8} (h : c.toNat = 9 ∨ c.toNat = 10 ∨ c.toNat = 13 ∨ c.toNat = 32) : BM c = 2 := by unfold BM; rw [if_pos h]
theorem L9 {c : UInt8} (h1 : ¬ (c.toNat = 9 ∨ c.toNat = 10 ∨ c.toNat = 13 ∨ c.toNat = 32)) (h : c.toNat < 32 ∨ c.toNat = 127) : BM c = 1 := by unfold BM; rw [if_neg h1, if_pos h]
theorem Pz {c : UInt8} (h : 48 ≤ c.toNat ∧ c.toNat ≤ 57) : BM c = 3 := by unfold BM; rw [if_neg ω, if_neg ω, if_pos h]
theorem NI {c : UInt8} (h : (97 ≤ c.toNat ∧ c.toNat ≤ 122) ∨ (65 ≤ c.toNat ∧ c.toNat ≤ 90) ∨ 128 ≤ c.toNat) : BM c = 4 := by unfold BM; rw [if_neg ω, if_neg ω, if_neg ω, if_pos h]
theorem SQ {c : UInt8} (h1 : ¬ (c.toNat = 9 ∨ c.toNat = 10 ∨ c.toNat = 13 ∨ c.toNat = 32)) (j : ¬ (c.toNat < 32 ∨ c.toNat = 127)) (o : ¬ (48 ≤ c.toNat ∧ c.toNat ≤ 57)) (h : ¬ ((97 ≤ c.toNat ∧ c.toNat ≤ 122) ∨ (65 ≤ c.toNat ∧ c.toNat ≤ 90) ∨ 128 ≤ c.toNat)) : BM c = 5 := by unfold BM; rw [if_neg h1, if_neg j, if_neg o, if_neg h]
def WH (c : UInt8) : Bool := decide (BM c = 4) && decide (Wp c = c)
def BV (s : AQ) : Bool := s.all (fun c => decide (BM c = 4)) && decide (Cc s = s)
theorem UN {s : AQ} : Cc s = s ↔ ∀ c ∈ s, Wp c = c := by
  unfold Cc
  constructor
  · intro h c hc
    obtain ⟨i, j, rfl⟩ := List.mem_iff_getElem.1 hc
    have := congrArg (fun l : AQ => l[i]?) h
    simpa [j] using this
  · intro h
    conv => rhs; rw [← List.map_id s]
    exact List.map_congr_left h
theorem PJ (s : AQ) : BV s = s.all WH := by
  rw [Bool.eq_iff_iff]
  simp only [BV, WH, Bool.and_eq_true, List.all_eq_true, decide_eq_true_eq, UN]
  exact ⟨fun h c j => ⟨h.1 c j, h.2 c j⟩, fun h => ⟨fun c j => (h c j).1, fun c j => (h c j).2⟩⟩
theorem Y0 {p : UInt8 → Bool} {s : AQ} (h : ∀ j, j < s.length → p (s.getD j 0) = true) : s.all p = true := by
  rw [List.all_eq_true]
  intro c hc
  obtain ⟨i, o, rfl⟩ := List.mem_iff_getElem.1 hc
  have := h i o
  simpa [List.getD, o] using this
theorem Uq {p : UInt8 → Bool} {s : AQ} {k : Nat} (hk : k < s.length) (h : ¬ p (s.getD k 0) = true) : s.all p = false := by
  rw [← Bool.not_eq_true, List.all_eq_true]
  intro h2
  exact h (h2 _ (by simp [List.getD, hk]))
theorem Vj {s : AQ} (h : ∀ j, j < s.length → BM (s.getD j 0) = 4) : BV s = decide (Cc s = s) := by
  unfold BV; rw [Y0 (p := fun c => decide (BM c = 4)) (fun j o => decide_eq_true (h j o)), Bool.true_and]
theorem Wb {s : AQ} {k : Nat} (hk : k < s.length) (h : ¬ BM (s.getD k 0) = 4) : BV s = false := by
  unfold BV; rw [Uq (p := fun c => decide (BM c = 4)) hk (fun j => h (of_decide_eq_true j)), Bool.false_and]
theorem Ys {s : AQ} {k : Nat} (h : k < s.length) : (s.drop k).take (k + 1 - k) = [s.getD k 0] := by
  have e : k + 1 - k = 1 := by omega
  have j : s.getD k 0 = s[k] := by simp [List.getD, h]
  rw [e, List.drop_eq_getElem_cons h, j]; rfl
theorem Zi {s : AQ} {k : Nat} (h : k < s.length) (C : ¬ (¬ BM (s.getD k 0) = 4 ∨ ¬ Cc ((s.drop k).take (k + 1 - k)) = (s.drop k).take (k + 1 - k))) : WH (s.getD k 0) = true := by
  have j := not_or.1 C
  have o := Classical.not_not.1 j.2
  rw [Ys h] at o
  unfold WH
  rw [Bool.and_eq_true, decide_eq_true_eq, decide_eq_true_eq]
  exact ⟨Classical.not_not.1 j.1, by simpa [Cc] using o⟩
theorem aK {s : AQ} {k : Nat} (h : k < s.length) (j : ¬ BM (s.getD k 0) = 4 ∨ ¬ Cc ((s.drop k).take (k + 1 - k)) = (s.drop k).take (k + 1 - k)) : BV s = false := by
  rw [PJ]
  refine Uq h (fun o => ?_)
  unfold WH at o
  rw [Bool.and_eq_true, decide_eq_true_eq, decide_eq_true_eq] at o
  rcases j with j | j
  · exact j o.1
  · rw [Ys h] at j; exact j (by simpa [Cc] using o.2)
def Dd : List AQ → AQ → List AQ
  | [], s => [s]
  | y :: l, s => if s ≤ y then (if s < y then s :: y :: l else y :: l) else y :: Dd l s
theorem RO : ∀ (l : List AQ) (s : AQ) (k : Nat), k < l.length → (∀ j, j < k → ¬ s ≤ l.getD j default) → s ≤ l.getD k default → l.take k ++ (if s < l.getD k default then [s] else []) ++ l.drop k = Dd l s
  | [], s, k, hk, _, _ => by simp at hk
  | y :: l, s, 0, _, _, h => by
    have h1 : s ≤ y := by simpa using h
    unfold Dd; rw [if_pos h1]
    show [] ++ (if s < y then [s] else []) ++ y :: l = _
    split <;> rfl
  | y :: l, s, k + 1, hk, h0, h => by
    have h1 : ¬ s ≤ y := by simpa using h0 0 ω
    have o := RO l s k (by simpa using hk) (fun j C => by simpa using h0 (j + 1) ω) (by simpa using h)
    unfold Dd; rw [if_neg h1, ← o]; rfl
theorem SE : ∀ (l : List AQ) (s : AQ), (∀ j, j < l.length → ¬ s ≤ l.getD j default) → l ++ [s] = Dd l s
  | [], s, _ => rfl
  | y :: l, s, h0 => by
    have h1 : ¬ s ≤ y := by simpa using h0 0 (by simp)
    have C := SE l s (fun j o => by simpa using h0 (j + 1) (by simpa using o))
    unfold Dd; rw [if_neg h1, ← C]; rfl
def Ik (d : Bool) (o l : List AQ) (x : AQ) (k : Nat) : Prop := (d = true ∧ o ++ l.drop k = Dd l x) ∨ (d = false ∧ o = l.take k ∧ ∀ j, j < k → ¬ x ≤ l.getD j default)
section
variable {d : Bool} {o l : List AQ} {x : AQ} {k : Nat}
theorem Wj : Ik false [] l x 0 := .inr ⟨rfl, rfl, fun j h => by omega⟩
theorem Iz (hk : k < l.length) : l.drop k = l.getD k default :: l.drop (k + 1) := by rw [List.drop_eq_getElem_cons hk]; simp [List.getD, hk]
theorem Xq (h : Ik d o l x k) (hk : k < l.length) (h1 : ¬ d = true) (j : x ≤ l.getD k default) (C : x < l.getD k default) : Ik true ((o ++ [x]) ++ [l.getD k default]) l x (k + 1) := by
  rcases h with h | ⟨_, h4, h5⟩
  · exact absurd h.1 h1
  · refine .inl ⟨rfl, ?_⟩
    rw [← RO l x k hk h5 j, if_pos C, h4, Iz hk]; simp
theorem aA (h : Ik d o l x k) (hk : k < l.length) (h1 : ¬ d = true) (j : x ≤ l.getD k default) (C : ¬ x < l.getD k default) : Ik true (o ++ [l.getD k default]) l x (k + 1) := by
  rcases h with h | ⟨_, h4, h5⟩
  · exact absurd h.1 h1
  · refine .inl ⟨rfl, ?_⟩
    rw [← RO l x k hk h5 j, if_neg C, h4, Iz hk]; simp
theorem Z9 (h : Ik d o l x k) (hk : k < l.length) (h1 : d = true ∨ ¬ x ≤ l.getD k default) : Ik d (o ++ [l.getD k default]) l x (k + 1) := by
  rcases h with ⟨h2, h3⟩ | ⟨h2, h4, h5⟩
  · refine .inl ⟨h2, ?_⟩
    rw [← h3, Iz hk]; simp
  · refine .inr ⟨h2, by rw [h4, Ai l k hk], fun j I => ?_⟩
    rcases Nat.lt_or_ge j k with h6 | h6
    · exact h5 j h6
    · have : j = k := by omega
      subst this
      exact h1.elim (fun C => by rw [h2] at C; cases C) id
theorem WJ (h : Ik d o l x k) (hk : l.length ≤ k) (h1 : d = true) : o = Dd l x := by
  rcases h with ⟨_, h3⟩ | ⟨h2, _⟩
  · rw [List.drop_eq_nil_of_le hk, List.append_nil] at h3; exact h3
  · rw [h2] at h1; cases h1
theorem V6 (h : Ik d o l x k) (hk : l.length ≤ k) (h1 : ¬ d = true) : o ++ [x] = Dd l x := by
  rcases h with ⟨h2, _⟩ | ⟨_, h4, h5⟩
  · exact absurd h2 h1
  · rw [h4, List.take_of_length_le hk]; exact SE l x (fun j C => h5 j ω)
end
theorem JC (a b : AQ) : blt a b = true ↔ a < b := by
  have h1 : blt a b = decide (a < b) := by unfold blt; exact Go.Proofs.bytesLess_eq a b
  rw [h1, decide_eq_true_iff]
theorem HL : ∀ {l : List AQ} {s x : AQ}, x ∈ Dd l s ↔ x ∈ l ∨ x = s
  | [], s, x => by simp [Dd]
  | y :: l, s, x => by
    unfold Dd
    split
    · rename_i h1
      split
      · simp only [List.mem_cons]
        constructor
        · rintro (h | h)
          · exact .inr h
          · exact .inl h
        · rintro (h | h)
          · exact .inr h
          · exact .inl h
      · rename_i h2
        have e : y = s := List.le_antisymm (List.not_lt.1 h2) h1
        subst e
        constructor
        · exact fun h => .inl h
        · rintro (h | h)
          · exact h
          · subst h; simp
    · rw [List.mem_cons, HL, List.mem_cons, or_assoc]
theorem Ir : ∀ (l : List AQ) (s : AQ), (Dd l s).length ≤ l.length + 1
  | [], s => by simp [Dd]
  | y :: l, s => by
    have := Ir l s
    unfold Dd
    split
    · split <;> simp
    · simp; omega
section
variable {d : Bool} {o l : List AQ} {x : AQ} {k : Nat}
theorem Ly (h : Ik d o l x k) (hk : k < l.length) (h1 : ¬ d = true ∧ (blt x (l.getD k default) || x == l.getD k default) = true) (j : blt x (l.getD k default) = true) : Ik true ((o ++ [x]) ++ [l.getD k default]) l x (k + 1) := Xq h hk h1.1 ((Iy _ _).1 h1.2) ((JC _ _).1 j)
theorem OH (h : Ik d o l x k) (hk : k < l.length) (h1 : ¬ d = true ∧ (blt x (l.getD k default) || x == l.getD k default) = true) (j : ¬ blt x (l.getD k default) = true) : Ik true (o ++ [l.getD k default]) l x (k + 1) := aA h hk h1.1 ((Iy _ _).1 h1.2) (fun C => j ((JC _ _).2 C))
theorem NG (h : Ik d o l x k) (hk : k < l.length) (h1 : ¬ (¬ d = true ∧ (blt x (l.getD k default) || x == l.getD k default) = true)) : Ik d (o ++ [l.getD k default]) l x (k + 1) := Z9 h hk (by
  by_cases hd : d = true
  · exact .inl hd
  · exact .inr (fun j => h1 ⟨hd, (Iy _ _).2 j⟩))
end
theorem YI {d : Bool} {o l : List AQ} {x : AQ} {k : Nat} (h : Ik d o l x k) (hk : k ≤ l.length) : o.length ≤ k + 1 := by
  rcases h with ⟨_, h3⟩ | ⟨_, h4, _⟩
  · have j := congrArg List.length h3
    have C := Ir l x
    rw [List.length_append, List.length_drop] at j
    omega
  · rw [h4, List.length_take]; omega
theorem Gz : ∀ {l : List AQ} (s : AQ), l.Pairwise (fun a b => a < b) → (Dd l s).Pairwise (fun a b => a < b)
  | [], s, _ => List.pairwise_singleton _ _
  | y :: l, s, h => by
    obtain ⟨h1, h2⟩ := List.pairwise_cons.1 h
    unfold Dd
    split
    · split
      · rename_i h3
        refine List.pairwise_cons.2 ⟨fun x hx => ?_, h⟩
        rcases List.mem_cons.1 hx with rfl | h4
        · exact h3
        · exact List.lt_trans h3 (h1 x h4)
      · exact h
    · rename_i hy
      refine List.pairwise_cons.2 ⟨fun x hx => ?_, Gz s h2⟩
      rcases HL.1 hx with h3 | h3
      · exact h1 x h3
      · rw [h3]; exact List.not_le.1 hy
theorem Ma {l : List AQ} (h : l.Pairwise (fun a b => a < b)) : l.Nodup := h.imp (fun {a b} h e => by subst e; exact List.lt_irrefl a h)
theorem SO {j l : List AQ} (R : j.Nodup) (C : l.Pairwise (fun a b => a < b)) (h : ∀ x, x ∈ j ↔ x ∈ l) : Fu j = l := by
  have U : l.Perm j := (List.perm_ext_iff_of_nodup (Ma C) R).2 (fun x => (h x).symm)
  have I := mergeSort_of_perm U
  have J : l.mergeSort leB = l := List.mergeSort_of_pairwise (C.imp (fun h => by simpa [leB] using List.le_of_lt h))
  show j.mergeSort leB = _
  rw [← I, J]
structure Ende where
  strip : AQ
  add : AQ
deriving DecidableEq, Inhabited
structure Clas where
  name : AQ
  ends : List Ende
deriving DecidableEq, Inhabited
def Du (s suf y : AQ) : Option AQ := if suf <:+ s then some (s.take (s.length - suf.length) ++ y) else none
theorem OB {s j : AQ} : j <:+ s ↔ j.length ≤ s.length ∧ s.drop (s.length - j.length) = j := by
  constructor
  · intro h
    refine ⟨h.length_le, ?_⟩
    obtain ⟨p, rfl⟩ := h
    simp
  · rintro ⟨_, h⟩
    exact ⟨s.take (s.length - j.length), (congrArg (fun q => s.take (s.length - j.length) ++ q) h.symm).trans (List.take_append_drop _ s)⟩
theorem Ij {s t : AQ} : t <:+ s ↔ t.length ≤ s.length ∧ (s.drop (s.length - t.length)).take (s.length - (s.length - t.length)) = t := by
  rw [OB, List.take_of_length_le (by rw [List.length_drop]; exact Nat.le_refl _)]
theorem X7 (s t y : AQ) : ((Du s t y).getD []).length ≤ s.length + y.length := by
  unfold Du
  split
  · show (s.take _ ++ y).length ≤ _
    rw [List.length_append]
    have : (s.take (s.length - t.length)).length ≤ s.length := List.length_take_le' _ _
    omega
  · exact Nat.zero_le _
def Ca (c : List Clas) (n : AQ) : Int := if c.findIdx (fun x => decide (x.name = n)) < c.length then (c.findIdx (fun x => decide (x.name = n)) : Nat) else -1
def Co (c : List Clas) (n : AQ) : List Ende := if 0 ≤ Ca c n then (c.getD (Ca c n).toNat default).ends else []
theorem Sv {c : List Clas} {n : AQ} {k : Nat} (h : k < c.length) (I : ∀ j, j < k → ¬ (c.getD j default).name = n) (h1 : (c.getD k default).name = n) : Ca c n = (k : Nat) := by
  have e : c.findIdx (fun x => decide (x.name = n)) = k := by
    rw [List.findIdx_eq h]
    refine ⟨by simpa [List.getD, h] using h1, fun j J => ?_⟩
    have := I j J
    have C : j < c.length := by omega
    simpa [List.getD, C] using this
  unfold Ca; rw [e, if_pos h]
theorem Jp {c : List Clas} {n : AQ} (I : ∀ j, j < c.length → ¬ (c.getD j default).name = n) : Ca c n = -1 := by
  have e : c.findIdx (fun x => decide (x.name = n)) = c.length := by
    rw [List.findIdx_eq_length]
    intro x hx
    obtain ⟨i, C, rfl⟩ := List.mem_iff_getElem.1 hx
    have := I i C
    simpa [List.getD, C] using this
  unfold Ca; rw [e, if_neg ω]
theorem EX (c : List Clas) (n : AQ) : Ca c n < (c.length : Nat) ∧ -1 ≤ Ca c n := by unfold Ca; split <;> omega
theorem JG {c : List Clas} {n : AQ} (h : 0 ≤ Ca c n) : Co c n = (c.getD (Ca c n).toNat default).ends := if_pos h
theorem HV {c : List Clas} {n : AQ} (h : ¬ 0 ≤ Ca c n) : Co c n = [] := if_neg h
theorem U5 {c : List Clas} {n : AQ} (h : ¬ (0 ≤ Ca c n ∧ ¬ n = [])) : (if n = [] then ([] : List Ende) else Co c n) = [] := by
  by_cases j : n = []
  · rw [if_pos j]
  · rw [if_neg j, HV (fun C => h ⟨C, j⟩)]
def G5 (ok : AQ → Bool) (s : AQ) (by' : Ende → AQ × AQ) (l : List AQ) (x : Ende) : List AQ :=
  match Du s (by' x).1 (by' x).2 with
  | some f => if f ≠ [] ∧ ok f = true then Dd l f else l
  | none => l
def Dy (ok : AQ → Bool) (s : AQ) (by' : Ende → AQ × AQ) (E : List Ende) : List AQ := E.foldl (G5 ok s by') [s]
theorem Vo {ok : AQ → Bool} {s : AQ} {b : Ende → AQ × AQ} {E : List Ende} {y : AQ} : y ∈ Dy ok s b E ↔ y = s ∨ (y ≠ [] ∧ ok y = true ∧ ∃ x ∈ E, Du s (b x).1 (b x).2 = some y) := by
  unfold Dy
  have key : ∀ (E : List Ende) (l : List AQ), y ∈ E.foldl (G5 ok s b) l ↔ y ∈ l ∨ (y ≠ [] ∧ ok y = true ∧ ∃ x ∈ E, Du s (b x).1 (b x).2 = some y) := by
    intro E
    induction E with
    | nil => intro l; simp
    | cons x E ih =>
      intro l
      rw [List.foldl_cons, ih]
      have h1 : y ∈ G5 ok s b l x ↔ y ∈ l ∨ (y ≠ [] ∧ ok y = true ∧ Du s (b x).1 (b x).2 = some y) := by
        unfold G5
        cases ht : Du s (b x).1 (b x).2 with
        | none => simp
        | some f =>
          dsimp only
          by_cases C : f ≠ [] ∧ ok f = true
          · rw [if_pos C, HL]
            constructor
            · rintro (h | rfl)
              · exact .inl h
              · exact .inr ⟨C.1, C.2, rfl⟩
            · rintro (h | ⟨_, _, h⟩)
              · exact .inl h
              · injection h with h; exact .inr h.symm
          · rw [if_neg C]
            constructor
            · exact .inl
            · rintro (h | ⟨j, h3, h⟩)
              · exact h
              · injection h with h; subst h; exact absurd ⟨j, h3⟩ C
      rw [h1]
      constructor
      · rintro ((h | ⟨j, h3, h⟩) | ⟨j, h3, z, hz, h⟩)
        · exact .inl h
        · exact .inr ⟨j, h3, x, by simp, h⟩
        · exact .inr ⟨j, h3, z, by simp [hz], h⟩
      · rintro (h | ⟨j, h3, z, hz, h⟩)
        · exact .inl (.inl h)
        · rcases List.mem_cons.1 hz with rfl | hz
          · exact .inl (.inr ⟨j, h3, h⟩)
          · exact .inr ⟨j, h3, z, hz, h⟩
  rw [key]; simp
theorem QN {ok : AQ → Bool} {s : AQ} {b : Ende → AQ × AQ} {l : List AQ} (x : Ende) (h : l.Pairwise (fun a b => a < b)) : (G5 ok s b l x).Pairwise (fun a b => a < b) := by
  unfold G5
  split
  · split
    · exact Gz _ h
    · exact h
  · exact h
theorem Kg (ok : AQ → Bool) (s : AQ) (b : Ende → AQ × AQ) (E : List Ende) : (Dy ok s b E).Pairwise (fun a b => a < b) := by
  unfold Dy
  have key : ∀ (E : List Ende) (l : List AQ), l.Pairwise (fun a b => a < b) → (E.foldl (G5 ok s b) l).Pairwise (fun a b => a < b) := by
    intro E
    induction E with
    | nil => exact fun l h => h
    | cons x E ih => exact fun l h => ih _ (QN x h)
  exact key E _ (List.pairwise_singleton _ _)
theorem Pv (ok : AQ → Bool) (s : AQ) (b : Ende → AQ × AQ) (E : List Ende) : (Dy ok s b E).length ≤ E.length + 1 := by
  unfold Dy
  have key : ∀ (E : List Ende) (l : List AQ), (E.foldl (G5 ok s b) l).length ≤ E.length + l.length := by
    intro E
    induction E with
    | nil => intro l; simp
    | cons x E ih =>
      intro l
      have h1 := ih (G5 ok s b l x)
      have j : (G5 ok s b l x).length ≤ l.length + 1 := by
        unfold G5
        split
        · split
          · exact Ir _ _
          · omega
        · omega
      rw [List.foldl_cons, List.length_cons]; omega
  have := key E [s]
  simpa using this
theorem OD (ok : AQ → Bool) (s : AQ) (b : Ende → AQ × AQ) (E : List Ende) (k : Nat) (h : k < E.length) : Dy ok s b (E.take (k + 1)) = G5 ok s b (Dy ok s b (E.take k)) (E.getD k default) := by
  unfold Dy; rw [Ai E k h, List.foldl_append]; rfl
theorem OC {ok : AQ → Bool} {s : AQ} {b : Ende → AQ × AQ} {E : List Ende} {k : Nat} (h : k < E.length) (h1 : (Du s (b (E.getD k default)).1 (b (E.getD k default)).2).isSome = true ∧ ¬ (Du s (b (E.getD k default)).1 (b (E.getD k default)).2).getD [] = []) (j : ok ((Du s (b (E.getD k default)).1 (b (E.getD k default)).2).getD []) = true) :
    Dy ok s b (E.take (k + 1)) = Dd (Dy ok s b (E.take k)) ((Du s (b (E.getD k default)).1 (b (E.getD k default)).2).getD []) := by
  rw [OD ok s b E k h]; unfold G5
  cases ht : Du s (b (E.getD k default)).1 (b (E.getD k default)).2 with
  | none => rw [ht] at h1; exact absurd h1.1 (by simp)
  | some f => rw [ht] at h1 j; dsimp only; rw [if_pos ⟨h1.2, j⟩]; rfl
theorem Qk {ok : AQ → Bool} {s : AQ} {b : Ende → AQ × AQ} {E : List Ende} {k : Nat} (h : k < E.length) (h1 : ¬ (((Du s (b (E.getD k default)).1 (b (E.getD k default)).2).isSome = true ∧ ¬ (Du s (b (E.getD k default)).1 (b (E.getD k default)).2).getD [] = []) ∧ ok ((Du s (b (E.getD k default)).1 (b (E.getD k default)).2).getD []) = true)) :
    Dy ok s b (E.take (k + 1)) = Dy ok s b (E.take k) := by
  rw [OD ok s b E k h]; unfold G5
  cases ht : Du s (b (E.getD k default)).1 (b (E.getD k default)).2 with
  | none => rfl
  | some f => rw [ht] at h1; dsimp only; rw [if_neg (fun j => h1 ⟨⟨rfl, j.1⟩, j.2⟩)]
def ME (x : Ende) : AQ × AQ := (x.strip, x.add)
def Ed (c : List Clas) (stem cls : AQ) : List AQ := if stem = [] then [] else Dy (fun _ => true) (Cc stem) ME (if cls = [] then [] else Co c cls)
theorem UM {c : List Clas} {p q : AQ} (h : ¬ p = []) (j : q = []) : Ed c p q = [Cc p] := by unfold Ed; rw [if_neg h, if_pos j]; rfl
theorem VL {c : List Clas} {p q : AQ} {k : Nat} (h : ¬ p = []) (j : ¬ q = []) (hk : (Co c q).length ≤ k) : Ed c p q = Dy (fun _ => true) (Cc p) ME ((Co c q).take k) := by unfold Ed; rw [if_neg h, if_neg j, List.take_of_length_le hk]
theorem Xk {m : List (AQ × Unit)} {l : List AQ} {f : AQ} (I : (m.map (·.1)).Nodup) (h : ∀ x, x ∈ m.map (·.1) ↔ x ∈ l) : ∀ x, x ∈ (Dj m f ()).map (·.1) ↔ x ∈ Dd l f := fun x => by
  rw [HL, ← h]
  rcases Ix f m with h1 | ⟨i, u, h1, _⟩
  · rw [Hh h1]; simp
  · rw [Ia h1 I, List.map_set]
    have j := (List.getElem?_eq_some_iff.1 h1)
    have e : (m.map (·.1)).set i f = m.map (·.1) := by
      obtain ⟨j, J⟩ := j
      have : (m.map (·.1))[i]'(by simpa using j) = f := by simp [J]
      rw [← this]; exact List.set_getElem_self _
    have hm : f ∈ m.map (·.1) := by
      have := List.mem_of_getElem? h1
      exact List.mem_map.2 ⟨_, this, rfl⟩
    rw [show ((f, ()) : AQ × Unit).1 = f from rfl, e]
    constructor
    · exact .inl
    · rintro (C | rfl)
      · exact C
      · exact hm
theorem WI {c : List Clas} {p q : AQ} (h : Cc p = []) : Ed c p q = [] := by unfold Ed; rw [if_pos (Ri.1 h)]
theorem Wz {c : List Clas} {p q : AQ} (h : ¬ Cc p = []) : Ed c p q = Dy (fun _ => true) (Cc p) ME (if q = [] then [] else Co c q) := by unfold Ed; rw [if_neg (fun e => h (Ri.2 e))]
def KeyIs (m : List (AQ × Unit)) (l : List AQ) : Prop := (m.map (·.1)).Nodup ∧ ∀ x, x ∈ m.map (·.1) ↔ x ∈ l
theorem KeyIs.one (s : AQ) : KeyIs (Dj [] s ()) [s] := ⟨by simp [Dj], fun x => by simp [Dj]⟩
theorem KeyIs.add {m : List (AQ × Unit)} {l : List AQ} (h : KeyIs m l) (f : AQ) : KeyIs (Dj m f ()) (Dd l f) := ⟨Hf f () m h.1, Xk h.1 h.2⟩
theorem KeyIs.sorted {m : List (AQ × Unit)} {l : List AQ} (h : KeyIs m l) (j : l.Pairwise (fun a b => a < b)) : Fu (m.map (·.1)) = l := SO h.1 j h.2
theorem VA {s : AQ} {E : List Ende} {k : Nat} {m : List (AQ × Unit)} (h : KeyIs m (Dy (fun _ => true) s ME (E.take k))) (hk : k < E.length)
    (h1 : decide ((E.getD k default).strip <:+ s) = true ∧ ¬ (if (E.getD k default).strip <:+ s then s.take (s.length - (E.getD k default).strip.length) else s) ++ (E.getD k default).add = []) :
    KeyIs (Dj m ((if (E.getD k default).strip <:+ s then s.take (s.length - (E.getD k default).strip.length) else s) ++ (E.getD k default).add) ()) (Dy (fun _ => true) s ME (E.take (k + 1))) := by
  have C := of_decide_eq_true h1.1
  rw [if_pos C] at h1 ⊢
  have e : Du s (ME (E.getD k default)).1 (ME (E.getD k default)).2 = some (s.take (s.length - (E.getD k default).strip.length) ++ (E.getD k default).add) := if_pos C
  have j := OC (ok := fun _ => true) (s := s) (b := ME) hk ⟨by rw [e]; rfl, by rw [e]; exact h1.2⟩ rfl
  rw [e] at j
  rw [j]
  exact h.add _
theorem XU {s : AQ} {E : List Ende} {k : Nat} {m : List (AQ × Unit)} (h : KeyIs m (Dy (fun _ => true) s ME (E.take k))) (hk : k < E.length)
    (h1 : ¬ (decide ((E.getD k default).strip <:+ s) = true ∧ ¬ (if (E.getD k default).strip <:+ s then s.take (s.length - (E.getD k default).strip.length) else s) ++ (E.getD k default).add = [])) :
    KeyIs m (Dy (fun _ => true) s ME (E.take (k + 1))) := by
  rw [Qk (ok := fun _ => true) (s := s) (b := ME) hk]
  · exact h
  · intro h2
    by_cases j : (E.getD k default).strip <:+ s
    · have e : Du s (ME (E.getD k default)).1 (ME (E.getD k default)).2 = some (s.take (s.length - (E.getD k default).strip.length) ++ (E.getD k default).add) := if_pos j
      rw [e] at h2
      exact h1 ⟨decide_eq_true j, by rw [if_pos j]; exact h2.1.2⟩
    · have e : Du s (ME (E.getD k default)).1 (ME (E.getD k default)).2 = none := if_neg j
      rw [e] at h2
      exact absurd h2.1.1 (by simp)
end Go.Vc
namespace Go.Vc
open Go Go.RowKit Go.IntWalk
abbrev YF (c : UInt8) : Value := .int .u8 ((c.toNat : Nat) : Int)
def ByB (w : World) (b cap : Nat) (l : List UInt8) : Prop := ∃ (cur : Array Value) (E : TypeId), w.heap[b]? = some (.cells cur E (cap, cap + 1)) ∧ cur.size = cap ∧ l.length ≤ cap ∧ l.length ≤ 140737488355328 ∧ cur.toList.take l.length = l.map YF
section
variable {w w' : World} {b cap : Nat} {l : List UInt8} {X : List Nat}
theorem ByB.lt (h : ByB w b cap l) : b < w.heap.size := by
  obtain ⟨cur, E, j, _⟩ := h
  rcases Nat.lt_or_ge b w.heap.size with h1 | h1
  · exact h1
  · rw [Array.getElem?_eq_none h1] at j; cases j
theorem ByB.evo (h : ByB w b cap l) (he : Evo w w' X) (I : b ∉ X) : ByB w' b cap l := by
  have C := h.lt
  obtain ⟨cur, E, j, r⟩ := h
  exact ⟨cur, E, (he.same b C I).trans j, r⟩
theorem ByB.evo0 (h : ByB w b cap l) (he : Evo w w' []) : ByB w' b cap l := h.evo he (by simp)
theorem ByB.len (h : ByB w b cap l) : l.length ≤ cap ∧ l.length ≤ 140737488355328 := by obtain ⟨cur, E, _, _, h1, j, _⟩ := h; exact ⟨h1, j⟩
theorem ByB.cell (h : ByB w b cap l) {i : Nat} (j : i < l.length) : w.cell? ⟨b, i, none⟩ = some (YF (l.getD i 0)) := by
  obtain ⟨cur, E, J, h1, R, U, I⟩ := h
  have C : (cur.toList.take l.length)[i]? = (l.map YF)[i]? := by rw [I]
  rw [List.getElem?_take_of_lt j, Array.getElem?_toList, List.getElem?_map, List.getElem?_eq_getElem j] at C
  simp only [World.cell?, J, Option.isSome_none, Bool.false_eq_true, if_false]
  rw [C]
  simp [List.getD, j]
theorem ByB.row (h : ByB w b cap l) : RowE w (some ⟨b, 0, none⟩) b 0 cap l := by
  refine ⟨⟨by simpa using h.len.1, by simpa using h.len.2⟩, fun _ => rfl, fun i cs I => ?_⟩
  have C : i < l.length := by
    rcases Nat.lt_or_ge i l.length with h1 | h1
    · exact h1
    · rw [List.getElem?_eq_none (by simpa using h1)] at I; cases I
  rw [List.getElem?_map, List.getElem?_eq_getElem C] at I
  injection I with I
  subst I
  refine ⟨rfl, fun j v R => ?_⟩
  have U : j = 0 := by
    rcases Nat.eq_zero_or_pos j with h1 | h1
    · exact h1
    · rw [List.getElem?_eq_none (by show 1 ≤ j; exact h1)] at R; cases R
  subst U
  have J : some (YF l[i]) = some v := R
  injection J with J
  have h3 := h.cell C
  have e : l.getD i 0 = l[i] := by simp [List.getD, C]
  rw [e, J] at h3
  have e2 : 0 + i * Enc.n UInt8 + 0 = i := by show 0 + i * 1 + 0 = i; omega
  rw [e2]; exact h3
end
section
variable {P : Program} {B : Exit → Act → World → Prop} {n : Nat} {k : List Kont} {f : Fr} {w : World} {ops : Array Oper} {rest : List Oper}
theorem YG {T U E d : Nat} {t : TypeId} {pos : String} {R : Array Edge} {x : Operand} {s : AQ} (hd : Nat.blt d n = true) (hs : P.underlying T = some .string) (hu : P.underlying U = some (.slice E)) (he : P.underlying E = some (.int .u8)) (hx : opv f x = S s) (hb : s.length ≤ 140737488355328)
    (h : ∀ b cap w', b = w.heap.size → Evo w w' [] → ByB w' b cap s → w'.heap.size = b + 1 → KL P B n ops k rest (upd f d (.slice (some ⟨b, 0, none⟩) s.length cap)) w') :
    KL P B n ops k (⟨some d, .convert T U x, t, pos, R, none⟩ :: rest) f w := by
  have hr := Lib.run_convert_string_bytes (P := P) w T U E ⟨s.toArray⟩ hs hu he
  have C : (⟨s.toArray⟩ : ByteArray).size = s.length := by simp [ByteArray.size]
  have J := grownCap_ge w (⟨s.toArray⟩ : ByteArray).size 0 E
  have I : (Lib.bytesCells w E ⟨s.toArray⟩).size = grownCap w (⟨s.toArray⟩ : ByteArray).size 0 E := by
    simp only [Lib.bytesCells, Array.size_append, Array.size_map, Array.size_replicate]
    have e : s.toArray.size = (⟨s.toArray⟩ : ByteArray).size := rfl
    rw [e]; omega
  have ag : ByB (Lib.bytesWorld w E ⟨s.toArray⟩) w.heap.size (grownCap w (⟨s.toArray⟩ : ByteArray).size 0 E) s := by
    refine ⟨Lib.bytesCells w E ⟨s.toArray⟩, E, by rw [Lib.bytesWorld_at_new, I], I, by rw [C] at J; rw [C]; exact J, hb, ?_⟩
    simp [Lib.bytesCells]
  refine Hp (v := .slice (some ⟨w.heap.size, 0, none⟩) s.length (grownCap w (⟨s.toArray⟩ : ByteArray).size 0 E)) (w' := Lib.bytesWorld w E ⟨s.toArray⟩) rfl rfl hd ?_ (h _ _ _ rfl ⟨rfl, rfl, rfl, by rw [Lib.bytesWorld_size]; omega, fun j hj _ => Lib.bytesWorld_at_old w E ⟨s.toArray⟩ j hj⟩ ag (Lib.bytesWorld_size w E ⟨s.toArray⟩))
  unfold execOp
  simp only []
  rw [hx, ← C]
  simp only [Sem.run_bind]
  rw [show S s = Value.string ⟨s.toArray⟩ from rfl, hr]
  rfl
theorem ByB.set {b cap i : Nat} {l : List UInt8} (c : UInt8) (h : ByB w b cap l) (hi : i < l.length) : ByB (w.setCell ⟨b, i, none⟩ (YF c)) b cap (l.set i c) := by
  obtain ⟨cur, E, hb, h1, R, U, h4⟩ := h
  refine ⟨cur.setIfInBounds i (YF c), E, by simp [World.setCell, Array.getElem?_modify, hb], by simpa using h1, by simpa using R, by simpa using U, ?_⟩
  rw [List.length_set, Array.toList_setIfInBounds]
  apply List.ext_getElem?
  intro j
  have I := congrArg (fun q : List Value => q[j]?) h4
  simp only [List.getElem?_take, List.getElem?_map] at I ⊢
  rw [List.getElem?_set, List.getElem?_set]
  have hc : i < cur.toList.length := by rw [Array.length_toList, h1]; omega
  by_cases J : j < l.length
  · simp only [J, if_true] at I ⊢
    by_cases C : i = j
    · subst C; rw [if_pos rfl, if_pos rfl, if_pos hc, if_pos hi]; rfl
    · simp only [C, if_false]; exact I
  · simp only [J, if_false]
    have : ¬ i = j := by omega
    simp [this, List.getElem?_eq_none (Nat.le_of_not_lt J)]
theorem WU {T : TypeId} {t : TypeId} {pos : String} {U : Array Edge} {x y : Operand} {b cap bb : Nat} {z : Option Value} {l : List UInt8} {c : UInt8} (i : Nat) (hx : opv f x = .pointer (some ⟨b, i, none⟩)) (hy : opv f y = YF c) (R : ByB w b cap l) (hi : i < l.length) (ht : Dl P T = some (1, bb, z))
    (h : ∀ w', Evo w w' [b] → w'.heap.size = w.heap.size → ByB w' b cap (l.set i c) → KL P B n ops k rest f w') :
    KL P B n ops k (⟨none, .store T x y, t, pos, U, none⟩ :: rest) f w := by
  refine Sx (w' := w.setCell ⟨b, i, none⟩ (YF c)) rfl rfl ?_ (h _ (Evo.setCell _ _ _) (by simp [World.setCell]) (R.set c hi))
  have C := R.cell hi
  have ao : w.frozen? ⟨b, i, none⟩ = false := by
    have hl := R.len.1
    obtain ⟨cur, E, ag, h1, h2, h3, h4⟩ := R
    simp only [World.frozen?, ag]
    simp; omega
  have J := run_storeCells_cells (P := P) b i [YF c] 0 w (by intro j I; simp at I; subst I; simp [C]) (by intro j I; simp at I; subst I; simpa using ao) (by intro v hv; simp at hv; subst hv; rfl)
  have az : (YF c).cells = #[YF c] := rfl
  simp only [execOp, Instr.storeAt, Instr.sureAddr, storeVar, hx, hy, Sem.run_bind, Cj ht, az, Sem.run_pure, Result.andThen_ok]
  simp
  simp at J
  rw [J]
  rfl
theorem Of {T : TypeId} {t : TypeId} {pos : String} {C : Array Edge} {x y : Operand} {b cap I j : Nat} {z : Option Value} {l : List UInt8} {m : Int} (i : Nat) (c : UInt8) (hx : opv f x = .pointer (some ⟨b, j, none⟩)) (U : j = i) (hy : opv f y = .int .u8 m) (hm : m = ((c.toNat : Nat) : Int)) (J : ByB w b cap l) (R : i < l.length) (ht : Dl P T = some (1, I, z))
    (h : ∀ w', Evo w w' [b] → w'.heap.size = w.heap.size → ByB w' b cap (l.set i c) → KL P B n ops k rest f w') :
    KL P B n ops k (⟨none, .store T x y, t, pos, C, none⟩ :: rest) f w := by
  subst U; subst hm
  exact WU _ hx hy J R ht h
def BA (w : World) (base : Nat) (E : TypeId) (v : Value) (l : List UInt8) : Prop := OwnE w base E v l ∨ ∃ b, v = .slice (some ⟨b, 0, none⟩) l.length l.length ∧ base ≤ b ∧ b < w.heap.size ∧ ByB w b l.length l ∧ l.length = 2
theorem BA.shape {base : Nat} {E : TypeId} {v : Value} {l : List UInt8} (h : BA w base E v l) : ∃ j cap, v = .slice j l.length cap := by
  rcases h with h | ⟨b, h, _⟩
  · exact h.shape
  · exact ⟨_, _, h⟩
theorem BA.own {base : Nat} {E : TypeId} {v : Value} {l : List UInt8} (h : BA w base E v l) (j : ¬ l.length = 2) : OwnE w base E v l := by
  rcases h with h | ⟨b, _, _, _, _, h⟩
  · exact h
  · exact absurd h j
theorem BA.evo0 {w' : World} {base : Nat} {E : TypeId} {v : Value} {l : List UInt8} (h : BA w base E v l) (he : Evo w w' []) : BA w' base E v l := by
  rcases h with h | ⟨b, h1, h2, h3, h4, h5⟩
  · exact .inl (h.evo0 he)
  · exact .inr ⟨b, h1, h2, Nat.lt_of_lt_of_le h3 he.size, h4.evo0 he, h5⟩
end
end Go.Vc
namespace Go.Proofs.YtlfjocbnbceceaaGreatDoor
open Go.RowKit Go.Vc Go.Proofs.Tryz
theorem Zz : DH Tryz.prog 5 = some false := ζ
theorem LR : Dl Tryz.prog 5 = some (1, 1, some (.int .u8 0)) := ζ
theorem EV {c : UInt8} {I : World}  :
    Calls Tryz.prog 143 #[.int .u8 ((c.toNat : Nat) : Int)] I fun e w' => e = .returned (.int .i64 (BM c)) ∧ Evo I w' [] := by
 refine AG (n := 51) func143 rfl ntmps143 rfl ?_
 have C : Evo I I [] := Evo.refl _ _
 refine Zs (Zn Ah (AB (AD (Zs (Zo AN (Zo C3 (Zo Br ?_)))))))
 refine Ab rfl Ay rfl (fun j => AN) ?_
 refine Ab rfl Ay rfl (fun j => A1 rfl (Af j) η) ?_
 refine Zo Ee (Zo Br ?_)
 refine Ab rfl Ay rfl (fun j => AN) ?_
 refine Ab rfl Ay rfl (fun j => A1 rfl (Af j) η) ?_
 refine Zo Ee (Zo Br ?_)
 refine Ab rfl Ay rfl (fun j => AN) ?_
 refine Ab rfl Ay rfl (fun j => A1 rfl (Af j) η) ?_
 refine Zo Ee (Zn A6 (AE η (fun J => ?_) (fun J => ?_)))
 refine Zs (Zn Ah (AK CZ ?_))
 exact ⟨AU (by rw [PI ω]), C⟩
 refine Zs (Zo AN (Zo Bu (Zo Br ?_)))
 refine Ab rfl Ay rfl (fun j => AN) ?_
 refine Ab rfl Ay rfl (fun j => A1 rfl (Af j) η) ?_
 refine Zo Ee (Zn A6 (AE η (fun R => ?_) (fun R => ?_)))
 refine Zs (Zn Ah (AK CZ ?_))
 exact ⟨AU (by rw [L9 ω ω]), C⟩
 refine Zs (Zo AN (Zo (BQ rfl η η) (Zo Br ?_)))
 refine Ab rfl Aq rfl (fun j => AN) ?_
 refine Ab rfl Aq rfl (fun j => Cy rfl (Af j) η) ?_
 refine Zo Fm (Zn A6 (AE η (fun U => ?_) (fun U => ?_)))
 refine Zs (Zn Ah (AK CZ ?_))
 exact ⟨AU (by rw [Pz ω]), C⟩
 refine Zs (Zo AN (Zo (BQ rfl η η) (Zo Br ?_)))
 refine Ab rfl Aq rfl (fun j => AN) ?_
 refine Ab rfl Aq rfl (fun j => Cy rfl (Af j) η) ?_
 refine Zo Fm (Zo Br ?_)
 refine Ab rfl Ay rfl (fun j => AN) ?_
 refine Ab rfl Ay rfl (fun j => BQ rfl (Af j) η) ?_
 refine Ab rfl Ay rfl (fun j => AP (v := .bool _) rfl (Af j)) ?_
 refine Ab rfl (Ce η) rfl (fun j => AN) ?_
 refine Ab rfl (Ce η) rfl (fun j => Cy rfl (Af j) η) ?_
 refine Ab rfl Ay rfl (fun j => Bc rfl (Af j) (fun hq => IK η (fun h => h) (And.intro j hq)) rfl) ?_
 refine Zo Ee (Zo Br ?_)
 refine Ab rfl Ay rfl (fun j => AN) ?_
 refine Ab rfl Ay rfl (fun j => BQ rfl (Af j) η) ?_
 refine Zo Ee (Zn A6 (AE η (fun ag => ?_) (fun ag => ?_)))
 refine Zs (Zn Ah (AK CZ ?_))
 exact ⟨AU (by rw [NI ω]), C⟩
 refine AF (AO (Zs (Zn Ah (AK CZ ?_))))
 exact ⟨AU (by rw [SQ ω ω ω ω]), C⟩
theorem Bi {c : UInt8} {I : World}  :
    Calls Tryz.prog 101 #[.int .u8 ((c.toNat : Nat) : Int)] I fun e w' => e = .returned (.int .i64 (BM c)) ∧ Evo I w' [] := by
 refine AG (n := 51) func101 rfl ntmps101 rfl ?_
 have C : Evo I I [] := Evo.refl _ _
 refine Zs (Zn Ah (AB (AD (Zs (Zo AN (Zo C3 (Zo Br ?_)))))))
 refine Ab rfl Ay rfl (fun j => AN) ?_
 refine Ab rfl Ay rfl (fun j => A1 rfl (Af j) η) ?_
 refine Zo Ee (Zo Br ?_)
 refine Ab rfl Ay rfl (fun j => AN) ?_
 refine Ab rfl Ay rfl (fun j => A1 rfl (Af j) η) ?_
 refine Zo Ee (Zo Br ?_)
 refine Ab rfl Ay rfl (fun j => AN) ?_
 refine Ab rfl Ay rfl (fun j => A1 rfl (Af j) η) ?_
 refine Zo Ee (Zn A6 (AE η (fun J => ?_) (fun J => ?_)))
 refine Zs (Zn Ah (AK CZ ?_))
 exact ⟨AU (by rw [PI ω]), C⟩
 refine Zs (Zo AN (Zo Bu (Zo Br ?_)))
 refine Ab rfl Ay rfl (fun j => AN) ?_
 refine Ab rfl Ay rfl (fun j => A1 rfl (Af j) η) ?_
 refine Zo Ee (Zn A6 (AE η (fun R => ?_) (fun R => ?_)))
 refine Zs (Zn Ah (AK CZ ?_))
 exact ⟨AU (by rw [L9 ω ω]), C⟩
 refine Zs (Zo AN (Zo (BQ rfl η η) (Zo Br ?_)))
 refine Ab rfl Aq rfl (fun j => AN) ?_
 refine Ab rfl Aq rfl (fun j => Cy rfl (Af j) η) ?_
 refine Zo Fm (Zn A6 (AE η (fun U => ?_) (fun U => ?_)))
 refine Zs (Zn Ah (AK CZ ?_))
 exact ⟨AU (by rw [Pz ω]), C⟩
 refine Zs (Zo AN (Zo (BQ rfl η η) (Zo Br ?_)))
 refine Ab rfl Aq rfl (fun j => AN) ?_
 refine Ab rfl Aq rfl (fun j => Cy rfl (Af j) η) ?_
 refine Zo Fm (Zo Br ?_)
 refine Ab rfl Ay rfl (fun j => AN) ?_
 refine Ab rfl Ay rfl (fun j => BQ rfl (Af j) η) ?_
 refine Ab rfl Ay rfl (fun j => AP (v := .bool _) rfl (Af j)) ?_
 refine Ab rfl (Ce η) rfl (fun j => AN) ?_
 refine Ab rfl (Ce η) rfl (fun j => Cy rfl (Af j) η) ?_
 refine Ab rfl Ay rfl (fun j => Bc rfl (Af j) (fun hq => IK η (fun h => h) (And.intro j hq)) rfl) ?_
 refine Zo Ee (Zo Br ?_)
 refine Ab rfl Ay rfl (fun j => AN) ?_
 refine Ab rfl Ay rfl (fun j => BQ rfl (Af j) η) ?_
 refine Zo Ee (Zn A6 (AE η (fun ag => ?_) (fun ag => ?_)))
 refine Zs (Zn Ah (AK CZ ?_))
 exact ⟨AU (by rw [NI ω]), C⟩
 refine AF (AO (Zs (Zn Ah (AK CZ ?_))))
 exact ⟨AU (by rw [SQ ω ω ω ω]), C⟩
theorem G6 {s : AQ} {w0 : World} (hs : s.length ≤ 140737488355328) :
    Calls Tryz.prog 183 #[S s] w0 fun e w' => e = .returned (S (Cc s)) ∧ Evo w0 w' [] := by
 refine AG (n := 30) func183 rfl ntmps183 rfl ?_
 have J : Evo w0 w0 [] := Evo.refl _ _
 refine Zs (Zn CD (Zs (Zo Au (YG rfl underlying9 underlying123 underlying5 η τ ?_))))
 intro b1 capb1 w2 J1 E2 C Y1
 have Q2 := E2.size
 replace J := Z0 J E2
 have j := C.row
 refine Zn (AM (v := .slice (some ⟨b1, 0, none⟩) _ _) rfl η) (AB (Zs (Zo (AP (v := .slice (some ⟨b1, 0, none⟩) _ _) rfl η) (Zo (AL rfl η underlying123) (Zn AN (AD (AZ (α := Nat) [4, 5, 10, 11, 12, 13, 14, 15, 16, 17, 18, 19, 20, 21, 22, 23, 24, 25, 26, 27] (fun k g w => g 10 = .int .i64 (k : Nat) ∧ k ≤ s.length ∧ ByB w b1 capb1 (Hw s k) ∧ RowE w (some ⟨b1, 0, none⟩) b1 0 capb1 (Hw s k) ∧ w2.heap.size ≤ w.heap.size ∧ Evo w0 w []) (fun k => s.length - k) 0 ?_ ?_)))))))
 refine ⟨σ, δ, (by rw [I2]; exact C), (by rw [I2]; exact j), δ, J⟩
 rintro k g w4 ⟨a6, hk_k, C, j, hzl3, J⟩
 have U := J.size
 refine Zk 10 a6 ?_
 have bb := lowK_len s k
 have a7 := fun h => KY (s := s) (k := k) h
 have R := fun h => congrArg UInt8.toNat (KY (s := s) (k := k) h)
 refine Zs (Zn Bu (AB (AE η (fun aT => ?_) (fun aT => ?_))))
 refine AF (AB (AD (Zs (Zo AN (Zo (AV (k) rfl underlying123 LR η η χ ω (j.addr (i := k) ω)) ?_)))))
 have az := j.atD (k) ω
 refine Zo (AH rfl Zz η (az.cell 0 η)) (Zo Ah (Zn Ah (Zs (Zo AN (Zo (BQ rfl η η) (Zo Br ?_))))))
 refine Ab rfl Aq rfl (fun hg => AN) ?_
 refine Ab rfl Aq rfl (fun hg => Cy rfl (Af hg) η) ?_
 refine Zn Fm (AE η (fun a1 => ?_) (fun a1 => ?_))
 refine AA (Zo (AP (v := .slice (some ⟨b1, 0, none⟩) _ _) rfl η) (Zo AN (Zo AN (Zo (OJ rfl η η) (Zo (ZL rfl η η) (Zo (AV (k) rfl underlying123 LR η η χ ω (j.addr (i := k) ω)) ?_))))))
 have ba := j.atD (k) ω
 refine Of (k) ((Wp (s.getD k 0))) η (by first | omega | (show 0 + _ * 1 = _; omega)) η (by have h8 := a7 ω; refine Eq.trans ?_ (Z2 (c := s.getD k 0) (by rw [← h8]; omega) (by rw [← h8]; omega)); rw [h8]) C ω LR ?_
 intro w10 E10 V10 hy_new
 have a_ := E10.size
 replace J := Z1 J E10 ε
 have C := hy_new
 have j := C.row
 clear hy_new
 refine As (AO (AA (Zo A8 (Zn AN (Zg (k + 1) ?_)))))
 refine ⟨σ, δ, (by first | (have I := C; rw [Fl ω] at I; exact I) | (rw [El ω (by have := R ω; omega)]; exact C)), (by first | (have I := j; rw [Fl ω] at I; exact I) | (rw [El ω (by have := R ω; omega)]; exact j)), δ, J⟩
 refine AF (AO (AA (Zo A8 (Zn AN (Zg (k + 1) ?_)))))
 refine ⟨σ, δ, (by first | (have I := C; rw [Fl ω] at I; exact I) | (rw [El ω (by have := R ω; omega)]; exact C)), (by first | (have I := j; rw [Fl ω] at I; exact I) | (rw [El ω (by have := R ω; omega)]; exact j)), δ, J⟩
 refine AW rfl (Zs (Zo (AP (v := .slice (some ⟨b1, 0, none⟩) _ _) rfl η) (Zo (HX rfl underlying123 underlying5 underlying9 η (by first | rfl | simp) j) (Zn CD (AK (BN (v := S _) rfl η) ?_)))))
 exact ⟨by rw [← Ry (k := k) ω], J⟩
theorem GC {s : AQ} {w0 : World} (hs : s.length ≤ 140737488355328) :
    Calls Tryz.prog 173 #[S s] w0 fun e w' => e = .returned (S (Cc s)) ∧ Evo w0 w' [] := by
 refine AG (n := 33) func173 rfl ntmps173 rfl ?_
 have J : Evo w0 w0 [] := Evo.refl _ _
 refine Zs (Zn CD (Zs (Zo Au (YG rfl underlying9 underlying123 underlying5 η τ ?_))))
 intro b1 capb1 w2 J1 E2 C Y1
 have Q2 := E2.size
 replace J := Z0 J E2
 have j := C.row
 refine Zn (AM (v := .slice (some ⟨b1, 0, none⟩) _ _) rfl η) (AB (Zs (Zo (AP (v := .slice (some ⟨b1, 0, none⟩) _ _) rfl η) (Zo (AL rfl η underlying123) (Zn AN (AD (AZ (α := Nat) [4, 9, 10, 11, 12, 13, 14, 15, 16, 17, 18, 19, 20, 21, 22, 23, 24, 25, 26, 27, 28, 29, 30] (fun k g w => g 9 = .int .i64 (k : Nat) ∧ k ≤ s.length ∧ ByB w b1 capb1 (Hw s k) ∧ RowE w (some ⟨b1, 0, none⟩) b1 0 capb1 (Hw s k) ∧ w2.heap.size ≤ w.heap.size ∧ Evo w0 w []) (fun k => s.length - k) 0 ?_ ?_)))))))
 refine ⟨σ, δ, (by rw [I2]; exact C), (by rw [I2]; exact j), δ, J⟩
 rintro k g w4 ⟨a8, hk_k, C, j, hzl3, J⟩
 have ag := J.size
 refine Zk 9 a8 ?_
 have bc := lowK_len s k
 have a_ := fun h => KY (s := s) (k := k) h
 have R := fun h => congrArg UInt8.toNat (KY (s := s) (k := k) h)
 refine Zs (Zn Bu (AB (AE η (fun a6 => ?_) (fun a6 => ?_))))
 refine AF (AB (AD (Zs (Zo AN (Zn Ah (Zs (Zo (AP (v := .slice (some ⟨b1, 0, none⟩) _ _) rfl η) (Zo AN (Zo (AV (k) rfl underlying123 LR η η χ ω (j.addr (i := k) ω)) ?_)))))))))
 have aT := j.atD (k) ω
 refine Zo (AH rfl Zz η (aT.cell 0 η)) (Zo (BQ rfl η η) (Zo Br ?_))
 refine Ab rfl Aq rfl (fun U => AP (v := .slice (some ⟨b1, 0, none⟩) _ _) rfl η) ?_
 refine Ab rfl Aq rfl (fun U => AN) ?_
 refine Ab rfl Aq rfl (fun U => AV (k) rfl underlying123 LR (Af U) (Af U) χ ω (j.addr (i := k) ω)) ?_
 refine Ab rfl Aq rfl (fun U => AH rfl Zz (Af U) ((j.atD (k) ω).cell 0 η)) ?_
 refine Ab rfl Aq rfl (fun U => Cy rfl (Af U) η) ?_
 refine Zn Fm (AE η (fun a7 => ?_) (fun a7 => ?_))
 refine AA (Zo (AP (v := .slice (some ⟨b1, 0, none⟩) _ _) rfl η) (Zo AN (Zo (AV (k) rfl underlying123 LR η η χ ω (j.addr (i := k) ω)) ?_)))
 have a1 := j.atD (k) ω
 refine Zo (AH rfl Zz η (a1.cell 0 η)) (Zo (OJ rfl η η) (Zo (AV (k) rfl underlying123 LR η η χ ω (j.addr (i := k) ω)) ?_))
 have ba := j.atD (k) ω
 refine Of (k) ((Wp (s.getD k 0))) η (by first | omega | (show 0 + _ * 1 = _; omega)) η (by have h8 := a_ ω; refine Eq.trans ?_ (XZ (c := s.getD k 0) (by rw [← h8]; omega) (by rw [← h8]; omega)); rw [h8]) C ω LR ?_
 intro w11 E11 V11 hy_new
 have bb := E11.size
 replace J := Z1 J E11 ε
 have C := hy_new
 have j := C.row
 clear hy_new
 refine As (AO (AA (Zo A8 (Zn AN (Zg (k + 1) ?_)))))
 refine ⟨σ, δ, (by first | (have I := C; rw [Fl ω] at I; exact I) | (rw [El ω (by have := R ω; omega)]; exact C)), (by first | (have I := j; rw [Fl ω] at I; exact I) | (rw [El ω (by have := R ω; omega)]; exact j)), δ, J⟩
 refine AF (AO (AA (Zo A8 (Zn AN (Zg (k + 1) ?_)))))
 refine ⟨σ, δ, (by first | (have I := C; rw [Fl ω] at I; exact I) | (rw [El ω (by have := R ω; omega)]; exact C)), (by first | (have I := j; rw [Fl ω] at I; exact I) | (rw [El ω (by have := R ω; omega)]; exact j)), δ, J⟩
 refine AW rfl (Zs (Zo (AP (v := .slice (some ⟨b1, 0, none⟩) _ _) rfl η) (Zo (HX rfl underlying123 underlying5 underlying9 η (by first | rfl | simp) j) (Zn CD (AK (BN (v := S _) rfl η) ?_)))))
 exact ⟨by rw [← Ry (k := k) ω], J⟩
end Go.Proofs.YtlfjocbnbceceaaGreatDoor
namespace Go.Vc
open Go Go.RowKit Go.IntWalk Go.Deep
instance : Enc Ende := ⟨2, fun x => [S x.strip, S x.add], fun _ => rfl, fun _ => rfl, by decide⟩
def QK (x : Ende) : Prop := x.strip.length ≤ 140737488351232 ∧ x.add.length ≤ 140737488351232
def aq (x : Clas) : Prop := x.name.length ≤ 140737488351232 ∧ (∀ y ∈ x.ends, QK y) ∧ x.ends.length ≤ 4398046510976
instance : Rep Clas where
  n := 2
  rep w cs x := (∃ ao b off cap, cs = [S x.name, .slice ao x.ends.length cap] ∧ RowE w ao b off cap x.ends) ∧ aq x
  len := fun ⟨⟨_, _, _, _, h, _⟩, _⟩ => by rw [h]; rfl
  evo0 := fun ⟨⟨ao, b, off, cap, h, hr⟩, hb⟩ he => ⟨⟨ao, b, off, cap, h, hr.evo0 he⟩, hb⟩
  pos := by decide
theorem Gi {w : World} {E : List Nat} {ao : Option Addr} {b off cap : Nat} {l : List Clas} (h : RowRK w E ao b off cap l) (k : Nat) (hk : k < l.length) :
    ∃ I J C j, ∀ w', Evo w w' E → At w' b (off + k * 2) [S (l.getD k default).name, .slice I (l.getD k default).ends.length j] ∧ RowE w' I J C j (l.getD k default).ends := by
  obtain ⟨cs, h1⟩ := h.atD k hk
  obtain ⟨I, J, C, j, h2, h3⟩ := (h1 w (Evo.refl _ _)).2.1
  refine ⟨I, J, C, j, fun w' he => ⟨h2 ▸ (h1 w' he).1, ?_⟩⟩
  obtain ⟨a1, b2, az, U, R, h5⟩ := (h1 w' he).2.1
  rw [h2] at R
  simp only [List.cons.injEq, Value.slice.injEq, and_true, true_and] at R
  obtain ⟨rfl, rfl⟩ := R
  exact Hi h5 h3
theorem LI {w : World} {J : Option Addr} {b off cap : Nat} {l : List Clas} (h : RowR w J b off cap l) : ∀ x ∈ l, aq x := fun x hx => by
  obtain ⟨j, _, R, U⟩ := h
  obtain ⟨i, I⟩ := List.getElem?_of_mem hx
  have C : i < l.length := (List.getElem?_eq_some_iff.1 I).1
  exact (U i (j[i]'ω) x (by simp [R, C]) I).2
theorem Pm {P : Program} {e : TypeId} {f0 f1 : Field} (J : P.underlying e = some (.struct #[f0, f1])) (h2 : P.cellsOf e = 2) (o0 : f0.offset = 0) (c0 : P.cellsOf f0.type = 1) (o1 : f1.offset = 1) (c1 : P.cellsOf f1.type = 1)
    (u0 : P.underlying f0.type = some .string) (u1 : P.underlying f1.type = some .string) {H : Type} {enc : TypeId × Value → H} {w : World} {base : Nat} {sp : Nat → Bool} {hd : Bool} {n : Nat} {cs : List Value} {d : DataW H} {pl : List MemPlace}
    (h : DataW.trod enc P w base sp hd n e cs = some (d, pl)) (hw : ∀ m ∈ d.weights P e, m ≤ reachBytes) : ∃ x : Ende, cs = Enc.enc x ∧ QK x := by
  obtain ⟨y0, y1, m, R, hl, h3, h4⟩ := ChangeShapes.trod_struct2 J h
  rw [o0, c0] at h3
  rw [o1, c1] at h4
  rw [h2] at hl
  match cs, hl with
  | [v0, v1], _ =>
    obtain ⟨s, e0, C, _⟩ := DataW.trod_string u0 (by simpa using h3)
    obtain ⟨t, e1, I, _⟩ := DataW.trod_string u1 (by simpa using h4)
    simp only [List.cons.injEq, and_true] at e0 e1
    subst e0; subst e1
    have j : d = .agg [y0.1, y1.1] := congrArg Prod.fst R
    have U : y0.1 = .lit (.string s.data.toList) := congrArg Prod.fst C
    have ag : y1.1 = .lit (.string t.data.toList) := congrArg Prod.fst I
    have h5 : reachBytes = 140737488351232 := rfl
    have h6 := hw s.data.toList.length (by rw [j, U]; simp [DataW.weights, J, DataW.weightsEach])
    have h7 := hw t.data.toList.length (by rw [j, ag]; simp [DataW.weights, J, DataW.weightsEach])
    exact ⟨⟨s.data.toList, t.data.toList⟩, by cases s; cases t; rfl, by show s.data.toList.length ≤ _; omega, by show t.data.toList.length ≤ _; omega⟩
theorem S7 {P : Program} {H : Type} {enc : TypeId × Value → H} {w : World} {base : Nat} {sp : Nat → Bool} {hd : Bool} {t e : TypeId} (hu : P.underlying t = some (.slice e)) {fuel : Nat} {J : Option Addr} {len cap : Nat} {d : DataW H} {pl : List MemPlace}
    (h : DataW.trod enc P w base sp hd fuel t [.slice J len cap] = some (d, pl)) (hw : ∀ m ∈ d.weights P t, m ≤ reachBytes) : len * P.bytesOf e ≤ reachBytes := by
  rcases open_slice hu h with ⟨h1, _⟩ | ⟨a, len', cap', m, n, D, Pl, h1, _, hl, _, hm, hx, hall⟩
  · simp only [List.cons.injEq, Value.slice.injEq, and_true] at h1
    obtain ⟨rfl, rfl, rfl⟩ := h1
    simp
  · simp only [List.cons.injEq, Value.slice.injEq, and_true] at h1
    obtain ⟨rfl, rfl, rfl⟩ := h1
    have C : d = _ := congrArg Prod.fst hx
    have I := hw ((((List.range len).map D).length + ((List.range (m - len)).map fun j => D (len + j)).length) * P.bytesOf e) (by rw [C]; simp [DataW.weights, hu])
    simp only [List.length_map, List.length_range] at I
    exact Nat.le_trans (Nat.mul_le_mul ω (Nat.le_refl _)) I
theorem WG {P : Program} {e R : TypeId} {f0 f1 g0 g1 : Field} (ht : P.underlying e = some (.struct #[f0, f1])) (h2 : P.cellsOf e = 2) (o0 : f0.offset = 0) (c0 : P.cellsOf f0.type = 1) (o1 : f1.offset = 1) (c1 : P.cellsOf f1.type = 1)
    (u0 : P.underlying f0.type = some .string) (u1 : P.underlying f1.type = some (.slice R)) (j : P.cellsOf R = 2) (U : P.bytesOf R = 32)
    (a1 : P.underlying R = some (.struct #[g0, g1])) (o2 : g0.offset = 0) (c2 : P.cellsOf g0.type = 1) (o3 : g1.offset = 1) (c3 : P.cellsOf g1.type = 1) (u2 : P.underlying g0.type = some .string) (u3 : P.underlying g1.type = some .string) : aY Clas P e := by
  intro H enc w base sp hd n cs d pl h hw
  obtain ⟨y0, y1, m, hx, hl, h3, C⟩ := ChangeShapes.trod_struct2 ht h
  rw [o0, c0] at h3
  rw [o1, c1] at C
  rw [h2] at hl
  match cs, hl with
  | [v, u], _ =>
    obtain ⟨s, h5, ag, _⟩ := DataW.trod_string u0 (by simpa using h3)
    simp only [List.cons.injEq, and_true] at h5
    subst h5
    simp only [List.drop_succ_cons, List.drop_zero, List.take_succ_cons, List.take_zero] at C
    have I : d = .agg [y0.1, y1.1] := congrArg Prod.fst hx
    have a6 : y0.1 = .lit (.string s.data.toList) := congrArg Prod.fst ag
    have h8 : reachBytes = 140737488351232 := rfl
    have h9 := hw s.data.toList.length (by rw [I, a6]; simp [DataW.weights, ht, DataW.weightsEach])
    have J : ∀ q ∈ y1.1.weights P f1.type, q ≤ reachBytes := fun q hq => hw q (by rw [I]; simp [DataW.weights, ht, DataW.weightsEach, hq])
    rcases open_slice u1 C with ⟨h6, _⟩ | ⟨a, len, cap, _, _, _, _, h6, _⟩
    · simp only [List.cons.injEq, and_true] at h6
      subst h6
      exact ⟨⟨s.data.toList, []⟩, ⟨none, 0, 0, 0, by cases s; rfl, RowE.nil _ _ _ _ _⟩, by show s.data.toList.length ≤ _; omega, by simp, Nat.zero_le _⟩
    · simp only [List.cons.injEq, and_true] at h6
      subst h6
      have ao := S7 u1 (d := y1.1) (pl := y1.2) (by simpa using C) J
      rw [U] at ao
      obtain ⟨b, off, l, rfl, hr, hq⟩ := RX (α := Ende) u1 j ω (fun n cs d pl h hw => Pm a1 j o2 c2 o3 c3 u2 u3 h hw) (d := y1.1) (pl := y1.2) (by simpa using C) J
      exact ⟨⟨s.data.toList, l⟩, ⟨_, b, off, cap, by cases s; rfl, hr⟩, by show s.data.toList.length ≤ _; omega, hq, by show l.length ≤ _; omega⟩
theorem A5 {α : Type} [Inhabited α] {l : List α} {k : Nat} (h : k < l.length) : l.getD k default ∈ l := by
  have e : l.getD k default = l[k] := by simp [List.getD, h]
  rw [e]; exact List.getElem_mem _
theorem Up {c : List Clas} (h : ∀ x ∈ c, aq x) (n : AQ) (k : Nat) : QK ((Co c n).getD k default) := by
  have j : QK default := ⟨Nat.zero_le _, Nat.zero_le _⟩
  by_cases h1 : 0 ≤ Ca c n
  · rw [JG h1]
    rcases Nat.lt_or_ge k (c.getD (Ca c n).toNat default).ends.length with h2 | h2
    · have I := EX c n
      have C : (Ca c n).toNat < c.length := by omega
      exact (h _ (A5 C)).2.1 _ (A5 h2)
    · rw [List.getD_eq_getElem?_getD, List.getElem?_eq_none h2]; exact j
  · rw [HV h1]; exact j
theorem SY {c : List Clas} (h : ∀ x ∈ c, aq x) (n : AQ) : (Co c n).length ≤ 4398046510976 := by
  by_cases h1 : 0 ≤ Ca c n
  · rw [JG h1]
    have j := EX c n
    exact (h _ (A5 (by omega : (Ca c n).toNat < c.length))).2.2
  · rw [HV h1]; exact Nat.zero_le _
theorem Pg {c : List Clas} {q : AQ} (h : ∀ k, QK ((Co c q).getD k default)) (k : Nat) : QK ((if q = [] then ([] : List Ende) else Co c q).getD k default) := by
  by_cases j : q = []
  · rw [if_pos j]; exact ⟨Nat.zero_le _, Nat.zero_le _⟩
  · rw [if_neg j]; exact h k
theorem UF {c : List Clas} {q : AQ} {n : Nat} (h : (Co c q).length ≤ n) : (if q = [] then ([] : List Ende) else Co c q).length ≤ n := by
  by_cases j : q = []
  · rw [if_pos j]; exact Nat.zero_le _
  · rw [if_neg j]; exact h
end Go.Vc
namespace Go.Proofs.YtlfjocbnbceceaaGreatDoor
open Go.RowKit Go.Vc Go.Proofs.Tryz
theorem Nb : DH Tryz.prog 110 = some true := ζ
theorem BF : DH Tryz.prog 9 = some false := ζ
theorem Ih : CG Tryz.prog 110 0 = some 0 := ζ
theorem Cw : Dl Tryz.prog 110 = some (2, 40, some (.agg #[(.string ⟨#[]⟩), (.slice none 0 0)])) := ζ
theorem Rh {s t : AQ} {C : World} (R : s.length ≤ 140737488355328) (U : t.length ≤ 140737488355328) :
    Calls Tryz.prog 253 #[S s, S t] C fun e w' => e = .returned (.bool (decide (t <:+ s))) ∧ Evo C w' [] := by
 refine AG (n := 21) func253 rfl ntmps253 rfl ?_
 have J : Evo C C [] := Evo.refl _ _
 refine Zs (Zn A6 (Zs (Zo Au (Zo (Al rfl η underlying9) (Zo Au (Zo (Al rfl η underlying9) (Zo (BQ rfl η η) (Zo Br ?_))))))))
 refine Ab rfl Aq rfl (fun j => Au) ?_
 refine Ab rfl Aq rfl (fun j => Au) ?_
 refine Ab rfl Aq rfl (fun j => Al rfl (Af j) underlying9) ?_
 refine Ab rfl Aq rfl (fun j => Au) ?_
 refine Ab rfl Aq rfl (fun j => Al rfl (Af j) underlying9) ?_
 refine Ab rfl Aq rfl (fun j => DZ rfl (Af j) (Af j) ω ω) ?_
 refine Ab rfl Aq rfl (fun j => BP ((s.length - t.length)) (_) rfl underlying9 (Af j) (at1 (Af j) ω) TS τ τ) ?_
 refine Ab rfl Aq rfl (fun j => Au) ?_
 refine Ab rfl Aq rfl (fun j => Cn rfl (Af j) (Af j)) ?_
 refine Zo Fm (Zn A6 (AK Dk ?_))
 exact ⟨Ao (by rw [Bool.eq_iff_iff, decide_eq_true_iff, decide_eq_true_iff, Ij]; first | omega | (constructor <;> (rintro ⟨h1, I⟩; exact ⟨by omega, I⟩))), J⟩
theorem Rq {s t : AQ} {I : World} (U : s.length ≤ 140737488355328) (ht : t.length ≤ 140737488355328) :
    Calls Tryz.prog 239 #[S s, S t] I fun e w' => e = .returned (.tuple #[S (if t <:+ s then s.take (s.length - t.length) else s), .bool (decide (t <:+ s))]) ∧ Evo I w' [] := by
 refine AG (n := 18) func239 rfl ntmps239 rfl ?_
 have C : Evo I I [] := Evo.refl _ _
 refine Zs (Zo CD (Zn A6 (AB (Zs (Zo Au (Zo Au (Zr [S _, S _] rfl η func253 (Rh τ τ) ?_)))))))
 rintro e w1 ⟨rfl, F1⟩
 refine ⟨_, rfl, ?_⟩
 have R := F1.size
 replace C := Z0 C F1
 refine Zn (ER rfl η) (D8 η (fun j => ?_) (fun j => ?_))
 refine Zs (Zo Au (Zo CD (Zn A6 (AK (He (v := S _) (u := .bool _) rfl η η) ?_))))
 exact ⟨by rw [if_neg (by simpa using j)]; simp_all, C⟩
 refine AF (AB ?_)
 have J := (OB.1 (by simpa using j : t <:+ s)).1
 refine AA (Zo Au (Zo Au (Zo (Al rfl η underlying9) (Zo Au (Zo (Al rfl η underlying9) (Zo JV (Zo (by exact BP (0) ((s.length - t.length)) rfl underlying9 η LU (at1 η ω) τ τ) (Zo CD (Zn A6 ?_)))))))))
 refine AK (He (v := S _) (u := .bool _) rfl η η) ?_
 exact ⟨by rw [if_pos (by simpa using j)]; simp_all, C⟩
theorem T0 {s t : AQ} {j : World} (J : s.length ≤ 140737488355328) (R : t.length ≤ 140737488355328) :
    Calls Tryz.prog 226 #[S s, S t] j fun e w' => e = .returned (.tuple #[S (if t <:+ s then s.take (s.length - t.length) else s), .bool (decide (t <:+ s))]) ∧ Evo j w' [] := by
 refine AG (n := 11) func226 rfl ntmps226 rfl ?_
 have C : Evo j j [] := Evo.refl _ _
 refine Zs (Zo CD (Zn A6 (Zs (Zo Au (Zo Au (Zr [S _, S _] rfl η func239 (Rq τ τ) ?_))))))
 rintro e w1 ⟨rfl, F1⟩
 refine ⟨_, rfl, ?_⟩
 have I := F1.size
 replace C := Z0 C F1
 refine Zo (AX (v := S _) rfl η η) (Zo (AX (v := .bool _) rfl η η) (Zo CD (Zn A6 (AK (He (v := S _) (u := .bool _) rfl η η) ?_))))
 exact ⟨rfl, C⟩
theorem RZ {s t y : AQ} {I : World} (hs : s.length ≤ 140737488355328) (ht : t.length ≤ 140737488355328) (hy : y.length ≤ 140737488355328) :
    Calls Tryz.prog 215 #[S s, S t, S y] I fun e w' => e = .returned (.tuple #[S ((Du s t y).getD []), .bool (Du s t y).isSome]) ∧ Evo I w' [] := by
 refine AG (n := 28) func215 rfl ntmps215 rfl ?_
 have J : Evo I I [] := Evo.refl _ _
 refine Zs (Zo CD (Zn A6 (Zs (Zo Au (Zo (Al rfl η underlying9) (Zo Au (Zo (Al rfl η underlying9) (Zo JV (Zn Ah ?_)))))))))
 refine AB (Zs (Zo AN (Zo Bu (Zo Br ?_))))
 refine Ab rfl Ay rfl (fun j => Au) ?_
 refine Ab rfl Ay rfl (fun j => AN) ?_
 refine Ab rfl Ay rfl (fun j => BP ((s.length - t.length)) (_) rfl underlying9 (Af j) (at1 (Af j) ω) TS τ τ) ?_
 refine Ab rfl Ay rfl (fun j => Au) ?_
 refine Ab rfl Ay rfl (fun j => CR rfl (Af j) (Af j)) ?_
 refine Zn Ee (AE η (fun C => ?_) (fun C => ?_))
 refine Zs (Zo CD (Zn A6 (AK (He (v := S _) (u := .bool _) rfl η η) ?_)))
 exact ⟨by unfold Du; rw [if_neg (by rw [Ij]; first | omega | (rintro ⟨h1, R⟩; exact C.elim (fun h => by omega) (fun h => h R)))]; rfl, J⟩
 refine AF (Zs (Zo Au (Zo AN (Zo (by exact BP (0) ((s.length - t.length)) rfl underlying9 η LU (at1 η ω) τ τ) (Zo Au (Zo (A7 rfl η η μ) (Zo CD (Zn A6 (AK (He (v := S _) (u := .bool _) rfl η η) ?_)))))))))
 exact ⟨by unfold Du; rw [if_pos (Ij.2 ⟨by omega, by have U := not_or.1 C; exact Classical.not_not.1 U.2⟩)]; rfl, J⟩
theorem Il {ao : Option Addr} {b off cap : Nat} {c : List Clas} {n : AQ} {I : World} (hc : RowR I ao b off cap c) :
    Calls Tryz.prog 57 #[.slice ao c.length cap, S n] I fun e w' => e = .returned (.int .i64 (Ca c n)) ∧ Evo I w' [] := by
 refine AG (n := 20) func57 rfl ntmps57 rfl ?_
 have C : Evo I I [] := Evo.refl _ _
 have ag := hc.keep
 have a1 := hc.bd
 refine Zs (Zn Ah (AB (Zs (Zo Ar (Zo (AL rfl η underlying26) (Zn AN (AD (AZ (α := Nat) [4, 5, 6, 9, 10, 11, 12, 13, 14, 15, 16, 17, 18, 19] (fun k g w => g 9 = .int .i64 (k : Nat) ∧ k ≤ c.length ∧ (∀ j, j < k → ¬ (c.getD j default).name = n) ∧ I.heap.size ≤ w.heap.size ∧ Evo I w []) (fun k => c.length - k) 0 ?_ ?_))))))))
 refine ⟨σ, δ, (fun j h => by omega), δ, C⟩
 rintro k g w2 ⟨a8, hk_k, hno, hzl1, C⟩
 have aT := C.size
 refine Zk 9 a8 (Zs (Zn Bu (AB (AE η (fun a7 => ?_) (fun a7 => ?_)))))
 refine AF (AB (AD (Zs (Zo AN (Zo (AV (k) rfl underlying26 Cw η η χ ω ((ag.now C).addr (i := k) ω)) ?_)))))
 obtain ⟨bf, b5, bc, ba, hX⟩ := Gi ag (k) ω
 have J := fun (w' : World) (h : Evo I w' []) => (hX w' h).1
 have R := fun (w' : World) (h : Evo I w' []) => (hX w' h).2
 clear hX
 have U := (R _ C).bd
 refine Zo (AY rfl Nb Cw η rfl (J _ C)) (DI (zs := [_, _]) Cw η rfl ?_)
 intro b6 w7 J6 E7 B6 Y6
 have Q7 := E7.size
 replace C := Z0 C E7
 refine Zo Ah (BB (v := .agg _) (vs := [_, _]) (cs' := [_, _]) η η B6 Cw η rfl η rfl η ?_)
 intro w8 E8 V8 hb_new
 have Q8 := E8.size
 replace C := Z1 C E8 ε
 replace B6 := hb_new
 clear hb_new
 refine As (Zs (Zo (AJ rfl η Ih) (Zo (AH rfl BF η (B6.at.cell 0 η)) (Zo Au (Zn (Cn rfl η η) (AE η (fun az => ?_) (fun az => ?_)))))))
 refine Zs (Zo AN (Zn Ah (AK CZ ?_)))
 exact ⟨AU (by rw [Sv (k := k) ω hno az]), C⟩
 refine AF (AO (AA (Zo A8 (Zn AN (Zg (k + 1) ?_)))))
 refine ⟨σ, δ, (CS hno κ), δ, C⟩
 refine AW rfl (Zs (Zn Ah (AK CZ ?_)))
 exact ⟨AU (by rw [Jp (fun j hj => hno j ω)]), C⟩
theorem BW : Dl Tryz.prog 9 = some (1, 16, some (.string ⟨#[]⟩)) := ζ
theorem Jv {ao : Option Addr} {b off cap : Nat} {l : List AQ} {x : AQ} {R : World} (hl : RowE R ao b off cap l) (hs : l.length ≤ 4398046511104) :
    Calls Tryz.prog 128 #[.slice ao l.length cap, S x] R fun e w' => ∃ v, e = .returned v ∧ Evo R w' [] ∧ OwnE w' R.heap.size 9 v (Dd l x) := by
 refine AG (n := 41) func128 rfl ntmps128 rfl ?_
 have j : Evo R R [] := Evo.refl _ _
 have ag := Ak hl
 have aT := hl.bd
 refine Zs (Zn Bs (Zs (Zn Bs (Zs (Zn A6 (AB (Zs (Zo Ar (Zo (AL rfl η underlying77) ?_)))))))))
 refine Zn AN (AD (AZ (α := Nat) [5, 6, 8, 11, 12, 13, 14, 15, 16, 17, 18, 19, 20, 21, 22, 23, 24, 25, 26, 27, 28, 29, 30, 31, 32, 33] (fun k g w => ∃ J : Value, ∃ d : Bool, ∃ o : List AQ, g 11 = .int .i64 (k : Nat) ∧ g 5 = J ∧ g 6 = .bool d ∧ k ≤ l.length ∧ OwnE w R.heap.size 9 J o ∧ Ik d o l x k ∧ R.heap.size ≤ w.heap.size ∧ Evo R w []) (fun k => l.length - k) 0 ?_ ?_))
 refine ⟨_, false, [], σ, rfl, rfl, δ, (OwnE.nil _ _ _), Wj, δ, j⟩
 rintro k g w2 ⟨J, d, o, hj3, hj4, hj5, hk_k, hoo, hr, hzl1, j⟩
 have az := j.size
 refine Zk 11 hj3 (Zk 5 hj4 (Zk 6 hj5 ?_))
 have bl := YI hr ω
 refine Zs (Zn Bu (AB (AE η (fun a1 => ?_) (fun a1 => ?_))))
 refine AF (AB (AD (Zs (Zo (AV (k) rfl underlying77 BW η η χ ω ((ag _ j).addr (i := k) ω)) ?_))))
 have U := fun (w' : World) (h : Evo R w' []) => (ag w' h).atD (k) ω
 refine Zo (AH rfl BF η ((U _ j).cell 0 η)) (Zn CD (AB (Zs (Zo (Bt rfl η) (Zo (CQ rfl η) (Zo Br ?_))))))
 refine Ab rfl Aq rfl (fun C => Au) ?_
 refine Ab rfl Aq rfl (fun C => Au) ?_
 refine Ab rfl Aq rfl (fun C => Pd rfl (Af C) (Af C)) ?_
 refine Zn Fm (AE η (fun a6 => ?_) (fun a6 => ?_))
 refine AB (Zs (Zo Au (Zo Au (Zn (LY rfl η η) (AE η (fun a7 => ?_) (fun a7 => ?_))))))
 refine AA (Zo (AP (v := J) rfl η) (Zo Au (Ad (u := S _) (y := _) rfl rfl underlying77 BW η hoo (fun _ => η) η ξ₁ (τ) (τ) ω ?_)))
 intro q_v10 v10 w11 E11 hov10 hlv10
 have ba := E11.size
 replace j := AI j E11 (fun g C => .inl (by first | exact (hoo.block C).1 | (have := hoo.block C; omega)))
 refine Zn (AM (v := v10) rfl η) (AA (Zn A6 (AA (Zo (AP (v := v10) rfl η) (Zo Au (Ad (u := S _) (y := _) rfl rfl underlying77 BW η hov10 (fun _ => η) η ξ₁ (τ) (τ) ω ?_))))))
 intro q_v12 v12 w13 E13 hov12 hlv12
 have bb := E13.size
 replace j := AI j E13 (fun g C => .inl (by first | exact (hov10.block C).1 | (have := hov10.block C; omega)))
 refine Zn (AM (v := v12) rfl η) (AO (AA (Zo A8 (Zn AN (Zg (k + 1) ?_)))))
 refine ⟨_, _, _, σ, rfl, rfl, δ, hov12, (by first | exact Ly hr ω κ κ | exact OH hr ω κ κ | exact NG hr ω κ), δ, j⟩
 refine AF (AA (Zn A6 (AA (Zo (AP (v := J) rfl η) (Zo Au (Ad (u := S _) (y := _) rfl rfl underlying77 BW η hoo (fun _ => η) η ξ₁ (τ) (τ) ω ?_))))))
 intro q_v14 v14 w15 E15 hov14 hlv14
 have bc := E15.size
 replace j := AI j E15 (fun g C => .inl (by first | exact (hoo.block C).1 | (have := hoo.block C; omega)))
 refine Zn (AM (v := v14) rfl η) (AO (AA (Zo A8 (Zn AN (Zg (k + 1) ?_)))))
 refine ⟨_, _, _, σ, rfl, rfl, δ, hov14, (by first | exact Ly hr ω κ κ | exact OH hr ω κ κ | exact NG hr ω κ), δ, j⟩
 refine AF (AA (Zo (AP (v := J) rfl η) (Zo Au (Ad (u := S _) (y := _) rfl rfl underlying77 BW η hoo (fun _ => η) η ξ₁ (τ) (τ) ω ?_))))
 intro q_v16 v16 w17 E17 hov16 hlv16
 have bf := E17.size
 replace j := AI j E17 (fun g C => .inl (by first | exact (hoo.block C).1 | (have := hoo.block C; omega)))
 refine Zn (AM (v := v16) rfl η) (AO (AA (Zo A8 (Zn AN (Zg (k + 1) ?_)))))
 refine ⟨_, _, _, σ, rfl, rfl, δ, hov16, (by first | exact Ly hr ω κ κ | exact OH hr ω κ κ | exact NG hr ω κ), δ, j⟩
 refine AW rfl (AB (Zs (Zo (Bt rfl η) (Zn (CQ rfl η) (AE η (fun I => ?_) (fun I => ?_))))))
 refine AA (Zo (AP (v := J) rfl η) (Zo Au (Ad (u := S _) (y := _) rfl rfl underlying77 BW η hoo (fun _ => η) η ξ₁ (τ) (τ) ω ?_)))
 intro q_v19 v19 w20 E20 hov19 hlv19
 have bg := E20.size
 replace j := AI j E20 (fun g C => .inl (by first | exact (hoo.block C).1 | (have := hoo.block C; omega)))
 refine Zn (AM (v := v19) rfl η) (Zs (Zo (AP (v := v19) rfl η) (Zn (AM (v := v19) rfl η) (AK (BN (v := v19) rfl η) ?_))))
 exact ⟨_, rfl, j, by rw [← V6 hr ω (by simpa using I)]; exact hov19⟩
 refine AF (Zs (Zo (AP (v := J) rfl η) (Zn (AM (v := J) rfl η) (AK (BN (v := J) rfl η) ?_))))
 exact ⟨_, rfl, j, by rw [← WJ hr ω (by simpa using I)]; exact hoo⟩
theorem HF : DH Tryz.prog 108 = some false := ζ
theorem Dv : CG Tryz.prog 110 1 = some 1 := ζ
theorem R9 {wb : World} {ao : Option Addr} {b off cap : Nat} {c : List Clas} {n : AQ} {w0 : World} (hc : RowRK wb [] ao b off cap c) (J : Evo wb w0 []) :
    Calls Tryz.prog 214 #[.slice ao c.length cap, S n] w0 fun e w' => ∃ R b' az j, e = .returned (.slice R (Co c n).length j) ∧ Evo w0 w' [] ∧ ∀ w2, Evo wb w2 [] → RowE w2 R b' az j (Co c n) := by
 refine AG (n := 16) func214 rfl ntmps214 rfl ?_
 have hV : Evo w0 w0 [] := Evo.refl _ _
 have I := hc
 replace hc := I.now J
 have a7 := hc.bd
 refine Zs (Zn Bs (AB (Zs (Zo Ar (Zo Au (Zr [.slice _ _ _, S _] rfl η func57 (Il hc) ?_))))))
 rintro e w1 ⟨rfl, F1⟩
 refine ⟨_, rfl, ?_⟩
 have Q1 := F1.size
 replace hV := Z0 hV F1
 replace J := Z0 J F1
 refine Zn Ah (Zs (Zo AN (Zn (BQ rfl η η) (AE η (fun ba => ?_) (fun ba => ?_)))))
 refine Zs (Zo Ar (Zo AN (Zo (AV ((Ca c n).toNat) rfl underlying26 Cw η η (by have := EX c n; omega) (by have := EX c n; omega) ((I.now J).addr (i := (Ca c n).toNat) (by have := EX c n; omega))) ?_)))
 obtain ⟨bl, b3, bg, bf, hX⟩ := Gi I ((Ca c n).toNat) (by have := EX c n; omega)
 have U := fun (w' : World) (h : Evo wb w' []) => (hX w' h).1
 have C := fun (w' : World) (h : Evo wb w' []) => (hX w' h).2
 clear hX
 have ag := (C _ J).bd
 refine Zo (AJ rfl η Dv) (Zo (AH rfl HF η ((U _ J).cell 1 η)) (Zn Bs (AK (BN (v := .slice _ _ _) rfl η) ?_)))
 exact ⟨_, _, _, _, by rw [JG ω], hV, by rw [JG ω]; exact C⟩
 refine AF (Zs (Zn Bs (AK (BN (v := .slice _ _ _) rfl η) ?_)))
 exact ⟨none, 0, 0, 0, by rw [HV ω]; rfl, hV, by rw [HV ω]; exact fun w2 _ => RowE.nil _ _ _ _ _⟩
theorem Dr : DH Tryz.prog 112 = some true := ζ
theorem IL : CG Tryz.prog 112 0 = some 0 := ζ
theorem HN : CG Tryz.prog 112 1 = some 1 := ζ
theorem Kv : CG Tryz.prog 88 0 = some 0 := ζ
theorem Gp : CG Tryz.prog 88 1 = some 1 := ζ
theorem Be : Dl Tryz.prog 112 = some (2, 32, some (.agg #[(.string ⟨#[]⟩), (.string ⟨#[]⟩)])) := ζ
end Go.Proofs.YtlfjocbnbceceaaGreatDoor
namespace Go.Vc
open Go Go.RowKit Go.IntWalk
section
variable {P : Program} {f : Fr} {w : World} {o : Oper}
theorem Qj {g : FuncId} {xs : List Operand} {vs : List Value} (C : o.op = .makeFunc (.func g) #[] xs.toArray) (j : xs.map (opv f) = vs) : (execOp (opv f) o).run P w = .ok (.value (.func (.func g) #[] vs.toArray)) w := by
  unfold execOp; rw [C]; simp only []
  rw [show xs.toArray.map (opv f) = vs.toArray from by rw [← j]; simp]
  simp [Instr.makeFunc]
theorem Cm {g : FuncId} {F : Operand} {args : List Operand} {ts : Array TypeId} {vs cs : List Value} {fn : Func} {c : Code} (ho : o.op = .call ⟨.value F, args.toArray, ts⟩) (I : opv f F = .func (.func g) #[] cs.toArray) (C : args.map (opv f) = vs)
    (R : P.funcs[g]? = some fn) (J : fn.body = some c) (U : (fn.name == "runtime.NumGoroutine") = false) : (execOp (opv f) o).run P w = .ok (.enter g (vs ++ cs).toArray) w := by
  unfold execOp; rw [ho]; simp only [resolve]
  rw [show args.toArray.map (opv f) = vs.toArray from by rw [← C]; simp, I]
  have j : ¬ fn.name = "runtime.NumGoroutine" := by simpa using U
  simp [Deferred.ofValue, invoke, callFunc, R, J, j]
end
section
variable {α β : Type} {P : Program} {B : Exit → Act → World → Prop} {n : Nat} {k : List Kont} {f : Fr} {w : World} {ops : Array Oper} {rest : List Oper} {K E : TypeId} {ek : α → Value} {ev : β → Value} {m : List (α × β)} {b : Nat}
theorem XA [DecidableEq α] (L : KeyLaw P K ek) {T : TypeId} {t : TypeId} {pos : String} {j : Array Edge} {x y z : Operand} {a : α} {v : β} (hu : P.underlying T = some (.map K E)) (R : opv f x = .map (some b)) (U : opv f y = ek a) (hz : opv f z = ev v)
    (h : MapIs w b ek ev m) (C : ∀ w', Evo w w' [b] → w'.heap.size = w.heap.size → MapIs w' b ek ev (Dj m a v) → KL P B n ops k rest f w') :
    KL P B n ops k (⟨none, .insert T x y z, t, pos, j, none⟩ :: rest) f w := by
  obtain ⟨w', I, he, J, hm⟩ := OU L hu a v h
  refine Sx (w' := w') rfl rfl ?_ (C w' he J hm)
  simp [execOp, R, U, hz, I]
end
end Go.Vc
namespace Go.Proofs.YtlfjocbnbceceaaGreatDoor
open Go.RowKit Go.Vc Go.Proofs.Tryz
theorem R4 {m n : AQ} {v : Value} {J : Nat} {C : World} (R : Blk C J 9 [S n]) :
    Calls Tryz.prog 145 #[.agg #[S m, v], .pointer (some ⟨J, 0, none⟩)] C fun e w' => e = .returned (.bool (decide (m = n))) ∧ Evo C w' [] := by
 have j := R.at; have U := R.lt
 refine AG (n := 8) func145 rfl ntmps145 rfl ?_
 have I : Evo C C [] := Evo.refl _ _
 refine Zs (Ch (vs := [_, _]) η η rfl ?_)
 intro b1 w2 J1 E2 B1 Y1
 have Q2 := E2.size
 replace I := Z0 I E2
 replace j := j.evo0 E2
 refine Zn A6 (Zs (Zo (AJ rfl η Ih) (Zo (AH rfl BF η (B1.at.cell 0 η)) (Zo (AH rfl BF η (j.cell 0 η)) (Zo (Cn rfl η η) (Zn A6 (AK Dk ?_)))))))
 exact ⟨rfl, I⟩
theorem Qv {ao : Option Addr} {b off cap : Nat} {c : List Clas} {n : AQ} {bn : Nat} {I : World} (hc : RowR I ao b off cap c) (J : Blk I bn 9 [S n]) :
    Calls Tryz.prog 144 #[.slice ao c.length cap, .func (.func 145) #[] #[.pointer (some ⟨bn, 0, none⟩)]] I fun e w' => e = .returned (.int .i64 (Ca c n)) ∧ Evo I w' [] := by
 have bq := J.at; have bl := J.lt
 refine AG (n := 19) func144 rfl ntmps144 rfl ?_
 have C : Evo I I [] := Evo.refl _ _
 have aT := hc.keep
 have a7 := hc.bd
 refine Zs (Zn Ah (AB (Zs (Zo Ar (Zo (AL rfl η underlying26) (Zn AN (AD (AZ (α := Nat) [4, 5, 8, 9, 10, 11, 12, 13, 14, 15, 16, 17, 18] (fun k g w => g 8 = .int .i64 (k : Nat) ∧ k ≤ c.length ∧ Blk w bn 9 [S n] ∧ (∀ j, j < k → ¬ (c.getD j default).name = n) ∧ I.heap.size ≤ w.heap.size ∧ Evo I w []) (fun k => c.length - k) 0 ?_ ?_))))))))
 refine ⟨σ, δ, J, (fun j h => by omega), δ, C⟩
 rintro k g w2 ⟨ba, hk_k, J, hno, hzl1, C⟩
 have a1 := C.size
 have bg := J.lt
 refine Zk 8 ba (Zs (Zn Bu (AB (AE η (fun a_ => ?_) (fun a_ => ?_)))))
 refine AF (AB (AD (Zs (Zo AN (Zn Ah (Zs (Zo (AP (v := .func _ _ _) rfl η) (Zo Ar (Zo AN ?_)))))))))
 refine Zo (AV (k) rfl underlying26 Cw η η χ ω ((aT.now C).addr (i := k) ω)) ?_
 obtain ⟨bp, b6, bm, bc, hX⟩ := Gi aT (k) ω
 have U := fun (w' : World) (h : Evo I w' []) => (hX w' h).1
 have ag := fun (w' : World) (h : Evo I w' []) => (hX w' h).2
 clear hX
 have az := (ag _ C).bd
 refine Zo (AY rfl Nb Cw η rfl (U _ C)) (Dc rfl rfl rfl (Cm (vs := [.agg _]) (cs := [.pointer (some ⟨bn, 0, none⟩)]) rfl η η func145 rfl ζ) (R4 J) ?_)
 rintro e w7 ⟨rfl, F7⟩
 refine ⟨_, rfl, ?_⟩
 have Q7 := F7.size
 replace C := Z0 C F7
 replace J := J.evo0 F7
 refine As (D8 η (fun R => ?_) (fun R => ?_))
 refine Zs (Zo AN (Zn Ah (AK CZ ?_)))
 exact ⟨AU (by rw [Sv (k := k) ω hno (of_decide_eq_true R)]), C⟩
 refine AF (AO (AA (Zo A8 (Zn AN (Zg (k + 1) ?_)))))
 refine ⟨σ, δ, J, (CS hno (of_decide_eq_false R)), δ, C⟩
 refine AW rfl (Zs (Zn Ah (AK CZ ?_)))
 exact ⟨AU (by rw [Jp (fun j hj => hno j ω)]), C⟩
theorem Jh {U : Option Addr} {b off cap : Nat} {c : List Clas} {n : AQ} {C : World} (J : RowR C U b off cap c) :
    Calls Tryz.prog 97 #[.slice U c.length cap, S n] C fun e w' => e = .returned (.int .i64 (Ca c n)) ∧ Evo C w' [] := by
 refine AG (n := 8) func97 rfl ntmps97 rfl ?_
 have j : Evo C C [] := Evo.refl _ _
 have R := J.keep
 have I := J.bd
 refine Zs (Ch (vs := [_]) η η rfl ?_)
 intro b1 w2 J1 E2 B1 Y1
 have Q2 := E2.size
 replace j := Z0 j E2
 replace J := R.now j
 refine Zn Ah (Zs (Zo Ar (Zo (Qj (vs := [.pointer _]) rfl η) (Zr [.slice _ _ _, .func _ _ _] rfl η func144 (Qv J B1) ?_))))
 rintro e w3 ⟨rfl, F3⟩
 refine ⟨_, rfl, ?_⟩
 have Q3 := F3.size
 replace j := Z0 j F3
 refine Zn Ah (AK CZ ?_)
 exact ⟨rfl, j⟩
theorem UA {wb : World} {ao : Option Addr} {b off cap : Nat} {c : List Clas} {n : AQ} {w0 : World} (hc : RowRK wb [] ao b off cap c) (R : Evo wb w0 []) :
    Calls Tryz.prog 225 #[.slice ao c.length cap, S n] w0 fun e w' => ∃ U b' aT C, e = .returned (.slice U (if n = [] then ([] : List Ende) else Co c n).length C) ∧ Evo w0 w' [] ∧ ∀ w2, Evo wb w2 [] → RowE w2 U b' aT C (if n = [] then [] else Co c n) := by
 refine AG (n := 20) func225 rfl ntmps225 rfl ?_
 have hV : Evo w0 w0 [] := Evo.refl _ _
 have J := hc
 replace hc := J.now R
 have a8 := hc.bd
 refine Zs (Zn Bs (AB (Zs (Zo Ar (Zo Au (Zr [.slice _ _ _, S _] rfl η func97 (Jh hc) ?_))))))
 rintro e w1 ⟨rfl, F1⟩
 refine ⟨_, rfl, ?_⟩
 have Q1 := F1.size
 replace hV := Z0 hV F1
 replace R := Z0 R F1
 refine Zn Ah (Zs (Zo AN (Zo (BQ rfl η η) (Zo Br ?_))))
 refine Ab rfl Aq rfl (fun hg => Au) ?_
 refine Ab rfl Aq rfl (fun hg => CR rfl (Af hg) η) ?_
 refine Zn Fm (AE η (fun j => ?_) (fun j => ?_))
 refine Zs (Zo Ar (Zo AN (Zo (AV ((Ca c n).toNat) rfl underlying26 Cw η η (by have := EX c n; omega) (by have := EX c n; omega) ((J.now R).addr (i := (Ca c n).toNat) (by have := EX c n; omega))) ?_)))
 obtain ⟨bm, b3, bl, bf, hX⟩ := Gi J ((Ca c n).toNat) (by have := EX c n; omega)
 have ag := fun (w' : World) (h : Evo wb w' []) => (hX w' h).1
 have I := fun (w' : World) (h : Evo wb w' []) => (hX w' h).2
 clear hX
 have az := (I _ R).bd
 refine Zo (AJ rfl η Dv) (Zo (AH rfl HF η ((ag _ R).cell 1 η)) (Zn Bs (AK (BN (v := .slice _ _ _) rfl η) ?_)))
 exact ⟨_, _, _, _, by rw [if_neg j.2, JG ω], hV, by rw [if_neg j.2, JG ω]; exact I⟩
 refine AF (Zs (Zn Bs (AK (BN (v := .slice _ _ _) rfl η) ?_)))
 exact ⟨none, 0, 0, 0, by rw [U5 j]; rfl, hV, by rw [U5 j]; exact fun w2 _ => RowE.nil _ _ _ _ _⟩
theorem MQ {s : AQ} {J : World} (hs : s.length ≤ 140737488355328) :
    Calls Tryz.prog 141 #[S s] J fun e w' => e = .returned (.bool (BV s)) ∧ Evo J w' [] := by
 refine AG (n := 19) func141 rfl ntmps141 rfl ?_
 have C : Evo J J [] := Evo.refl _ _
 refine Zs (Zn A6 (AB (Zs (Zo Au (Zo (Al rfl η underlying9) (Zn AN (AD (AZ (α := Nat) [2, 3, 6, 7, 8, 9, 10, 11, 12, 13, 14] (fun k g w => g 6 = .int .i64 (k : Nat) ∧ k ≤ s.length ∧ (∀ j, j < k → BM (s.getD j 0) = 4) ∧ J.heap.size ≤ w.heap.size ∧ Evo J w []) (fun k => s.length - k) 0 ?_ ?_))))))))
 refine ⟨σ, δ, (fun j h => by omega), δ, C⟩
 rintro k g w2 ⟨ag, hk_k, hall, hzl1, C⟩
 have R := C.size
 refine Zk 6 ag (Zs (Zn Bu (AB (AE η (fun U => ?_) (fun U => ?_)))))
 refine AF (AB (AD (Zs (Zo AN (Zn Ah (Zs (Zo Au (Zo AN (Zo (A3 (k) rfl underlying9 η η χ ω) ?_)))))))))
 refine Zr [.int _ _] rfl η func143 EV ?_
 rintro e w5 ⟨rfl, F5⟩
 refine ⟨_, rfl, ?_⟩
 have Q5 := F5.size
 replace C := Z0 C F5
 refine Zn (BD rfl η η) (AE η (fun I => ?_) (fun I => ?_))
 refine Zs (Zn A6 (AK Dk ?_))
 exact ⟨Ao (by rw [Wb (k := k) ω I]), C⟩
 refine AF (AO (AA (Zo A8 (Zn AN (Zg (k + 1) ?_)))))
 refine ⟨σ, δ, (CS hall (Classical.not_not.1 I)), δ, C⟩
 refine AW rfl (Zs (Zo Au (Zr [S _] rfl η func183 (G6 τ) ?_)))
 rintro e w7 ⟨rfl, F7⟩
 refine ⟨_, rfl, ?_⟩
 have Q7 := F7.size
 replace C := Z0 C F7
 refine Zo Au (Zo (Cn rfl η η) (Zn A6 (AK Dk ?_)))
 exact ⟨Ao (by rw [Vj (fun j hj => hall j ω)]), C⟩
theorem Ky {s : AQ} {U : World} (hs : s.length ≤ 140737488355328) :
    Calls Tryz.prog 148 #[S s] U fun e w' => e = .returned (.bool (BV s && decide (s.length ≤ 8))) ∧ Evo U w' [] := by
 refine AG (n := 32) func148 rfl ntmps148 rfl ?_
 have J : Evo U U [] := Evo.refl _ _
 refine Zs (Zn A6 (AB (Zs (Zn Ah (AD (AZ (α := Nat) [2, 3, 4, 5, 6, 7, 8, 9, 10, 11, 12, 13, 14, 15, 16, 17, 18, 19, 20, 21, 22, 23, 24, 25, 26, 27, 28] (fun k g w => g 3 = .int .i64 (k : Nat) ∧ k ≤ s.length ∧ (∀ j, j < k → WH (s.getD j 0) = true) ∧ U.heap.size ≤ w.heap.size ∧ Evo U w []) (fun k => s.length - k) 0 ?_ ?_))))))
 refine ⟨rfl, δ, (fun j h => by omega), δ, J⟩
 rintro k g w2 ⟨az, hk, hall, hzl1, J⟩
 have ag := J.size
 refine Zk 3 az (AB (Zs (Zo AN (Zo Au (Zo (Al rfl η underlying9) (Zn Bu (AE η (fun ao => ?_) (fun ao => ?_))))))))
 refine AF (AB (AD (AB (Ba ζ ζ (Zq (fun w' I => Au) (Zq (fun w' I => AN) (Zq (fun w' I => A3 (k) rfl underlying9 η η χ ω) (KC rfl rfl rfl (fun w' I => Am rfl (An (v := .int _ _) η (rfl)) func101 rfl ζ) (fun w' I => (Bi ).mono (fun e aT h => ⟨h.1, CY I h.2⟩)) (Zq (fun w' I => BD rfl η η) ?_)))))))))
 refine Zq (fun w' I => Br) ?_
 refine Dm rfl Ay rfl (fun C w' I => Au) ?_
 refine Dm rfl Ay rfl (fun C w' I => AN) ?_
 refine Dm rfl Ay rfl (fun C w' I => AN) ?_
 refine Dm rfl Ay rfl (fun C w' I => Cp rfl (Af C) η ω ω) ?_
 refine Dm rfl Ay rfl (fun C w' I => BP (k) ((k + 1)) rfl underlying9 (Af C) (at1 (Af C) ω) (at1 (Af C) ω) τ τ) ?_
 refine M7 rfl Ay rfl (fun C w' I => Am rfl (An (v := S _) (Af C) (rfl)) func173 rfl ζ) (fun C w' I => (GC τ).mono (fun e aT h => ⟨h.1, CY I h.2⟩)) ?_
 refine Dm rfl Ay rfl (fun C w' I => Au) ?_
 refine Dm rfl Ay rfl (fun C w' I => AN) ?_
 refine Dm rfl Ay rfl (fun C w' I => AN) ?_
 refine Dm rfl Ay rfl (fun C w' I => Cp rfl (Af C) η ω ω) ?_
 refine Dm rfl Ay rfl (fun C w' I => BP (k) ((k + 1)) rfl underlying9 (Af C) (at1 (Af C) ω) (at1 (Af C) ω) τ τ) ?_
 refine Dm rfl Ay rfl (fun C w' I => CR rfl (Af C) (Af C)) ?_
 refine Zq (fun w' I => Cq rfl η rfl (fun hq => IK η (fun h => h) hq)) ?_
 refine EE (fun w5 F6 => ?_)
 have Q5 := F6.size
 replace J := Z0 J F6
 refine AE η (fun R => ?_) (fun R => ?_)
 refine Zs (Zn A6 (AK Dk ?_))
 exact ⟨Ao (by rw [aK (k := k) ω R, Bool.false_and]), J⟩
 refine AF (AO (AA (Zo AN (Zo A8 (Zn Ah (Zg (k + 1) ?_))))))
 refine ⟨σ, δ, (CS hall (Zi ω R)), δ, J⟩
 refine AW rfl (Zs (Zo Au (Zo (Al rfl η underlying9) (Zo (Cy rfl η η) (Zn A6 (AK Dk ?_))))))
 exact ⟨Ao (by rw [PJ, Y0 (fun j hj => hall j ω), Bool.true_and, Bool.eq_iff_iff, decide_eq_true_iff, decide_eq_true_iff]; omega), J⟩
def FA (c : List Clas) (n : AQ) : Int := if Cs n = true then (if 0 ≤ Ca c n then 5 else 0) else 4
theorem Ra {c : List Clas} {n : AQ} (h : ¬ Cs n = true) : FA c n = 4 := if_neg h
theorem Pa {c : List Clas} {n : AQ} (h : Cs n = true) (j : 0 ≤ Ca c n) : FA c n = 5 := by unfold FA; rw [if_pos h, if_pos j]
theorem OP {c : List Clas} {n : AQ} (h : Cs n = true) (j : ¬ 0 ≤ Ca c n) : FA c n = 0 := by unfold FA; rw [if_pos h, if_neg j]
theorem SN {ao : Option Addr} {b off cap : Nat} {c : List Clas} {n : AQ} {C : World} (J : RowR C ao b off cap c) :
    Calls Tryz.prog 94 #[.slice ao c.length cap, S n] C fun e w' => e = .returned (.int .i64 (FA c n)) ∧ Evo C w' [] := by
 refine AG (n := 14) func94 rfl ntmps94 rfl ?_
 have j : Evo C C [] := Evo.refl _ _
 have R := J.keep
 have I := J.bd
 refine Zs (Zn Ah (AB (AD (Zs (Zo Au (Zr [S _] rfl η func140 Qw ?_))))))
 rintro e w1 ⟨rfl, F1⟩
 refine ⟨_, rfl, ?_⟩
 have Q1 := F1.size
 replace j := Z0 j F1
 replace J := R.now j
 refine Zo (ER rfl η) (Zn A6 (D8 η (fun U => ?_) (fun U => ?_)))
 refine Zs (Zn Ah (AK CZ ?_))
 exact ⟨AU (by rw [Ra (by simp_all)]), j⟩
 refine Zs (Zo Ar (Zo Au (Zr [.slice _ _ _, S _] rfl η func97 (Jh J) ?_)))
 rintro e w3 ⟨rfl, F3⟩
 refine ⟨_, rfl, ?_⟩
 have Q3 := F3.size
 replace j := Z0 j F3
 refine Zo (BQ rfl η η) (Zn A6 (AE η (fun ag => ?_) (fun ag => ?_)))
 refine Zs (Zn Ah (AK CZ ?_))
 exact ⟨AU (by rw [Pa (by simp_all) ω]), j⟩
 refine AF (AO (Zs (Zn Ah (AK CZ ?_))))
 exact ⟨AU (by rw [OP (by simp_all) ω]), j⟩
theorem Qh {ao : Option Addr} {b off cap : Nat} {c : List Clas} {n : AQ} {C : World} (J : RowR C ao b off cap c) :
    Calls Tryz.prog 99 #[.slice ao c.length cap, S n] C fun e w' => e = .returned (.int .i64 (FA c n)) ∧ Evo C w' [] := by
 refine AG (n := 12) func99 rfl ntmps99 rfl ?_
 have j : Evo C C [] := Evo.refl _ _
 have R := J.keep
 have I := J.bd
 refine Zs (Zn Ah (AB (Zs (Zo Au (Zr [S _] rfl η func147 PB ?_)))))
 rintro e w1 ⟨rfl, F1⟩
 refine ⟨_, rfl, ?_⟩
 have Q1 := F1.size
 replace j := Z0 j F1
 replace J := R.now j
 refine Zn (ER rfl η) (D8 η (fun U => ?_) (fun U => ?_))
 refine Zs (Zn Ah (AK CZ ?_))
 exact ⟨AU (by rw [Ra (by simp_all)]), j⟩
 refine AF (AB (Zs (Zo Ar (Zo Au (Zr [.slice _ _ _, S _] rfl η func57 (Il J) ?_)))))
 rintro e w3 ⟨rfl, F3⟩
 refine ⟨_, rfl, ?_⟩
 have Q3 := F3.size
 replace j := Z0 j F3
 refine Zn (BQ rfl η η) (AE η (fun ag => ?_) (fun ag => ?_))
 refine Zs (Zn Ah (AK CZ ?_))
 exact ⟨AU (by rw [Pa (by simp_all) ω]), j⟩
 refine AF (Zs (Zn Ah (AK CZ ?_)))
 exact ⟨AU (by rw [OP (by simp_all) ω]), j⟩
end Go.Proofs.YtlfjocbnbceceaaGreatDoor
namespace Go.Proofs
open Go.RowKit Go.Maps Go.Sort Go.Shelf Go.Proofs.Tryz
def Tryz.keys160_ren : Go.Shelf.Ren := ⟨fun | 7 => 160 | 10 => 195 | n => n, fun | 23 => 171 | 26 => 9 | 3 => 172 | 28 => 175 | 0 => 0 | 27 => 174 | 33 => 89 | 4 => 4 | n => n, fun | n => n⟩
theorem Tryz.keys160 : Go.Proofs.SlLaysZ.n7 Tryz.prog Tryz.keys160_ren := {
  mixed := by kernel_rfl
  f7 := ⟨Tryz.f160.name, by decide, Tryz.func160.trans (congrArg some (by kernel_rfl))⟩
  f10 := ⟨Tryz.f195.name, by decide, Tryz.func195.trans (congrArg some (by kernel_rfl))⟩
  t0 := underlying0
  a0 := isAgg0
  z0 := sizeOf0
  v0 := zeroValue0
  t4 := underlying4
  a4 := isAgg4
  z4 := sizeOf4
  v4 := zeroValue4
  t23 := underlying171
  a23 := isAgg171
  z23 := sizeOf171
  v23 := zeroValue171
  t26 := underlying9
  a26 := isAgg9
  z26 := sizeOf9
  v26 := zeroValue9
  t27 := underlying174
  a27 := isAgg174
  z27 := sizeOf174
  v27 := zeroValue174
  t28 := underlying175
  a28 := isAgg175
  z28 := sizeOf175
  v28 := zeroValue175
  t33 := underlying89
  a33 := isAgg89
  z33 := sizeOf89
  v33 := zeroValue89 }
def Tryz.sorted159_ren : Go.Shelf.Ren := ⟨fun | 6 => 159 | 8 => 194 | 9 => 91 | 11 => 213 | 13 => 69 | 12 => 139 | 23 => 122 | 24 => 123 | 14 => 174 | 15 => 175 | 16 => 176 | 17 => 177 | 18 => 178 | 19 => 179 | 20 => 180 | 21 => 181 | 22 => 182 | 25 => 201 | 26 => 162 | 27 => 163 | 28 => 202 | 29 => 203 | 30 => 71 | 31 => 216 | n => n, fun | 26 => 9 | 28 => 175 | 24 => 77 | 0 => 0 | 3 => 3 | 37 => 105 | 48 => 151 | 50 => 153 | 4 => 4 | 40 => 144 | 39 => 143 | 45 => 148 | 5 => 5 | 9 => 9 | 51 => 177 | 55 => 181 | 57 => 204 | 58 => 131 | 33 => 89 | n => n, fun | n => n⟩
theorem Tryz.sorted159 : Go.Proofs.SlLaysZ.n6 Tryz.prog Tryz.sorted159_ren := {
  mixed := by kernel_rfl
  f6 := ⟨Tryz.f159.name, by decide, Tryz.func159.trans (congrArg some (by kernel_rfl))⟩
  f8 := ⟨Tryz.f194.name, by decide, Tryz.func194.trans (congrArg some (by kernel_rfl))⟩
  f11 := ⟨Tryz.f213.name, by decide, Tryz.func213.trans (congrArg some (by kernel_rfl))⟩
  t0 := underlying0
  a0 := isAgg0
  z0 := sizeOf0
  v0 := zeroValue0
  t24 := underlying77
  a24 := isAgg77
  z24 := sizeOf77
  v24 := zeroValue77
  t26 := underlying9
  a26 := isAgg9
  z26 := sizeOf9
  v26 := zeroValue9
  t28 := underlying175
  a28 := isAgg175
  z28 := sizeOf175
  v28 := zeroValue175
  i26 := by kernel_rfl }
def Tryz.sort91_ren : Go.Shelf.Ren := ⟨fun | 6 => 91 | 8 => 69 | 9 => 139 | 19 => 122 | 20 => 123 | 21 => 174 | 22 => 175 | 23 => 176 | 24 => 177 | 25 => 178 | 26 => 179 | 27 => 180 | 28 => 181 | 29 => 182 | 36 => 201 | 31 => 162 | 32 => 163 | 37 => 202 | 38 => 203 | 39 => 71 | 41 => 216 | n => n, fun | 27 => 77 | 29 => 9 | 3 => 3 | 32 => 105 | 26 => 77 | 0 => 0 | 44 => 151 | 46 => 153 | 4 => 4 | 36 => 144 | 35 => 143 | 41 => 148 | 5 => 5 | 9 => 9 | 53 => 177 | 57 => 181 | 63 => 204 | 64 => 131 | n => n, fun | n => n⟩
theorem Tryz.sort91 : Go.Proofs.SlLaysM.n6 Tryz.prog Tryz.sort91_ren := {
  mixed := by kernel_rfl
  f6 := ⟨Tryz.f91.name, by decide, Tryz.func91.trans (congrArg some (by kernel_rfl))⟩
  f8 := Tryz.func69.trans (congrArg some (by kernel_rfl))
  f9 := ⟨Tryz.f139.name, by decide, Tryz.func139.trans (congrArg some (by kernel_rfl))⟩
  f19 := Tryz.func122.trans (congrArg some (by kernel_rfl))
  f20 := Tryz.func123.trans (congrArg some (by kernel_rfl))
  f21 := ⟨Tryz.f174.name, by decide, Tryz.func174.trans (congrArg some (by kernel_rfl))⟩
  f22 := ⟨Tryz.f175.name, by decide, Tryz.func175.trans (congrArg some (by kernel_rfl))⟩
  f23 := ⟨Tryz.f176.name, by decide, Tryz.func176.trans (congrArg some (by kernel_rfl))⟩
  f24 := ⟨Tryz.f177.name, by decide, Tryz.func177.trans (congrArg some (by kernel_rfl))⟩
  f25 := ⟨Tryz.f178.name, by decide, Tryz.func178.trans (congrArg some (by kernel_rfl))⟩
  f26 := ⟨Tryz.f179.name, by decide, Tryz.func179.trans (congrArg some (by kernel_rfl))⟩
  f27 := ⟨Tryz.f180.name, by decide, Tryz.func180.trans (congrArg some (by kernel_rfl))⟩
  f28 := ⟨Tryz.f181.name, by decide, Tryz.func181.trans (congrArg some (by kernel_rfl))⟩
  f29 := ⟨Tryz.f182.name, by decide, Tryz.func182.trans (congrArg some (by kernel_rfl))⟩
  f31 := Tryz.func162.trans (congrArg some (by kernel_rfl))
  f32 := Tryz.func163.trans (congrArg some (by kernel_rfl))
  f36 := ⟨Tryz.f201.name, by decide, Tryz.func201.trans (congrArg some (by kernel_rfl))⟩
  f37 := ⟨Tryz.f202.name, by decide, Tryz.func202.trans (congrArg some (by kernel_rfl))⟩
  f38 := ⟨Tryz.f203.name, by decide, Tryz.func203.trans (congrArg some (by kernel_rfl))⟩
  f39 := ⟨Tryz.f71.name, by decide, Tryz.func71.trans (congrArg some (by kernel_rfl))⟩
  f41 := ⟨Tryz.f216.name, by decide, Tryz.func216.trans (congrArg some (by kernel_rfl))⟩
  t0 := underlying0
  a0 := isAgg0
  z0 := sizeOf0
  v0 := zeroValue0
  t3 := underlying3
  a3 := isAgg3
  z3 := sizeOf3
  v3 := zeroValue3
  t4 := underlying4
  a4 := isAgg4
  z4 := sizeOf4
  v4 := zeroValue4
  t5 := underlying5
  a5 := isAgg5
  z5 := sizeOf5
  v5 := zeroValue5
  t9 := underlying9
  a9 := isAgg9
  z9 := sizeOf9
  v9 := zeroValue9
  t26 := underlying77
  a26 := isAgg77
  z26 := sizeOf77
  v26 := zeroValue77
  t27 := underlying77
  a27 := isAgg77
  z27 := sizeOf77
  v27 := zeroValue77
  t29 := underlying9
  a29 := isAgg9
  z29 := sizeOf9
  v29 := zeroValue9
  t32 := underlying105
  a32 := isAgg105
  z32 := sizeOf105
  v32 := zeroValue105
  t35 := underlying143
  a35 := isAgg143
  z35 := sizeOf143
  v35 := zeroValue143
  t36 := underlying144
  a36 := isAgg144
  z36 := sizeOf144
  v36 := zeroValue144
  t41 := underlying148
  a41 := isAgg148
  z41 := sizeOf148
  v41 := zeroValue148
  t44 := underlying151
  a44 := isAgg151
  z44 := sizeOf151
  v44 := zeroValue151
  t46 := underlying153
  a46 := isAgg153
  z46 := sizeOf153
  v46 := zeroValue153
  t53 := underlying177
  a53 := isAgg177
  z53 := sizeOf177
  v53 := zeroValue177
  t57 := underlying181
  a57 := isAgg181
  z57 := sizeOf181
  v57 := zeroValue181
  t63 := underlying204
  a63 := isAgg204
  z63 := sizeOf204
  v63 := zeroValue204
  t64 := underlying131
  a64 := isAgg131
  z64 := sizeOf131
  v64 := zeroValue131 }
theorem Tryz.sorts159 (m : Nat) : AnyZ.SortsIn Tryz.prog Tryz.sorted159_ren Fence.wide m :=
  ⟨fun j off cap ss W hH hblk C => callsIn_wide.2 (AnyM.slices_Sort_string Tryz.sort91 j off cap ss W hH hblk C),
   fun p cap W => callsIn_wide.2 (AnyM.slices_Sort_string_none Tryz.sort91 p cap W)⟩
theorem Tryz.maps_Keys_160 (j : Option Nat) (W : World) : CallsIn Fence.wide 5 Tryz.prog 160 #[.map j] W fun e w' => e = .returned (.func (.func 195) #[] #[.pointer (some ⟨W.heap.size, 0, none⟩)]) ∧ w' = W.alloc (.cells #[.map j] 171) :=
  AnyZ.keys_in Tryz.keys160 Fence.wide 5 trivial rfl j W
set_option maxHeartbeats 1000000 in
theorem Tryz.slices_Sorted_keys_159_160 {H : Type} (b nn : Nat) (I : DataW H) (R : Value → Option (DataW H × List MemPlace)) (w : World) (C : w.ownsMap Tryz.prog 9 R b nn I) (J : Maps.size I ≤ maxLen) (j : Maps.size I * 16 ≤ 140737488355328) :
    CallsIn Fence.wide 5 Tryz.prog 159 #[.func (.func 195) #[] #[.pointer (some ⟨w.heap.size, 0, none⟩)]] (w.alloc (.cells #[.map (some b)] 171)) fun e w' => ∃ (v : Value) (ss : List (List UInt8)), e = .returned v ∧ ss.Perm (strKeys I) ∧
      w'.ownsRow (w.alloc (.cells #[.map (some b)] 171)).heap.size 9 1 v ss.length ((ss.mergeSort (fun x y => decide (x ≤ y))).map encStr) ∧ (v = .slice none 0 0 ↔ ss = []) ∧ Below (w.alloc (.cells #[.map (some b)] 171)).heap.size (w.alloc (.cells #[.map (some b)] 171)) w' := by
  have ag := C.lt
  have U : SeqGives Fence.wide 2 Tryz.prog 195 #[.pointer (some ⟨w.heap.size, 0, none⟩)] encStr (fun ss => ss.Perm (strKeys I)) (Maps.size I) (w.alloc (.cells #[.map (some b)] 171)) :=
    AnyZ.keys_gives (ρ := Tryz.keys160_ren) { Tryz.keys160 with } Fence.wide _ trivial rfl (by omega) w.heap.size b nn I _ (by simp) (by simp) (by
      obtain ⟨es, clock, hb, Ft, hs, hD⟩ := C
      exact ⟨es, clock, (Below.heap_alloc _ _ b ag).trans hb, Ft, hs, hD⟩)
  exact AnyZ.sorted_in Tryz.sorted159 Fence.wide 5 trivial trivial trivial trivial rfl (by omega) (Tryz.sorts159 _) (enters_of func91 (by kernel_rfl) rfl) 195 #[.pointer (some ⟨w.heap.size, 0, none⟩)] trivial (enters_of func195 (by kernel_rfl) rfl) _ _ J j _ U
end Go.Proofs
namespace Go.Vc
open Go Go.RowKit Go.Maps Go.ChangeMaps Go.MapKept
def R0 : Value → Option (DataW Unit × List MemPlace) := fun _ => some (.nil, [])
theorem aI {P : Program} {K : TypeId} (hk : P.underlying K = some .string) {s : AQ} (j : s.length ≤ maxLen) : keyOf P K (S s) = some (.string s) := by
  simp [keyOf, hk, mapKey, S]; exact j
theorem ZM {β : Type} {P : Program} {K : TypeId} (hk : P.underlying K = some .string) {w : World} {b : Nat} {ev : β → Value} {m : List (AQ × β)} (h : MapIs w b S ev m) (hm : m.length ≤ maxLen) (hl : ∀ p ∈ m, p.1.length ≤ maxLen) :
    ∃ D : DataW Unit, w.ownsMap P K R0 b m.length D ∧ Maps.size D = m.length ∧ (strKeys D).Perm (m.map (·.1)) := by
  obtain ⟨es, clock, hb, he, h1, h2, h3⟩ := h.ex
  have ao : es.size = m.length := by have := congrArg List.length he; simpa using this
  have j : es.toList.map (·.key) = m.map (fun p => S p.1) := by
    have := congrArg (List.map Prod.fst) he
    simpa [Function.comp_def] using this
  have C : ∀ x ∈ es.toList, ∃ s : AQ, x.key = S s ∧ WideElems.rd P K R0 x = some (.string s, .nil) := fun x J => by
    have : x.key ∈ m.map (fun p => S p.1) := j ▸ List.mem_map.2 ⟨x, J, rfl⟩
    obtain ⟨p, ag, hp⟩ := List.mem_map.1 this
    exact ⟨p.1, hp.symm, by unfold WideElems.rd; rw [← hp, aI hk (hl p ag)]; rfl⟩
  have I : es.toList.map (fun x => strOf (WideElems.rg P K R0 x).1) = m.map (·.1) := by
    have e1 : es.toList.map (fun x => strOf (WideElems.rg P K R0 x).1) = (es.toList.map (·.key)).map (fun v => match v with | .string b => b.data.toList | _ => []) := by
      rw [List.map_map]
      refine List.map_congr_left (fun x J => ?_)
      obtain ⟨s, h5, R⟩ := C x J
      show strOf (WideElems.rg P K R0 x).1 = _
      unfold WideElems.rg; rw [R]; simp [h5, strOf, S]
    rw [e1, j, List.map_map]
    refine List.map_congr_left (fun p _ => ?_)
    simp [S]
  refine ⟨_, ⟨es, clock, hb, ⟨by omega, ⟨h2, h1, ?_⟩, fun x J => ?_⟩, by omega, rfl⟩, ?_, ?_⟩
  · rw [j]
    have e : m.map (fun p => S p.1) = (m.map (·.1)).map S := by rw [List.map_map]; rfl
    rw [e]
    exact List.pairwise_map.2 (h3.imp (fun U h9 => U (X8 h9)))
  · obtain ⟨s, _, R⟩ := C x J
    exact ⟨_, R⟩
  · show ((es.toList.map _).foldr DataW.insert []).length = _
    rw [length_sorted, List.length_map, Array.length_toList, ao]
  · show (((es.toList.map (WideElems.rg P K R0)).foldr DataW.insert []).map (fun p => strOf p.1)).Perm _
    refine ((Go.WideShapes.sorted_perm _).map _).trans ?_
    rw [List.map_map]
    have e : (fun p : Lit × DataW Unit => strOf p.1) ∘ WideElems.rg P K R0 = fun x => strOf (WideElems.rg P K R0 x).1 := rfl
    rw [e, I]
theorem JF {w w' : World} (h : RowKit.Below w.heap.size w w') : Evo w w' [] := ⟨h.os, h.tape, h.output, h.size, fun b j _ => h.block b j⟩
end Go.Vc
namespace Go.Proofs.YtlfjocbnbceceaaGreatDoor
open Go.RowKit Go.Vc Go.Proofs.Tryz
theorem NV {w : World} {b : Nat} : Calls Tryz.prog 160 #[.map (some b)] w fun e w' => e = .returned (.func (.func 195) #[] #[.pointer (some ⟨w.heap.size, 0, none⟩)]) ∧ Evo w w' [] ∧ w' = w.alloc (.cells #[.map (some b)] 171) :=
  (callsIn_wide.1 (Tryz.maps_Keys_160 (some b) w)).mono fun e w' ⟨h1, j⟩ => ⟨h1, by subst j; exact JF (Below.refl _ _ |>.alloc (Nat.le_refl _) _), j⟩
theorem JX {w w1 : World} {b : Nat} {β : Type} {ev : β → Value} {m : List (AQ × β)} (hm : MapIs w b S ev m) (hk : w1 = w.alloc (.cells #[.map (some b)] 171)) (U : ∀ p ∈ m, p.1.length ≤ maxLen) (R : m.length * 16 ≤ 140737488355328) :
    Calls Tryz.prog 159 #[.func (.func 195) #[] #[.pointer (some ⟨w.heap.size, 0, none⟩)]] w1 fun e w' => ∃ v, e = .returned v ∧ Evo w1 w' [] ∧ OwnE w' w1.heap.size 9 v (Fu (m.map (·.1))) := by
  subst hk
  obtain ⟨D, J, I, C⟩ := ZM (P := Tryz.prog) (K := 9) underlying9 hm (by unfold maxLen; omega) U
  refine (callsIn_wide.1 (Tryz.slices_Sorted_keys_159_160 b m.length D R0 w J (by rw [I]; unfold maxLen; omega) (by rw [I]; exact R))).mono ?_
  rintro e w' ⟨v, ss, rfl, hS, hrow, _, hbl⟩
  have hlen : ss.length = m.length := by have := (hS.trans C).length_eq; simpa using this
  have j : Fu (m.map (·.1)) = ss.mergeSort (fun x y => decide (x ≤ y)) := (mergeSort_of_perm (hS.trans C)).symm
  refine ⟨v, rfl, JF hbl, ?_⟩
  rw [j]
  exact OwnE.of1 (enc1 := encStr) rfl (fun _ => rfl) θ (by rw [show (ss.mergeSort (fun x y => decide (x ≤ y))).length = ss.length from by simp]; exact hrow)
theorem QA {b : Nat} {β : Type} {ev : β → Value} {m : List (AQ × β)} {j : World} (J : MapIs j b S ev m) (U : ∀ p ∈ m, p.1.length ≤ maxLen) (R : m.length * 16 ≤ 140737488355328) :
    Calls Tryz.prog 227 #[.map (some b)] j fun e w' => ∃ v, e = .returned v ∧ Evo j w' [] ∧ OwnE w' j.heap.size 9 v (Fu (m.map (·.1))) := by
 refine AG (n := 6) func227 rfl ntmps227 rfl ?_
 have C : Evo j j [] := Evo.refl _ _
 refine Zs (Zn Bs (Zs (Zo O6 (Zr [.map _] rfl η func160 NV ?_))))
 rintro e w1 ⟨rfl, F1, hky1⟩
 refine ⟨_, rfl, ?_⟩
 have Q1 := F1.size
 replace C := Z0 C F1
 refine Zr [.func _ _ _] rfl η func159 (JX J hky1 U R) ?_
 rintro e w2 ⟨I, rfl, F2, hsr2⟩
 refine ⟨_, rfl, ?_⟩
 have Q2 := F2.size
 replace C := Z0 C F2
 refine Zn (AM (v := I) rfl η) (AK (BN (v := I) rfl η) ?_)
 exact ⟨_, rfl, C, hsr2.base_le ω⟩
theorem Oh : D3 Tryz.prog 172 = some [] := ζ
theorem Jt : Dl Tryz.prog 172 = some (0, 0, some (.agg #[])) := ζ
theorem Zm (s t : AQ) : (if t <:+ s then s.take (s.length - t.length) else s).length ≤ s.length := by
  split
  · exact List.length_take_le' _ _
  · exact Nat.le_refl _
theorem Zc {m : List (AQ × Unit)} {ok : AQ → Bool} {s : AQ} {E : List Ende} {k : Nat} (h : KeyIs m (Dy ok s ME (E.take k))) (I : ∀ k, QK (E.getD k default)) (hs : s.length ≤ 140737488355328) : ∀ p ∈ m, p.1.length ≤ maxLen := fun p R => by
  have h1 := (h.2 p.1).1 (List.mem_map.2 ⟨p, R, rfl⟩)
  unfold maxLen
  rcases Vo.1 h1 with h2 | ⟨_, _, x, hx, h2⟩
  · rw [h2]; omega
  · have j := X7 s (ME x).1 (ME x).2
    rw [h2] at j
    obtain ⟨i, J, rfl⟩ := List.mem_iff_getElem.1 (List.mem_of_mem_take hx)
    have C := (I i).2
    have e : E.getD i default = E[i] := by simp [List.getD, J]
    rw [e] at C
    have U : p.1.length ≤ s.length + E[i].add.length := j
    omega
theorem U7 {m : List (AQ × Unit)} {l : List AQ} (h : KeyIs m l) (j : l.Pairwise (fun a b => a < b)) : m.length = l.length := by
  have := congrArg List.length (h.sorted j)
  rw [Ek, List.length_map] at this
  exact this
theorem Oi {α : Type} [Inhabited α] {a b : List α} {k : Nat} (I : a.take k = b.take k) (j : k < a.length) (C : k < b.length) (h : a.getD k default = b.getD k default) : a.take (k + 1) = b.take (k + 1) := by
  rw [Ai a k j, Ai b k C, I, h]
end Go.Proofs.YtlfjocbnbceceaaGreatDoor
namespace Go.Vc
open Go Go.RowKit Go.IntWalk Go.Deep
def EC (n : Nat) (s : AQ) : AQ := if n / 10 = 0 then UInt8.ofNat (48 + n % 10) :: s else EC (n / 10) (UInt8.ofNat (48 + n % 10) :: s)
termination_by n
decreasing_by omega
theorem Ej {n : Nat} (s : AQ) (h : n / 10 = 0) : EC n s = UInt8.ofNat (48 + n % 10) :: s := by rw [EC, if_pos h]
theorem Gm {n : Nat} (s : AQ) (h : ¬ n / 10 = 0) : EC n s = EC (n / 10) (UInt8.ofNat (48 + n % 10) :: s) := by rw [EC, if_neg h]
theorem Ew : ∀ (k n : Nat) (s : AQ), n < 10 ^ (k + 1) → (EC n s).length ≤ s.length + (k + 1)
  | 0, n, s, h => by rw [Ej s ω]; simp
  | k + 1, n, s, h => by
    by_cases h1 : n / 10 = 0
    · rw [Ej s h1]; simp
    · rw [Gm s h1]
      have := Ew k (n / 10) (UInt8.ofNat (48 + n % 10) :: s) (by rw [Nat.pow_succ] at h; omega)
      simp only [List.length_cons] at this
      omega
theorem OZ {n : Nat} {z : Int} (h : z = (n : Int)) : Go.IntKind.u8.wrap (48 + z.tmod 10) = (((UInt8.ofNat (48 + n % 10)).toNat : Nat) : Int) := by
  subst h
  have h1 : ((n : Int)).tmod 10 = ((n % 10 : Nat) : Int) := by rw [Int.tmod_eq_emod_of_nonneg ω]; omega
  have j : n % 10 < 10 := Nat.mod_lt _ υ
  rw [h1]
  have C : (UInt8.ofNat (48 + n % 10)).toNat = 48 + n % 10 := by rw [UInt8.toNat_ofNat']; omega
  rw [C]
  have : ∀ m, m < 10 → Go.IntKind.u8.wrap (48 + ((m : Nat) : Int)) = ((48 + m : Nat) : Int) := by decide
  exact this _ j
theorem RD (n : Nat) : ∀ s : AQ, s.length + 1 ≤ (EC n s).length := by
  induction n using Nat.strongRecOn with
  | _ n ih =>
    intro s
    by_cases h : n / 10 = 0
    · rw [Ej s h]; simp
    · rw [Gm s h]
      have := ih (n / 10) ω (UInt8.ofNat (48 + n % 10) :: s)
      simp only [List.length_cons] at this
      omega
theorem Yc {w : World} {base E : Nat} {Y : List Nat} {v vs : Value} {ls : List Ende} (m : AQ) (h : OwnE w base E vs ls) (R : ∀ y ∈ Y, y < base) (hv : ∀ g, v.ownBlock = some g → g < base) (C : aq ⟨m, ls⟩) :
    ∀ w', Evo w w' (Y ++ v.ownBlock.toList) → Rep.rep w' [S m, vs] (⟨m, ls⟩ : Clas) := fun w' he => by
  have J := h.evo he (fun g U hm => by
    have C := (h.block U).1
    rcases List.mem_append.1 hm with h3 | h3
    · have := R g h3; omega
    · have := hv g (by simpa using h3); omega)
  obtain ⟨I, g, cap, j, hr, _⟩ := J.rowOf
  exact ⟨⟨I, g, 0, cap, by rw [j], hr⟩, C⟩
theorem FW {a b : AQ} (h : a = b) : Ending.returned (S a) = .returned (S b) := by rw [h]
theorem W2 (m k : Nat) : ((m : Int)).tdiv (k : Int) = ((m / k : Nat) : Int) := by
  rw [Int.tdiv_eq_ediv_of_nonneg ω]; rfl
theorem Gc (m : Nat) : ((m : Int)).tdiv 10 = ((m / 10 : Nat) : Int) := W2 m 10
def Di : List AQ := [[], [], [121], [115], [97]]
def G7 : List AQ := [[115], [105, 101, 115], [], [101, 115], [97], [101, 114]]
def MadeE (es : List Ende) : Prop := es.Nodup ∧ ∀ e ∈ es, e.strip ∈ Di ∧ e.add ∈ G7
def MadeP (cl : List Clas) (N i : Nat) : Prop := cl.length + i = N ∧ (∀ k, (h : k < cl.length) → (cl[k]'h).name = 99 :: EC (N - k) []) ∧ ∀ x ∈ cl, MadeE x.ends ∧ x.ends.length ≤ 3
theorem MadeE.nil : MadeE [] := ⟨List.nodup_nil, by simp⟩
theorem MadeE.snoc {es : List Ende} {x : Ende} (h : MadeE es) (J : ¬ x ∈ es) (h1 : x.strip ∈ Di) (j : x.add ∈ G7) : MadeE (es ++ [x]) := by
  refine ⟨?_, fun e he => ?_⟩
  · rw [List.nodup_append]
    refine ⟨h.1, by simp, fun a C b I => ?_⟩
    have : b = x := by simpa using I
    intro hab
    exact J (by rw [← this, ← hab]; exact C)
  · rcases List.mem_append.1 he with h3 | h3
    · exact h.2 e h3
    · have : e = x := by simpa using h3
      rw [this]; exact ⟨h1, j⟩
theorem MadeP.nil (N : Nat) : MadeP [] N N := ⟨by simp, by simp, by simp⟩
theorem MadeP.snoc {cl : List Clas} {N i : Nat} {es : List Ende} {m : AQ} (h : MadeP cl N i) (hi : 0 < i) (hm : m = 99 :: EC i []) (he : MadeE es) (R : es.length ≤ 3) : MadeP (cl ++ [⟨m, es⟩]) N (i - 1) := by
  obtain ⟨h1, j, C⟩ := h
  refine ⟨by simp; omega, fun k hk => ?_, fun x U => ?_⟩
  · rcases Nat.lt_or_ge k cl.length with h4 | h4
    · rw [List.getElem_append_left h4]; exact j k h4
    · rw [List.getElem_append_right h4]
      simp only [List.length_append, List.length_cons, List.length_nil] at hk
      have I : k - cl.length = 0 := by omega
      have J : N - k = i := by omega
      simp only [I, List.getElem_cons_zero]
      rw [J]; exact hm
  · rcases List.mem_append.1 U with h4 | h4
    · exact C x h4
    · have : x = ⟨m, es⟩ := by simpa using h4
      rw [this]; exact ⟨he, R⟩
theorem Vh {s : AQ} (h : s ∈ Di) : s.length ≤ 1 := by
  have : ∀ s ∈ Di, s.length ≤ 1 := by decide
  exact this s h
theorem Zf {s : AQ} (h : s ∈ G7) : s.length ≤ 3 := by
  have : ∀ s ∈ G7, s.length ≤ 3 := by decide
  exact this s h
theorem MadeE.bd {es : List Ende} (h : MadeE es) : ∀ e ∈ es, QK e := fun e he => by
  have h1 := Vh (h.2 e he).1
  have j := Zf (h.2 e he).2
  exact ⟨by omega, by omega⟩
theorem SC {es : List Ende} {n : Nat} (h : MadeE es) (j : es.length ≤ 3) (C : n ≤ 9) : aq ⟨99 :: EC n [], es⟩ := by
  have := Ew 0 n [] ω
  refine ⟨?_, h.bd, ?_⟩
  · simp only [List.length_cons, List.length_nil] at this ⊢; omega
  · show es.length ≤ _; omega
theorem MadeP.mem {cl : List Clas} {N i : Nat} (h : MadeP cl N i) {x : Clas} (j : x ∈ cl) : MadeE x.ends ∧ x.ends.length ≤ 3 := h.2.2 x j
theorem MadeP.bd {cl : List Clas} {N i : Nat} (h : MadeP cl N i) (J : N ≤ 9) : ∀ x ∈ cl, aq x := fun x I => by
  obtain ⟨k, hk, rfl⟩ := List.mem_iff_getElem.1 I
  have h1 := h.2.1 k hk
  have j := h.2.2 _ I
  have C := SC (n := N - k) j.1 j.2 ω
  rw [← h1] at C
  exact C
section
variable {P : Program} {w : World} {f : Fr} {o : Oper}
theorem MD (d : Nat) {T : TypeId} (u : P.underlying T = some .string) (a b : AQ) : (Op.equalIn (d + 1) T (S a) (S b)).run P w = .ok (a == b) w := by
  have := run_equalIn_string (P := P) w d T ⟨a.toArray⟩ ⟨b.toArray⟩ u
  rw [Fg, Fg] at this
  exact this
theorem Qe (d : Nat) {T : TypeId} {f0 f1 : Field} (hu : P.underlying T = some (.struct #[f0, f1])) (U : P.stoodInHeld T = false) (n0 : f0.name ≠ "_") (n1 : f1.name ≠ "_")
    (o0 : f0.offset = 0) (o1 : f1.offset = 1) (u0 : P.underlying f0.type = some .string) (u1 : P.underlying f1.type = some .string)
    (a0 : DH P f0.type = some false) (C : DH P f1.type = some false) (x y : Ende) :
    (Op.equalIn (d + 2) T (.agg (Enc.enc x).toArray) (.agg (Enc.enc y).toArray)).run P w = .ok (decide (x = y)) w := by
  have j : P.fieldsOf T = #[f0, f1] := by simp [Program.fieldsOf, hu]
  rw [run_equalIn_struct (P := P) w (d + 1) T _ _ (by rw [j]; exact hu) U, j]
  have p0 : ∀ (z : Ende), (part f0.type (Enc.enc z).toArray 0).run P w = .ok (S z.strip) w := fun z => Dz a0 rfl
  have p1 : ∀ (z : Ende), (part f1.type (Enc.enc z).toArray 1).run P w = .ok (S z.add) w := fun z => Dz C rfl
  have I := MD (P := P) (w := w) d u0 x.strip y.strip
  have J := MD (P := P) (w := w) d u1 x.add y.add
  have key : (Op.eqFields (d + 1) (Enc.enc x).toArray (Enc.enc y).toArray [f0, f1]).run P w = .ok ((x.strip == y.strip) && (x.add == y.add)) w := by
    simp only [Op.eqFields, n0, n1, o0, o1, ne_eq, not_false_eq_true, if_true, Sem.run_bind, p0, I, Result.andThen_ok]
    cases (x.strip == y.strip) with
    | false => simp
    | true =>
      simp only [Bool.not_true, Bool.false_eq_true, if_false, Sem.run_bind, p1, J, Result.andThen_ok, Bool.true_and]
      cases (x.add == y.add) with
      | false => simp
      | true => simp
  have R : ((x.strip == y.strip) && (x.add == y.add)) = decide (x = y) := by
    obtain ⟨k1, t1⟩ := x
    obtain ⟨k2, t2⟩ := y
    rw [Bool.eq_iff_iff]
    simp
  rw [← R]
  exact key
theorem NZ {α : Type} [Enc α] [DecidableEq α] {T j : TypeId} {x y : Operand} (a b : α) (I : o.op = .binOp .eql T x y j) (C : P.eqGuardType P.depth T = false) (he : ∀ (w : World) (x y : α), (Op.equalIn 10000 T (.agg (Enc.enc x).toArray) (.agg (Enc.enc y).toArray)).run P w = .ok (decide (x = y)) w)
    (J : opv f x = .agg (Enc.enc a).toArray) (R : opv f y = .agg (Enc.enc b).toArray) : (execOp (opv f) o).run P w = .ok (.value (.bool (decide (a = b)))) w := by
  unfold execOp; rw [I]; simp only []; rw [J, R]
  simp only [Sem.run_bind, run_eqGuard_agg w .eql T x y _ _ C, Result.andThen_ok, run_eql_struct, he, Sem.run_pure]
end
end Go.Vc
namespace Go.Proofs.YtlfjocbnbceceaaGreatDoor
open Go.RowKit Go.Vc Go.Proofs.Tryz
theorem S9 : DH Tryz.prog 22 = some false := ζ
theorem A0 : DH Tryz.prog 3 = some false := ζ
theorem M6 : CG Tryz.prog 70 0 = some 0 := ζ
theorem Eb : CG Tryz.prog 70 1 = some 1 := ζ
theorem Cf : Dl Tryz.prog 3 = some (1, 8, some (.int .i64 0)) := ζ
theorem MT (x n : Int) {j : World} (R : 1 ≤ n) (I : n ≤ 1000000000) :
    Calls Tryz.prog 11 #[.int .i64 x, .int .i64 n] j fun e w' => e = .returned (.int .i64 (x % n)) ∧ j = w' := by
 refine AG (n := 14) func11 rfl ntmps11 rfl ?_
 have J : Evo j j [] := Evo.refl _ _
 refine Zs (Zn Ah (Zs (Zo AN (Zo AN (Zo (LJ rfl η η ω) (Zn Ah (AB (Zs (Zo AN ?_)))))))))
 refine Zn Bu (AE η (fun C => ?_) (fun C => ?_))
 refine AA (Zo AN (Zo AN (Zo (Cp rfl η η (by have := GA x n ω; omega) (by have := GA x n ω; omega)) (Zn Ah (Zs (Zo AN (Zn Ah (AK CZ ?_))))))))
 exact ⟨AU (by rw [← Pb x n ω ω]), rfl⟩
 refine AF (Zs (Zo AN (Zn Ah (AK CZ ?_))))
 exact ⟨AU (by rw [← PO x n ω ω]), rfl⟩
theorem Tb {T U : Nat} {ao : Option Addr} {b off cap : Nat} {l : List Int} {N : Nat} {n : Int} {R : World} (I : Blk R U T [.slice ao l.length cap, .int .i64 (N : Nat)]) (hl : RowE R ao b off cap l) (hN : N ≤ 1000000) (hn : 1 ≤ n) (a7 : n ≤ 1000000000) :
    Calls Tryz.prog 38 #[.pointer (some ⟨U, 0, none⟩), .int .i64 n] R fun e w' => e = .returned (.int .i64 (L5 l N n)) ∧ Evo R w' [U] ∧ Blk w' U T [.slice ao l.length cap, .int .i64 (N + 1 : Nat)] := by
 have C := I.at
 refine AG (n := 36) func38 rfl ntmps38 rfl ?_
 have J : Evo R R [U] := Evo.refl _ _
 have az := hl.bd
 refine Zs (Zn Ah (Zs (Zn Ah (AB (AB (Ba ζ ζ (Zq (fun w' j => Ey) (Zq (fun w' j => EH rfl η) (Zq (fun w' j => AJ rfl η Eb) ?_)))))))))
 refine Zq (fun w' j => AH rfl A0 η ((C.evo0 j).cell 1 η)) (Zq (fun w' j => Ey) (Zq (fun w' j => EH rfl η) (Zq (fun w' j => AJ rfl η M6) (Zq (fun w' j => AH rfl S9 η ((C.evo0 j).cell 0 η)) (Zq (fun w' j => AL rfl η underlying22) (Zq (fun w' j => Cx rfl η η) (EE (fun w1 F2 => ?_))))))))
 have Q1 := F2.size
 replace J := Z0 J F2
 replace I := I.evo0 F2
 replace C := C.evo0 F2
 replace hl := hl.evo0 F2
 refine AE η (fun a6 => ?_) (fun a6 => ?_)
 refine Ba ζ ζ (Zq (fun w' j => Ey) (Zq (fun w' j => EH rfl η) (Zq (fun w' j => AJ rfl η M6) (Zq (fun w' j => AH rfl S9 η ((C.evo0 j).cell 0 η)) (Zq (fun w' j => Ey) (Zq (fun w' j => EH rfl η) (Zq (fun w' j => AJ rfl η Eb) (Zq (fun w' j => AH rfl A0 η ((C.evo0 j).cell 1 η)) (Zq (fun w' j => AV (N) rfl underlying22 Cf η η χ ω (hl.addr (i := N) ω)) ?_)))))))))
 have a1 := hl.atD (N) ω
 refine Zq (fun w' j => AH rfl A0 η ((a1.evo0 j).cell 0 η)) (Zq (fun w' j => Ah) (EE (fun w5 F6 => ?_)))
 have Q5 := F6.size
 replace J := Z0 J F6
 replace I := I.evo0 F6
 replace C := C.evo0 F6
 refine Zs (Zo Ey (Zo (EH rfl η) (Zo (AJ rfl η Eb) (Zo (AH rfl A0 η (C.cell 1 η)) (Zo A8 (Zo (EH rfl η) (Zo (AJ rfl η Eb) (BB (v := .int _ _) (vs := [_]) (cs' := [_, _]) η η I Cf η rfl η rfl η ?_))))))))
 intro w7 E7 V7 hb_new
 have Q7 := E7.size
 replace J := Z1 J E7 (.inr (by simp))
 replace I := hb_new
 clear hb_new
 refine As (Zs (Zo AN (Zo AN (Zr [.int _ _, .int _ _] rfl η func11 (MT _ _ ω ω) ?_))))
 rintro e w8 ⟨rfl, rfl⟩
 refine ⟨_, rfl, ?_⟩
 refine Zn Ah (AK CZ ?_)
 exact ⟨AU (by first | rfl | (unfold L5; simp [List.getD, List.getElem?_eq_none (by omega : l.length ≤ N)]; done)), J, I⟩
 refine AF (Zs (Zo Ey (Zo (EH rfl η) (Zo (AJ rfl η Eb) (Zo (AH rfl A0 η (C.cell 1 η)) (Zo A8 (Zo (EH rfl η) (Zo (AJ rfl η Eb) (BB (v := .int _ _) (vs := [_]) (cs' := [_, _]) η η I Cf η rfl η rfl η ?_)))))))))
 intro w9 E9 V9 hb_new
 have Q9 := E9.size
 replace J := Z1 J E9 (.inr (by simp))
 replace I := hb_new
 clear hb_new
 refine As (Zs (Zo AN (Zo AN (Zr [.int _ _, .int _ _] rfl η func11 (MT _ _ ω ω) ?_))))
 rintro e a8 ⟨rfl, rfl⟩
 refine ⟨_, rfl, ?_⟩
 refine Zn Ah (AK CZ ?_)
 exact ⟨AU (by first | rfl | (unfold L5; simp [List.getD, List.getElem?_eq_none (by omega : l.length ≤ N)]; done)), J, I⟩
theorem Bd {C : World} {T j : Nat} {I : Option Addr} {b off cap : Nat} {l : List Int} {N : Nat} {n : Int} (hb : Blk C j T [.slice I l.length cap, .int .i64 (N : Nat)]) (hl : RowE C I b off cap l) (hN : N ≤ 1000000) (R : 1 ≤ n) (J : n ≤ 1000000000) :
    Calls Tryz.prog 38 #[.pointer (some ⟨j, 0, none⟩), .int .i64 n] C fun e w' => ∃ r, e = .returned (.int .i64 r) ∧ (0 ≤ r ∧ r < n) ∧ Evo C w' [j] ∧ Blk w' j T [.slice I l.length cap, .int .i64 (N + 1 : Nat)] :=
  (Tb hb hl hN R J).mono fun e w' ⟨h1, U, h3⟩ => ⟨_, h1, TE l N n R, U, h3⟩
theorem O7 {n : Nat} {C : World} (hn : n < 1000000000) :
    Calls Tryz.prog 124 #[.int .i64 (n : Nat)] C fun e w' => e = .returned (S (EC n [])) ∧ Evo C w' [] := by
 have ao := Ew 8 n [] ω; have I := RD
 refine AG (n := 17) func124 rfl ntmps124 rfl ?_
 have j : Evo C C [] := Evo.refl _ _
 refine Zs (Zn CD (Zs (Zn CD (AD (AZ (α := Nat) [0, 2, 3, 4, 5, 6, 7, 8, 9, 10, 11, 12, 13, 14, 15, 16] (fun m g w => ∃ s1 : AQ, g 0 = .int .i64 (m : Nat) ∧ g 3 = S s1 ∧ (m < 1000000000 ∧ s1.length ≤ 20) ∧ EC n [] = EC m s1 ∧ C.heap.size ≤ w.heap.size ∧ Evo C w []) (fun m => m) n ?_ ?_)))))
 refine ⟨[], rfl, rfl, θ, rfl, δ, j⟩
 rintro m g w2 ⟨s1, hj3, hj4, hm, hdw, hzl1, j⟩
 have R := j.size
 refine Zk 0 hj3 (Zk 3 hj4 ?_)
 have a1 := I m s1
 have az := Gc m
 refine AD (Zs (Zo AN (Zo (LJ rfl η η ω) (Zo (Cp rfl η η (by have := GA (m : Int) 10 ω; omega) (by have := GA (m : Int) 10 ω; omega)) (Zo (LZ rfl underlying3 underlying5 η) (Av (pv := [(0, .int _ _)]) (zs := [_]) (cs := [_]) underlying123 LR η rfl η rfl η ?_))))))
 intro b5 w6 J5 E6 B5 Y5
 have Q6 := E6.size
 replace j := Z0 j E6
 have J : RowE w6 (some ⟨b5, 0, none⟩) b5 0 1 ([UInt8.ofNat (48 + m % 10)] : List UInt8) := Bl ([UInt8.ofNat (48 + m % 10)] : List UInt8) B5 (congrArg (fun z => [Value.int .u8 z]) (OZ (n := m) rfl)) rfl
 refine Zo (HX rfl underlying123 underlying5 underlying9 η (by first | rfl | simp) J) (Zo Au (Zo (A7 rfl η η μ) (Zn CD (Zs (Zo AN (Zo (Qo rfl η η ω (by have U := Gc m; omega) (by have U := Gc m; omega)) (Zn Ah (Zs (Zo AN ?_)))))))))
 refine Zn C3 (AE η (fun ag => ?_) (fun ag => ?_))
 refine Zs (Zo Au (Zn CD (AK (BN (v := S _) rfl η) ?_)))
 exact ⟨FW (by rw [hdw, Ej s1 ω]; rfl), j⟩
 refine AF (AO (Zg (m / 10) ?_))
 refine ⟨_, (congrArg (Value.int _) az), rfl, (by have U := congrArg List.length (hdw.trans (Gm s1 ω)); have h7 := I (m / 10) (UInt8.ofNat (48 + m % 10) :: s1); simp at h7 U ao ⊢; omega), (hdw.trans (Gm s1 ω)), δ, j⟩
theorem Ow {n : Nat} {j : World} (U : n < 1000000000) :
    Calls Tryz.prog 72 #[.int .i64 (n : Nat)] j fun e w' => e = .returned (S (EC n [])) ∧ Evo j w' [] := by
 refine AG (n := 16) func72 rfl ntmps72 rfl ?_
 have C : Evo j j [] := Evo.refl _ _
 refine Zs (Zn CD (AB (Zs (Zo AN (Zo Bu (Zo Br ?_))))))
 refine Ab rfl Aq rfl (fun J => AN) ?_
 refine Ab rfl Aq rfl (fun J => Bf rfl (Af J) η) ?_
 refine Zn Fm (AE η (fun I => ?_) (fun I => ?_))
 exfalso; omega
 refine AF (Zs (Zo AN (Zo (Ui rfl η η) (BO (i := 14) (v := .int .i64 (n : Nat)) (congrArg (Value.int _) ω) (Zr [.int _ _] rfl η func124 (O7 ω) ?_)))))
 rintro e w2 ⟨rfl, F2⟩
 refine ⟨_, rfl, ?_⟩
 have R := F2.size
 replace C := Z0 C F2
 refine Zn CD (AK (BN (v := S _) rfl η) ?_)
 exact ⟨rfl, C⟩
end Go.Proofs.YtlfjocbnbceceaaGreatDoor
namespace Go.Vc
open Go Go.RowKit Go.IntWalk
section
variable {P : Program} {ops : Array Oper} {Q : Exit → Act → World → Prop} {S : World → Prop}
def YC (P : Program) (ops : Array Oper) (S : World → Prop) (o : Oper) (v : Value) (a : Act) : Prop :=
  Region.wanted o (yielded ops a.tmps) = true ∧ ∀ w, S w → ∃ g args, (execOp a.eval o).run P w = .ok (.enter g args) w ∧ Calls P g args w (fun e w' => e = .returned v ∧ w' = w)
theorem YC.of_same {o : Oper} {v : Value} {a j : Act} (C : YC P ops S o v a) (he : execOp j.eval o = execOp a.eval o) (hw : Region.wanted o (yielded ops j.tmps) = Region.wanted o (yielded ops a.tmps)) : YC P ops S o v j := by
  unfold YC at *
  rw [he, hw]
  exact C
theorem YC.wpOp {i : Nat} {o : Oper} {v : Value} {a : Act} (I : ops[i]? = some o) (R : YC P ops S o v a) {K : Act → World → Prop} {w : World} (C : S w) (h : K (a.put o.dst v) w) : wpOp P ops Q i K a w := by
  unfold Go.wpOp
  simp only [I]
  obtain ⟨hw, J⟩ := R
  obtain ⟨g, args, h1, j⟩ := J w C
  simp only [hw, if_true, Oper.wp, h1, Oper.upon]
  refine .inl (Calls.mono j (fun e w' he => ?_))
  obtain ⟨rfl, rfl⟩ := he
  exact h
theorem WC {j : Nat} {I J : Oper} {v : Value} (hj : ops[j]? = some J) (az : I.apart ops J = true)
    (aT : ∀ cs b, I.op ≠ .select cs b) (ao : ∀ cs b, J.op ≠ .select cs b)
    (hQ : ∀ c a w, Q (.panic c) (a.put I.dst v) w → Q (.panic c) a w) {K : Act → World → Prop} {a : Act} {w : World}
    (R : YC P ops S I v a) (h : wpOp P ops Q j K (a.put I.dst v) w) :
    wpOp P ops Q j (fun a' w' => YC P ops S I v a' ∧ K (a'.put I.dst v) w') a w := by
  obtain ⟨h1, h2, h3⟩ := Oper.apart_spec az
  have C : ∀ (a : Act), YC P ops S I v a → ∀ u, YC P ops S I v (a.put J.dst u) := fun a R u =>
    R.of_same (execOp_put I aT a J.dst u h3) (wanted_put I a J.dst u h3)
  have U : ∀ d, YC P ops S I v { a with defers := d :: a.defers } := fun d => R.of_same rfl rfl
  unfold wpOp at *
  simp only [hj] at *
  rw [wanted_put J a I.dst v h1] at h
  split
  · rename_i hw
    simp only [hw, if_true] at h
    rcases h with h | ⟨hasks, hlets⟩
    case inr => exact .inr ⟨by unfold Oper.asks at *; rw [execOp_put J ao a I.dst v h1] at hasks; exact hasks, hlets⟩
    refine .inl ?_
    unfold Oper.wp at *
    rw [execOp_put J ao a I.dst v h1] at h
    generalize (execOp a.eval J).run P w = r at *
    cases r with
    | ok n w' =>
      cases n <;> simp only [Oper.upon] at h ⊢
      case value u => exact ⟨C a R u, by rw [← Act.put_comm a v u h2]; exact h⟩
      case skip => exact ⟨C a R _, by rw [← Act.put_comm a v undef h2]; exact h⟩
      case defer d =>
        refine ⟨C _ (U d) _, ?_⟩
        rw [← Act.put_comm _ v undef h2, ← Act.put_defers]
        exact h
      case enter f args =>
        refine Calls.mono h fun e a1 he => ?_
        cases e with
        | returned u => exact ⟨C a R u, by rw [← Act.put_comm a v u h2]; exact he⟩
        | panicked c => exact hQ _ _ _ he
        | outgrown => exact he
      case row row args => exact Rows.mono h fun u a1 he => ⟨C a R u, by rw [← Act.put_comm a v u h2]; exact he⟩
    | halt x w' =>
      cases x <;> simp only [Oper.upon] at h ⊢
      case panic u => exact hQ _ _ _ h
  · rename_i hw
    simp only [hw] at h
    exact ⟨C a R _, by rw [← Act.put_comm a v undef h2]; exact h⟩
theorem UI {i : Nat} {oi : Oper} {v : Value} (hi : ops[i]? = some oi) (a7 : ∀ (j : Nat) (o : Oper) cs b, ops[j]? = some o → o.op ≠ .select cs b) (hQ : ∀ c a w, Q (.panic c) (a.put oi.dst v) w → Q (.panic c) a w) :
    ∀ (m : Nat) (l : Array Bool) (a : Act) (w : World), FV ops l = true → (∀ j oj, ops[j]? = some oj → j ≠ i → l.getD j true = false → (∀ e ∈ oj.after, Region.binds .any e = true → e.on ≠ i) → oi.apart ops oj = true) →
      i ∈ Region.ready .any ops l → YC P ops S oi v a → S w → AnyF P ops Q S m (l.setIfInBounds i true) (a.put oi.dst v) w → AnyF P ops Q S (m + 1) l a w := by
  have bw : i < ops.size := (Array.getElem?_eq_some_iff.1 hi).1
  intro m
  induction m with
  | zero =>
    intro l a w _ _ hr hy hS H
    refine ⟨fun h => absurd (h ▸ hr) (by simp), fun j hj => ?_⟩
    by_cases C : j = i
    · subst C; exact hy.wpOp hi hS ⟨fun _ => hS, H⟩
    · have h1 := ready_mono hj C
      rw [H.1] at h1
      exact absurd h1 (by simp)
  | succ m ih =>
    intro l a w hcl hfree hr hy hS H
    refine ⟨fun h => absurd (h ▸ hr) (by simp), fun j hj => ?_⟩
    by_cases C : j = i
    · subst C; exact hy.wpOp hi hS ⟨fun _ => hS, H⟩
    · have h1 := H.2 j (ready_mono hj C)
      obtain ⟨ag, oj, ao, a1⟩ := mem_ready.1 hj
      have h0 := (mem_ready.1 hr).1
      have bs : l.getD i false = false := by
        rcases Nat.lt_or_ge i l.size with h' | h'
        · simp [h'] at h0 ⊢; exact h0
        · simp [Array.getElem?_eq_none h'] at h0
      have bm : ∀ e ∈ oj.after, Region.binds .any e = true → e.on ≠ i := fun e he hb heq => by
        have J := a1 e he hb
        rw [heq, bs] at J
        cases J
      have aT : l.getD i true = false := by simpa using h0
      have R : ∀ e ∈ oj.after, Region.binds .any e = true → l.getD e.on true = true := fun e he hb => by
        have J := a1 e he hb
        rcases Nat.lt_or_ge e.on l.size with h' | h'
        · simp [h'] at J ⊢; exact J
        · simp [Array.getElem?_eq_none h']
      have bf : ∀ ok, ops[i]? = some ok → ∀ e ∈ ok.after, Region.binds .any e = true → l.getD e.on true = true := fun ok I e he hb => by
        obtain ⟨_, o2, az, ba⟩ := mem_ready.1 hr
        rw [I] at az; injection az with az; subst az
        have J := ba e he hb
        rcases Nat.lt_or_ge e.on l.size with h' | h'
        · simp [h'] at J ⊢; exact J
        · simp [Array.getElem?_eq_none h']
      have bg := MC hcl C bw ao R aT ag bf
      have bd : FV ops (l.setIfInBounds j true) = true := Ns fun k ok I hk e he hb => by
        have a8 : ∀ q, l.getD q true = true → (l.setIfInBounds j true).getD q true = true := fun q hq => by
          by_cases bl : j = q
          · subst bl
            rcases Nat.lt_or_ge j l.size with h' | h'
            · simp [h']
            · simp
          · rw [getD_set_ne true bl]; exact hq
        by_cases U : j = k
        · subst U
          rw [ao] at I; injection I with I; subst I
          exact a8 _ (R e he hb)
        · rw [getD_set_ne true U] at hk
          exact a8 _ (H4 hcl I hk e he hb)
      have h2 := WC ao (hfree j oj ao C ag bm) (fun cs b => a7 i oi cs b hi) (fun cs b => a7 j oj cs b ao) hQ hy h1
      refine wpOp_mono (fun a' w' J => ?_) h2
      have bc := J.2.1 bg
      refine ⟨fun _ => bc, ih (l.setIfInBounds j true) a' w' bd (fun k ok hk bt aT bx => ?_) (ready_mono hr (Ne.symm C)) J.1 bc ?_⟩
      · refine hfree k ok hk bt ?_ bx
        by_cases U : j = k
        · subst U; exact ag
        · rw [getD_set_ne true U] at aT; exact aT
      · rw [Array.setIfInBounds_comm _ _ C]
        exact J.2.2
end
section
variable {P : Program} {B : Exit → Act → World → Prop} {n : Nat} {k : List Kont} {f : Fr} {w : World} {ops : Array Oper} {S : World → Prop} {fuel : Nat} {d : List Nat}
theorem P6 {i s : Nat} {J : Oper} {v : Value} (hi : ops[i]? = some J) (hg : J.guard = none) (C : J.dst = some s) (hd : Nat.blt s n = true) (j : Oj ops d i = true)
    (I : ∀ w', S w' → ∃ g args, (execOp (opv f) J).run P w' = .ok (.enter g args) w' ∧ Calls P g args w' (fun e U => e = .returned v ∧ U = w')) (hS : S w) (h : HA P B n k S ops fuel (i :: d) (upd f s v) w) : HA P B n k S ops (fuel + 1) d f w := by
  intro a ha
  simp only [Oj, Bool.and_eq_true] at j
  refine UI (v := v) hi (Region.noSelect_spec j.1.1.1) (fun _ _ _ h => (h : False).elim) fuel (aD ops d) a w j.2 (Region.free_spec hi j.1.1.2) (by simpa using j.1.2) ⟨by simp [Region.wanted, hg], fun w' R => ?_⟩ hS ?_
  · rw [ha.eval]; exact I w' R
  · rw [C]; exact h _ (ha.put hd v)
end
def YV (ops : Array Oper) : Bool := (List.range ops.size).all fun i => match ops[i]? with
  | some o => o.after.all fun e => !(Region.binds .any e) || Nat.blt e.on i
  | none => true
def BI (n : Nat) (I : Array Bool → Fr → World → Prop) (l : Array Bool) : Exit → Act → World → Prop
  | .normal, a, w => ∃ f, Is n f a ∧ I l f w
  | _, _, _ => False
section
variable {P : Program} {B : Exit → Act → World → Prop} {n : Nat} {k : List Kont} {ops : Array Oper} {I : Array Bool → Fr → World → Prop}
theorem cq {f : Fr} {w : World} {i : Nat} {C : Oper} {l : Array Bool} (R : ops[i]? = some C) (h : KL P (BI n I l) n ops [] [C] f w) : ∀ a, Is n f a → wpOp P ops (HQ P B k) i (fun J w' => BI n I l .normal J w') a w := by
  intro a ha
  have h1 := h a ha
  unfold wpOp
  simp only [R]
  unfold wpList at h1
  split
  · rename_i hw
    rw [if_pos hw] at h1
    rcases h1 with h1 | ⟨_, _, _, j⟩
    · refine .inl ?_
      unfold Oper.wp at h1 ⊢
      generalize (execOp a.eval C).run P w = r at h1 ⊢
      cases r with
      | ok nx w' =>
        cases nx <;> simp only [Oper.upon] at h1 ⊢ <;>
          first
            | exact h1
            | exact Calls.mono h1 (fun e U he => by cases e <;> first | exact he | exact (he : False).elim | (obtain ⟨_, _, j⟩ := he; exact (j : False).elim))
            | exact Rows.mono h1 (fun _ _ he => he)
      | halt x w' => cases x <;> simp only [Oper.upon] at h1 ⊢ <;> first | exact (h1 : False).elim | exact h1
    · exact (j : False).elim
  · rename_i hw
    rw [if_neg hw] at h1
    exact h1
theorem Sb {l : Array Bool} {m : Nat} (j : l.size = m) (h : ∀ i, i < m → l.getD i true = true) : l = Array.replicate m true := by
  refine Array.ext (by simp [j]) fun i h1 C => ?_
  have := h i ω
  simp only [Array.getElem_replicate]
  rw [← this]
  simp [h1]
theorem ZZ {l : Array Bool} (j : YV ops = true) (hs : l.size = ops.size) (hr : Region.ready .any ops l = []) : ∀ i, i < ops.size → l.getD i true = true := by
  intro i
  induction i using Nat.strongRecOn with
  | _ i ih =>
    intro hi
    cases hu : l.getD i true with
    | true => rfl
    | false =>
      have h1 := List.all_eq_true.1 j i (List.mem_range.2 hi)
      rw [Array.getElem?_eq_getElem hi] at h1
      have R := Array.all_eq_true_iff_forall_mem.1 h1
      have : i ∈ Region.ready .any ops l := mem_ready.2 ⟨by first | exact hu | simpa using hu, ops[i], Array.getElem?_eq_getElem hi, fun e he hb => by
        have C := R e he
        rw [hb] at C
        simp only [Bool.not_true, Bool.false_or] at C
        have U : e.on < i := by simpa using C
        have J := ih e.on U ω
        have h6 : e.on < l.size := by omega
        simp [h6] at J ⊢; exact J⟩
      rw [hr] at this
      cases this
theorem XD (U : YV ops = true) (C : ∀ i oi, ops[i]? = some oi → ∀ l f w, l.getD i true = false → (∀ e ∈ oi.after, Region.binds .any e = true → l.getD e.on false = true) → I l f w → KL P (BI n I (l.setIfInBounds i true)) n ops [] [oi] f w)
    (j : ∀ f w, I (Array.replicate ops.size true) f w → KF P B n k f w) :
    ∀ (m : Nat) (l : Array Bool) (a : Act) (w : World) (f : Fr), l.size = ops.size → Is n f a → I l f w → l.toList.count false ≤ m → wpAny P .any ops (HQ P B k) m l a w
  | 0, l, a, w, f, hs, ha, hI, hc => by
    have R : ∀ i, i < ops.size → l.getD i true = true := fun i hi => by
      have h0 : l.toList.count false = 0 := by omega
      rw [List.count_eq_zero] at h0
      have h1 : i < l.size := by omega
      cases J : l[i] with
      | true => simp [h1, J]
      | false => exact absurd (by rw [← J]; exact Array.getElem_mem_toList h1) h0
    have hl := Sb hs R
    refine ⟨List.eq_nil_iff_forall_not_mem.2 fun i hi => ?_, ?_⟩
    · obtain ⟨h1, oi, J, _⟩ := mem_ready.1 hi
      have h3 : i < ops.size := (Array.getElem?_eq_some_iff.1 J).1
      rw [R i h3] at h1
      cases h1
    · rw [hl] at hI
      exact NoPanic.normal (j f w hI a ha)
  | m + 1, l, a, w, f, hs, ha, hI, hc => by
    refine ⟨fun hr => ?_, fun i hi => ?_⟩
    · have hl := Sb hs (ZZ U hs hr)
      rw [hl] at hI
      exact NoPanic.normal (j f w hI a ha)
    · obtain ⟨h1, oi, J, h3⟩ := mem_ready.1 hi
      have h4 := cq (B := B) (k := k) J (C i oi J l f w (by first | exact h1 | simpa using h1) h3 hI) a ha
      refine wpOp_mono (fun a' w' h5 => ?_) h4
      obtain ⟨f', a6, a1⟩ := h5
      have h6 : i < ops.size := (Array.getElem?_eq_some_iff.1 J).1
      have h7 : i < l.toList.length := by simp; omega
      refine XD U C j m _ a' w' f' (by simp [hs]) a6 a1 ?_
      rw [Array.toList_setIfInBounds, List.count_set h7]
      have h8 : l.toList[i] = false := by
        have h9 : i < l.size := by omega
        simp [h9] at h1
        simpa using h1
      have az : 0 < l.toList.count false := List.count_pos_iff.2 (h8 ▸ List.getElem_mem h7)
      simp [h8]
      simp at hc az
      omega
theorem dE {id : Nat} {f : Fr} {w : World} {ol : List Oper} (I : Array Bool → Fr → World → Prop) (hm : P.follows .mixedOrders = true) (J : YV ol.toArray = true)
    (U : ∀ w1, Evo w w1 [] → I (Array.replicate ol.toArray.size false) f w1)
    (C : ∀ f w, I (Array.replicate ol.toArray.size true) f w → KF P B n k f w)
    (j : ∀ i R, ol.toArray[i]? = some R → ∀ l f w, l.getD i true = false → (∀ e ∈ R.after, Region.binds .any e = true → l.getD e.on false = true) → I l f w → KL P (BI n I (l.setIfInBounds i true)) n ol.toArray [] [R] f w) :
    KF P B n (.code (.region id ol.toArray true) :: k) f w := by
  intro a ha
  show (Code.region id ol.toArray true).wp P (Kx P B k) a w
  refine wp_region_noPanic (wp_region_any hm (XD J j C _ _ a _ f (by simp) ha (U _ (Evo.drew _ _)) ?_))
  simp [List.count_replicate]
def Steps (P : Program) (n : Nat) (I : Array Bool → Fr → World → Prop) (ops : Array Oper) : Nat → List Oper → Prop
  | _, [] => True
  | i, o :: r => (∀ l f w, l.getD i true = false → (∀ e ∈ o.after, Region.binds .any e = true → l.getD e.on false = true) → I l f w → KL P (BI n I (l.setIfInBounds i true)) n ops [] [o] f w) ∧ Steps P n I ops (i + 1) r
theorem Steps.get {ops : Array Oper} : ∀ {r : List Oper} {i : Nat}, Steps P n I ops i r → ∀ j o, r[j]? = some o → ∀ l f w, l.getD (i + j) true = false → (∀ e ∈ o.after, Region.binds .any e = true → l.getD e.on false = true) → I l f w → KL P (BI n I (l.setIfInBounds (i + j) true)) n ops [] [o] f w
  | [], _, _, j, o, hj => by simp at hj
  | a :: r, i, h, 0, o, hj => by
    simp at hj; subst hj
    exact h.1
  | a :: r, i, h, j + 1, o, hj => by
    have := Steps.get h.2 j o (by simpa using hj)
    rw [show i + (j + 1) = i + 1 + j by omega]
    exact this
theorem Cd {f : Fr} {w : World} {l : Array Bool} (h : I l f w) : KL P (BI n I l) n ops [] [] f w := fun _ j => ⟨f, j, h⟩
theorem cf {id : Nat} {f : Fr} {w : World} {ol : List Oper} (I : Array Bool → Fr → World → Prop) (hm : P.follows .mixedOrders = true) (J : YV ol.toArray = true)
    (R : ∀ w1, Evo w w1 [] → I (Array.replicate ol.toArray.size false) f w1)
    (C : ∀ f w, I (Array.replicate ol.toArray.size true) f w → KF P B n k f w)
    (j : Steps P n I ol.toArray 0 ol) : KF P B n (.code (.region id ol.toArray true) :: k) f w :=
  dE I hm J R C fun i oi hi l f w h1 U h3 => by
    have := j.get i oi (by simpa using hi) l f w (by simpa using h1) U h3
    simpa using this
theorem ae {id : Nat} {f : Fr} {w : World} {ol : List Oper} (M : List Nat) (I : Array Bool → Fr → World → Prop) (hm : P.follows .mixedOrders = true) (J : YV ol.toArray = true)
    (R : ∀ w1, Evo w w1 [] → I (Array.replicate ol.toArray.size false) f w1)
    (C : ∀ g w, I (Array.replicate ol.toArray.size true) g w → KF P B n k (merge M f g) w)
    (j : Steps P n (fun l g w => I l g w ∧ Agree M f g) ol.toArray 0 ol) : KF P B n (.code (.region id ol.toArray true) :: k) f w :=
  cf (fun l g w => I l g w ∧ Agree M f g) hm J (fun w1 he => ⟨R w1 he, Agree.refl _ _⟩) (fun g w ⟨h1, U⟩ => by have := C g w h1; rwa [K0 U] at this) j
theorem Bx {f g : Fr} {M : List Nat} {ops : Array Oper} {w : World} {l : List Oper} {j : Exit → Act → World → Prop} (C : Agree M f g) (h : KL P j n ops [] l (merge M f g) w) : KL P j n ops [] l g w := by rwa [K0 C] at h
end
section
variable {P : Program} {B : Exit → Act → World → Prop} {n : Nat} {k : List Kont} {f : Fr} {w : World} {ops : Array Oper} {S : World → Prop} {fuel : Nat} {d : List Nat}
theorem DB {i s j sj : Nat} {b : Bool} {g : Prop} [Decidable g] {U : Oper} {v : Value} (hi : ops[i]? = some U) (ag : U.guard = some (j, b)) (hj : (ops[j]?).bind (·.dst) = some sj) (hw : Wanted f sj b g) (hg : g) (J : U.dst = some s) (hd : Nat.blt s n = true) (C : Oj ops d i = true)
    (R : ∀ w', S w' → (execOp (opv f) U).run P w' = .ok (.value v) w') (hS : S w) (h : HA P B n k S ops fuel (i :: d) (upd f s v) w) : HA P B n k S ops (fuel + 1) d f w := by
  intro a ha
  simp only [Oj, Bool.and_eq_true] at C
  have az := (GM ha hj hw).1 hg
  refine PH (v := v) hi C.1.1.1 C.1.1.2 C.1.2 C.2 (fun _ _ _ h => (h : False).elim) (.inl ⟨by simp only [Region.wanted, ag]; exact az, fun w' ao => ?_⟩) hS ?_
  · rw [ha.eval]; exact R w' ao
  · rw [J]; exact h _ (ha.put hd v)
end
def cu (o : Oper) (j : Nat) : Bool := o.after.any fun e => Region.binds .any e && Nat.beq e.on j
theorem Cl {o : Oper} {l : Array Bool} (hd : ∀ e ∈ o.after, Region.binds .any e = true → l.getD e.on false = true) (j : Nat) (h : cu o j = true) : l.getD j false = true := by
  obtain ⟨e, he, C⟩ := Array.any_eq_true'.1 h
  simp only [Bool.and_eq_true] at C
  have := hd e he C.1
  have J : e.on = j := by simpa using C.2
  rwa [J] at this
theorem Eo {l : Array Bool} {i : Nat} (h : l.getD i true = false) : l.getD i false = false ∧ i < l.size := by
  rcases Nat.lt_or_ge i l.size with h1 | h1
  · simp [h1] at h ⊢; exact h
  · simp [Array.getElem?_eq_none h1] at h
theorem DW {l : Array Bool} {i j : Nat} (h : j ≠ i) : (l.setIfInBounds i true).getD j false = l.getD j false := by
  simp [Array.getElem?_setIfInBounds, Ne.symm h]
theorem KD {l : Array Bool} {i : Nat} (h : i < l.size) : (l.setIfInBounds i true).getD i false = true := by
  simp [h]
theorem BJ {M : List Nat} {f g : Fr} : ∀ q, elemN q M = true → merge M f g q = g q := fun q h => by simp only [merge, h, cond_true]
theorem Bm {M : List Nat} {f g : Fr} {i : Nat} {v : Value} (h : ∀ q, elemN q M = true → f q = g q) (C : g i = v) : ∀ q, elemN q M = true → upd f i v q = g q := fun q j => by
  by_cases e : q = i
  · subst e; rw [IX, C]
  · rw [IP _ _ _ _ e]; exact h q j
theorem Bj {M : List Nat} {f g : Fr} {d : Nat} {v : Value} (h : ∀ q, elemN q M = true → f q = g q) : ∀ q, elemN q M = true → q ≠ d → upd f d v q = g q := fun q C j => by rw [IP _ _ _ _ j]; exact h q C
def M9 : List Nat := [9, 31, 32, 33, 34, 35, 36, 37, 38, 39, 40, 41]
def PG (j : Nat) : Nat := [31, 32, 33, 34, 35, 36, 37, 38, 39, 40, 41, 9].getD j 0
def Tx (l : Array Bool) : Nat := (l.getD 2 false).toNat + (l.getD 7 false).toNat
def Vw (z bs EN : Nat) : Nat → Fr → World → Prop
  | 0, g, w => ∃ b, (z ≤ b ∧ b < w.heap.size) ∧ g 31 = .slice (some ⟨b, 0, none⟩) 5 5 ∧ RowE w (some ⟨b, 0, none⟩) b 0 5 Di
  | 1, g, _ => g 32 = .pointer (some ⟨bs, 0, none⟩)
  | 2, g, _ => ∃ r, g 33 = .int .i64 r ∧ 0 ≤ r ∧ r < 5
  | 3, g, w => ∃ b j s, (z ≤ b ∧ b < w.heap.size) ∧ g 34 = .pointer (some ⟨b, j, none⟩) ∧ At w b j [S s] ∧ s ∈ Di
  | 4, g, _ => ∃ s, g 35 = S s ∧ s ∈ Di
  | 5, g, w => ∃ b, (z ≤ b ∧ b < w.heap.size) ∧ g 36 = .slice (some ⟨b, 0, none⟩) 6 6 ∧ RowE w (some ⟨b, 0, none⟩) b 0 6 G7
  | 6, g, _ => g 37 = .pointer (some ⟨bs, 0, none⟩)
  | 7, g, _ => ∃ r, g 38 = .int .i64 r ∧ 0 ≤ r ∧ r < 6
  | 8, g, w => ∃ b j s, (z ≤ b ∧ b < w.heap.size) ∧ g 39 = .pointer (some ⟨b, j, none⟩) ∧ At w b j [S s] ∧ s ∈ G7
  | 9, g, _ => ∃ s, g 40 = S s ∧ s ∈ G7
  | 10, g, _ => ∃ s t, g 41 = .agg #[S s, S t] ∧ s ∈ Di ∧ t ∈ G7
  | 11, g, w => ∃ b, (z ≤ b ∧ b < w.heap.size) ∧ g 9 = .pointer (some ⟨b, 0, none⟩) ∧ ∃ s t, Blk w b EN [S s, S t]
  | _, _, _ => True
def bV (z EN : Nat) (g : Fr) (w : World) : Prop := ∃ b s t, (z ≤ b ∧ b < w.heap.size) ∧ g 9 = .pointer (some ⟨b, 0, none⟩) ∧ Blk w b EN [S s, S t] ∧ s ∈ Di ∧ t ∈ G7
def I9 (wR : World) (bs EN T N2 : Nat) (c : Value) (l : Array Bool) (g : Fr) (w : World) : Prop :=
  Evo wR w [bs] ∧ Blk w bs T [c, .int .i64 (N2 + Tx l : Nat)] ∧ ((l.getD 12 false = false ∧ ∀ j, l.getD j false = true → Vw wR.heap.size bs EN j g w) ∨ (l.getD 12 false = true ∧ bV wR.heap.size EN g w ∧ ∀ j, j < 12 → l.getD j false = true))
theorem cm {z U EN d : Nat} (aT : U < z) {g g' : Fr} {w w' : World} (he : Evo w w' [U]) (C : ∀ q, elemN q M9 = true → q ≠ d → g' q = g q) : ∀ j, PG j ≠ d → Vw z U EN j g w → Vw z U EN j g' w' := by
  have a1 := he.size
  intro j hj h
  match j with
  | 0 => obtain ⟨b, h1, J, R⟩ := h; exact ⟨b, by omega, by rw [C 31 rfl hj]; exact J, R.evo he θ⟩
  | 1 => show g' 32 = _; rw [C 32 rfl hj]; exact h
  | 2 => obtain ⟨r, J, R⟩ := h; exact ⟨r, by rw [C 33 rfl hj]; exact J, R⟩
  | 3 => obtain ⟨b, q, s, h1, J, R, h4⟩ := h; exact ⟨b, q, s, by omega, by rw [C 34 rfl hj]; exact J, R.evo he θ, h4⟩
  | 4 => obtain ⟨r, J, R⟩ := h; exact ⟨r, by rw [C 35 rfl hj]; exact J, R⟩
  | 5 => obtain ⟨b, h1, J, R⟩ := h; exact ⟨b, by omega, by rw [C 36 rfl hj]; exact J, R.evo he θ⟩
  | 6 => show g' 37 = _; rw [C 37 rfl hj]; exact h
  | 7 => obtain ⟨r, J, R⟩ := h; exact ⟨r, by rw [C 38 rfl hj]; exact J, R⟩
  | 8 => obtain ⟨b, q, s, h1, J, R, h4⟩ := h; exact ⟨b, q, s, by omega, by rw [C 39 rfl hj]; exact J, R.evo he θ, h4⟩
  | 9 => obtain ⟨r, J, R⟩ := h; exact ⟨r, by rw [C 40 rfl hj]; exact J, R⟩
  | 10 => obtain ⟨s, t, J, R⟩ := h; exact ⟨s, t, by rw [C 41 rfl hj]; exact J, R⟩
  | 11 => obtain ⟨b, h1, J, s, t, R⟩ := h; exact ⟨b, by omega, by rw [C 9 rfl hj]; exact J, s, t, R.evo he θ⟩
  | _ + 12 => trivial
theorem ZE {i j : Nat} (C : i < 12) (J : j < 12) (h : j ≠ i) : PG j ≠ PG i := by
  have : ∀ i, i < 12 → ∀ j, j < 12 → j ≠ i → PG j ≠ PG i := by decide
  exact this i C j J h
theorem Et {l : Array Bool} {i : Nat} (j : i ≠ 2) (C : i ≠ 7) : Tx (l.setIfInBounds i true) = Tx l := by
  unfold Tx; rw [DW (Ne.symm j), DW (Ne.symm C)]
theorem c8 {l : Array Bool} (h : l.getD 2 true = false) : Tx (l.setIfInBounds 2 true) = Tx l + 1 := by
  have h1 := Eo h
  unfold Tx; rw [KD h1.2, DW υ, h1.1]; simp; omega
theorem cW {l : Array Bool} (h : l.getD 7 true = false) : Tx (l.setIfInBounds 7 true) = Tx l + 1 := by
  have h1 := Eo h
  unfold Tx; rw [KD h1.2, DW υ, h1.1]; simp
theorem FO (l : Array Bool) : Tx l ≤ 2 := by
  unfold Tx
  have := Bool.toNat_le (l.getD 2 false); have := Bool.toNat_le (l.getD 7 false)
  omega
theorem I9.deps {U w : World} {J EN T N2 : Nat} {c : Value} {l : Array Bool} {g : Fr} {i : Nat} (hi : i < 13) (hu : l.getD i true = false) (h : I9 U J EN T N2 c l g w) :
    Evo U w [J] ∧ Blk w J T [c, .int .i64 (N2 + Tx l : Nat)] ∧ l.getD 12 false = false ∧ ∀ j, l.getD j false = true → Vw U.heap.size J EN j g w := by
  obtain ⟨h1, h2, C | C⟩ := h
  · exact ⟨h1, h2, C.1, C.2⟩
  · by_cases R : i = 12
    · subst R
      rw [(Eo hu).1] at C; exact absurd C.1 (by simp)
    · have := C.2.2 i ω; rw [(Eo hu).1] at this; cases this
theorem I9.step {U w w' : World} {J EN T N2 : Nat} {c : Value} {l : Array Bool} {g g' : Fr} {i : Nat} (hi : i < 12) (hu : l.getD i true = false) (aT : J < U.heap.size) (az : l.getD 12 false = false) (hP : ∀ j, l.getD j false = true → Vw U.heap.size J EN j g w)
    (a1 : Evo w w' [J]) (he : Evo U w' [J]) (hb : Blk w' J T [c, .int .i64 (N2 + Tx (l.setIfInBounds i true) : Nat)]) (a6 : ∀ q, elemN q M9 = true → q ≠ PG i → g' q = g q) (hn : Vw U.heap.size J EN i g' w') :
    I9 U J EN T N2 c (l.setIfInBounds i true) g' w' := by
  refine ⟨he, hb, .inl ⟨by rw [DW ω]; exact az, fun j hj => ?_⟩⟩
  by_cases R : j = i
  · subst R; exact hn
  · rw [DW R] at hj
    by_cases C : j < 12
    · exact cm aT a1 a6 j (ZE hi C R) (hP j hj)
    · match j, C with
      | j + 12, _ => trivial
      | 0, h | 1, h | 2, h | 3, h | 4, h | 5, h | 6, h | 7, h | 8, h | 9, h | 10, h | 11, h => exact absurd υ h
theorem I9.last {R w' : World} {J U T N2 : Nat} {c : Value} {l : Array Bool} {g' : Fr} (hu : l.getD 12 true = false) (C : ∀ j, j < 12 → l.getD j false = true)
    (he : Evo R w' [J]) (hb : Blk w' J T [c, .int .i64 (N2 + Tx (l.setIfInBounds 12 true) : Nat)]) (hn : bV R.heap.size U g' w') : I9 R J U T N2 c (l.setIfInBounds 12 true) g' w' :=
  ⟨he, hb, .inr ⟨KD (Eo hu).2, hn, fun j hj => by rw [DW ω]; exact C j hj⟩⟩
theorem I9.init {U w : World} {C EN T J : Nat} {c : Value} {g : Fr} (he : Evo U w [C]) (hb : Blk w C T [c, .int .i64 (J : Nat)]) : I9 U C EN T J c (Array.replicate 13 false) g w :=
  ⟨he, hb, .inl ⟨rfl, fun j R => by
    rcases Nat.lt_or_ge j 13 with h | h
    · simp [h] at R
    · simp [Array.getElem?_eq_none (show (Array.replicate 13 false).size ≤ j by simpa using h)] at R⟩⟩
theorem I9.done {J w : World} {j R T U : Nat} {c : Value} {g : Fr} (h : I9 J j R T U c (Array.replicate 13 true) g w) : Evo J w [j] ∧ Blk w j T [c, .int .i64 (U + 2 : Nat)] ∧ bV J.heap.size R g w := by
  obtain ⟨h1, h2, C | C⟩ := h
  · exact absurd C.1 υ
  · exact ⟨h1, h2, C.2.1⟩
theorem RI {w : World} {b j k : Nat} {l : List AQ} {cap : Nat} (h : RowE w (some ⟨b, 0, none⟩) b 0 cap l) (hk : k < l.length) (C : j = 0 + k * 1) : ∃ s, At w b j [S s] ∧ s ∈ l := by
  subst C
  exact ⟨_, h.at k hk, List.getElem_mem hk⟩
theorem TJ {o : Oper} {l : Array Bool} {m : Nat} (hd : ∀ e ∈ o.after, Region.binds .any e = true → l.getD e.on false = true) (h : (List.range m).all (cu o) = true) : ∀ j, j < m → l.getD j false = true := fun j C =>
  Cl hd j (List.all_eq_true.1 h j (List.mem_range.2 C))
end Go.Vc
namespace Go.Proofs.YtlfjocbnbceceaaGreatDoor
open Go.RowKit Go.Vc Go.Proofs.Tryz
theorem cF : D3 Tryz.prog 110 = some [(0, 1), (1, 1)] := ζ
theorem ar : D3 Tryz.prog 112 = some [(0, 1), (1, 1)] := ζ
theorem bT : Dl Tryz.prog 108 = some (1, 24, some (.slice none 0 0)) := ζ
theorem UE : ∀ (w : World) (x y : Ende), (Op.equalIn 10000 112 (.agg (Enc.enc x).toArray) (.agg (Enc.enc y).toArray)).run Tryz.prog w = .ok (decide (x = y)) w := fun w x y => Qe 9998 underlying112 Tryz.stoodInHeld112 υ υ rfl rfl underlying9 underlying9 BF BF x y
theorem VZ {α : Type} [Inhabited α] {x : α} {l : List α} {k : Nat} (h : k < l.length) : (x ∈ l.take k ∨ x = l.getD k default) ↔ x ∈ l.take (k + 1) := by
  rw [Ai l k h, List.mem_append, List.mem_singleton]
theorem Un {α : Type} [Inhabited α] {l : List α} {x : α} {k : Nat} (h : ∀ j, j < k → ¬ x = l.getD j default) (hk : l.length ≤ k) : ¬ x ∈ l := fun J => by
  obtain ⟨j, C, rfl⟩ := List.mem_iff_getElem.1 J
  exact h j ω (by simp [List.getD, C])
theorem Xn {α : Type} [Inhabited α] {l : List α} {x : α} {k : Nat} (hk : k < l.length) (h : x = l.getD k default) : x ∈ l := by rw [h]; exact A5 hk
def EK (b : List Ende) (x : Ende) : Int := if (BV x.strip = true ∧ x.strip.length ≤ 8) ∧ (BV x.add = true ∧ x.add.length ≤ 8) then (if x ∈ b then 5 else 0) else 1
def Hn (f : Nat → Int) : Nat → Int
  | 0 => 0
  | n + 1 => if Hn f n = 0 then f n else Hn f n
theorem Gs {f : Nat → Int} : ∀ {n : Nat}, (∀ j, j < n → f j = 0) → Hn f n = 0
  | 0, _ => rfl
  | n + 1, h => by unfold Hn; rw [if_pos (Gs (fun j hj => h j ω))]; exact h n ω
theorem Lh {f : Nat → Int} {k : Nat} (h : ∀ j, j < k → f j = 0) (hk : ¬ f k = 0) : ∀ {n : Nat}, k < n → Hn f n = f k
  | 0, h1 => by omega
  | n + 1, h1 => by
    by_cases e : k = n
    · subst e; unfold Hn; rw [if_pos (Gs h)]
    · have := Lh h hk (n := n) ω
      unfold Hn; rw [this, if_neg hk]
def My (es : List Ende) : Int := Hn (fun k => EK (es.take k) (es.getD k default)) es.length
def Df (c : List Clas) (i : Nat) : Int := if FA (c.take i) (c.getD i default).name = 0 then (if 16 < (c.getD i default).ends.length then 3 else My (c.getD i default).ends) else FA (c.take i) (c.getD i default).name
def Dt (c : List Clas) : Int := if 32 < c.length then 3 else Hn (Df c) c.length
theorem PS {c : List Clas} {i : Nat} (h : ¬ FA (c.take i) (c.getD i default).name = 0) : Df c i = FA (c.take i) (c.getD i default).name := by unfold Df; rw [if_neg h]
theorem TK {c : List Clas} {i : Nat} (h : FA (c.take i) (c.getD i default).name = 0) (j : 16 < (c.getD i default).ends.length) : Df c i = 3 := by unfold Df; rw [if_pos h, if_pos j]
theorem IQ {c : List Clas} {i : Nat} (h : FA (c.take i) (c.getD i default).name = 0) (j : ¬ 16 < (c.getD i default).ends.length) : Df c i = My (c.getD i default).ends := by unfold Df; rw [if_pos h, if_neg j]
theorem HR {c : List Clas} {i : Nat} {e : Int} (h : ¬ 32 < c.length) (h1 : ∀ j, j < i → Df c j = 0) (C : Df c i = e) (J : ¬ e = 0) (R : i < c.length) : Dt c = e := by
  unfold Dt; rw [if_neg h, Lh h1 (by rw [C]; exact J) R, C]
theorem NC {c : List Clas} {i : Nat} (h : ¬ 32 < c.length) (h1 : ∀ j, j < i → Df c j = 0) (C : c.length ≤ i) : Dt c = 0 := by
  unfold Dt; rw [if_neg h, Gs (fun j J => h1 j ω)]
theorem Sj {es : List Ende} {k : Nat} (h : ∀ j, j < k → EK (es.take j) (es.getD j default) = 0) (C : ¬ EK (es.take k) (es.getD k default) = 0) (hk : k < es.length) : My es = EK (es.take k) (es.getD k default) := Lh h C hk
theorem P9 {es : List Ende} {k : Nat} (h : ∀ j, j < k → EK (es.take j) (es.getD j default) = 0) (hk : es.length ≤ k) : My es = 0 := Gs (fun j C => h j ω)
theorem QW {ao : Option Addr} {b off cap : Nat} {es : List Ende} {x : Ende} {w0 : World} (he : RowE w0 ao b off cap es) :
    Calls Tryz.prog 184 #[.slice ao es.length cap, (.agg (Enc.enc x).toArray)] w0 fun e w' => ∃ z : Int, e = .returned (.int .i64 z) ∧ (0 ≤ z ↔ x ∈ es) ∧ Evo w0 w' [] := by
 refine AG (n := 19) func184 rfl ntmps184 rfl ?_
 have C : Evo w0 w0 [] := Evo.refl _ _
 have az := Ak he
 have a8 := he.bd
 refine Zs (Ch (vs := [_, _]) η η rfl ?_)
 intro b1 w2 J1 E2 B1 Y1
 have Q2 := E2.size
 replace C := Z0 C E2
 replace he := az _ C
 refine Zn Ah (AB (Zs (Zo Ar (Zo (AL rfl η underlying108) (Zn AN (AD (AZ (α := Nat) [4, 5, 8, 9, 10, 11, 12, 13, 14, 15, 16, 17, 18] (fun k g w => g 8 = .int .i64 (k : Nat) ∧ k ≤ es.length ∧ Blk w b1 112 (Enc.enc x) ∧ (∀ j, j < k → ¬ x = es.getD j default) ∧ w2.heap.size ≤ w.heap.size ∧ Evo w0 w []) (fun k => es.length - k) 0 ?_ ?_)))))))
 refine ⟨σ, δ, B1, (fun j h => by omega), δ, C⟩
 rintro k g w4 ⟨ba, hk_k, B1, hno, hzl3, C⟩
 have a6 := C.size
 have bc := B1.lt
 refine Zk 8 ba (Zs (Zn Bu (AB (AE η (fun a_ => ?_) (fun a_ => ?_)))))
 refine AF (AB (AD (Zs (Zo AN (Zn Ah (AB ?_))))))
 have a7 := B1
 have R := B1.at
 have a1 := C
 refine CJ ([]) ζ ?_
 intro w8 F9 hCst4
 have Q8 := F9.size
 replace C := Z0 C F9
 replace B1 := B1.evo0 F9
 refine Zt (i := 0) η (fun w' hC => AY rfl Dr Be η rfl (R.evo0 hC)) hCst4 (Zt (i := 1) η (fun w' hC => Ar) hCst4 (Zt (i := 2) η (fun w' hC => AN) hCst4 (Zt (i := 3) η (fun w' hC => AV (k) rfl underlying108 Be η η χ ω ((az _ C).addr (i := k) ω)) hCst4 ?_)))
 have U := fun (w' : World) (h : Evo w0 w' []) => (az w' h).atD (k) ω
 refine Zt (i := 4) η (fun w' hC => AY rfl Dr Be η rfl (U _ (CY a1 hC))) hCst4 (Zt (i := 5) η (fun w' hC => NZ (α := Ende) _ _ rfl Tryz.eqGuardType112 UE η η) hCst4 ?_)
 refine CH ζ ?_
 refine AE η (fun J => ?_) (fun J => ?_)
 refine Zs (Zo AN (Zn Ah (AK CZ ?_)))
 exact ⟨_, rfl, ⟨fun _ => Xn ω J, fun _ => by omega⟩, C⟩
 refine AF (AO (AA (Zo A8 (Zn AN (Zg (k + 1) ?_)))))
 refine ⟨σ, δ, B1, (CS hno J), δ, C⟩
 refine AW rfl (Zs (Zn Ah (AK CZ ?_)))
 exact ⟨_, rfl, ⟨fun h => by omega, fun h => absurd h (Un hno ω)⟩, C⟩
theorem OL {U : Option Addr} {b off cap : Nat} {es : List Ende} {x : Ende} {C : World} (he : RowE C U b off cap es) :
    Calls Tryz.prog 142 #[.slice U es.length cap, (.agg (Enc.enc x).toArray)] C fun e w' => e = .returned (.bool (decide (x ∈ es))) ∧ Evo C w' [] := by
 refine AG (n := 9) func142 rfl ntmps142 rfl ?_
 have j : Evo C C [] := Evo.refl _ _
 have R := Ak he
 have J := he.bd
 refine Zs (Ch (vs := [_, _]) η η rfl ?_)
 intro b1 w2 J1 E2 B1 Y1
 have Q2 := E2.size
 replace j := Z0 j E2
 replace he := R _ j
 refine Zn A6 (Zs (Zo Ar (Zo (AY rfl Dr Be η rfl B1.at) (Zr [.slice _ _ _, .agg _] rfl η func184 (QW he) ?_))))
 rintro e w3 ⟨ag, rfl, hzx3, F3⟩
 refine ⟨_, rfl, ?_⟩
 have Q3 := F3.size
 replace j := Z0 j F3
 refine Zo (BQ rfl η η) (Zn A6 (AK Dk ?_))
 exact ⟨Ao (decide_eq_decide.2 hzx3), j⟩
theorem PV {b : List Ende} {p q : AQ} (h : ¬ ((BV p = true ∧ p.length ≤ 8) ∧ (BV q = true ∧ q.length ≤ 8))) : EK b ⟨p, q⟩ = 1 := if_neg h
theorem PX {b : List Ende} {p q : AQ} (h : (BV p = true ∧ p.length ≤ 8) ∧ (BV q = true ∧ q.length ≤ 8)) (j : (⟨p, q⟩ : Ende) ∈ b) : EK b ⟨p, q⟩ = 5 := by unfold EK; rw [if_pos h, if_pos j]
theorem R2 {b : List Ende} {p q : AQ} (h : (BV p = true ∧ p.length ≤ 8) ∧ (BV q = true ∧ q.length ≤ 8)) (j : ¬ (⟨p, q⟩ : Ende) ∈ b) : EK b ⟨p, q⟩ = 0 := by unfold EK; rw [if_pos h, if_neg j]
theorem bC {p q : AQ} : ((8 : Int) < (p.length : Int) ∨ (8 : Int) < (q.length : Int) ∨ BV p = false ∨ BV q = false) ↔ ¬ ((BV p = true ∧ p.length ≤ 8) ∧ (BV q = true ∧ q.length ≤ 8)) := by
  by_cases h1 : BV p = true <;> by_cases j : BV q = true <;> simp [h1, j] <;> omega
theorem Xb {p q : AQ} (h : (((p.length : Int) ≤ 8 ∧ (q.length : Int) ≤ 8) ∧ BV p = true) ∧ BV q = true) : (BV p = true ∧ p.length ≤ 8) ∧ (BV q = true ∧ q.length ≤ 8) := ⟨⟨h.1.2, by omega⟩, h.2, by omega⟩
theorem W9 {p q : AQ} (h : (BV p = true ∧ p.length ≤ 8) ∧ BV q = true ∧ q.length ≤ 8) : (BV p = true ∧ p.length ≤ 8) ∧ (BV q = true ∧ q.length ≤ 8) := h
theorem bO {p q : AQ} : ((BV p = false ∨ 8 < p.length) ∨ BV q = false ∨ 8 < q.length) ↔ ¬ ((BV p = true ∧ p.length ≤ 8) ∧ (BV q = true ∧ q.length ≤ 8)) := by
  by_cases h1 : BV p = true <;> by_cases j : BV q = true <;> simp [h1, j] <;> omega
theorem Qa {ao : Option Addr} {b off cap : Nat} {es : List Ende} {p q : AQ} {U : World} (he : RowE U ao b off cap es) (hp : p.length ≤ 140737488355328) (hq : q.length ≤ 140737488355328) :
    Calls Tryz.prog 95 #[.slice ao es.length cap, (.agg #[S p, S q])] U fun e w' => e = .returned (.int .i64 (EK es ⟨p, q⟩)) ∧ Evo U w' [] := by
 refine AG (n := 32) func95 rfl ntmps95 rfl ?_
 have C : Evo U U [] := Evo.refl _ _
 have aT := Ak he
 have ag := he.bd
 refine Zs (Ch (vs := [_, _]) η η rfl ?_)
 intro b1 w2 J1 E2 B1 Y1
 have Q2 := E2.size
 replace C := Z0 C E2
 refine Zn Ah (AB (AD (Zs (Zo (AJ rfl η IL) (Zo (AH rfl BF η (B1.at.cell 0 η)) (Zo (Al rfl η underlying9) (Zo IG (Zo Br ?_))))))))
 refine Ab rfl Ay rfl (fun j => AJ rfl η HN) ?_
 refine Ab rfl Ay rfl (fun j => AH rfl BF (Af j) (B1.at.cell 1 η)) ?_
 refine Ab rfl Ay rfl (fun j => Al rfl (Af j) underlying9) ?_
 refine Ab rfl Ay rfl (fun j => Bf rfl (Af j) η) ?_
 refine Zo Ee (Zo Br ?_)
 refine Ab rfl Ay rfl (fun j => AJ rfl η IL) ?_
 refine Ab rfl Ay rfl (fun j => AH rfl BF (Af j) (B1.at.cell 0 η)) ?_
 refine Bb rfl Ay rfl (fun j => Am rfl (An (v := S _) (Af j) (rfl)) func141 rfl ζ) (fun j => (MQ τ).mono (fun e w' h => ⟨h.1, h.2⟩)) (fun w3 F4 => ?_)
 have Q3 := F4.size
 replace C := Z0 C F4
 replace B1 := B1.evo0 F4
 refine Ab rfl Ay rfl (fun j => ER rfl (Af j)) ?_
 refine Zo (D7 rfl η rfl (fun hq => IK η (fun h => h) hq)) ?_
 refine Zo Br ?_
 refine Ab rfl Ay rfl (fun j => AJ rfl η HN) ?_
 refine Ab rfl Ay rfl (fun j => AH rfl BF (Af j) (B1.at.cell 1 η)) ?_
 refine Bb rfl Ay rfl (fun j => Am rfl (An (v := S _) (Af j) (rfl)) func141 rfl ζ) (fun j => (MQ τ).mono (fun e w' h => ⟨h.1, h.2⟩)) (fun w5 F6 => ?_)
 have Q5 := F6.size
 replace C := Z0 C F6
 replace B1 := B1.evo0 F6
 refine Ab rfl Ay rfl (fun j => ER rfl (Af j)) ?_
 refine Zo (D7 rfl η rfl (fun hq => IK η (fun h => h) hq)) ?_
 refine Zn A6 (AE η (fun J => ?_) (fun J => ?_))
 refine Zs (Zn Ah (AK CZ ?_))
 exact ⟨AU (by rw [PV (bC.1 (by simpa [or_assoc] using J))]), C⟩
 refine Zs (Zo Ar (Zo (AY rfl Dr Be η rfl B1.at) (Zr [.slice _ _ _, .agg _] rfl η func142 (OL (x := ⟨p, q⟩) (aT _ C)) ?_)))
 rintro e w8 ⟨rfl, F8⟩
 refine ⟨_, rfl, ?_⟩
 have Q8 := F8.size
 replace C := Z0 C F8
 refine Zn A6 (D8 η (fun R => ?_) (fun R => ?_))
 refine Zs (Zn Ah (AK CZ ?_))
 exact ⟨AU (by rw [PX (Xb (by simpa using J)) (of_decide_eq_true R)]), C⟩
 refine AF (AO (Zs (Zn Ah (AK CZ ?_))))
 exact ⟨AU (by rw [R2 (Xb (by simpa using J)) (of_decide_eq_false R)]), C⟩
theorem P3 {ao : Option Addr} {b off cap : Nat} {es : List Ende} {p q : AQ} {w0 : World} (he : RowE w0 ao b off cap es) (hp : p.length ≤ 140737488355328) (hq : q.length ≤ 140737488355328) :
    Calls Tryz.prog 100 #[.slice ao es.length cap, (.agg #[S p, S q])] w0 fun e w' => e = .returned (.int .i64 (EK es ⟨p, q⟩)) ∧ Evo w0 w' [] := by
 refine AG (n := 27) func100 rfl ntmps100 rfl ?_
 have C : Evo w0 w0 [] := Evo.refl _ _
 have ag := Ak he
 have a7 := he.bd
 refine Zs (Ch (vs := [_, _]) η η rfl ?_)
 intro b1 w2 J1 E2 B1 Y1
 have Q2 := E2.size
 replace C := Z0 C E2
 refine Zn Ah (AB (Zs (Zo (AJ rfl η IL) (Zo (AH rfl BF η (B1.at.cell 0 η)) (Zr [S _] rfl η func148 (Ky τ) ?_)))))
 rintro e w3 ⟨rfl, F3⟩
 refine ⟨_, rfl, ?_⟩
 have Q3 := F3.size
 replace C := Z0 C F3
 replace B1 := B1.evo0 F3
 refine Zo (ER rfl η) (Zo (Bt rfl η) ?_)
 refine Ab rfl Ay rfl (fun hg => AJ rfl η HN) ?_
 refine Ab rfl Ay rfl (fun hg => AH rfl BF (Af hg) (B1.at.cell 1 η)) ?_
 refine Bb rfl Ay rfl (fun hg => Am rfl (An (v := S _) (Af hg) (rfl)) func148 rfl ζ) (fun hg => (Ky τ).mono (fun e w' h => ⟨h.1, h.2⟩)) (fun w4 F5 => ?_)
 have Q4 := F5.size
 replace C := Z0 C F5
 replace he := ag _ C
 replace B1 := B1.evo0 F5
 refine Ab rfl Ay rfl (fun hg => ER rfl (Af hg)) ?_
 refine Zn (D7 rfl η rfl (fun hq => IK η (fun h => h) hq)) ?_
 refine AE η (fun R => ?_) (fun R => ?_)
 refine Zs (Zn Ah (AK CZ ?_))
 exact ⟨AU (by rw [PV (bO.1 (by simpa using R))]), C⟩
 refine AF (AB (Zs (Zo Ar (Zo (AL rfl η underlying108) (Zn AN (AD (AZ (α := Nat) [4, 6, 19, 20, 21, 22, 23, 24, 25, 26] (fun k g w => g 19 = .int .i64 (k : Nat) ∧ k ≤ es.length ∧ Blk w b1 112 (Enc.enc (⟨p, q⟩ : Ende)) ∧ (∀ j, j < k → ¬ (⟨p, q⟩ : Ende) = es.getD j default) ∧ w4.heap.size ≤ w.heap.size ∧ Evo w0 w []) (fun k => es.length - k) 0 ?_ ?_)))))))
 refine ⟨σ, δ, B1, (fun j h => by omega), δ, C⟩
 rintro k g w8 ⟨a8, hk_k, B1, hno, hzl7, C⟩
 have a6 := C.size
 have a_ := B1.lt
 refine Zk 19 a8 (Zs (Zn Bu (AB (AE η (fun a1 => ?_) (fun a1 => ?_)))))
 refine AF (AB (AD (Zs (Zo (AV (k) rfl underlying108 Be η η χ ω ((ag _ C).addr (i := k) ω)) ?_))))
 have U := fun (w' : World) (h : Evo w0 w' []) => (ag w' h).atD (k) ω
 refine Zo (AY rfl Dr Be η rfl (U _ C)) (CO (zs := [_, _]) (vs := [_, _]) Be η rfl η (fun _ => rfl) η rfl rfl η ?_)
 intro b13 w14 J13 E14 B13 Y13
 have bc := E14.size
 replace C := Z0 C E14
 replace B1 := B1.evo0 E14
 refine As (Zs (Zo (AY rfl Dr Be η rfl B1.at) (Zo (AY rfl Dr Be η rfl B13.at) (Zn (NZ (α := Ende) _ _ rfl Tryz.eqGuardType112 UE η η) (AE η (fun J => ?_) (fun J => ?_))))))
 refine Zs (Zn Ah (AK CZ ?_))
 exact ⟨AU (by rw [PX (W9 (by simpa using R)) (Xn ω J)]), C⟩
 refine AF (AO (AA (Zo A8 (Zn AN (Zg (k + 1) ?_)))))
 refine ⟨σ, δ, B1, (CS hno J), δ, C⟩
 refine AW rfl (Zs (Zn Ah (AK CZ ?_)))
 exact ⟨AU (by rw [R2 (W9 (by simpa using R)) (Un hno ω)]), C⟩
end Go.Proofs.YtlfjocbnbceceaaGreatDoor
