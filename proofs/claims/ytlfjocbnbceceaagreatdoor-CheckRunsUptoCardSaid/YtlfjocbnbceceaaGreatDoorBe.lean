/-
  Library, plain laws and walks that the statements reach (joined by a program out of smaller texts).
-/
import Derived.Test.YtlfjocbnbceceaaGreatDoorBd
import Derived.Test.YtlfjocbnbceceaaGreatDoorBb
import Derived.Lib.SlKeysI
import Derived.Shelf.SlIterI.Nil
import Derived.Shelf.SortM.Plain
import Derived.Shelf.SortM.SortNone
import Derived.Ground.GgzProg
import Derived.Ground.SlgmProg
import Derived.Test.YtlfjocbnbceceaaGreatDoorProg
import Derived.Test.YtlfjocbnbceceaaGreatDoorBa
import Derived.Shelf.SlSortCmp.NoneTotal
import Derived.Test.YtlfjocbnbceceaaGreatDoorBc
import Derived.Shelf.LaysM
import Derived.Shelf.Strconv.Itoa3
set_option linter.unusedVariables false
set_option linter.unusedSimpArgs false
namespace Go.Proofs.YtlfjocbnbceceaaGreatDoor
open Go.RowKit Go.Vc Go.Proofs.Tryz
theorem Qu {s : AQ} {w : World} : Calls Tryz.prog 205 #[S s, S [32]] w fun e w' => e = .returned (.int .i64 ((s.count 32 : Nat) : Int)) ∧ w = w' :=
  (Tryz.strings_Count_one ⟨s.toArray⟩ 32 w).mono fun e w' ⟨h1, j⟩ => ⟨by rw [h1]; rfl, j.symm⟩
theorem RA {s : AQ} {w : World} : Calls Tryz.prog 206 #[S s, S [32]] w fun e w' => e = .returned (.int .i64 (Lib.indexByte s 32)) ∧ w = w' :=
  (Tryz.strings_Index_one ⟨s.toArray⟩ 32 w).mono fun e w' ⟨h1, j⟩ => ⟨by rw [h1], j.symm⟩
theorem U0 {w : World} {b E n : Nat} {l : List AQ} (h : FB w b E 1 n (fun x => [S (l.getD x default)])) (I : l.length = n) (J : n ≤ 140737488355328) : RowE w (some ⟨b, 0, none⟩) b 0 n l := by
  refine ⟨⟨by simp; omega, by simp; omega⟩, fun _ => rfl, fun i cs o => ?_⟩
  have j : i < l.length := by
    rcases Nat.lt_or_ge i l.length with h1 | h1
    · exact h1
    · rw [List.getElem?_eq_none (by simpa using h1)] at o; cases o
  simp [j] at o
  subst o
  refine ⟨rfl, ?_⟩
  have C := h.at (x := i) ω
  have e : l.getD i default = l[i] := by simp [List.getD, j]
  simp only [e] at C
  exact C
theorem Jz {d : List AQ} {x : AQ} {i : Nat} (h : d.length = i) (y : Nat) : (if y = i then [S x] else [S (d.getD y default)]) = [S ((d ++ [x]).getD y default)] := by
  subst h
  by_cases e : y = d.length
  · subst e; rw [if_pos rfl]; simp [List.getD]
  · rw [if_neg e]
    rcases Nat.lt_or_ge y d.length with h1 | h1
    · simp [List.getD, h1, List.getElem?_append_left]
    · simp [List.getD, List.getElem?_eq_none h1, List.getElem?_append_right h1, List.getElem?_eq_none (show [x].length ≤ y - d.length by simp; omega)]
theorem OA {s : AQ} {w0 : World} (hs : s.length ≤ 1000) :
    Calls Tryz.prog 185 #[S s, S [32], .int .i64 0, .int .i64 (-1)] w0 fun e w' => ∃ ao b off cap, e = .returned (.slice ao (A2 s).length cap) ∧ Evo w0 w' [] ∧ RowE w' ao b off cap (A2 s) := by
 have bs := List.count_le_length (a := (32 : UInt8)) (l := s); have bq : List.length ([32] : List UInt8) = 1 := rfl
 refine AG (n := 66) func185 rfl ntmps185 rfl ?_
 have C : Evo w0 w0 [] := Evo.refl _ _
 refine Zs (Zn Bs (AB (Zs (Zo AN (Zn C3 (DN η (AF (AB (Zs ?_)))))))))
 refine Zo Au (Zn (Cn rfl η η) (DN η (AF (AB (Zs (Zo AN (Zn Bu (Ec η (AA ?_)))))))))
 refine Zo Au (Zo Au (Zr [S _, S _] rfl η func205 Qu ?_))
 rintro e w1 ⟨rfl, rfl⟩
 refine ⟨_, rfl, ?_⟩
 refine Zo A8 (Zn Ah (Zs (Zo AN (Zo Au (Zo (Al rfl η underlying9) (Zo A8 (Zo (Zu rfl η η) (Zn Ah (Zs ?_)))))))))
 refine Zo AN (bJ (len := (s.count 32 + 1)) (zs := [_]) underlying77 BW η rfl rfl η η ω ω ω ω ?_)
 intro ba w2 heba E2 hout hzba
 have Q2 := E2.size
 replace C := Z0 C E2
 refine Zn (AM (v := .slice (some ⟨ba, 0, none⟩) _ _) rfl η) (Zs (Zo AN (Zo JV (Zn Ah (Zs (Zn Ah (AB (AD (AZ (α := Nat) [0, 10, 11, 34, 35, 36, 37, 38, 39, 40, 41, 42, 43, 44, 45, 46, 47, 48, 49, 50, 51, 52, 53, 54, 55, 56, 57] (fun i g w => ∃ r : AQ, ∃ d : List AQ, g 10 = .int .i64 (i : Nat) ∧ g 0 = S r ∧ FB w ba 9 1 (s.count 32 + 1) (fun x => [S (d.getD x default)]) ∧ A2 s = d ++ A2 r ∧ s.count 32 = i + r.count 32 ∧ d.length = i ∧ r.length ≤ s.length ∧ w2.heap.size ≤ w.heap.size ∧ Evo w0 w []) (fun i => (s.count 32 + 1) - i) 0 ?_ ?_)))))))))
 refine ⟨s, [], rfl, rfl, hout, (List.nil_append _).symm, ω, rfl, δ, δ, C⟩
 rintro i g w4 ⟨r, d, hj5, hj6, j, hsp, hcn, hdl, hrl, hzl3, C⟩
 have a_ := C.size
 have bl := j.lt
 refine Zk 10 hj5 (Zk 0 hj6 (AB (Zs (Zo AN (Zo AN (Zn Bu (AE η (fun bf => ?_) (fun bf => ?_))))))))
 refine AF (AD (AB ?_))
 have U := La r
 refine AA (Zo Au (Zo Au (Zr [S _, S _] rfl η func206 RA ?_)))
 rintro e w9 ⟨rfl, rfl⟩
 refine ⟨_, rfl, ?_⟩
 refine Zn Ah (AB (Zs (Zo AN (Zn Bu (AE η (fun aT => ?_) (fun aT => ?_))))))
 have R : A2 r = [r] ∧ r.count 32 = 0 := by rcases U with ⟨_, h1, h2⟩ | ⟨m9, h1, _⟩; exact ⟨h1, h2⟩; omega
 clear U
 refine AW rfl (Zs (Zo (AP (v := .slice (some ⟨ba, 0, none⟩) _ _) rfl η) (Zo AN (Zo Au (Zo (AV (i) rfl underlying77 BW η η χ ω rfl) (Ku (v := S _) (vs := [_]) (i) η rfl η j ω BW η rfl η ?_))))))
 intro w11 E11 V11 hb_new
 have bm := E11.size
 replace C := Z1 C E11 ε
 replace j := hb_new
 clear hb_new
 refine As (AB ?_)
 have o : RowE w11 (some ⟨ba, 0, none⟩) ba 0 (s.count 32 + 1) (A2 s) := by rw [hsp, R.1]; exact U0 (j.congr (fun y => by rw [← Jz hdl y])) (by rw [List.length_append]; simp; omega) ω
 have a1 := Lp s
 have J := o.bd
 refine Zk 9 (v := .slice (some ⟨ba, 0, none⟩) (A2 s).length (s.count 32 + 1)) (by rw [a1]; exact rfl) (AA (Zo (AP (v := .slice (some ⟨ba, 0, none⟩) _ _) rfl η) (Zo AN (Zo A8 (Zo (by exact Hu (0) ((i + 1)) rfl underlying77 BW η o LU (at1 η ω) τ τ List.drop_zero) ?_)))))
 have ag := (by have I := (o.take ((i + 1))).drop (0); rw [List.drop_zero] at I; exact I)
 have a6 := ag.bd
 refine Zn Bs (AK (BN (v := .slice _ _ _) rfl η) ?_)
 have e9 : (A2 s).take (i + 1) = A2 s := List.take_of_length_le ω
 exact ⟨_, _, _, _, by rw [e9], C, by have I := ag; rw [e9] at I; exact I⟩
 rcases U with U | ⟨m9, hm1, hm2, hm3, hm4⟩
 exact absurd (show Lib.indexByte r 32 < 0 by rw [U.1]; decide) aT
 have bt := List.length_drop (i := m9 + 1) (l := r)
 refine AF (Zs (Zo (AP (v := .slice (some ⟨ba, 0, none⟩) _ _) rfl η) (Zo AN (Zo Au (Zo AN (Zo AN (Zo A8 (Zo (by exact BP (0) (m9) rfl underlying9 η LU (at1 η ω) τ τ) (Zo (AV (i) rfl underlying77 BW η η χ ω rfl) ?_)))))))))
 refine Ku (v := S _) (vs := [_]) (i) η rfl η j ω BW η rfl η ?_
 intro w13 E13 V13 hb_new
 have bn := E13.size
 replace C := Z1 C E13 ε
 replace j := hb_new
 clear hb_new
 refine As (Zs (Zo Au (Zo AN (Zo Au (Zo (Al rfl η underlying9) (Zo A8 (Zo (by exact BP ((m9 + 1)) (_) rfl underlying9 η (at1 η ω) TS τ τ) (Zn CD (AA ?_)))))))))
 refine Zo AN (Zo A8 (Zn Ah (AO (Zg (i + 1) ?_))))
 refine ⟨(r.drop (m9 + 1)), (d ++ [r.take m9]), (congrArg (Value.int _) ω), (congrArg S (List.take_of_length_le (by rw [List.length_drop]; exact Nat.le_refl _))), (j.congr (fun y => by rw [← Jz hdl y]; rfl)), (by rw [hsp, hm3, List.append_assoc]; rfl), ω, (by rw [List.length_append]; simp; omega), (by rw [List.length_drop]; omega), δ, C⟩
 have R : A2 r = [r] ∧ r.count 32 = 0 := by rcases La r with ⟨_, h1, h2⟩ | ⟨m9, h1, _, _, h2⟩; exact ⟨h1, h2⟩; omega
 refine AW rfl (Zs (Zo (AP (v := .slice (some ⟨ba, 0, none⟩) _ _) rfl η) (Zo AN (Zo Au (Zo (AV (i) rfl underlying77 BW η η χ ω rfl) (Ku (v := S _) (vs := [_]) (i) η rfl η j ω BW η rfl η ?_))))))
 intro w14 E14 V14 hb_new
 have bp := E14.size
 replace C := Z1 C E14 ε
 replace j := hb_new
 clear hb_new
 refine As (AB ?_)
 have o : RowE w14 (some ⟨ba, 0, none⟩) ba 0 (s.count 32 + 1) (A2 s) := by rw [hsp, R.1]; exact U0 (j.congr (fun y => by rw [← Jz hdl y])) (by rw [List.length_append]; simp; omega) ω
 have a1 := Lp s
 have J := o.bd
 refine Zk 9 (v := .slice (some ⟨ba, 0, none⟩) (A2 s).length (s.count 32 + 1)) (by rw [a1]; exact rfl) (AA (Zo (AP (v := .slice (some ⟨ba, 0, none⟩) _ _) rfl η) (Zo AN (Zo A8 (Zo (by exact Hu (0) ((i + 1)) rfl underlying77 BW η o LU (at1 η ω) τ τ List.drop_zero) ?_)))))
 have az := (by have I := (o.take ((i + 1))).drop (0); rw [List.drop_zero] at I; exact I)
 have a7 := az.bd
 refine Zn Bs (AK (BN (v := .slice _ _ _) rfl η) ?_)
 have e9 : (A2 s).take (i + 1) = A2 s := List.take_of_length_le ω
 exact ⟨_, _, _, _, by rw [e9], C, by have I := az; rw [e9] at I; exact I⟩
theorem S6 {s : AQ} {j : World} (J : s.length ≤ 1000) :
    Calls Tryz.prog 146 #[S s, S [32]] j fun e w' => ∃ C b off cap, e = .returned (.slice C (A2 s).length cap) ∧ Evo j w' [] ∧ RowE w' C b off cap (A2 s) := by
 refine AG (n := 8) func146 rfl ntmps146 rfl ?_
 have o : Evo j j [] := Evo.refl _ _
 refine Zs (Zn Bs (Zs (Zo Au (Zo Au (Zr [S _, S _, .int _ _, .int _ _] rfl η func185 (OA (s := s) J) ?_)))))
 rintro e w1 ⟨I, bs1, off1, cap1, rfl, F1, hr1⟩
 refine ⟨_, rfl, ?_⟩
 have R := F1.size
 replace o := Z0 o F1
 refine Zn Bs (AK (BN (v := .slice _ _ _) rfl η) ?_)
 exact ⟨_, _, _, _, rfl, o, hr1⟩
theorem GJ {s : AQ} (h : s = [] ∨ (64 : Int) < (s.length : Int)) : ¬ C2 s := fun q => by
  rcases h with h | h
  · exact q.1.1 h
  · have := q.1.2; omega
theorem GL {s : AQ} {k : Nat} (hk : k < s.length) (h : ¬ BM (s.getD k default) = BM (s.getD 0 default)) : ¬ C2 s := fun q => h (q.2.1 k hk)
theorem GK {s : AQ} (h : ¬ (s = [] ∨ (64 : Int) < (s.length : Int))) (o : ∀ j, j < s.length → BM (s.getD j default) = BM (s.getD 0 default)) : (BM (s.getD 0 default) = 4 ∨ BM (s.getD 0 default) = 3) ↔ C2 s :=
  ⟨fun q => ⟨⟨fun e => h (.inl e), Int.ofNat_le.1 (Int.not_lt.1 (fun e => h (.inr e)))⟩, o, q⟩, fun q => q.2.2⟩
theorem Kn {s : AQ} {w0 : World}  :
    Calls Tryz.prog 96 #[S s] w0 fun e w' => e = .returned (.bool (decide (C2 s))) ∧ Evo w0 w' [] := by
 refine AG (n := 33) func96 rfl ntmps96 rfl ?_
 have o : Evo w0 w0 [] := Evo.refl _ _
 refine Zs (Zn A6 (AB (Zs (Zo Au (Zo (Cn rfl η η) (Zo Br ?_))))))
 refine Ab rfl Ay rfl (fun U => Au) ?_
 refine Ab rfl Ay rfl (fun U => Al rfl (Af U) underlying9) ?_
 refine Ab rfl Ay rfl (fun U => Bf rfl (Af U) η) ?_
 refine Zn Ee (AE η (fun I => ?_) (fun I => ?_))
 refine Zs (Zn A6 (AK Dk ?_))
 first | exact ⟨Ao (decide_eq_false (GJ I)).symm, o⟩ | exact ⟨Ao (decide_eq_false (GL ω I)).symm, o⟩ | exact ⟨Ao (decide_eq_decide.2 (GK J (fun j hj => hall j ω))), o⟩
 refine AF (AB ?_)
 have J := I
 have a1 : 0 < s.length := List.length_pos_iff.2 (fun e => J (.inl e))
 refine AA (Zo Au (Zo (A3 (0) rfl underlying9 η η χ ω) (Zr [.int _ _] rfl η func143 EV ?_)))
 rintro e w2 ⟨rfl, F2⟩
 refine ⟨_, rfl, ?_⟩
 have Q2 := F2.size
 replace o := Z0 o F2
 refine Zn Ah (AB (Zs (Zo Au (Zo (Al rfl η underlying9) (Zn AN (AD (AZ (α := Nat) [2, 4, 17, 18, 19, 20, 21, 22, 23, 24, 25, 26] (fun k g w => g 17 = .int .i64 (k : Nat) ∧ k ≤ s.length ∧ (∀ j, j < k → BM (s.getD j default) = BM (s.getD 0 default)) ∧ w2.heap.size ≤ w.heap.size ∧ Evo w0 w []) (fun k => s.length - k) 0 ?_ ?_)))))))
 refine ⟨σ, δ, (fun j h => by omega), δ, o⟩
 rintro k g w4 ⟨az, hk_k, hall, hzl3, o⟩
 have ag := o.size
 refine Zk 17 az (Zs (Zn Bu (AB (AE η (fun R => ?_) (fun R => ?_)))))
 refine AF (AB (AD (Zs (Zo AN (Zn Ah (Zs (Zo Au (Zo AN (Zo (A3 (k) rfl underlying9 η η χ ω) ?_)))))))))
 refine Zr [.int _ _] rfl η func143 EV ?_
 rintro e w7 ⟨rfl, F7⟩
 refine ⟨_, rfl, ?_⟩
 have Q7 := F7.size
 replace o := Z0 o F7
 refine Zo AN (Zn (BD rfl η η) (AE η (fun C => ?_) (fun C => ?_)))
 refine Zs (Zn A6 (AK Dk ?_))
 first | exact ⟨Ao (decide_eq_false (GJ C)).symm, o⟩ | exact ⟨Ao (decide_eq_false (GL ω C)).symm, o⟩ | exact ⟨Ao (decide_eq_decide.2 (GK J (fun j hj => hall j ω))), o⟩
 refine AF (AO (AA (Zo A8 (Zn AN (Zg (k + 1) ?_)))))
 refine ⟨σ, δ, (CS hall (by first | exact Classical.not_not.1 C | simpa using C)), δ, o⟩
 refine AW rfl (Zs (Zo AN (Zo C3 (Zo Br ?_))))
 refine Ab rfl Ay rfl (fun U => AN) ?_
 refine Ab rfl Ay rfl (fun U => A1 rfl (Af U) η) ?_
 refine Zo Ee (Zn A6 (AK Dk ?_))
 first | exact ⟨Ao (decide_eq_false (GJ R)).symm, o⟩ | exact ⟨Ao (decide_eq_false (GL ω R)).symm, o⟩ | exact ⟨Ao (decide_eq_decide.2 (GK J (fun j hj => hall j ω))), o⟩
theorem Ka {s : AQ} {w0 : World}  :
    Calls Tryz.prog 56 #[S s] w0 fun e w' => e = .returned (.bool (decide (C2 s))) ∧ Evo w0 w' [] := by
 refine AG (n := 33) func56 rfl ntmps56 rfl ?_
 have o : Evo w0 w0 [] := Evo.refl _ _
 refine Zs (Zn A6 (AB (Zs (Zo Au (Zo (Cn rfl η η) (Zo Br ?_))))))
 refine Ab rfl Ay rfl (fun U => Au) ?_
 refine Ab rfl Ay rfl (fun U => Al rfl (Af U) underlying9) ?_
 refine Ab rfl Ay rfl (fun U => Bf rfl (Af U) η) ?_
 refine Zn Ee (AE η (fun I => ?_) (fun I => ?_))
 refine Zs (Zn A6 (AK Dk ?_))
 first | exact ⟨Ao (decide_eq_false (GJ I)).symm, o⟩ | exact ⟨Ao (decide_eq_false (GL ω I)).symm, o⟩ | exact ⟨Ao (decide_eq_decide.2 (GK J (fun j hj => hall j ω))), o⟩
 refine AF (AB ?_)
 have J := I
 have a1 : 0 < s.length := List.length_pos_iff.2 (fun e => J (.inl e))
 refine AA (Zo Au (Zo (A3 (0) rfl underlying9 η η χ ω) (Zr [.int _ _] rfl η func101 Bi ?_)))
 rintro e w2 ⟨rfl, F2⟩
 refine ⟨_, rfl, ?_⟩
 have Q2 := F2.size
 replace o := Z0 o F2
 refine Zn Ah (AB (Zs (Zn Ah (AD (AZ (α := Nat) [2, 4, 15, 16, 17, 18, 19, 20, 21, 22, 23, 24, 25, 26] (fun k g w => g 4 = .int .i64 (k : Nat) ∧ k ≤ s.length ∧ (∀ j, j < k → BM (s.getD j default) = BM (s.getD 0 default)) ∧ w2.heap.size ≤ w.heap.size ∧ Evo w0 w []) (fun k => s.length - k) 0 ?_ ?_)))))
 refine ⟨rfl, δ, (fun j h => by omega), δ, o⟩
 rintro k g w4 ⟨az, hk, hall, hzl3, o⟩
 have ag := o.size
 refine Zk 4 az (AB (Zs (Zo AN (Zo Au (Zo (Al rfl η underlying9) (Zn Bu (AE η (fun R => ?_) (fun R => ?_))))))))
 refine AF (AB (AD (Zs (Zo Au (Zo AN (Zo (A3 (k) rfl underlying9 η η χ ω) (Zr [.int _ _] rfl η func101 Bi ?_)))))))
 rintro e w7 ⟨rfl, F7⟩
 refine ⟨_, rfl, ?_⟩
 have Q7 := F7.size
 replace o := Z0 o F7
 refine Zo AN (Zn (BD rfl η η) (AE η (fun C => ?_) (fun C => ?_)))
 refine Zs (Zn A6 (AK Dk ?_))
 first | exact ⟨Ao (decide_eq_false (GJ C)).symm, o⟩ | exact ⟨Ao (decide_eq_false (GL ω C)).symm, o⟩ | exact ⟨Ao (decide_eq_decide.2 (GK J (fun j hj => hall j ω))), o⟩
 refine AF (AO (AA (Zo AN (Zo A8 (Zn Ah (Zg (k + 1) ?_))))))
 refine ⟨(congrArg (Value.int _) ω), δ, (CS hall (by first | exact Classical.not_not.1 C | simpa using C)), δ, o⟩
 refine AW rfl (Zs (Zo AN (Zo C3 (Zo Br ?_))))
 refine Ab rfl Ay rfl (fun U => AN) ?_
 refine Ab rfl Ay rfl (fun U => A1 rfl (Af U) η) ?_
 refine Zo Ee (Zn A6 (AK Dk ?_))
 first | exact ⟨Ao (decide_eq_false (GJ R)).symm, o⟩ | exact ⟨Ao (decide_eq_false (GL ω R)).symm, o⟩ | exact ⟨Ao (decide_eq_decide.2 (GK J (fun j hj => hall j ω))), o⟩
end Go.Proofs.YtlfjocbnbceceaaGreatDoor
namespace Go.Proofs.YtlfjocbnbceceaaGreatDoor
open Go Go.RowKit Go.Vc Go.Proofs.Tryz
theorem cz {l : List AQ} {Q : AQ → Prop} (h : ∀ j, j < l.length → Q (l.getD j default)) : ∀ w ∈ l, Q w := fun w hw => by
  obtain ⟨j, o, e⟩ := List.getElem_of_mem hw
  have C := h j o
  rwa [show l.getD j default = w by simp [List.getD, o, e]] at C
theorem c5 {c : UInt8} : ((c.toNat : Nat) : Int) = 32 ↔ c = 32 := by
  constructor
  · intro h
    have j : c.toNat = 32 := by omega
    exact UInt8.toNat_inj.1 j
  · rintro rfl; rfl
def PhSt (s : AQ) (i fr : Nat) (d : List AQ) : Prop := (∀ w ∈ d, C2 w) ∧ ((fr ≤ i ∧ i ≤ s.length ∧ A2 s = d ++ A2 (s.drop fr) ∧ ∀ j, fr ≤ j → j < i → s.getD j default ≠ 32) ∨ (i = s.length + 1 ∧ fr = s.length + 1 ∧ A2 s = d))
def KI (s : AQ) (fr i : Nat) : AQ := (s.drop fr).take (i - fr)
theorem PhSt.start (s : AQ) : PhSt s 0 0 [] := ⟨by simp, .inl ⟨Nat.le_refl _, Nat.zero_le _, rfl, fun j h1 o => by omega⟩⟩
theorem PhSt.fr {s : AQ} {i fr : Nat} {d : List AQ} (h : PhSt s i fr d) (o : i ≤ s.length) : fr ≤ i ∧ A2 s = d ++ A2 (s.drop fr) ∧ ∀ j, fr ≤ j → j < i → s.getD j default ≠ 32 := by
  rcases h.2 with ⟨h1, h2, h3, h4⟩ | ⟨h1, _⟩
  · exact ⟨h1, h3, h4⟩
  · omega
theorem PhSt.go {s : AQ} {i fr : Nat} {d : List AQ} (h : PhSt s i fr d) (R : i ≤ s.length) (o : ¬ (i = s.length ∨ s.getD i default = 32)) : PhSt s (i + 1) fr d := by
  obtain ⟨h1, C, I⟩ := h.fr R
  have U : ¬ i = s.length := fun q => o (.inl q)
  refine ⟨h.1, .inl ⟨by omega, by omega, C, fun j J h6 => ?_⟩⟩
  by_cases e : j = i
  · subst e; exact fun q => o (.inr q)
  · exact I j J ω
theorem NM {s : AQ} {j k : Nat} : (s.drop j).getD k default = s.getD (j + k) default := by simp [List.getD, List.getElem?_drop]
theorem MW {s : AQ} {i fr : Nat} {d : List AQ} (h : PhSt s i fr d) (R : i ≤ s.length) (J : i = s.length ∨ s.getD i default = 32) : (i = s.length ∧ A2 s = d ++ [KI s fr i]) ∨ (i < s.length ∧ A2 s = d ++ [KI s fr i] ++ A2 (s.drop (i + 1))) := by
  obtain ⟨h1, o, C⟩ := h.fr R
  have U : (s.drop fr).length = s.length - fr := List.length_drop
  rcases Rp (s.drop fr) (i - fr) ω (fun k hk => by rw [NM]; exact C _ ω ω) with ⟨h4, h5⟩ | ⟨h4, h5⟩
  · refine .inl ⟨by omega, ?_⟩
    rw [o, h5]; unfold KI; rw [List.take_of_length_le ω]
  · have j : i < s.length := by omega
    refine .inr ⟨j, ?_⟩
    have I : s.getD i default = 32 := J.resolve_left ω
    rw [o, h5 (by rw [NM, show fr + (i - fr) = i by omega]; exact I), List.drop_drop, show fr + (i - fr + 1) = i + 1 by omega, List.append_assoc]; rfl
theorem PhSt.cut {s : AQ} {i o : Nat} {d : List AQ} (h : PhSt s i o d) (I : i ≤ s.length) (C : i = s.length ∨ s.getD i default = 32) (J : C2 (KI s o i)) : PhSt s (i + 1) (i + 1) (d ++ [KI s o i]) := by
  refine ⟨fun w hw => (List.mem_append.1 hw).elim (h.1 w) (fun q => by rw [List.mem_singleton] at q; rw [q]; exact J), ?_⟩
  rcases MW h I C with ⟨h1, h2⟩ | ⟨h1, h2⟩
  · exact .inr ⟨by omega, by omega, h2⟩
  · exact .inl ⟨Nat.le_refl _, by omega, h2, fun j R U => by omega⟩
theorem PhSt.bad {s : AQ} {i j : Nat} {d : List AQ} (h : PhSt s i j d) (I : i ≤ s.length) (C : i = s.length ∨ s.getD i default = 32) (J : ¬ C2 (KI s j i)) : ¬ CC s := fun q => J (q.1 _ (by
  rcases MW h I C with ⟨_, o⟩ | ⟨_, o⟩ <;> rw [o] <;> simp))
theorem PhSt.fin {s : AQ} {i j : Nat} {d : List AQ} (h : PhSt s i j d) (o : s.length < i) : A2 s = d ∧ ∀ w ∈ d, C2 w := by
  rcases h.2 with ⟨_, h2, _⟩ | ⟨_, _, h2⟩
  · omega
  · exact ⟨h2, h.1⟩
def Mn (ws : List AQ) : List (List AQ) := ws.map (fun w => [Cc w])
def FD (s : AQ) (l : List Vc.Item) : Bool := (List.range l.length).any (fun i => decide (0 ≤ cT l i (Mn (CK s))))
theorem U2 {s : AQ} {l : List Vc.Item} {i : Nat} (j : i < l.length) (h : 0 ≤ cT l i (Mn (CK s))) : FD s l = true := by
  unfold FD; rw [List.any_eq_true]; exact ⟨i, List.mem_range.2 j, decide_eq_true h⟩
theorem Tn {s : AQ} {l : List Vc.Item} (h : ∀ i, i < l.length → ¬ 0 ≤ cT l i (Mn (CK s))) : FD s l = false := by
  unfold FD; rw [List.any_eq_false]; intro i j; simpa using h i (List.mem_range.1 j)
theorem bD (l : List Vc.Item) (i : Nat) : ¬ 0 ≤ cT l i [] := by show ¬ (0 : Int) ≤ -1; omega
theorem Ki {s : AQ} {w0 : World}  :
    Calls Tryz.prog 98 #[S s] w0 fun e w' => ∃ ao b off cap, e = .returned (.slice ao (CK s).length cap) ∧ Evo w0 w' [] ∧ RowE w' ao b off cap (CK s) := by
 refine AG (n := 25) func98 rfl ntmps98 rfl ?_
 have I : Evo w0 w0 [] := Evo.refl _ _
 refine Zs (Zn Bs (AB (Zs (Zo Au (Zo (Al rfl η underlying9) (Zn IG (AE η (fun a6 => ?_) (fun a6 => ?_))))))))
 refine Zs (Zn Bs (AK (BN (v := .slice _ _ _) rfl η) ?_))
 exact ⟨none, 0, 0, 0, by rw [Eu (fun q => by have := XM q; omega)]; rfl, I, by rw [Eu (fun q => by have := XM q; omega)]; exact RowE.nil _ _ _ _ _⟩
 refine AF (Zs (Zo Au (Zr [S _, S _] rfl η func146 (S6 (s := s) ω) ?_)))
 rintro e w2 ⟨bb, bs2, off2, cap2, rfl, F2, hr2⟩
 refine ⟨_, rfl, ?_⟩
 have Q2 := F2.size
 replace I := Z0 I F2
 refine Zn Bs (AB (AB ?_))
 have o : Evo w2 w2 [] := Evo.refl _ _
 have J := Ak hr2
 have ba := IZ s
 refine AA (Zo Ar (Zo (AL rfl η underlying77) (Zn AN (AD (AZ (α := Nat) [2, 5, 13, 14, 15, 16, 17, 18, 19, 20] (fun k g w => g 13 = .int .i64 (k : Nat) ∧ k ≤ (A2 s).length ∧ (∀ j, j < k → C2 ((A2 s).getD j default)) ∧ w2.heap.size ≤ w.heap.size ∧ Evo w0 w [] ∧ Evo w2 w []) (fun k => (A2 s).length - k) 0 ?_ ?_)))))
 refine ⟨σ, δ, (fun j h => by omega), δ, I, o⟩
 rintro k g w5 ⟨a8, hk_k, hall, hzl4, I, o⟩
 have az := I.size
 have R := o.size
 refine Zk 13 a8 (Zs (Zn Bu (AB (AE η (fun a7 => ?_) (fun a7 => ?_)))))
 refine AF (AB (AD (Zs (Zo (AV (k) rfl underlying77 BW η η χ ω ((J _ o).addr (i := k) ω)) ?_))))
 have U := fun (w' : World) (h : Evo w2 w' []) => (J w' h).atD (k) ω
 refine Zo (AH rfl BF η ((U _ o).cell 0 η)) (Zn CD (Zs (Zo Au (Zr [S _] rfl η func96 (Kn (s := ((A2 s).getD k default))) ?_))))
 rintro e w9 ⟨rfl, F9⟩
 refine ⟨_, rfl, ?_⟩
 have Q9 := F9.size
 replace I := Z0 I F9
 replace o := Z0 o F9
 refine Zn (CQ rfl η) (AE η (fun C => ?_) (fun C => ?_))
 refine Zs (Zn Bs (AK (BN (v := .slice _ _ _) rfl η) ?_))
 exact ⟨none, 0, 0, 0, by rw [Eu (fun q => C (q.1 _ (A5 ω)))]; rfl, I, by rw [Eu (fun q => C (q.1 _ (A5 ω)))]; exact RowE.nil _ _ _ _ _⟩
 refine AF (AO (AA (Zo A8 (Zn AN (Zg (k + 1) ?_)))))
 refine ⟨σ, δ, (CS hall (by first | exact Classical.not_not.1 C | exact C)), δ, I, o⟩
 refine AW rfl (AB (Zs (Zo Ar (Zo (AL rfl η underlying77) (Zn IG (AE η (fun ag => ?_) (fun ag => ?_)))))))
 refine Zs (Zn Bs (AK (BN (v := .slice _ _ _) rfl η) ?_))
 exact ⟨none, 0, 0, 0, by rw [Eu (fun q => by have := q.2; omega)]; rfl, I, by rw [Eu (fun q => by have := q.2; omega)]; exact RowE.nil _ _ _ _ _⟩
 refine AF (Zs (Zo Ar (Zn Bs (AK (BN (v := .slice _ _ _) rfl η) ?_))))
 exact ⟨_, _, _, _, by rw [Iq ⟨cz (fun j hj => hall j ω), by omega⟩], I, by rw [Iq ⟨cz (fun j hj => hall j ω), by omega⟩]; exact (J _ o)⟩
theorem P5 {s : AQ} {i : Nat} : ((i : Int) = (s.length : Int) ∨ (((s.getD i default).toNat : Nat) : Int) = 32) ↔ (i = s.length ∨ s.getD i default = 32) := by
  rw [c5]; exact or_congr_left ω
theorem ZC {v : Value} {p q : Bool} (h : p = q) : Ending.returned (.tuple #[v, .bool p]) = .returned (.tuple #[v, .bool q]) := by rw [h]
set_option maxHeartbeats 1000000 in
theorem Ja {s : AQ} {w0 : World} (hs : s.length ≤ 1000000000) :
    Calls Tryz.prog 58 #[S s] w0 fun e w' => ∃ v l9, e = .returned (.tuple #[v, .bool (decide (CC s))]) ∧ Evo w0 w' [] ∧ OwnE w' w0.heap.size 9 v l9 ∧ (CC s → l9 = A2 s) := by
 refine AG (n := 42) func58 rfl ntmps58 rfl ?_
 have I : Evo w0 w0 [] := Evo.refl _ _
 refine Zs (Zo Bs (Zn A6 (Zs (Zn Bs (Zs (Zn Ah (AB (Zs (Zn Ah ?_)))))))))
 refine AD (AZ (α := Nat) [2, 3, 4, 5, 6, 7, 8, 9, 10, 11, 12, 13, 14, 15, 16, 17, 18, 19, 20, 21, 22, 23, 24, 25, 26, 27, 28, 29, 30, 31, 32, 33, 34, 35, 36, 37] (fun i g w => ∃ fr : Nat, ∃ vo : Value, ∃ d : List AQ, g 6 = .int .i64 (i : Nat) ∧ g 5 = .int .i64 (fr : Nat) ∧ g 4 = vo ∧ i ≤ s.length + 1 ∧ OwnE w w0.heap.size 9 vo d ∧ PhSt s i fr d ∧ d.length ≤ i ∧ w0.heap.size ≤ w.heap.size ∧ Evo w0 w []) (fun i => s.length + 1 - i) 0 ?_ ?_)
 refine ⟨0, _, [], rfl, rfl, rfl, δ, (OwnE.nil _ _ _), (PhSt.start s), (Nat.le_refl _), δ, I⟩
 rintro i g w2 ⟨fr, vo, d, hj3, hj4, hj5, dB, o, hst, hdl, hzl1, I⟩
 have a1 := I.size
 refine Zk 6 hj3 (Zk 5 hj4 (Zk 4 hj5 (AB (Zs (Zo AN (Zo Au (Zo (Al rfl η underlying9) (Zn (Cy rfl η η) (AE η (fun a6 => ?_) (fun a6 => ?_))))))))))
 refine AF (AB (AD (Zs (Zo AN (Zo Au (Zo (Al rfl η underlying9) (Zo C3 (Zo Br ?_))))))))
 refine Ab rfl Ay rfl (fun hg => Au) ?_
 refine Ab rfl Ay rfl (fun hg => AN) ?_
 refine Ab rfl Ay rfl (fun hg => A3 (i) rfl underlying9 (Af hg) (Af hg) χ ω) ?_
 refine Ab rfl Ay rfl (fun hg => A1 rfl (Af hg) η) ?_
 refine Zn Ee (AE η (fun U => ?_) (fun U => ?_))
 refine AB (AB ?_)
 have C := P5.1 U
 have ba := (hst.fr ω).1
 refine AA (Zo Au (Zo AN (Zo AN (Zo (by exact BP (fr) (i) rfl underlying9 η (at1 η ω) (at1 η ω) τ τ) (Zr [S _] rfl η func56 (Ka (s := (KI s fr i))) ?_)))))
 rintro e w8 ⟨rfl, F8⟩
 refine ⟨_, rfl, ?_⟩
 have Q8 := F8.size
 replace I := Z0 I F8
 replace o := o.evo0 F8
 refine Zn (CQ rfl η) (AE η (fun J => ?_) (fun J => ?_))
 refine Zs (Zo Bs (Zn A6 (AK (He (v := .slice _ _ _) (u := .bool _) rfl η η) ?_)))
 exact ⟨_, [], ZC (decide_eq_false (hst.bad ω C J)).symm, I, OwnE.nil _ _ _, fun q => absurd q (hst.bad ω C J)⟩
 refine AF (AB ?_)
 obtain ⟨aT, j⟩ : ∃ z, z = i + 1 := ⟨_, rfl⟩
 refine AA (Zo (AP (v := vo) rfl η) (Zo Au (Zo AN (Zo AN (Zo (by exact BP (fr) (i) rfl underlying9 η (at1 η ω) (at1 η ω) τ τ) (Ad (u := S _) (y := (KI s fr i)) rfl rfl underlying77 BW η o (fun _ => η) η ξ₁ (ω) (ω) ω ?_))))))
 intro q_v10 v10 w11 E11 hov10 hlv10
 have a8 := E11.size
 replace I := AI I E11 (fun g hg => .inl (by first | exact (o.block hg).1 | (have := o.block hg; omega)))
 refine Zn (AM (v := v10) rfl η) (AA (Zo AN (Zo A8 (Zn Ah (AO (AA (Zo AN (Zo A8 (Zn Ah ?_)))))))))
 refine Zg (i + 1) ?_
 refine ⟨aT, _, _, (congrArg (Value.int _) ω), (congrArg (Value.int _) ω), rfl, δ, hov10, (by first | (rw [j]; exact hst.go ω (fun q => J (P5.2 q))) | (rw [j]; exact hst.cut ω C (Classical.not_not.1 J))), τ, δ, I⟩
 obtain ⟨aT, j⟩ : ∃ z, z = fr := ⟨_, rfl⟩
 refine AF (AO (AA (Zo AN (Zo A8 (Zn Ah (Zg (i + 1) ?_))))))
 refine ⟨aT, _, _, (congrArg (Value.int _) ω), (congrArg (Value.int _) ω), rfl, δ, o, (by first | (rw [j]; exact hst.go ω (fun q => U (P5.2 q))) | (rw [j]; exact hst.cut ω C (Classical.not_not.1 U))), τ, δ, I⟩
 refine AW rfl (Zs (Zo (AP (v := vo) rfl η) (Zo (AP (v := vo) rfl η) (Zo (Bn rfl η underlying77 o) (Zo (Cy rfl η η) (Zo (AM (v := vo) rfl η) (Zn A6 (AK (He (v := vo) (u := .bool _) rfl η η) ?_))))))))
 have R := hst.fin (show s.length < i by omega)
 exact ⟨_, d, ZC (decide_eq_decide.2 ⟨fun q => ⟨by rw [R.1]; exact R.2, by rw [R.1]; omega⟩, fun q => by have h9 := q.2; rw [R.1] at h9; omega⟩), I, o, fun _ => R.1.symm⟩
theorem Om {s : AQ} (k : Nat) : ((CK s).getD k default).length ≤ 64 := by
  rcases Nat.lt_or_ge k (CK s).length with h | h
  · have h1 := A5 h
    by_cases j : CC s
    · rw [Iq j] at h1 ⊢; exact (j.1 _ h1).1.2
    · rw [Eu j] at h; simp at h
  · rw [List.getD_eq_getElem?_getD, List.getElem?_eq_none h]; exact Nat.zero_le _
theorem NH (s : AQ) : (CK s).length ≤ 8 := by
  unfold CK
  split
  · rename_i h; exact h.2
  · exact Nat.zero_le _
theorem PU {ws : List AQ} {k : Nat} (hk : k < ws.length) : Mn (ws.take (k + 1)) = Mn (ws.take k) ++ [[Cc (ws.getD k default)]] := by unfold Mn; rw [Ai ws k hk, List.map_append]; rfl
theorem SB (ws : List AQ) : (Mn ws).length = ws.length := by unfold Mn; rw [List.length_map]
theorem Uw {l : List Vc.Item} {i : Nat} {ss : List (List AQ)} (j : i < l.length) : (Fv (l.getD i default) ∧ 0 ≤ FR l (i : Int) (-1) (Z5 (ss.map SetS.mk))) ↔ 0 ≤ cT l i ss := by
  rw [show Z5 (ss.map SetS.mk) = ss from Wx _]
  constructor
  · rintro ⟨h1, h2⟩
    rw [LD l _ _ _ ω (.inr (by simpa using h1))] at h2; exact h2
  · intro h
    have h1 : Fv (l.getD i default) := Classical.byContradiction fun q => by rw [aW l q] at h; omega
    refine ⟨h1, ?_⟩
    rw [LD l _ _ _ ω (.inr (by simpa using h1))]; exact h
set_option maxHeartbeats 1000000 in
theorem PN {s : AQ} {ao : Option Addr} {b off cap : Nat} {l : List Vc.Item} {w0 : World} (hl : RowE w0 ao b off cap l) (hq : ∀ x ∈ l, x.text.length ≤ 140737488355328) (ca : l.length ≤ 4398046510976) :
    Calls Tryz.prog 157 #[S s, .slice ao l.length cap] w0 fun e w' => e = .returned (.bool (FD s l)) ∧ Evo w0 w' [] := by
 refine AG (n := 42) func157 rfl ntmps157 rfl ?_
 have I : Evo w0 w0 [] := Evo.refl _ _
 have a1 := Ak hl
 have bz := hl.bd
 refine Zs (Zn A6 (Zs (Zn Bs (AB (Zs (Zo Au (Zr [S _] rfl η func98 Ki ?_)))))))
 rintro e w1 ⟨b4, bs1, off1, cap1, rfl, F1, bb⟩
 refine ⟨_, rfl, ?_⟩
 have Q1 := F1.size
 replace I := Z0 I F1
 replace hl := a1 _ I
 refine Zo (AL rfl η underlying77) (Zn AN (AD ?_))
 have o : Evo w1 w1 [] := Evo.refl _ _
 have a7 := Ak bb
 refine AZ (α := Nat) [5, 7, 12, 13, 14, 15, 16, 17, 18, 19, 20, 21, 22, 23] (fun k g w => ∃ vo : Value, g 12 = .int .i64 (k : Nat) ∧ g 5 = vo ∧ k ≤ (CK s).length ∧ OwnR w w1.heap.size 171 [] vo ((Mn ((CK s).take k)).map SetS.mk) ∧ w1.heap.size ≤ w.heap.size ∧ Evo w0 w [] ∧ Evo w1 w []) (fun k => (CK s).length - k) 0 ?_ ?_
 refine ⟨_, σ, rfl, δ, (OwnR.nil _ _ _ _), δ, I, o⟩
 rintro k g w4 ⟨vo, hj5, hj6, hk_k, J, hzl3, I, o⟩
 have bs := I.size
 have bl := o.size
 replace hl := a1 _ I
 replace bb := a7 _ o
 refine Zk 12 hj5 (Zk 5 hj6 (Zs (Zn Bu (AB (AE η (fun bL => ?_) (fun bL => ?_))))))
 refine AF (AB (AD (Zs (Zo (AV (k) rfl underlying77 BW η η χ ω (bb.addr (i := k) ω)) ?_))))
 have bm := fun (w' : World) (h : Evo w1 w' []) => (a7 w' h).atD (k) ω
 refine Zo (AH rfl BF η ((bm _ o).cell 0 η)) (Zn CD ?_)
 have bq : ∀ g, vo.ownBlock = some g → g < w4.heap.size := fun g R => (J.block R).2; have b_ := Om (s := s) k; have b6 := SB ((CK s).take k); have b7 := List.length_take_le k (CK s); have b9 := NH s
 refine AA (Zo (AP (v := vo) rfl η) (Zo Au (Zr [S _] rfl η func183 (G6 τ) ?_)))
 rintro e w9 ⟨rfl, F9⟩
 refine ⟨_, rfl, ?_⟩
 have Q9 := F9.size
 replace I := Z0 I F9
 replace o := Z0 o F9
 replace J := J.evo0 F9
 refine Av (pv := [(0, S _)]) (zs := [_]) (cs := [_]) underlying77 BW η rfl η rfl η ?_
 intro b10 w11 J10 E11 B10 Y10
 have bY := E11.size
 replace I := Z0 I E11
 replace o := Z0 o E11
 replace J := J.evo0 E11
 have U : RowE w11 (some ⟨b10, 0, none⟩) b10 0 1 ([Cc ((CK s).getD k default)] : List AQ) := Bl ([Cc ((CK s).getD k default)] : List AQ) B10 rfl rfl
 refine Zr [.slice (some ⟨b10, 0, none⟩) _ _] rfl η func190 (PF U) ?_
 rintro e cc ⟨az, rfl, F12, hsm12, hsb12⟩
 refine ⟨_, rfl, ?_⟩
 have b0 := F12.size
 replace I := Z0 I F12
 replace o := Z0 o F12
 replace J := J.evo0 F12
 replace U := U.evo0 F12
 refine GN (u := .map (some az)) (us := [_]) rfl rfl underlying200 QC η rfl rfl J (fun _ => η) η η rfl η (fun w9 h9 => ⟨az, rfl, hsm12.evo h9 (by intro hm; have h8 := bq az (Option.mem_toList.1 (by simpa using hm)); omega)⟩) ((by simp only [List.length_map]; omega)) ((by simp only [List.length_map]; omega)) ω ?_
 intro q_v13 v13 w14 E14 hov13 hlv13
 have b1 := E14.size
 replace I := AI I E14 (fun g R => .inl (by first | exact (J.block R).1 | (have := J.block R; omega)))
 replace o := AI o E14 (fun g R => .inl (by first | exact (J.block R).1 | (have := J.block R; omega)))
 refine Zn (AM (v := v13) rfl η) (AO (AA (Zo A8 (Zn AN (Zg (k + 1) ?_)))))
 refine ⟨_, σ, rfl, δ, (by rw [PU ω, List.map_append]; exact hov13), δ, I, o⟩
 refine AW rfl (AB (AB ?_))
 rw [List.take_of_length_le ω] at J
 obtain ⟨bQ, g15, bW, bt, a6⟩ := J.rowOf
 subst bt
 have ag := a6.bd
 have C : Evo w4 w4 [] := Evo.refl _ _
 have bc := a6.keep
 have ag := a6.bd
 refine AA (Zo Ar (Zo (AL rfl η underlying94) (Zn AN (AD (AZ (α := Nat) [4, 8, 26, 27, 28, 29, 30, 31, 32, 33, 34, 35, 36, 37, 38, 39, 40, 41] (fun i g w => g 26 = .int .i64 (i : Nat) ∧ i ≤ l.length ∧ (∀ j, j < i → ¬ 0 ≤ cT l j (Mn (CK s))) ∧ w4.heap.size ≤ w.heap.size ∧ Evo w0 w [] ∧ Evo w1 w [] ∧ Evo w4 w []) (fun i => l.length - i) 0 ?_ ?_)))))
 refine ⟨σ, δ, (fun j h => by omega), δ, I, o, C⟩
 rintro i g cg ⟨bp, hk_i, hno, hzl17, I, o, C⟩
 have bg := I.size
 have bf := o.size
 have a8 := C.size
 refine Zk 26 bp (Zs (Zn Bu (AB (AE η (fun bn => ?_) (fun bn => ?_)))))
 refine AF (AB (AD (Zs (Zo AN (Zn Ah (Zs (Zo Ar (Zo AN (Zo (AV (i) rfl underlying94 BX η η χ ω ((a1 _ I).addr (i := i) ω)) ?_)))))))))
 have ba := fun (w' : World) (h : Evo w0 w' []) => (a1 w' h).atD (i) ω
 refine Zo (AY rfl Mc BX η rfl (ba _ I)) (Zr [.agg _] rfl η func191 (JT (x := (l.getD i default))) ?_)
 rintro e cn ⟨rfl, F22⟩
 refine ⟨_, rfl, ?_⟩
 have b2 := F22.size
 replace I := Z0 I F22
 replace o := Z0 o F22
 replace C := Z0 C F22
 refine Zo Br ?_
 refine Ab rfl Aq rfl (fun R => Ar) ?_
 refine Ab rfl Aq rfl (fun R => AN) ?_
 refine Ab rfl Aq rfl (fun R => Ar) ?_
 refine Bb rfl Aq rfl (fun R => Am rfl (An (v := .slice _ _ _) (Af R) (An (v := .int _ _) (Af R) (An (v := .slice _ _ _) (Af R) (rfl)))) func192 rfl ζ) (fun R => (Kq (a1 _ I) (bc.now C) (i := (i : Int)) hq ω ω).mono (fun e w' h => ⟨h.1, h.2⟩)) (fun cr F24 => ?_)
 have b3 := F24.size
 replace I := Z0 I F24
 replace o := Z0 o F24
 replace C := Z0 C F24
 refine Ab rfl Aq rfl (fun R => BQ rfl (Af R) η) ?_
 refine Zn Fm (AE η (fun aT => ?_) (fun aT => ?_))
 refine Zs (Zn A6 (AK Dk ?_))
 exact ⟨Ao (U2 ω ((Uw ω).1 aT)).symm, I⟩
 refine AF (AO (AA (Zo A8 (Zn AN (Zg (i + 1) ?_)))))
 refine ⟨σ, δ, (CS hno (fun q9 => aT ((Uw ω).2 q9))), δ, I, o, C⟩
 refine AW rfl (Zs (Zn A6 (AK Dk ?_)))
 exact ⟨Ao (Tn (fun j hj => hno j ω)).symm, I⟩
set_option maxHeartbeats 1000000 in
theorem Nr {s : AQ} {ao : Option Addr} {b off cap : Nat} {l : List Vc.Item} {w0 : World} (hl : RowE w0 ao b off cap l) (hq : ∀ x ∈ l, x.text.length ≤ 140737488355328) (ct : l.length ≤ 4398046510976) (hs : s.length ≤ 1000000000) :
    Calls Tryz.prog 137 #[S s, .slice ao l.length cap] w0 fun e w' => e = .returned (.bool (FD s l)) ∧ Evo w0 w' [] := by
 refine AG (n := 42) func137 rfl ntmps137 rfl ?_
 have I : Evo w0 w0 [] := Evo.refl _ _
 have a8 := Ak hl
 have bL := hl.bd
 refine Zs (Zn A6 (Zs (Zo Au (Zr [S _] rfl η func58 (Ja (s := s) hs) ?_))))
 rintro e w1 ⟨bz, lp1, rfl, F1, hop1, hlp1⟩
 refine ⟨_, rfl, ?_⟩
 have Q1 := F1.size
 replace I := Z0 I F1
 replace hl := a8 _ I
 refine Zo S4 (Zo (AX (v := bz) rfl η η) (Zo (AX (v := .bool _) rfl η η) (Zo (AM (v := bz) rfl η) (Zn A6 (AB (Zs (Zo Br (Zn (CQ rfl η) (AE η (fun a6 => ?_) (fun a6 => ?_))))))))))
 refine Zs (Zn A6 (AK Dk ?_))
 exact ⟨Ao (Tn (fun j hj => by rw [Eu a6]; exact bD l j)).symm, I⟩
 refine AF (Zs (Zn Bs (AB (AB ?_))))
 have bs : CC s := Classical.not_not.1 a6
 have bQ : lp1 = CK s := (hlp1 bs).trans (Iq bs).symm
 rw [bQ] at hop1
 have o : Evo w1 w1 [] := Evo.refl _ _
 obtain ⟨b6, g4, b7, bW, ba, b9⟩ := hop1.rowOf
 subst bW
 have az := Ak ba
 refine AA (Zo Ar (Zo (AL rfl η underlying77) (Zn AN (AD (AZ (α := Nat) [7, 9, 20, 21, 22, 23, 24, 25, 26, 27, 28, 29, 30] (fun k g w => ∃ vo : Value, g 20 = .int .i64 (k : Nat) ∧ g 7 = vo ∧ k ≤ (CK s).length ∧ OwnR w w1.heap.size 77 [] vo (Mn ((CK s).take k)) ∧ w1.heap.size ≤ w.heap.size ∧ Evo w0 w [] ∧ Evo w1 w []) (fun k => (CK s).length - k) 0 ?_ ?_)))))
 refine ⟨_, σ, rfl, δ, (OwnR.nil _ _ _ _), δ, I, o⟩
 rintro k g w6 ⟨vo, hj7, hj8, hk_k, C, hzl5, I, o⟩
 have bt := I.size
 have bm := o.size
 replace hl := a8 _ I
 replace ba := az _ o
 refine Zk 20 hj7 (Zk 7 hj8 (Zs (Zn Bu (AB (AE η (fun bM => ?_) (fun bM => ?_))))))
 refine AF (AB (AD (Zs (Zo (AV (k) rfl underlying77 BW η η χ ω (ba.addr (i := k) ω)) ?_))))
 have a1 := fun (w' : World) (h : Evo w1 w' []) => (az w' h).atD (k) ω
 refine Zo (AH rfl BF η ((a1 _ o).cell 0 η)) (Zn CD ?_)
 have bq : ∀ g, vo.ownBlock = some g → g < w6.heap.size := fun g hg => (C.block hg).2; have cr := Om (s := s) k; have ca := SB ((CK s).take k); have cb := List.length_take_le k (CK s); have cn := NH s
 refine AA (Zo (AP (v := vo) rfl η) (Zo Au (Zr [S _] rfl η func173 (GC τ) ?_)))
 rintro e cH ⟨rfl, F11⟩
 refine ⟨_, rfl, ?_⟩
 have b2 := F11.size
 replace I := Z0 I F11
 replace o := Z0 o F11
 replace C := C.evo0 F11
 refine Av (pv := [(0, S _)]) (zs := [_]) (cs := [_]) underlying77 BW η rfl η rfl η ?_
 intro b12 w13 J12 E13 B12 Y12
 have b3 := E13.size
 replace I := Z0 I E13
 replace o := Z0 o E13
 replace C := C.evo0 E13
 have bb : RowE w13 (some ⟨b12, 0, none⟩) b12 0 1 ([Cc ((CK s).getD k default)] : List AQ) := Bl ([Cc ((CK s).getD k default)] : List AQ) B12 rfl rfl
 refine GN (u := .slice (some ⟨b12, 0, none⟩) _ _) (us := [_]) rfl rfl underlying91 ML η rfl rfl C (fun _ => η) η η rfl η (fun w9 h9 => Lj (Cg bb h9 (fun _ hm => by have h3 := bq _ (Option.mem_toList.1 (by simpa using hm)); omega))) (ω) (ω) ω ?_
 intro q_v14 v14 w15 E15 hov14 hlv14
 have b4 := E15.size
 replace I := AI I E15 (fun g hg => .inl (by first | exact (C.block hg).1 | (have := C.block hg; omega)))
 replace o := AI o E15 (fun g hg => .inl (by first | exact (C.block hg).1 | (have := C.block hg; omega)))
 refine Zn (AM (v := v14) rfl η) (AO (AA (Zo A8 (Zn AN (Zg (k + 1) ?_)))))
 refine ⟨_, σ, rfl, δ, (by rw [PU ω]; exact hov14), δ, I, o⟩
 refine AW rfl (AB (AB ?_))
 rw [List.take_of_length_le ω] at C
 obtain ⟨b0, g16, b1, bw, R⟩ := C.rowOf
 subst bw
 have U := R.bd
 have J : Evo w6 w6 [] := Evo.refl _ _
 have a_ := R.keep
 have U := R.bd
 refine AA (Zo Ar (Zo (AL rfl η underlying94) (Zn AN (AD (AZ (α := Nat) [4, 10, 33, 34, 35, 36, 37, 38, 39, 40, 41] (fun i g w => g 33 = .int .i64 (i : Nat) ∧ i ≤ l.length ∧ (∀ j, j < i → ¬ 0 ≤ cT l j (Mn (CK s))) ∧ w6.heap.size ≤ w.heap.size ∧ Evo w0 w [] ∧ Evo w1 w [] ∧ Evo w6 w []) (fun i => l.length - i) 0 ?_ ?_)))))
 refine ⟨σ, δ, (fun j h => by omega), δ, I, o, J⟩
 rintro i g cI ⟨bp, hk_i, hno, hzl18, I, o, J⟩
 have bl := I.size
 have bc := o.size
 have aT := J.size
 replace hl := a8 _ I
 replace R := a_.now J
 refine Zk 33 bp (Zs (Zn Bu (AB (AE η (fun bn => ?_) (fun bn => ?_)))))
 refine AF (AB (AD (Zs (Zo AN (Zn Ah (Zs (Zo Ar (Zo AN (Zo Ar ?_)))))))))
 refine Zr [.slice _ _ _, .int _ _, .slice _ _ _] rfl η func171 (KZ hl R (i := (i : Int)) hq ω ω) ?_
 rintro e cK ⟨rfl, F22⟩
 refine ⟨_, rfl, ?_⟩
 have b5 := F22.size
 replace I := Z0 I F22
 replace o := Z0 o F22
 replace J := Z0 J F22
 refine Zn (BQ rfl η η) (AE η (fun ag => ?_) (fun ag => ?_))
 refine Zs (Zn A6 (AK Dk ?_))
 exact ⟨Ao (U2 ω ag).symm, I⟩
 refine AF (AO (AA (Zo A8 (Zn AN (Zg (i + 1) ?_)))))
 refine ⟨σ, δ, (CS hno ag), δ, I, o, J⟩
 refine AW rfl (Zs (Zn A6 (AK Dk ?_)))
 exact ⟨Ao (Tn (fun j hj => hno j ω)).symm, I⟩
end Go.Proofs.YtlfjocbnbceceaaGreatDoor
namespace Go.Vc
open Go Go.RowKit Go.Maps Go.ChangeMaps Go.MapKept
theorem Za {P : Program} {K : TypeId} (hk : P.underlying K = some (.int .i64)) {x : Int} (j : (Lit.int .i64 x).wf = true) : keyOf P K (Value.int .i64 x) = some (.int .i64 x) := by
  simp [keyOf, hk, mapKey]; exact j
theorem VM {β : Type} {P : Program} {K : TypeId} (hk : P.underlying K = some (.int .i64)) {w : World} {b : Nat} {ev : β → Value} {m : List (Int × β)} (h : MapIs w b (Value.int .i64) ev m) (hm : m.length ≤ maxLen) (hl : ∀ p ∈ m, (Lit.int .i64 p.1).wf = true) :
    ∃ D : DataW Unit, w.ownsMap P K R0 b m.length D ∧ Maps.size D = m.length ∧ (intKeys D).Perm (m.map (·.1)) := by
  obtain ⟨es, clock, hb, he, h1, h2, h3⟩ := h.ex
  have ag : es.size = m.length := by have := congrArg List.length he; simpa using this
  have j : es.toList.map (·.key) = m.map (fun p => Value.int .i64 p.1) := by
    have := congrArg (List.map Prod.fst) he
    simpa [Function.comp_def] using this
  have o : ∀ x ∈ es.toList, ∃ s : Int, x.key = Value.int .i64 s ∧ WideElems.rd P K R0 x = some (.int .i64 s, .nil) := fun x I => by
    have : x.key ∈ m.map (fun p => Value.int .i64 p.1) := j ▸ List.mem_map.2 ⟨x, I, rfl⟩
    obtain ⟨p, U, hp⟩ := List.mem_map.1 this
    exact ⟨p.1, hp.symm, by unfold WideElems.rd; rw [← hp, Za hk (hl p U)]; rfl⟩
  have C : es.toList.map (fun x => intOf (WideElems.rg P K R0 x).1) = m.map (·.1) := by
    have e1 : es.toList.map (fun x => intOf (WideElems.rg P K R0 x).1) = (es.toList.map (·.key)).map (fun v => match v with | .int _ b => b | _ => 0) := by
      rw [List.map_map]
      refine List.map_congr_left (fun x I => ?_)
      obtain ⟨s, h5, J⟩ := o x I
      show intOf (WideElems.rg P K R0 x).1 = _
      unfold WideElems.rg; rw [J]; simp [h5, intOf]
    rw [e1, j, List.map_map]
    exact List.map_congr_left (fun p _ => rfl)
  refine ⟨_, ⟨es, clock, hb, ⟨by omega, ⟨h2, h1, ?_⟩, fun x I => ?_⟩, by omega, rfl⟩, ?_, ?_⟩
  · rw [j]
    have e : m.map (fun p => Value.int .i64 p.1) = (m.map (·.1)).map (Value.int .i64) := by rw [List.map_map]; rfl
    rw [e]
    exact List.pairwise_map.2 (h3.imp (fun R h9 => R (by injection h9)))
  · obtain ⟨s, _, J⟩ := o x I
    exact ⟨_, J⟩
  · show ((es.toList.map _).foldr DataW.insert []).length = _
    rw [length_sorted, List.length_map, Array.length_toList, ag]
  · show (((es.toList.map (WideElems.rg P K R0)).foldr DataW.insert []).map (fun p => intOf p.1)).Perm _
    refine ((Go.WideShapes.sorted_perm _).map _).trans ?_
    rw [List.map_map]
    have e : (fun p : Lit × DataW Unit => intOf p.1) ∘ WideElems.rg P K R0 = fun x => intOf (WideElems.rg P K R0 x).1 := rfl
    rw [e, C]
def Us (l : List Int) : List Int := l.mergeSort leI
theorem YW {j l : List Int} (J : j.Nodup) (o : l.Pairwise (fun a b => a < b)) (h : ∀ x, x ∈ j ↔ x ∈ l) : Us j = l := by
  have R : l.Perm j := (List.perm_ext_iff_of_nodup (o.imp (fun {a b} h e => by omega)) J).2 (fun x => (h x).symm)
  have C := mergeSort_of_perm_i R
  have I : l.mergeSort leI = l := List.mergeSort_of_pairwise (o.imp (fun h => by simpa [leI] using Int.le_of_lt h))
  show j.mergeSort leI = _
  rw [← C, I]
end Go.Vc
namespace Go.Proofs.YtlfjocbnbceceaaGreatDoor
open Go Go.RowKit Go.Vc
def DJ (sp : List Spt) (k : Nat) : Bool := decide (∃ x ∈ sp, x.t = (k : Int))
def Aa (n : Nat) (sp : List Spt) : List Nat := (List.range n).filter (fun k => DJ sp k)
def Fp (l : List Nat) : List Int := l.map Int.ofNat
theorem Gd (l : List Nat) : (Fp l).length = l.length := by unfold Fp; rw [List.length_map]
theorem HW {l : List Nat} {k : Nat} (hk : k < l.length) : (Fp l).getD k default = ((l.getD k default : Nat) : Int) := by
  unfold Fp
  simp [List.getD, hk]
theorem Kk (l : List Nat) (x : Nat) : Fp (l ++ [x]) = Fp l ++ [(x : Int)] := by unfold Fp; rw [List.map_append]; rfl
theorem VH {n : Nat} {sp : List Spt} {k : Nat} (h : k ∈ Aa n sp) : k < n := List.mem_range.1 (List.mem_filter.1 h).1
theorem OX {n : Nat} {sp : List Spt} {k : Nat} (h : k < (Aa n sp).length) : (Aa n sp).getD k default < n := VH (A5 h)
theorem DX (n : Nat) (sp : List Spt) : (Aa n sp).length ≤ n := by
  have := List.length_filter_le (fun k => DJ sp k) (List.range n)
  rw [List.length_range] at this; exact this
theorem JN (n : Nat) (sp : List Spt) : (Fp (Aa n sp)).Pairwise (fun a b => a < b) := by
  refine List.pairwise_map.2 ?_
  exact (List.pairwise_lt_range.filter _).imp (fun h => by show ((_ : Nat) : Int) < ((_ : Nat) : Int); omega)
def SeenI (m : List (Int × Unit)) (sp : List Spt) : Prop := (m.map (·.1)).Nodup ∧ ∀ x, x ∈ m.map (·.1) ↔ ∃ s ∈ sp, s.t = x
theorem Ze (m : List (Int × Unit)) (a : Int) : (Dj m a ()).map (·.1) = if a ∈ m.map (·.1) then m.map (·.1) else m.map (·.1) ++ [a] := by
  unfold Dj
  by_cases h : a ∈ m.map (·.1)
  · have h1 : m.any (fun p => decide (p.1 = a)) = true := by
      obtain ⟨p, j, e⟩ := List.mem_map.1 h
      exact List.any_eq_true.2 ⟨p, j, decide_eq_true e⟩
    rw [if_pos h, if_pos h1, List.map_map]
    refine List.map_congr_left (fun p _ => ?_)
    show (if p.1 = a then (a, ()) else p).1 = p.1
    split
    · rename_i e; exact e.symm
    · rfl
  · have h1 : ¬ m.any (fun p => decide (p.1 = a)) = true := fun q => by
      obtain ⟨p, j, e⟩ := List.any_eq_true.1 q
      exact h (List.mem_map.2 ⟨p, j, of_decide_eq_true e⟩)
    rw [if_neg h, if_neg h1, List.map_append]; rfl
theorem Vp (m : List (Int × Unit)) (a : Int) (h : (m.map (·.1)).Nodup) : ((Dj m a ()).map (·.1)).Nodup ∧ ∀ x, x ∈ (Dj m a ()).map (·.1) ↔ (x ∈ m.map (·.1) ∨ x = a) := by
  rw [Ze]
  by_cases h1 : a ∈ m.map (·.1)
  · rw [if_pos h1]
    exact ⟨h, fun x => ⟨.inl, fun q => q.elim id (fun e => e ▸ h1)⟩⟩
  · rw [if_neg h1]
    exact ⟨List.nodup_append.2 ⟨h, by simp, fun x o y j e => by rw [List.mem_singleton] at j; exact h1 (by rw [← j, ← e]; exact o)⟩, fun x => by rw [List.mem_append, List.mem_singleton]⟩
theorem SeenI.nil : SeenI [] [] := ⟨by simp, fun x => by simp⟩
theorem SeenI.add {m : List (Int × Unit)} {sp : List Spt} (h : SeenI m sp) (x : Spt) : SeenI (Dj m x.t ()) (sp ++ [x]) := by
  obtain ⟨h1, j⟩ := Vp m x.t h.1
  refine ⟨h1, fun y => ?_⟩
  rw [j, h.2]
  constructor
  · rintro (⟨s, hs, e⟩ | e)
    · exact ⟨s, List.mem_append.2 (.inl hs), e⟩
    · exact ⟨x, List.mem_append.2 (.inr (by simp)), e.symm⟩
  · rintro ⟨s, hs, e⟩
    rcases List.mem_append.1 hs with q | q
    · exact .inl ⟨s, q, e⟩
    · rw [List.mem_singleton] at q; exact .inr (by rw [← e, q])
theorem SeenI.mem {m : List (Int × Unit)} {sp : List Spt} (h : SeenI m sp) {n : Nat} (C : ∀ s ∈ sp, 0 ≤ s.t ∧ s.t < (n : Int)) (x : Int) : x ∈ m.map (·.1) ↔ x ∈ Fp (Aa n sp) := by
  rw [h.2]
  unfold Fp Aa
  constructor
  · rintro ⟨s, j, e⟩
    have := C s j
    exact List.mem_map.2 ⟨x.toNat, List.mem_filter.2 ⟨List.mem_range.2 ω, by unfold DJ; exact decide_eq_true ⟨s, j, by omega⟩⟩, by show ((_ : Nat) : Int) = x; omega⟩
  · intro h9
    obtain ⟨k, hk, e⟩ := List.mem_map.1 h9
    obtain ⟨s, j, o⟩ := of_decide_eq_true (List.mem_filter.1 hk).2
    exact ⟨s, j, by rw [o]; exact e⟩
theorem SeenI.len {m : List (Int × Unit)} {sp : List Spt} (h : SeenI m sp) {n : Nat} (j : ∀ s ∈ sp, 0 ≤ s.t ∧ s.t < (n : Int)) : m.length ≤ n := by
  have o := ((List.perm_ext_iff_of_nodup h.1 ((JN n sp).imp (fun {a b} h e => by omega))).2 (h.mem j)).length_eq
  rw [List.length_map, Gd] at o
  have := DX n sp
  omega
theorem SeenI.wf {m : List (Int × Unit)} {sp : List Spt} (h : SeenI m sp) {n : Nat} (J : n ≤ 9000000000000000) (o : ∀ s ∈ sp, 0 ≤ s.t ∧ s.t < (n : Int)) : ∀ p ∈ m, (Lit.int .i64 p.1).wf = true := fun p C => by
  obtain ⟨s, I, e⟩ := (h.2 p.1).1 (List.mem_map.2 ⟨p, C, rfl⟩)
  have j := o s I
  rw [e] at j
  show (decide (_ ≤ _) && decide (_ ≤ _)) = true
  rw [Bool.and_eq_true, decide_eq_true_eq, decide_eq_true_eq]
  show (-9223372036854775808 : Int) ≤ p.1 ∧ p.1 ≤ 9223372036854775807
  omega
theorem SeenI.sorted {m : List (Int × Unit)} {sp : List Spt} (h : SeenI m sp) {n : Nat} (j : ∀ s ∈ sp, 0 ≤ s.t ∧ s.t < (n : Int)) : Us (m.map (·.1)) = Fp (Aa n sp) := YW h.1 (JN n sp) (h.mem j)
section
variable (l : List Vc.Item) (fs : List (List (List AQ)))
theorem Lc : ∀ (n i : Nat), ∀ s ∈ Ds l fs n i, 0 ≤ s.t ∧ s.t < (fs.length : Int) ∧ (i : Int) ≤ s.fr ∧ s.fr < s.to ∧ s.to ≤ (l.length : Int)
  | 0, i, s, h => by cases h
  | n + 1, i, s, h => by
    rcases Nat.lt_or_ge i l.length with hi | hi
    · unfold Ds at h
      cases hb : Bq l fs i fs.length with
      | none =>
        rw [hb] at h
        have := Lc n (i + 1) s h
        omega
      | some q =>
        rw [hb] at h
        have h3 := Fc l fs hi _ _ hb
        rcases List.mem_cons.1 h with rfl | h
        · show 0 ≤ (q.1 : Int) ∧ (q.1 : Int) < _ ∧ (i : Int) ≤ (i : Int) ∧ (i : Int) < q.2 ∧ q.2 ≤ _
          omega
        · have := Lc n q.2.toNat s h
          omega
    · rw [DF l fs _ i hi] at h; cases h
theorem Yz {i : Nat} : ∀ s ∈ AR l fs i, 0 ≤ s.t ∧ s.t < (fs.length : Int) ∧ (i : Int) ≤ s.fr ∧ s.fr < s.to ∧ s.to ≤ (l.length : Int) := Lc l fs _ i
theorem Lz : ∀ (n i : Nat), (Ds l fs n i).length ≤ l.length - i
  | 0, i => by simp [Ds]
  | n + 1, i => by
    rcases Nat.lt_or_ge i l.length with hi | hi
    · unfold Ds
      cases hb : Bq l fs i fs.length with
      | none => have := Lz n (i + 1); show (Ds l fs n (i + 1)).length ≤ _; omega
      | some q =>
        have h3 := Fc l fs hi _ _ hb
        have := Lz n q.2.toNat
        show ((⟨_, _, _⟩ : Spt) :: Ds l fs n q.2.toNat).length ≤ _
        rw [List.length_cons]; omega
    · rw [DF l fs _ i hi]; simp
end
variable (tg : List Vc.Item) (ts : List TermL)
def G2 (x : TermL) : Bool := !(x.req.isEmpty) && !(x.req.any (fun s => FD s tg))
def BR (ks : List Nat) : List Nat := ks.filter (fun k => G2 tg (ts.getD k default))
theorem Pq {j : List Nat} {k : Nat} (hk : k < j.length) (h : G2 tg (ts.getD (j.getD k default) default) = true) : BR tg ts (j.take (k + 1)) = BR tg ts (j.take k) ++ [j.getD k default] := by
  unfold BR; rw [Ai j k hk, List.filter_append, List.filter_cons, if_pos h]; rfl
theorem Ru {j : List Nat} {k : Nat} (hk : k < j.length) (h : G2 tg (ts.getD (j.getD k default) default) = false) : BR tg ts (j.take (k + 1)) = BR tg ts (j.take k) := by
  unfold BR; rw [Ai j k hk, List.filter_append, List.filter_cons, if_neg (by rw [h]; decide)]; simp
theorem HK (j : List Nat) : (BR tg ts j).length ≤ j.length := List.length_filter_le _ _
theorem Ho {sp : List Spt} (i : Nat) : Aa (i + 1) sp = Aa i sp ++ (if DJ sp i then [i] else []) := by
  unfold Aa; rw [List.range_succ, List.filter_append, List.filter_cons]; rfl
def JQ (sp : List Spt) (i : Nat) : List Nat := BR tg ts (Aa i sp)
theorem Pw {sp : List Spt} {i : Nat} (h : DJ sp i = true ∧ G2 tg (ts.getD i default) = true) : JQ tg ts sp (i + 1) = JQ tg ts sp i ++ [i] := by
  unfold JQ; rw [Ho, if_pos h.1]; unfold BR; rw [List.filter_append, List.filter_cons, if_pos h.2]; rfl
theorem R7 {sp : List Spt} {i : Nat} (h : ¬ (DJ sp i = true ∧ G2 tg (ts.getD i default) = true)) : JQ tg ts sp (i + 1) = JQ tg ts sp i := by
  unfold JQ
  rw [Ho]
  by_cases h1 : DJ sp i = true
  · rw [if_pos h1]; unfold BR; rw [List.filter_append, List.filter_cons, if_neg (fun q => h ⟨h1, q⟩)]; simp
  · rw [if_neg h1, List.append_nil]
def Gk (o : List AQ) (fs : List AQ) : List AQ := fs.foldl (fun o s => if FD s tg then Dd o s else o) o
def BZ (o : List AQ) (ks : List Nat) : List AQ := ks.foldl (fun o k => Gk tg o (ts.getD k default).forb) o
theorem JK {o fs : List AQ} {k : Nat} (hk : k < fs.length) : Gk tg o (fs.take (k + 1)) = if FD (fs.getD k default) tg then Dd (Gk tg o (fs.take k)) (fs.getD k default) else Gk tg o (fs.take k) := by
  unfold Gk; rw [Ai fs k hk, List.foldl_append]; rfl
theorem Rw {o : List AQ} {j : List Nat} {k : Nat} (hk : k < j.length) : BZ tg ts o (j.take (k + 1)) = Gk tg (BZ tg ts o (j.take k)) (ts.getD (j.getD k default) default).forb := by
  unfold BZ; rw [Ai j k hk, List.foldl_append]; rfl
theorem Mb : ∀ (fs o : List AQ), o.Pairwise (fun a b => a < b) → (Gk tg o fs).Pairwise (fun a b => a < b)
  | [], _, h => h
  | s :: r, o, h => by
    show (Gk tg (if FD s tg then Dd o s else o) r).Pairwise _
    refine Mb r _ ?_
    split
    · exact Gz s h
    · exact h
theorem G8 : ∀ (ks : List Nat) (o : List AQ), o.Pairwise (fun a b => a < b) → (BZ tg ts o ks).Pairwise (fun a b => a < b)
  | [], _, h => h
  | k :: r, o, h => G8 r _ (Mb tg _ _ h)
theorem TX (s : AQ) : ∀ o : List AQ, (Dd o s).length ≤ o.length + 1 := fun o => Ir o s
theorem Nt : ∀ (fs o : List AQ), (Gk tg o fs).length ≤ o.length + fs.length
  | [], o => by simp [Gk]
  | s :: r, o => by
    have h := Nt r (if FD s tg then Dd o s else o)
    show (Gk tg (if FD s tg then Dd o s else o) r).length ≤ _
    rw [List.length_cons]
    have j := TX s o
    have C : (if FD s tg then Dd o s else o).length ≤ o.length + 1 := by split <;> omega
    omega
theorem H9 {B : Nat} (hB : ∀ k, (ts.getD k default).forb.length ≤ B) : ∀ (ks : List Nat) (o : List AQ), (BZ tg ts o ks).length ≤ o.length + ks.length * B
  | [], o => by simp [BZ]
  | k :: r, o => by
    have h := H9 hB r (Gk tg o (ts.getD k default).forb)
    have h2 := Nt tg (ts.getD k default).forb o
    have h3 := hB k
    show (BZ tg ts (Gk tg o (ts.getD k default).forb) r).length ≤ _
    rw [List.length_cons, Nat.add_mul]; omega
theorem Xd {fs o : List AQ} {x : AQ} (h : x ∈ Gk tg o fs) : x ∈ o ∨ x ∈ fs := by
  induction fs generalizing o with
  | nil => exact .inl h
  | cons s r ih =>
    rcases ih (o := if FD s tg then Dd o s else o) h with q | q
    · split at q
      · rcases HL.1 q with q | q
        · exact .inl q
        · exact .inr (by rw [q]; simp)
      · exact .inl q
    · exact .inr (List.mem_cons_of_mem _ q)
theorem Tj {C : List Nat} {o : List AQ} {x : AQ} (h : x ∈ BZ tg ts o C) : x ∈ o ∨ ∃ k ∈ C, x ∈ (ts.getD k default).forb := by
  induction C generalizing o with
  | nil => exact .inl h
  | cons k r ih =>
    rcases ih (o := Gk tg o (ts.getD k default).forb) h with q | ⟨j, hj, q⟩
    · rcases Xd tg q with q | q
      · exact .inl q
      · exact .inr ⟨k, by simp, q⟩
    · exact .inr ⟨j, List.mem_cons_of_mem _ hj, q⟩
def Fq (sp : List Spt) (i : Nat) : List AQ := BZ tg ts [] (Aa i sp)
theorem Tm {sp : List Spt} {i : Nat} (h : DJ sp i = true) : Fq tg ts sp (i + 1) = Gk tg (Fq tg ts sp i) (ts.getD i default).forb := by
  unfold Fq; rw [Ho, if_pos h]; unfold BZ; rw [List.foldl_append]; rfl
theorem WV {sp : List Spt} {i : Nat} (h : DJ sp i = false) : Fq tg ts sp (i + 1) = Fq tg ts sp i := by
  unfold Fq; rw [Ho, if_neg (by rw [h]; decide), List.append_nil]
end Go.Proofs.YtlfjocbnbceceaaGreatDoor
namespace Go.Proofs
open Go.RowKit Go.Maps Go.Sort Go.Shelf Go.Proofs.Tryz
def Tryz.keys189_ren : Go.Shelf.Ren := ⟨fun | 7 => 189 | 10 => 211 | n => n, fun | 23 => 195 | 26 => 3 | 3 => 172 | 28 => 198 | 0 => 0 | 27 => 197 | 33 => 106 | 4 => 4 | n => n, fun | n => n⟩
theorem Tryz.keys189 : Go.Proofs.SlLaysZI.n7 Tryz.prog Tryz.keys189_ren := {
  mixed := by kernel_rfl
  f7 := ⟨Tryz.f189.name, by decide, Tryz.func189.trans (congrArg some (by kernel_rfl))⟩
  f10 := ⟨Tryz.f211.name, by decide, Tryz.func211.trans (congrArg some (by kernel_rfl))⟩
  t0 := underlying0
  a0 := isAgg0
  z0 := sizeOf0
  v0 := zeroValue0
  t4 := underlying4
  a4 := isAgg4
  z4 := sizeOf4
  v4 := zeroValue4
  t23 := underlying195
  a23 := isAgg195
  z23 := sizeOf195
  v23 := zeroValue195
  t26 := underlying3
  a26 := isAgg3
  z26 := sizeOf3
  v26 := zeroValue3
  t27 := underlying197
  a27 := isAgg197
  z27 := sizeOf197
  v27 := zeroValue197
  t28 := underlying198
  a28 := isAgg198
  z28 := sizeOf198
  v28 := zeroValue198
  t33 := underlying106
  a33 := isAgg106
  z33 := sizeOf106
  v33 := zeroValue106 }
def Tryz.sorted188_ren : Go.Shelf.Ren := ⟨fun | 6 => 188 | 8 => 209 | 9 => 210 | 11 => 228 | 13 => 69 | 12 => 229 | 23 => 122 | 24 => 123 | 14 => 240 | 15 => 241 | 16 => 242 | 17 => 243 | 18 => 244 | 19 => 245 | 20 => 246 | 21 => 247 | 22 => 248 | 25 => 254 | 26 => 162 | 27 => 163 | 28 => 255 | 29 => 256 | 30 => 70 | 31 => 257 | n => n, fun | 26 => 3 | 28 => 198 | 24 => 22 | 0 => 0 | 3 => 3 | 37 => 105 | 48 => 151 | 50 => 153 | 4 => 4 | 40 => 144 | 39 => 143 | 45 => 148 | 5 => 5 | 9 => 9 | 51 => 177 | 55 => 181 | 57 => 204 | 58 => 131 | 33 => 106 | n => n, fun | n => n⟩
theorem Tryz.sorted188 : Go.Proofs.SlLaysZI.n6 Tryz.prog Tryz.sorted188_ren := {
  mixed := by kernel_rfl
  f6 := ⟨Tryz.f188.name, by decide, Tryz.func188.trans (congrArg some (by kernel_rfl))⟩
  f8 := ⟨Tryz.f209.name, by decide, Tryz.func209.trans (congrArg some (by kernel_rfl))⟩
  f11 := ⟨Tryz.f228.name, by decide, Tryz.func228.trans (congrArg some (by kernel_rfl))⟩
  t0 := underlying0
  a0 := isAgg0
  z0 := sizeOf0
  v0 := zeroValue0
  t24 := underlying22
  a24 := isAgg22
  z24 := sizeOf22
  v24 := zeroValue22
  t26 := underlying3
  a26 := isAgg3
  z26 := sizeOf3
  v26 := zeroValue3
  t28 := underlying198
  a28 := isAgg198
  z28 := sizeOf198
  v28 := zeroValue198
  i26 := by kernel_rfl }
def Tryz.sort210_ren : Go.Shelf.Ren := ⟨fun | 5 => 210 | 8 => 69 | 7 => 229 | 19 => 122 | 20 => 123 | 10 => 240 | 11 => 241 | 12 => 242 | 13 => 243 | 14 => 244 | 15 => 245 | 16 => 246 | 17 => 247 | 18 => 248 | 30 => 254 | 31 => 162 | 32 => 163 | 33 => 255 | 34 => 256 | 35 => 70 | 40 => 257 | n => n, fun | 23 => 22 | 25 => 3 | 3 => 3 | 32 => 105 | 22 => 22 | 0 => 0 | 44 => 151 | 46 => 153 | 4 => 4 | 36 => 144 | 35 => 143 | 41 => 148 | 5 => 5 | 9 => 9 | 53 => 177 | 57 => 181 | 63 => 204 | 64 => 131 | n => n, fun | n => n⟩
theorem Tryz.sort210 : Go.Proofs.SlLaysM.n5 Tryz.prog Tryz.sort210_ren := {
  mixed := by kernel_rfl
  f5 := ⟨Tryz.f210.name, by decide, Tryz.func210.trans (congrArg some (by kernel_rfl))⟩
  f7 := ⟨Tryz.f229.name, by decide, Tryz.func229.trans (congrArg some (by kernel_rfl))⟩
  f8 := Tryz.func69.trans (congrArg some (by kernel_rfl))
  f10 := ⟨Tryz.f240.name, by decide, Tryz.func240.trans (congrArg some (by kernel_rfl))⟩
  f11 := ⟨Tryz.f241.name, by decide, Tryz.func241.trans (congrArg some (by kernel_rfl))⟩
  f12 := ⟨Tryz.f242.name, by decide, Tryz.func242.trans (congrArg some (by kernel_rfl))⟩
  f13 := ⟨Tryz.f243.name, by decide, Tryz.func243.trans (congrArg some (by kernel_rfl))⟩
  f14 := ⟨Tryz.f244.name, by decide, Tryz.func244.trans (congrArg some (by kernel_rfl))⟩
  f15 := ⟨Tryz.f245.name, by decide, Tryz.func245.trans (congrArg some (by kernel_rfl))⟩
  f16 := ⟨Tryz.f246.name, by decide, Tryz.func246.trans (congrArg some (by kernel_rfl))⟩
  f17 := ⟨Tryz.f247.name, by decide, Tryz.func247.trans (congrArg some (by kernel_rfl))⟩
  f18 := ⟨Tryz.f248.name, by decide, Tryz.func248.trans (congrArg some (by kernel_rfl))⟩
  f19 := Tryz.func122.trans (congrArg some (by kernel_rfl))
  f20 := Tryz.func123.trans (congrArg some (by kernel_rfl))
  f30 := ⟨Tryz.f254.name, by decide, Tryz.func254.trans (congrArg some (by kernel_rfl))⟩
  f31 := Tryz.func162.trans (congrArg some (by kernel_rfl))
  f32 := Tryz.func163.trans (congrArg some (by kernel_rfl))
  f33 := ⟨Tryz.f255.name, by decide, Tryz.func255.trans (congrArg some (by kernel_rfl))⟩
  f34 := ⟨Tryz.f256.name, by decide, Tryz.func256.trans (congrArg some (by kernel_rfl))⟩
  f35 := ⟨Tryz.f70.name, by decide, Tryz.func70.trans (congrArg some (by kernel_rfl))⟩
  f40 := ⟨Tryz.f257.name, by decide, Tryz.func257.trans (congrArg some (by kernel_rfl))⟩
  t0 := underlying0
  a0 := isAgg0
  z0 := sizeOf0
  v0 := zeroValue0
  t3 := underlying3
  a3 := isAgg3
  z3 := sizeOf3
  v3 := zeroValue3
  t4 := underlying4
  a4 := isAgg4
  z4 := sizeOf4
  v4 := zeroValue4
  t5 := underlying5
  a5 := isAgg5
  z5 := sizeOf5
  v5 := zeroValue5
  t9 := underlying9
  a9 := isAgg9
  z9 := sizeOf9
  v9 := zeroValue9
  t22 := underlying22
  a22 := isAgg22
  z22 := sizeOf22
  v22 := zeroValue22
  t23 := underlying22
  a23 := isAgg22
  z23 := sizeOf22
  v23 := zeroValue22
  t25 := underlying3
  a25 := isAgg3
  z25 := sizeOf3
  v25 := zeroValue3
  t32 := underlying105
  a32 := isAgg105
  z32 := sizeOf105
  v32 := zeroValue105
  t35 := underlying143
  a35 := isAgg143
  z35 := sizeOf143
  v35 := zeroValue143
  t36 := underlying144
  a36 := isAgg144
  z36 := sizeOf144
  v36 := zeroValue144
  t41 := underlying148
  a41 := isAgg148
  z41 := sizeOf148
  v41 := zeroValue148
  t44 := underlying151
  a44 := isAgg151
  z44 := sizeOf151
  v44 := zeroValue151
  t46 := underlying153
  a46 := isAgg153
  z46 := sizeOf153
  v46 := zeroValue153
  t53 := underlying177
  a53 := isAgg177
  z53 := sizeOf177
  v53 := zeroValue177
  t57 := underlying181
  a57 := isAgg181
  z57 := sizeOf181
  v57 := zeroValue181
  t63 := underlying204
  a63 := isAgg204
  z63 := sizeOf204
  v63 := zeroValue204
  t64 := underlying131
  a64 := isAgg131
  z64 := sizeOf131
  v64 := zeroValue131 }
theorem Tryz.sorts188 (m : Nat) : AnyZI.SortsIn Tryz.prog Tryz.sorted188_ren Fence.wide m :=
  ⟨fun j off cap ss W hH hblk o => callsIn_wide.2 (AnyM.slices_Sort_int Tryz.sort210 j off cap ss W hH hblk o),
   fun p cap W => callsIn_wide.2 (AnyM.slices_Sort_int_none Tryz.sort210 p cap W)⟩
theorem Tryz.maps_Keys_189 (j : Option Nat) (W : World) : CallsIn Fence.wide 5 Tryz.prog 189 #[.map j] W fun e w' => e = .returned (.func (.func 211) #[] #[.pointer (some ⟨W.heap.size, 0, none⟩)]) ∧ w' = W.alloc (.cells #[.map j] 195) :=
  AnyZI.keys_in Tryz.keys189 Fence.wide 5 trivial rfl j W
set_option maxHeartbeats 1000000 in
theorem Tryz.slices_Sorted_keys_188_189 {H : Type} (b nn : Nat) (C : DataW H) (R : Value → Option (DataW H × List MemPlace)) (w : World) (o : w.ownsMap Tryz.prog 3 R b nn C) (I : Maps.size C ≤ maxLen) (j : Maps.size C * 8 ≤ 140737488355328) :
    CallsIn Fence.wide 5 Tryz.prog 188 #[.func (.func 211) #[] #[.pointer (some ⟨w.heap.size, 0, none⟩)]] (w.alloc (.cells #[.map (some b)] 195)) fun e w' => ∃ (v : Value) (ss : List Int), e = .returned v ∧ ss.Perm (intKeys C) ∧
      w'.ownsRow (w.alloc (.cells #[.map (some b)] 195)).heap.size 3 1 v ss.length ((ss.mergeSort (fun x y => decide (x ≤ y))).map encZ) ∧ (v = .slice none 0 0 ↔ ss = []) ∧ Below (w.alloc (.cells #[.map (some b)] 195)).heap.size (w.alloc (.cells #[.map (some b)] 195)) w' := by
  have U := o.lt
  have J : SeqGives Fence.wide 2 Tryz.prog 211 #[.pointer (some ⟨w.heap.size, 0, none⟩)] encZ (fun ss => ss.Perm (intKeys C)) (Maps.size C) (w.alloc (.cells #[.map (some b)] 195)) :=
    AnyZI.keys_gives (ρ := Tryz.keys189_ren) { Tryz.keys189 with } Fence.wide _ trivial rfl (by omega) w.heap.size b nn C _ (by simp) (by simp) (by
      obtain ⟨es, clock, hb, Ft, hs, hD⟩ := o
      exact ⟨es, clock, (Below.heap_alloc _ _ b U).trans hb, Ft, hs, hD⟩)
  exact AnyZI.sorted_in Tryz.sorted188 Fence.wide 5 trivial trivial trivial trivial rfl (by omega) (Tryz.sorts188 _) (enters_of func210 (by kernel_rfl) rfl) 211 #[.pointer (some ⟨w.heap.size, 0, none⟩)] trivial (enters_of func211 (by kernel_rfl) rfl) _ _ I j _ J
end Go.Proofs
namespace Go.Proofs.YtlfjocbnbceceaaGreatDoor
open Go.RowKit Go.Vc Go.Proofs.Tryz
theorem Sf {w : World} {b : Nat} : Calls Tryz.prog 189 #[.map (some b)] w fun e w' => e = .returned (.func (.func 211) #[] #[.pointer (some ⟨w.heap.size, 0, none⟩)]) ∧ Evo w w' [] ∧ w' = w.alloc (.cells #[.map (some b)] 195) :=
  (callsIn_wide.1 (Tryz.maps_Keys_189 (some b) w)).mono fun e w' ⟨h1, j⟩ => ⟨h1, by subst j; exact JF (Below.refl _ _ |>.alloc (Nat.le_refl _) _), j⟩
theorem Oq {w w1 : World} {b : Nat} {β : Type} {I : β → Value} {m : List (Int × β)} (hm : MapIs w b (Value.int .i64) I m) (hk : w1 = w.alloc (.cells #[.map (some b)] 195)) (U : ∀ p ∈ m, (Lit.int .i64 p.1).wf = true) (R : m.length * 8 ≤ 140737488355328) :
    Calls Tryz.prog 188 #[.func (.func 211) #[] #[.pointer (some ⟨w.heap.size, 0, none⟩)]] w1 fun e w' => ∃ v, e = .returned v ∧ Evo w1 w' [] ∧ OwnE w' w1.heap.size 3 v (Us (m.map (·.1))) := by
  subst hk
  obtain ⟨D, J, C, o⟩ := VM (P := Tryz.prog) (K := 3) underlying3 hm (by unfold maxLen; omega) U
  refine (callsIn_wide.1 (Tryz.slices_Sorted_keys_188_189 b m.length D R0 w J (by rw [C]; unfold maxLen; omega) (by rw [C]; exact R))).mono ?_
  rintro e w' ⟨v, ss, rfl, hS, hrow, _, hbl⟩
  have hlen : ss.length = m.length := by have := (hS.trans o).length_eq; simpa using this
  have j : Us (m.map (·.1)) = ss.mergeSort (fun x y => decide (x ≤ y)) := (mergeSort_of_perm_i (hS.trans o)).symm
  refine ⟨v, rfl, JF hbl, ?_⟩
  rw [j]
  exact OwnE.of1 (enc1 := encZ) rfl (fun _ => rfl) θ (by rw [show (ss.mergeSort (fun x y => decide (x ≤ y))).length = ss.length from by simp]; exact hrow)
set_option maxHeartbeats 1000000 in
theorem Mf {a8 : Option Addr} {bF bs R : Nat} {ts : List TermL} {ao : Option Addr} {b off cap : Nat} {c : List Clas} {a7 : Option Addr} {bl bq J : Nat} {l : List Vc.Item} {I : World} (ht : RowR I a8 bF bs R ts) (hc : RowR I ao b off cap c) (hl : RowE I a7 bl bq J l) (hq : ∀ x ∈ l, x.text.length ≤ 140737488355328) (b2 : l.length ≤ 4398046510976) (b3 : ts.length ≤ 1954687338760) :
    Calls Tryz.prog 155 #[.slice a8 ts.length R, .slice ao c.length cap, .slice a7 l.length J] I fun e w' => ∃ v, e = .returned v ∧ Evo I w' [] ∧ OwnE w' I.heap.size 3 v (Fp (Aa ts.length (AR l (BG c ts) 0))) := by
 refine AG (n := 28) func155 rfl ntmps155 rfl ?_
 have o : Evo I I [] := Evo.refl _ _
 have bp := ht.keep
 have bz := ht.bd
 have bb := hc.keep
 have bw := hc.bd
 have bg := Ak hl
 have bx := hl.bd
 refine Zs (Zn Bs (Zs (GI (α := Int) (β := Unit) (Value.int .i64) eU rfl ?_)))
 intro b1 w2 J1 E2 j Y1
 have Q2 := E2.size
 replace o := Z0 o E2
 replace ht := bp.now o
 replace hc := bb.now o
 replace hl := bg _ o
 refine Zn Wk (AB (Zs (Zo Ar (Zo Ar (Zo Ar (Zr [.slice _ _ _, .slice _ _ _, .slice _ _ _] rfl η func187 (SA ht hc hl hq b2 b3) ?_))))))
 rintro e w3 ⟨cr, rfl, F3, hoS3⟩
 refine ⟨_, rfl, ?_⟩
 have Q3 := F3.size
 replace o := Z0 o F3
 replace ht := bp.now o
 replace hc := bb.now o
 replace hl := bg _ o
 replace j := j.evo0 F3
 refine Zo (Bn rfl η underlying158 hoS3) (Zn AN (AD ?_))
 have C : Evo w3 w3 [b1] := Evo.refl _ _
 obtain ⟨ca, g5, cc, b0, bW, bL⟩ := hoS3.rowOf
 subst b0
 have U := fun w9 (h9 : Evo w3 w9 [b1]) => Cg bW h9 (fun bQ hm => by have h2 := (bL bQ).2; simp at hm; omega)
 have bY := Lz l (BG c ts) l.length 0; have b6 : (AR l (BG c ts) 0).length ≤ l.length := bY
 refine AZ (α := Nat) [9, 16, 17, 18, 19, 20, 21, 22, 23, 24] (fun k g w => ∃ m : List (Int × Unit), g 16 = .int .i64 (k : Nat) ∧ k ≤ (AR l (BG c ts) 0).length ∧ MapIs w b1 (Value.int .i64) eU m ∧ SeenI m ((AR l (BG c ts) 0).take k) ∧ w3.heap.size ≤ w.heap.size ∧ Evo I w [] ∧ Evo w3 w [b1]) (fun k => (AR l (BG c ts) 0).length - k) 0 ?_ ?_
 refine ⟨_, σ, δ, j, SeenI.nil, δ, o, C⟩
 rintro k g w7 ⟨m, hj8, hk_k, j, hks, hzl6, o, C⟩
 have bm := o.size
 have a1 := C.size
 have b5 := j.lt
 refine Zk 16 hj8 (Zs (Zn Bu (AB (AE η (fun bc => ?_) (fun bc => ?_)))))
 refine AF (AB (AD (Zs (Zo (AV (k) rfl underlying158 Er η η χ ω ((U _ C).addr (i := k) ω)) ?_))))
 have az := fun (w' : World) (h : Evo w3 w' [b1]) => (U w' h).atD (k) ω
 refine Zo (AY rfl Ta Er η rfl (az _ C)) (CO (zs := [_, _, _]) (vs := [_, _, _]) Er η rfl η (fun _ => rfl) η rfl rfl η ?_)
 intro b12 w13 J12 E13 B12 Y12
 have b7 := E13.size
 replace o := Z0 o E13
 replace C := Z0 C E13
 replace j := j.evo0 E13
 refine As (AA (Zo O6 (Zo (AJ rfl η IV) (Zo (AH rfl A0 η (B12.at.cell 0 η)) (Zo (Aj (pv := []) (zs := []) (cells := []) rfl Jt η Oh η η) (Hb (a := _) (v := ()) (Zd underlying3) underlying195 η η η j ?_))))))
 intro w14 E14 V14 hm_new
 have b8 := E14.size
 replace o := Z1 o E14 ε
 replace C := Z1 C E14 ε
 replace j := hm_new
 clear hm_new
 refine As (AO (AA (Zo A8 (Zn AN (Zg (k + 1) ?_)))))
 refine ⟨_, σ, δ, j, (by rw [Ai _ k ω]; exact hks.add _), δ, o, C⟩
 refine AW rfl (AB ?_)
 rw [List.take_of_length_le ω] at hks; have aT : ∀ s ∈ (AR l (BG c ts) 0), 0 ≤ s.t ∧ s.t < (ts.length : Int) := fun s hs => by have h9 := Yz l (BG c ts) s hs; rw [Kz] at h9; omega
 refine AA (Zo O6 ?_)
 have bM := j
 refine Zr [.map _] rfl η func189 Sf ?_
 rintro e ct ⟨rfl, F15, hky15⟩
 refine ⟨_, rfl, ?_⟩
 have b9 := F15.size
 replace o := Z0 o F15
 refine Zr [.func _ _ _] rfl η func188 (Oq bM hky15 (hks.wf ω aT) (by have h9 := hks.len aT; omega)) ?_
 rintro e cH ⟨ag, rfl, F16, hsr16⟩
 refine ⟨_, rfl, ?_⟩
 have b_ := F16.size
 replace o := Z0 o F16
 refine Zn (AM (v := ag) rfl η) (AK (BN (v := ag) rfl η) ?_)
 exact ⟨_, rfl, o, by rw [← hks.sorted aT]; exact hsr16.base_le ω⟩
theorem cU : DH Tryz.prog 94 = some false := ζ
theorem Ea : CG Tryz.prog 85 1 = some 1 := ζ
theorem UU {tg : List Vc.Item} {x : TermL} (h : (0 : Int) < ((x.req.length : Nat) : Int) ∧ (!(x.req.any fun s => FD s tg)) = true) : G2 tg x = true := by
  unfold G2; rw [Bool.and_eq_true, Bool.not_eq_true', Bool.not_eq_true']; exact ⟨by cases h1 : x.req with | nil => rw [h1] at h; simp at h | cons a b => rfl, by simpa using h.2⟩
theorem Sp {tg : List Vc.Item} {x : TermL} (h : ¬ ((0 : Int) < ((x.req.length : Nat) : Int) ∧ (!(x.req.any fun s => FD s tg)) = true)) : G2 tg x = false := by
  rcases hm : G2 tg x with _ | _
  · rfl
  · refine absurd ?_ h
    unfold G2 at hm; rw [Bool.and_eq_true, Bool.not_eq_true', Bool.not_eq_true'] at hm; refine ⟨?_, by simpa using hm.2⟩
    cases h1 : x.req with | nil => rw [h1] at hm; exact absurd hm.1 υ | cons a b => rw [List.length_cons]; omega
theorem Uh {j : List AQ} {p : AQ → Bool} {k : Nat} (hk : k < j.length) (h : p (j.getD k default) = true) : j.any p = true := List.any_eq_true.2 ⟨_, A5 hk, h⟩
theorem YB {o : List AQ} {p : AQ → Bool} (h : ∀ j, j < o.length → ¬ p (o.getD j default) = true) : ¬ o.any p = true := fun q => by
  obtain ⟨x, J, I⟩ := List.any_eq_true.1 q
  obtain ⟨i, C, rfl⟩ := List.mem_iff_getElem.1 J
  exact h i C (by rw [List.getD_eq_getElem?_getD, List.getElem?_eq_getElem C]; exact I)
theorem S1 {o : Option Addr} {bg R j : Nat} {tg : List Vc.Item} {m : AQ} {bn : Nat} {I : World} (C : RowE I o bg R j tg) (ao : ∀ x ∈ tg, x.text.length ≤ 140737488355328) (az : tg.length ≤ 4398046510976) (hn : Blk I bn 94 [.slice o tg.length j]) :
    Calls Tryz.prog 156 #[S m, .pointer (some ⟨bn, 0, none⟩)] I fun e w' => e = .returned (.bool (FD m tg)) ∧ Evo I w' [] := by
 have U := hn.at; have a6 := hn.lt
 refine AG (n := 7) func156 rfl ntmps156 rfl ?_
 have hV : Evo I I [] := Evo.refl _ _
 have a7 := Ak C
 have J := C.bd
 refine Zs (Zn A6 (Zs (Zo Au (Zo (AH rfl cU η (U.cell 0 η)) (Zr [S _, .slice o tg.length j] rfl η func157 (PN C ao az) ?_)))))
 rintro e w1 ⟨rfl, F1⟩
 refine ⟨_, rfl, ?_⟩
 have Q1 := F1.size
 replace hV := Z0 hV F1
 refine Zn A6 (AK Dk ?_)
 exact ⟨rfl, hV⟩
theorem QX {aT : Option Addr} {bq bf R : Nat} {qs : List AQ} {ag : Option Addr} {bg bc o : Nat} {tg : List Vc.Item} {bn : Nat} {I : World} (a8 : RowE I aT bq bf R qs) (ba : RowE I ag bg bc o tg) (bt : ∀ x ∈ tg, x.text.length ≤ 140737488355328) (bw : tg.length ≤ 4398046510976) (J : Blk I bn 94 [.slice ag tg.length o]) :
    Calls Tryz.prog 193 #[.slice aT qs.length R, .func (.func 156) #[] #[.pointer (some ⟨bn, 0, none⟩)]] I fun e w' => ∃ r : Int, e = .returned (.int .i64 r) ∧ Evo I w' [] ∧ (0 ≤ r ↔ qs.any (fun s => FD s tg) = true) := by
 have bM := J.at; have bz := J.lt
 refine AG (n := 19) func193 rfl ntmps193 rfl ?_
 have C : Evo I I [] := Evo.refl _ _
 have U := Ak a8
 have a6 := a8.bd
 have bb := Ak ba
 have a7 := ba.bd
 refine Zs (Zn Ah (AB (Zs (Zo Ar (Zo (AL rfl η underlying77) (Zn AN (AD (AZ (α := Nat) [4, 5, 8, 9, 10, 11, 12, 13, 14, 15, 16, 17, 18] (fun k g w => g 8 = .int .i64 (k : Nat) ∧ k ≤ qs.length ∧ Blk w bn 94 [.slice ag tg.length o] ∧ (∀ j, j < k → ¬ FD (qs.getD j default) tg = true) ∧ I.heap.size ≤ w.heap.size ∧ Evo I w []) (fun k => qs.length - k) 0 ?_ ?_))))))))
 refine ⟨σ, δ, J, (fun j h => by omega), δ, C⟩
 rintro k g w2 ⟨bs, hk_k, J, hno, hzl1, C⟩
 have a_ := C.size
 have bx := J.lt
 refine Zk 8 bs (Zs (Zn Bu (AB (AE η (fun bp => ?_) (fun bp => ?_)))))
 refine AF (AB (AD (Zs (Zo AN (Zn Ah (Zs (Zo (AP (v := .func _ _ _) rfl η) (Zo Ar (Zo AN ?_)))))))))
 refine Zo (AV (k) rfl underlying77 BW η η χ ω ((U _ C).addr (i := k) ω)) ?_
 have a1 := fun (w' : World) (h : Evo I w' []) => (U w' h).atD (k) ω
 refine Zo (AH rfl BF η ((a1 _ C).cell 0 η)) (Dc rfl rfl rfl (Cm (vs := [S _]) (cs := [.pointer (some ⟨bn, 0, none⟩)]) rfl η η func156 rfl ζ) (S1 (bb _ C) bt bw J) ?_)
 rintro e w7 ⟨rfl, F7⟩
 refine ⟨_, rfl, ?_⟩
 have Q7 := F7.size
 replace C := Z0 C F7
 replace J := J.evo0 F7
 refine As (D8 η (fun ao => ?_) (fun ao => ?_))
 refine Zs (Zo AN (Zn Ah (AK CZ ?_)))
 exact ⟨_, rfl, C, ⟨fun _ => Uh ω ao, fun _ => by omega⟩⟩
 refine AF (AO (AA (Zo A8 (Zn AN (Zg (k + 1) ?_)))))
 refine ⟨σ, δ, J, (CS hno (by rw [ao]; decide)), δ, C⟩
 refine AW rfl (Zs (Zn Ah (AK CZ ?_)))
 exact ⟨_, rfl, C, ⟨fun h9 => absurd h9 ω, fun h9 => absurd h9 (YB (fun j hj => hno j ω))⟩⟩
theorem Nv {U : Option Addr} {bq aT o : Nat} {qs : List AQ} {R : Option Addr} {bg az j : Nat} {tg : List Vc.Item} {bn : Nat} {J : World} (C : RowE J U bq aT o qs) (I : RowE J R bg az j tg) (a8 : ∀ x ∈ tg, x.text.length ≤ 140737488355328) (a_ : tg.length ≤ 4398046510976) (hn : Blk J bn 94 [.slice R tg.length j]) :
    Calls Tryz.prog 158 #[.slice U qs.length o, .func (.func 156) #[] #[.pointer (some ⟨bn, 0, none⟩)]] J fun e w' => e = .returned (.bool (qs.any (fun s => FD s tg))) ∧ Evo J w' [] := by
 refine AG (n := 9) func158 rfl ntmps158 rfl ?_
 have hV : Evo J J [] := Evo.refl _ _
 have bb := Ak C
 have ag := C.bd
 have bc := Ak I
 have ao := I.bd
 refine Zs (Zn A6 (Zs (Zo Ar (Zo (AP (v := .func _ _ _) rfl η) (Zr [.slice _ _ _, .func _ _ _] rfl η func193 (QX C I a8 a_ hn) ?_)))))
 rintro e w1 ⟨r1, rfl, F1, hri1⟩
 refine ⟨_, rfl, ?_⟩
 have Q1 := F1.size
 replace hV := Z0 hV F1
 replace hn := hn.evo0 F1
 refine Zo (BQ rfl η η) (Zn A6 (AK Dk ?_))
 exact ⟨Ao (by have h9 := hri1; cases h8 : qs.any (fun s => FD s tg) <;> simp_all), hV⟩
set_option maxHeartbeats 1000000 in
theorem O2 {bL : Option Addr} {cR b9 a6 : Nat} {ts : List TermL} {ao : Option Addr} {b off cap : Nat} {c : List Clas} {bF : Option Addr} {bl b8 a1 : Nat} {l : List Vc.Item} {a_ : Option Addr} {bg b7 ag : Nat} {tg : List Vc.Item} {R : World} (ht : RowR R bL cR b9 a6 ts) (hc : RowR R ao b off cap c) (hl : RowE R bF bl b8 a1 l) (hq : ∀ x ∈ l, x.text.length ≤ 140737488355328) (db : l.length ≤ 4398046510976) (dc : ts.length ≤ 1954687338760) (bp : RowE R a_ bg b7 ag tg) (c4 : ∀ x ∈ tg, x.text.length ≤ 140737488355328) (da : tg.length ≤ 4398046510976) :
    Calls Tryz.prog 112 #[.slice bL ts.length a6, .slice ao c.length cap, .slice bF l.length a1, .slice a_ tg.length ag] R fun e w' => ∃ v, e = .returned v ∧ Evo R w' [] ∧ OwnE w' R.heap.size 3 v (Fp (BR tg ts (Aa ts.length (AR l (BG c ts) 0)))) := by
 refine AG (n := 46) func112 rfl ntmps112 rfl ?_
 have j : Evo R R [] := Evo.refl _ _
 have aT := ht.keep
 have cn := ht.bd
 have bY := hc.keep
 have cc := hc.bd
 have b4 := Ak hl
 have cg := hl.bd
 have a8 := Ak bp
 have bQ := bp.bd
 refine Zs (Ch (vs := [_]) η η rfl ?_)
 intro b1 w2 J1 E2 B1 Y1
 have Q2 := E2.size
 replace j := Z0 j E2
 replace ht := aT.now j
 replace hc := bY.now j
 replace hl := b4 _ j
 refine Zn Bs (Zs (Zn Bs (AB (Zs (Zo Ar (Zo Ar (Zo Ar (Zr [.slice _ _ _, .slice _ _ _, .slice _ _ _] rfl η func155 (Mf ht hc hl hq db dc) ?_))))))))
 rintro e w3 ⟨dy, rfl, F3, hoF3⟩
 refine ⟨_, rfl, ?_⟩
 have Q3 := F3.size
 replace j := Z0 j F3
 replace ht := aT.now j
 replace hc := bY.now j
 replace hl := b4 _ j
 replace bp := a8 _ j
 replace B1 := B1.evo0 F3
 refine Zo (Bn rfl η underlying22 hoF3) (Zn AN (AD ?_))
 have C : Evo w3 w3 [] := Evo.refl _ _
 obtain ⟨dk, g5, dp, c_, c9, dt⟩ := hoF3.rowOf
 subst c_
 have a7 := Ak c9
 have ds := DX ts.length (AR l (BG c ts) 0); have dw := Gd (Aa ts.length (AR l (BG c ts) 0))
 refine AZ (α := Nat) [9, 11, 12, 18, 19, 20, 21, 22, 23, 24, 25, 26, 27, 28, 29, 30, 31, 32, 33, 34, 35, 36, 37, 38, 39, 40, 41, 42, 43, 44] (fun k g w => ∃ vo : Value, g 18 = .int .i64 (k : Nat) ∧ g 9 = vo ∧ k ≤ (Fp (Aa ts.length (AR l (BG c ts) 0))).length ∧ OwnE w w3.heap.size 3 vo (Fp (BR tg ts ((Aa ts.length (AR l (BG c ts) 0)).take k))) ∧ Blk w b1 94 [.slice a_ tg.length ag] ∧ w3.heap.size ≤ w.heap.size ∧ Evo R w [] ∧ Evo w3 w []) (fun k => (Fp (Aa ts.length (AR l (BG c ts) 0))).length - k) 0 ?_ ?_
 refine ⟨_, σ, rfl, δ, (OwnE.nil _ _ _), B1, δ, j, C⟩
 rintro k g w7 ⟨vo, hj8, hj9, hk_k, o, B1, hzl6, j, C⟩
 have b6 := j.size
 have bx := C.size
 have c0 := B1.lt
 replace ht := aT.now j
 refine Zk 18 hj8 (Zk 9 hj9 (Zs (Zn Bu (AB (AE η (fun b0 => ?_) (fun b0 => ?_))))))
 refine AF (AB (AD (Zs (Zo (AV (k) rfl underlying22 Cf η η χ ω ((a7 _ C).addr (i := k) ω)) ?_))))
 have ba := fun (w' : World) (h : Evo w3 w' []) => (a7 w' h).atD (k) ω
 refine Zo (AH rfl A0 η ((ba _ C).cell 0 η)) (Zn Ah (AB ?_))
 have dv := HK tg ts ((Aa ts.length (AR l (BG c ts) 0)).take k); have du := Gd (BR tg ts ((Aa ts.length (AR l (BG c ts) 0)).take k)); have dx := List.length_take_le k (Aa ts.length (AR l (BG c ts) 0)); have b2 := HW (l := (Aa ts.length (AR l (BG c ts) 0))) (k := k) ω; have U := OX (sp := (AR l (BG c ts) 0)) (n := ts.length) (k := k) ω
 obtain ⟨dO, dQ, z29, z39, z49, z59, dR, z79, dS, dT, z109, z119, cV, dr, bm, dq⟩ := QE ht ((Aa ts.length (AR l (BG c ts) 0)).getD k default) U
 refine AA (Zo (Qj (vs := [.pointer _]) rfl η) (Zn (AM (v := .func _ _ _) rfl η) (Zs (Zo Ar (Zo AN (Zo (AV (((Aa ts.length (AR l (BG c ts) 0)).getD k default)) rfl underlying25 Ci η η b2 U (ht.addr (i := ((Aa ts.length (AR l (BG c ts) 0)).getD k default)) U)) ?_))))))
 obtain ⟨cQ, dh, cH, cb, cK, df, ct, ca, cI, de, cr, b_, hX⟩ := EP aT (((Aa ts.length (AR l (BG c ts) 0)).getD k default)) U
 have bb := fun (w' : World) (h : Evo R w' []) => (hX w' h).1
 have bn := fun (w' : World) (h : Evo R w' []) => (hX w' h).2.1
 have bf := fun (w' : World) (h : Evo R w' []) => (hX w' h).2.2.1
 have bc := fun (w' : World) (h : Evo R w' []) => (hX w' h).2.2.2
 clear hX
 have bw := (bn _ j).bd
 have bt := (bf _ j).bd
 have bs := (bc _ j).bd
 refine Zo (AJ rfl η Ea) (Zo (AH rfl EU η ((bb _ j).cell 1 η)) (Zo (AL rfl η underlying77) (Zo IG (Zo Br ?_))))
 refine Ab rfl Aq rfl (fun I => Ar) ?_
 refine Ab rfl Aq rfl (fun I => AN) ?_
 refine Ab rfl Aq rfl (fun I => AV (((Aa ts.length (AR l (BG c ts) 0)).getD k default)) rfl underlying25 Ci (Af I) (Af I) b2 U (ht.addr (i := ((Aa ts.length (AR l (BG c ts) 0)).getD k default)) U)) ?_
 refine Ab rfl Aq rfl (fun I => AJ rfl (Af I) Ea) ?_
 refine Ab rfl Aq rfl (fun I => AH rfl EU (Af I) (cV.cell 1 η)) ?_
 refine Ab rfl Aq rfl (fun I => AP (v := .func _ _ _) rfl η) ?_
 refine Bb rfl Aq rfl (fun I => Am rfl (An (v := .slice _ _ _) (Af I) (An (v := .func _ _ _) (Af I) (rfl))) func158 rfl ζ) (fun I => (Nv bm (a8 _ j) c4 da B1).mono (fun e w' h => ⟨h.1, h.2⟩)) (fun dz F15 => ?_)
 have di := F15.size
 replace j := Z0 j F15
 replace C := Z0 C F15
 replace o := o.evo0 F15
 replace B1 := B1.evo0 F15
 replace bm := bm.evo0 F15
 refine Ab rfl Aq rfl (fun I => ER rfl (Af I)) ?_
 refine Zn (Bg rfl η (fun hq => IK η (fun h => h) hq) rfl) ?_
 refine AE η (fun J => ?_) (fun J => ?_)
 refine AA (Zo (AP (v := vo) rfl η) (Zo AN (Ad (u := .int _ _) (y := _) rfl rfl underlying22 Cf η o (fun _ => η) η ξ₁ (τ) (τ) ω ?_)))
 intro q_v17 v17 w18 E18 hov17 hlv17
 have dj := E18.size
 replace j := AI j E18 (fun g I => .inl (by first | exact (o.block I).1 | (have := o.block I; omega)))
 replace C := AI C E18 (fun g I => .inl (by first | exact (o.block I).1 | (have := o.block I; omega)))
 replace B1 := B1.evo E18 (by intro hm; have b5 := Option.mem_toList.1 hm; first | (have := o.block b5; omega) | (simp [Value.ownBlock] at b5; omega))
 refine Zn (AM (v := v17) rfl η) (AO (AA (Zo A8 (Zn AN (Zg (k + 1) ?_)))))
 refine ⟨_, σ, rfl, δ, (by first | (rw [Pq tg ts ω (UU (tg := tg) (x := (ts.getD ((Aa ts.length (AR l (BG c ts) 0)).getD k default) default)) J), Kk, ← HW (l := (Aa ts.length (AR l (BG c ts) 0))) (k := k) ω]; exact hov17) | (rw [Ru tg ts ω (Sp (tg := tg) (x := (ts.getD ((Aa ts.length (AR l (BG c ts) 0)).getD k default) default)) J)]; exact hov17)), B1, δ, j, C⟩
 refine AF (AO (AA (Zo A8 (Zn AN (Zg (k + 1) ?_)))))
 refine ⟨_, σ, rfl, δ, (by first | (rw [Pq tg ts ω (UU (tg := tg) (x := (ts.getD ((Aa ts.length (AR l (BG c ts) 0)).getD k default) default)) J), Kk, ← HW (l := (Aa ts.length (AR l (BG c ts) 0))) (k := k) ω]; exact o) | (rw [Ru tg ts ω (Sp (tg := tg) (x := (ts.getD ((Aa ts.length (AR l (BG c ts) 0)).getD k default) default)) J)]; exact o)), B1, δ, j, C⟩
 refine AW rfl (Zs (Zo (AP (v := vo) rfl η) (Zn (AM (v := vo) rfl η) (AK (BN (v := vo) rfl η) ?_))))
 exact ⟨_, rfl, j, by rw [List.take_of_length_le ω] at o; exact o.base_le ω⟩
theorem Gx : CG Tryz.prog 85 2 = some 2 := ζ
def IH (x : TermL) : Prop := x.req.length ≤ 1048576 ∧ x.forb.length ≤ 1048576 ∧ (∀ s ∈ x.req, s.length ≤ 1000000000) ∧ ∀ s ∈ x.forb, s.length ≤ 1000000000
theorem JI {ts : List TermL} (h : ∀ x ∈ ts, IH x) (k : Nat) : IH (ts.getD k default) := by
  rcases Nat.lt_or_ge k ts.length with h1 | h1
  · exact h _ (A5 h1)
  · rw [List.getD_eq_getElem?_getD, List.getElem?_eq_none h1]; exact ⟨Nat.zero_le _, Nat.zero_le _, (fun s j => absurd j List.not_mem_nil), (fun s j => absurd j List.not_mem_nil)⟩
theorem Wr {m : List (AQ × Unit)} {o : List AQ} (h : KeyIs m o) {B : Nat} (j : ∀ s ∈ o, s.length ≤ B) : ∀ p ∈ m, p.1.length ≤ B := fun p C => j _ ((h.2 _).1 (List.mem_map.2 ⟨p, C, rfl⟩))
theorem YY {tg : List Vc.Item} {m : List (AQ × Unit)} {o fs : List AQ} {j : Nat} (h : KeyIs m (Gk tg o (fs.take j))) (I : j < fs.length) (C : FD (fs.getD j default) tg = true) : KeyIs (Dj m (fs.getD j default) ()) (Gk tg o (fs.take (j + 1))) := by rw [JK tg I, if_pos C]; exact h.add _
theorem aj {tg : List Vc.Item} {m : List (AQ × Unit)} {o fs : List AQ} {j : Nat} (h : KeyIs m (Gk tg o (fs.take j))) (I : j < fs.length) (C : ¬ FD (fs.getD j default) tg = true) : KeyIs m (Gk tg o (fs.take (j + 1))) := by rw [JK tg I, if_neg C]; exact h
theorem Ty {tg : List Vc.Item} {ts : List TermL} (h : ∀ x ∈ ts, IH x) {o : List Nat} : ∀ s ∈ BZ tg ts [] o, s.length ≤ 1000000000 := fun s j => by
  rcases Tj tg ts j with q | ⟨k, _, q⟩
  · cases q
  · exact (JI h k).2.2.2 s q
set_option maxHeartbeats 1000000 in
theorem TO {b4 : Option Addr} {dc cH a7 : Nat} {ts : List TermL} {ao : Option Addr} {b off cap : Nat} {c : List Clas} {b3 : Option Addr} {bl ct a6 : Nat} {l : List Vc.Item} {b2 : Option Addr} {bg cr a1 : Nat} {tg : List Vc.Item} {R : World} (ht : RowR R b4 dc cH a7 ts) (hc : RowR R ao b off cap c) (hl : RowE R b3 bl ct a6 l) (hq : ∀ x ∈ l, x.text.length ≤ 140737488355328) (dr : l.length ≤ 4398046510976) (ds : ts.length ≤ 1048576) (ag : RowE R b2 bg cr a1 tg) (dk : ∀ x ∈ tg, x.text.length ≤ 140737488355328) (dq : tg.length ≤ 4398046510976) (cg : ∀ x ∈ ts, IH x) :
    Calls Tryz.prog 113 #[.slice b4 ts.length a7, .slice ao c.length cap, .slice b3 l.length a6, .slice b2 tg.length a1] R fun e w' => ∃ v, e = .returned v ∧ Evo R w' [] ∧ OwnE w' R.heap.size 9 v (BZ tg ts [] (Aa ts.length (AR l (BG c ts) 0))) := by
 refine AG (n := 45) func113 rfl ntmps113 rfl ?_
 have C : Evo R R [] := Evo.refl _ _
 have aT := ht.keep
 have c0 := ht.bd
 have bp := hc.keep
 have cR := hc.bd
 have bs := Ak hl
 have cV := hl.bd
 have az := Ak ag
 have ca := ag.bd
 refine Zs (Zn Bs (Zs (GI (α := AQ) (β := Unit) S eU rfl ?_)))
 intro b1 w2 J1 E2 o Y1
 have Q2 := E2.size
 replace C := Z0 C E2
 replace ht := aT.now C
 replace hc := bp.now C
 replace hl := bs _ C
 refine Zn Wk (AB (Zs (Zo Ar (Zo Ar (Zo Ar (Zr [.slice _ _ _, .slice _ _ _, .slice _ _ _] rfl η func155 (Mf ht hc hl hq dr ω) ?_))))))
 rintro e w3 ⟨d_, rfl, F3, hoF3⟩
 refine ⟨_, rfl, ?_⟩
 have Q3 := F3.size
 replace C := Z0 C F3
 replace ht := aT.now C
 replace hc := bp.now C
 replace hl := bs _ C
 replace ag := az _ C
 replace o := o.evo0 F3
 refine Zo (Bn rfl η underlying22 hoF3) (Zn AN (AD ?_))
 have I : Evo w3 w3 [b1] := Evo.refl _ _
 obtain ⟨dR, g5, dU, dm, bt, de⟩ := hoF3.rowOf
 subst dm
 have a8 := fun w9 (h9 : Evo w3 w9 [b1]) => Cg bt h9 (fun dj hm => by have h2 := (de dj).2; simp at hm; omega)
 have dd := DX ts.length (AR l (BG c ts) 0); have dX := Gd (Aa ts.length (AR l (BG c ts) 0))
 refine AZ (α := Nat) [11, 13, 20, 21, 22, 23, 24, 25, 26, 27, 28, 29, 30, 31, 32, 33, 34, 35, 36, 37, 38, 39, 40, 41] (fun k g w => ∃ m : List (AQ × Unit), g 20 = .int .i64 (k : Nat) ∧ k ≤ (Fp (Aa ts.length (AR l (BG c ts) 0))).length ∧ MapIs w b1 S eU m ∧ KeyIs m (BZ tg ts [] ((Aa ts.length (AR l (BG c ts) 0)).take k)) ∧ w3.heap.size ≤ w.heap.size ∧ Evo R w [] ∧ Evo w3 w [b1]) (fun k => (Fp (Aa ts.length (AR l (BG c ts) 0))).length - k) 0 ?_ ?_
 refine ⟨_, σ, δ, o, ⟨by simp, fun x => by simp [BZ]⟩, δ, C, I⟩
 rintro k g w7 ⟨m, hj8, hk_k, o, hks, hzl6, C, I⟩
 have cn := C.size
 have b0 := I.size
 have dx := o.lt
 replace ht := aT.now C
 replace hc := bp.now C
 replace hl := bs _ C
 replace ag := az _ C
 replace bt := a8 _ I
 refine Zk 20 hj8 (Zs (Zn Bu (AB (AE η (fun cb => ?_) (fun cb => ?_)))))
 refine AF (AB (AD (Zs (Zo (AV (k) rfl underlying22 Cf η η χ ω (bt.addr (i := k) ω)) ?_))))
 have bb := fun (w' : World) (h : Evo w3 w' [b1]) => (a8 w' h).atD (k) ω
 have b5 := bb _ I
 refine Zo (AH rfl A0 η (b5.cell 0 η)) (Zn Ah (AB ?_))
 have df := HW (l := (Aa ts.length (AR l (BG c ts) 0))) (k := k) ω; have bq := OX (sp := (AR l (BG c ts) 0)) (n := ts.length) (k := k) ω
 refine AA (Zo Ar (Zo AN (Zo (AV (((Aa ts.length (AR l (BG c ts) 0)).getD k default)) rfl underlying25 Ci η η df bq (ht.addr (i := ((Aa ts.length (AR l (BG c ts) 0)).getD k default)) bq)) ?_)))
 obtain ⟨db, dw, c9, cQ, da, dv, c4, cK, c_, du, c3, cI, hX⟩ := EP aT (((Aa ts.length (AR l (BG c ts) 0)).getD k default)) bq
 have bc := fun (w' : World) (h : Evo R w' []) => (hX w' h).1
 have b6 := bc _ C
 have bn := fun (w' : World) (h : Evo R w' []) => (hX w' h).2.1
 have b9 := bn _ C
 have bm := fun (w' : World) (h : Evo R w' []) => (hX w' h).2.2.1
 have b8 := bm _ C
 have U := fun (w' : World) (h : Evo R w' []) => (hX w' h).2.2.2
 have b7 := U _ C
 clear hX
 have bM := b9.bd
 have bL := b8.bd
 have bF := b7.bd
 refine Zo (AJ rfl η Gx) (Zo (AH rfl EU η (b6.cell 2 η)) (Zo (AL rfl η underlying77) (Zn AN (AD (AZ (α := Nat) [13, 30, 31, 32, 33, 34, 35, 36, 37, 38, 39, 40] (fun j g w => ∃ m : List (AQ × Unit), g 30 = .int .i64 (j : Nat) ∧ j ≤ (ts.getD ((Aa ts.length (AR l (BG c ts) 0)).getD k default) default).forb.length ∧ MapIs w b1 S eU m ∧ KeyIs m (Gk tg (BZ tg ts [] ((Aa ts.length (AR l (BG c ts) 0)).take k)) ((ts.getD ((Aa ts.length (AR l (BG c ts) 0)).getD k default) default).forb.take j)) ∧ w7.heap.size ≤ w.heap.size ∧ Evo R w [] ∧ Evo w3 w [b1]) (fun j => (ts.getD ((Aa ts.length (AR l (BG c ts) 0)).getD k default) default).forb.length - j) 0 ?_ ?_)))))
 refine ⟨_, σ, δ, o, hks, δ, C, I⟩
 rintro j g ea ⟨m, hj15, hk_j, o, hks, hzl13, C, I⟩
 have bY := C.size
 have bw := I.size
 have dh := o.lt
 replace ag := az _ C
 refine Zk 30 hj15 (Zs (Zn Bu (AB (AE η (fun cc => ?_) (fun cc => ?_)))))
 refine AF (AB (AD (Zs (Zo (AV (j) rfl underlying77 BW η η χ ω ((U _ C).addr (i := j) ω)) ?_))))
 have bf := fun (w' : World) (h : Evo R w' []) => (U w' h).atD (j) ω
 refine Zo (AH rfl BF η ((bf _ C).cell 0 η)) (Zn CD (Zs (Zo Au (Zo Ar (Zr [S _, .slice _ _ _] rfl η func157 (PN ag dk dq) ?_)))))
 rintro e eb ⟨rfl, F19⟩
 refine ⟨_, rfl, ?_⟩
 have dy := F19.size
 replace C := Z0 C F19
 replace I := Z0 I F19
 replace o := o.evo0 F19
 refine As (D8 η (fun J => ?_) (fun J => ?_))
 refine AA (Zo O6 (Zo Au (Zo (Aj (pv := []) (zs := []) (cells := []) rfl Jt η Oh η η) (Hb (a := _) (v := ()) (FZ underlying9) underlying171 η η η o ?_))))
 intro w21 E21 V21 hm_new
 have dz := E21.size
 replace C := Z1 C E21 ε
 replace I := Z1 I E21 ε
 replace o := hm_new
 clear hm_new
 refine As (AO (AA (Zo A8 (Zn AN (Zg (j + 1) ?_)))))
 refine ⟨_, σ, δ, o, (by first | exact YY hks ω J | exact aj hks ω (by rw [J]; decide)), δ, C, I⟩
 refine AF (AO (AA (Zo A8 (Zn AN (Zg (j + 1) ?_)))))
 refine ⟨_, σ, δ, o, (by first | exact YY hks ω J | exact aj hks ω (by rw [J]; decide)), δ, C, I⟩
 refine AW rfl (AO ?_)
 rw [List.take_of_length_le (l := (ts.getD ((Aa ts.length (AR l (BG c ts) 0)).getD k default) default).forb) ω] at hks
 refine AA (Zo A8 (Zn AN (Zg (k + 1) ?_)))
 refine ⟨_, σ, δ, o, (by rw [Rw tg ts ω]; exact hks), δ, C, I⟩
 refine AW rfl (AB ?_)
 rw [List.take_of_length_le (l := (Aa ts.length (AR l (BG c ts) 0))) ω] at hks; have dn := H9 tg ts (B := 1048576) (fun k => (JI cg k).2.1) (Aa ts.length (AR l (BG c ts) 0)) []; have dp := U7 hks (G8 tg ts _ _ List.Pairwise.nil); have dW : m.length ≤ 1099511627776 := by rw [dp]; refine Nat.le_trans dn ?_; rw [List.length_nil, Nat.zero_add]; exact Nat.le_trans (Nat.mul_le_mul_right _ (Nat.le_trans dd ds)) υ
 refine AA (Zo O6 ?_)
 have di := o
 refine Zr [.map _] rfl η func160 NV ?_
 rintro e ec ⟨rfl, F22, hky22⟩
 refine ⟨_, rfl, ?_⟩
 have dO := F22.size
 replace C := Z0 C F22
 refine Zr [.func _ _ _] rfl η func159 (JX di hky22 (fun p hp => Nat.le_trans (Wr hks (Ty cg) p hp) (by unfold maxLen; omega)) ω) ?_
 rintro e ed ⟨a_, rfl, F23, hsr23⟩
 refine ⟨_, rfl, ?_⟩
 have dQ := F23.size
 replace C := Z0 C F23
 refine Zn (AM (v := a_) rfl η) (AK (BN (v := a_) rfl η) ?_)
 exact ⟨_, rfl, C, by rw [← hks.sorted (G8 tg ts _ _ List.Pairwise.nil)]; exact hsr23.base_le ω⟩
end Go.Proofs.YtlfjocbnbceceaaGreatDoor
namespace Go.Proofs.YtlfjocbnbceceaaGreatDoor
open Go Go.RowKit Go.Vc
def phrW : List AQ := [[114, 101, 100], [99, 97, 114], [99, 97, 114, 115], [83, 97, 118, 101], [50, 50], [114, 111, 116], [97], [100, 97, 115]]
def stemW : List AQ := [[114, 101, 100], [99, 97, 114], [83, 97, 118, 101], [50, 50], [99, 105, 116], [97]]
def Hj : List AQ → AQ → AQ
  | [], o => o
  | w :: r, o => Hj r ((if o = [] then o else o ++ [32]) ++ w)
theorem Tt (ws : List AQ) (w : AQ) : ∀ o, Hj (ws ++ [w]) o = (if Hj ws o = [] then Hj ws o else Hj ws o ++ [32]) ++ w := by
  induction ws with
  | nil => intro o; rfl
  | cons x r ih => intro o; exact ih _
def MadePh (s : AQ) : Prop := ∃ ws : List AQ, (1 ≤ ws.length ∧ ws.length ≤ 3 ∧ ∀ x ∈ ws, x ∈ phrW) ∧ s = Hj ws []
theorem QU {x : AQ} (h : x ∈ phrW) : 1 ≤ x.length ∧ x.length ≤ 4 := by
  simp only [phrW, List.mem_cons, List.not_mem_nil, or_false] at h
  rcases h with rfl | rfl | rfl | rfl | rfl | rfl | rfl | rfl <;> decide
theorem W3 {x : AQ} (h : x ∈ stemW) : 1 ≤ x.length ∧ x.length ≤ 4 := by
  simp only [stemW, List.mem_cons, List.not_mem_nil, or_false] at h
  rcases h with rfl | rfl | rfl | rfl | rfl | rfl <;> decide
theorem Lf : ∀ (ws : List AQ) (o : AQ), (∀ x ∈ ws, x ∈ phrW) → (Hj ws o).length ≤ o.length + 5 * ws.length
  | [], o, _ => by simp [Hj]
  | w :: r, o, h => by
    have h1 := Lf r ((if o = [] then o else o ++ [32]) ++ w) (fun x j => h x (List.mem_cons_of_mem _ j))
    have C := (QU (h w (by simp))).2
    have I : (if o = [] then o else o ++ [32]).length ≤ o.length + 1 := by split <;> simp
    show (Hj r _).length ≤ _
    rw [List.length_append] at h1
    rw [List.length_cons]; omega
theorem MadePh.len {s : AQ} (h : MadePh s) : s.length ≤ 15 := by
  obtain ⟨ws, ⟨h1, o, j⟩, rfl⟩ := h
  have := Lf ws [] j
  simp at this; omega
def PhR (m n : Nat) (o : AQ) : Prop := ∃ ws : List AQ, (ws.length + n = m ∧ ∀ x ∈ ws, x ∈ phrW) ∧ o = Hj ws []
theorem PhR.nil (m : Nat) : PhR m m [] := ⟨[], ⟨by simp, by simp⟩, rfl⟩
theorem PhR.len {m n : Nat} {o : AQ} (h : PhR m n o) : o.length ≤ 5 * m := by
  obtain ⟨ws, ⟨h1, j⟩, rfl⟩ := h
  have := Lf ws [] j
  simp at this; omega
theorem JE {k : Nat} (h : k < 8) : phrW.getD k default ∈ phrW := A5 (show k < phrW.length from h)
theorem XG {k : Nat} (h : k < 6) : stemW.getD k default ∈ stemW := A5 (show k < stemW.length from h)
theorem PhR.more {m n : Nat} {o w : AQ} (h : PhR m (n + 1) o) (hw : w ∈ phrW) : PhR m n ((if o = [] then o else o ++ [32]) ++ w) := by
  obtain ⟨ws, ⟨h1, j⟩, rfl⟩ := h
  refine ⟨ws ++ [w], ⟨by rw [List.length_append, List.length_singleton]; omega, fun x C => ?_⟩, (Tt ws w []).symm⟩
  rcases List.mem_append.1 C with q | q
  · exact j x q
  · rw [List.mem_singleton] at q; rw [q]; exact hw
theorem PhR.more1 {m n : Nat} {o w : AQ} (h : PhR m (n + 1) o) (hw : w ∈ phrW) (j : ¬ o = []) : PhR m n (o ++ [32] ++ w) := by
  have := h.more hw; rw [if_neg j] at this; exact this
theorem PhR.more2 {m n : Nat} {o w : AQ} (h : PhR m (n + 1) o) (hw : w ∈ phrW) (j : o = []) : PhR m n (o ++ w) := by
  have := h.more hw; rw [if_pos j] at this; exact this
theorem PhR.made {m : Nat} {o : AQ} (h : PhR m 0 o) (h1 : 1 ≤ m) (C : m ≤ 3) : MadePh o := by
  obtain ⟨ws, ⟨I, j⟩, h6⟩ := h
  exact ⟨ws, ⟨by omega, by omega, j⟩, h6⟩
def MadeTm (x : TermL) : Prop := (1 ≤ x.words.length ∧ x.words.length ≤ 3 ∧ ∀ y ∈ x.words, y.strip ∈ stemW ∧ y.add.length ≤ 1000) ∧ (x.req.length ≤ 2 ∧ ∀ s ∈ x.req, MadePh s) ∧ (x.forb.length ≤ 2 ∧ ∀ s ∈ x.forb, MadePh s)
theorem MadeTm.jud {x : TermL} (h : MadeTm x) : IH x := by
  obtain ⟨_, ⟨h1, o⟩, h3, h4⟩ := h
  exact ⟨by omega, by omega, fun s j => Nat.le_trans (o s j).len υ, fun s j => Nat.le_trans (h4 s j).len υ⟩
theorem MadeTm.bd {x : TermL} (h : MadeTm x) : x.words.length ≤ 4398046510976 ∧ ∀ y ∈ x.words, QK y := by
  obtain ⟨⟨_, h1, j⟩, _⟩ := h
  refine ⟨by omega, fun y o => ?_⟩
  have C := (W3 (j y o).1).2
  have I := (j y o).2
  exact ⟨by omega, by omega⟩
theorem IY {α : Type} {P : α → Prop} {l : List α} {x : α} (h : ∀ y ∈ l, P y) (j : P x) : ∀ y ∈ l ++ [x], P y := fun y o => by
  rcases List.mem_append.1 o with q | q
  · exact h y q
  · rw [List.mem_singleton] at q; rw [q]; exact j
def DK {α : Type} [Inhabited α] (f : α → Int) : List α → Int
  | [] => 0
  | x :: r => if f x ≠ 0 then f x else DK f r
theorem GH {α : Type} [Inhabited α] {f : α → Int} : ∀ {l : List α} {k : Nat} {e : Int}, k < l.length → (∀ j, j < k → f (l.getD j default) = 0) → f (l.getD k default) = e → e ≠ 0 → DK f l = e
  | [], k, e, h, _, _, _ => by simp at h
  | x :: r, 0, e, _, _, he, h0 => by
    have he2 : f x = e := he
    unfold DK; rw [if_pos (by rw [he2]; exact h0), he2]
  | x :: r, k + 1, e, h, hn, he, h0 => by
    have h1 : f x = 0 := hn 0 ω
    unfold DK; rw [if_neg (by rw [h1]; exact fun q => q rfl)]
    exact GH (k := k) (by simpa using h) (fun j hj => by have := hn (j + 1) ω; simpa using this) (by simpa using he) h0
theorem D6 {α : Type} [Inhabited α] {f : α → Int} : ∀ {l : List α}, (∀ j, j < l.length → f (l.getD j default) = 0) → DK f l = 0
  | [], _ => rfl
  | x :: r, h => by
    have h1 : f x = 0 := h 0 (by simp)
    unfold DK; rw [if_neg (by rw [h1]; exact fun q => q rfl)]
    exact D6 (fun j hj => by have := h (j + 1) (by simpa using hj); simpa using this)
def GQ (c : List Clas) (w : Ende) : Int := if ¬ C2 w.strip then 1 else if w.add ≠ [] ∧ Ca c w.add < 0 then 4 else 0
def Ou (s : AQ) : Int := if CC s then 0 else 1
def LB (x : TermL) : Prop := ((x.words.length = 0 ∨ 8 < x.words.length) ∨ 8 < x.req.length) ∨ 8 < x.forb.length
instance (x : TermL) : Decidable (LB x) := by unfold LB; infer_instance
def GZ (c : List Clas) (x : TermL) : Int := if LB x then 3 else if DK (GQ c) x.words ≠ 0 then DK (GQ c) x.words else DK (DK Ou) [x.req, x.forb]
def E0 (ts : List TermL) (c : List Clas) : Int := if Dt c ≠ 0 then Dt c else if 128 < ts.length then 3 else DK (GZ c) ts
theorem YR {x : TermL} (h : (((x.words.length : Int) = 0 ∨ (x.words.length : Int) > 8) ∨ (x.req.length : Int) > 8) ∨ (x.forb.length : Int) > 8) : LB x := by unfold LB; omega
theorem ZQ {x : TermL} (h : ¬ ((((x.words.length : Int) = 0 ∨ (x.words.length : Int) > 8) ∨ (x.req.length : Int) > 8) ∨ (x.forb.length : Int) > 8)) : ¬ LB x := by unfold LB; omega
theorem UW {c : List Clas} {w : Ende} (h : ¬ C2 w.strip) : GQ c w = 1 := if_pos h
theorem Uc {c : List Clas} {w : Ende} (h : C2 w.strip) (j : w.add ≠ [] ∧ Ca c w.add < 0) : GQ c w = 4 := by unfold GQ; rw [if_neg (fun q => q h), if_pos j]
theorem QR {c : List Clas} {w : Ende} (h : C2 w.strip) (j : ¬ (w.add ≠ [] ∧ Ca c w.add < 0)) : GQ c w = 0 := by unfold GQ; rw [if_neg (fun q => q h), if_neg j]
theorem ay {s : AQ} (h : ¬ CC s) : Ou s = 1 := if_neg h
theorem Qt {s : AQ} (h : CC s) : Ou s = 0 := if_pos h
theorem Nz {s : AQ} : (((CK s).length : Nat) : Int) = 0 ↔ ¬ CC s := by
  constructor
  · intro h q
    rw [Iq q] at h
    have := Lk s
    have j : (A2 s).length ≠ 0 := fun e => this (List.length_eq_zero_iff.1 e)
    omega
  · intro h; rw [Eu h]; rfl
theorem Po {c : List Clas} {x : TermL} (h : LB x) : GZ c x = 3 := if_pos h
theorem Ht {c : List Clas} {x : TermL} {k : Nat} {e : Int} (h : ¬ LB x) (hk : k < x.words.length) (C : ∀ j, j < k → GQ c (x.words.getD j default) = 0) (he : GQ c (x.words.getD k default) = e) (o : e ≠ 0) : GZ c x = e := by
  have h1 := GH hk C he o
  unfold GZ; rw [if_neg h, if_pos (by rw [h1]; exact o), h1]
theorem Pf {c : List Clas} {x : TermL} {i k : Nat} (h : ¬ LB x) (hw : ∀ j, j < x.words.length → GQ c (x.words.getD j default) = 0) (C : i < 2) (I : ∀ j, j < i → DK Ou ([x.req, x.forb].getD j default) = 0)
    (hk : k < ([x.req, x.forb].getD i default).length) (J : ∀ j, j < k → Ou (([x.req, x.forb].getD i default).getD j default) = 0) (he : ¬ CC (([x.req, x.forb].getD i default).getD k default)) : GZ c x = 1 := by
  have h1 := D6 hw
  have o := GH hk J (ay he) υ
  unfold GZ; rw [if_neg h, if_neg (by rw [h1]; exact fun q => q rfl)]
  exact GH C I o υ
theorem OT {c : List Clas} {x : TermL} (h : ¬ LB x) (hw : ∀ j, j < x.words.length → GQ c (x.words.getD j default) = 0) (o : ∀ j, j < 2 → DK Ou ([x.req, x.forb].getD j default) = 0) : GZ c x = 0 := by
  have h1 := D6 hw
  unfold GZ; rw [if_neg h, if_neg (by rw [h1]; exact fun q => q rfl)]
  exact D6 o
theorem S5 {ts : List TermL} {c : List Clas} (h : Dt c ≠ 0) : E0 ts c = Dt c := if_pos h
theorem Np {ts : List TermL} {c : List Clas} (h : Dt c = 0) (j : 128 < ts.length) : E0 ts c = 3 := by unfold E0; rw [if_neg (fun q => q h), if_pos j]
theorem HT {ts : List TermL} {c : List Clas} {k : Nat} {e : Int} (h : Dt c = 0) (C : ¬ 128 < ts.length) (hk : k < ts.length) (I : ∀ j, j < k → GZ c (ts.getD j default) = 0) (he : GZ c (ts.getD k default) = e) (o : e ≠ 0) : E0 ts c = e := by
  unfold E0; rw [if_neg (fun q => q h), if_neg C]; exact GH hk I he o
theorem LX {ts : List TermL} {c : List Clas} (h : Dt c = 0) (o : ¬ 128 < ts.length) (C : ∀ j, j < ts.length → GZ c (ts.getD j default) = 0) : E0 ts c = 0 := by
  unfold E0; rw [if_neg (fun q => q h), if_neg o]; exact D6 C
end Go.Proofs.YtlfjocbnbceceaaGreatDoor
namespace Go.Vc
open Go Go.RowKit Go.IntWalk Go.Sort
section
variable {P : Program} {B : Exit → Act → World → Prop} {n : Nat} {k : List Kont} {f : Fr} {w : World} {ops : Array Oper} {rest : List Oper}
theorem Yu {T d : Nat} {t : TypeId} {pos : String} {j : Array Edge} {x : Operand} {v : Value} {vs : List Value} (C : opv f x = v) (o : v.cells = vs.toArray) (hd : Nat.blt d n = true)
    (h : ∀ b w', b = w.heap.size → Evo w w' [] → Blk w' b T vs → w'.heap.size = b + 1 → w.drawn ≤ w'.drawn → KL P B n ops k rest (upd f d (.pointer (some ⟨b, 0, none⟩))) w') :
    KL P B n ops k (⟨some d, .box T x, t, pos, j, none⟩ :: rest) f w := by
  refine Hp (v := .pointer (some ⟨w.heap.size, 0, none⟩)) (w' := w.alloc (.cells vs.toArray T)) rfl rfl hd ?_ (h _ _ rfl (Evo.alloc _ _ _) (heap_alloc_new w _) (by simp) (Nat.le_refl _))
  simp [execOp, C, Instr.box, newVar, newRow, o]
theorem WW {id : Nat} {l : List Oper} (E : List Nat) (hm : P.follows .mixedOrders = true) (h : ∀ w1, Evo w w1 [] → Evo w w1 E → w.drawn ≤ w1.drawn → HA P B n k (fun w' => Evo w w' E) l.toArray l.toArray.size [] f w1) : KF P B n (.code (.region id l.toArray true) :: k) f w := by
  intro a ha
  show (Code.region id l.toArray true).wp P (Kx P B k) a w
  exact wp_region_noPanic (wp_region_any hm (OO _ _ _ _ (h _ (Evo.drew _ _) (Evo.drew _ _) (Nat.le_succ _) a ha)))
theorem VV {T E d len m bb : Nat} {t : TypeId} {pos : String} {C : Array Edge} {ps : List (Nat × Operand)} {pv : List (Nat × Value)} {z : Value} {zs cs : List Value}
    (hu : P.underlying T = some (.slice E)) (U : Dl P E = some (m, bb, some z)) (hz : z.cells = zs.toArray) (hd : Nat.blt d n = true) (R : (ps.map fun p => (p.1, opv f p.2)) = pv) (hlen : (Nat.beq zs.length m && Nat.ble 1 m && Nat.ble (len * m) 10000) = true)
    (hf : Im (fun i => some (i * m, m)) (List.replicate len zs).flatten pv = some cs)
    (h : ∀ b w', b = w.heap.size → Evo w w' [] → Blk w' b E cs → w'.heap.size = b + 1 → w.drawn ≤ w'.drawn → KL P B n ops k rest (upd f d (.slice (some ⟨b, 0, none⟩) len len)) w') :
    KL P B n ops k (⟨some d, .buildSlice T len ps.toArray, t, pos, C, none⟩ :: rest) f w := by
  refine Hp (v := .slice (some ⟨w.heap.size, 0, none⟩) len len) (w' := w.alloc (.cells cs.toArray E)) rfl rfl hd ?_ (h _ _ rfl (Evo.alloc _ _ _) (heap_alloc_new w _) (by simp) (Nat.le_refl _))
  unfold execOp
  simp only []
  rw [Ld, R]
  simp only [Bool.and_eq_true, Nat.ble_eq] at hlen
  have ag := Nat.eq_of_beq_eq_true hlen.1.1
  have I : ¬ (2 ^ 24 < len * m) := by have : (2:Nat) ^ 24 = 16777216 := (by decide); omega
  have j := K6 _ _ _ hf
  rw [← Gy hz ag ω len] at j
  by_cases h0 : len * m = 0
  · have J : len = 0 := by
      rcases Nat.mul_eq_zero.1 h0 with h1 | h1
      · exact h1
      · omega
    subst J
    have e0 : ∀ g : Nat → Value, (Array.range 0).map g = #[] := fun g => Array.eq_empty_of_size_eq_zero (by simp)
    have o : Instr.fill (fun i => some (i * m, m)) #[] pv = some cs.toArray := by
      rw [show 0 * m = 0 by omega, e0] at j
      exact j
    simp [Instr.buildSlice, run_underlying hu, Cj U, newRow, e0, o]
  · simp [Instr.buildSlice, run_underlying hu, Cj U, IS U, I, h0, newRow]
    rw [j]
    simp
end
theorem XV {w w' : World} (h : Evo w w' []) (hd : w.drawn ≤ w'.drawn) : ∃ q j, w' = grow (w.drewN q) j := by
  obtain ⟨h1, o, C, R, I⟩ := h
  refine ⟨w'.drawn - w.drawn, w'.heap.extract w.heap.size w'.heap.size, ?_⟩
  have J : w'.heap = w.heap ++ w'.heap.extract w.heap.size w'.heap.size := by
    apply Array.ext_getElem?
    intro i
    rcases Nat.lt_or_ge i w.heap.size with hi | hi
    · rw [Array.getElem?_append_left hi]; exact I i hi (by simp)
    · rw [Array.getElem?_append_right hi, Array.getElem?_extract]
      split
      · congr 1; omega
      · rw [Array.getElem?_eq_none ω]
  cases w; cases w'
  simp only [grow, World.drewN] at *
  subst h1; subst o; subst C
  simp only [World.mk.injEq, true_and]
  refine ⟨J, ?_, trivial⟩
  omega
end Go.Vc
namespace Go.Vc
open Go Go.RowKit Go.IntWalk Go.Sort Go.Proofs
section
variable {α : Type} [Enc α] [Inhabited α] {w : World} {base : Nat} {E : TypeId} {v : Value} {l : List α}
theorem OI (l : List α) : (flatK (Enc.enc : α → List Value) (Enc.n α) l.toArray).toList = (l.map Enc.enc).flatten := by
  have j : ∀ cs ∈ l.map (Enc.enc : α → List Value), cs.length = Enc.n α := fun cs C => by
    obtain ⟨x, _, rfl⟩ := List.mem_map.1 C; exact Enc.len x
  have R := Enc.pos (α := α)
  have o := CF _ _ j
  rw [List.length_map] at o
  apply List.ext_getElem?
  intro t
  rcases Nat.lt_or_ge t (l.length * Enc.n α) with ht | ht
  · have I : t / Enc.n α < l.length := (Nat.div_lt_iff_lt_mul R).2 ht
    have J : t % Enc.n α < Enc.n α := Nat.mod_lt _ R
    have h1 := FK (l.map Enc.enc) (Enc.n α) (t / Enc.n α) (t % Enc.n α) (Enc.enc l[t / Enc.n α]) j (by simp [I]) J
    have e : t / Enc.n α * Enc.n α + t % Enc.n α = t := by rw [Nat.mul_comm]; exact Nat.div_add_mod _ _
    rw [e] at h1
    rw [h1, Array.getElem?_toList]
    have hlen : (Enc.enc l[t / Enc.n α]).length = Enc.n α := Enc.len _
    simp [flatK, ht, I, getElem!_pos, hlen, J]
  · rw [List.getElem?_eq_none (by simpa using ht), List.getElem?_eq_none (by rw [o]; exact ht)]
theorem VS {g cur : _} (C : w.heap[g]? = some (.cells cur E (0, 0))) (I : cur.toList.take (l.length * Enc.n α) = (l.map Enc.enc).flatten) : HoldsK (Enc.enc : α → List Value) (Enc.n α) w g 0 l.toArray := by
  intro j hj
  have o : j < l.length * Enc.n α := by simpa using hj
  refine ⟨?_, by simp [World.frozen?, C]⟩
  have h1 : (cur.toList.take (l.length * Enc.n α))[j]? = (flatK (Enc.enc : α → List Value) (Enc.n α) l.toArray).toList[j]? := by rw [I, OI]
  rw [List.getElem?_take_of_lt o] at h1
  simp only [World.cell?, C, Nat.zero_add]
  simp only [Option.isSome_none, Bool.false_eq_true, if_false]
  rw [← Array.getElem?_toList, h1, Array.getElem?_toList]
  simp [o]
theorem Qf {g n : Nat} {os : Array Obj} {cur : Array Value} (d : Array α) (j : w.heap[g]? = some (.cells cur E (0, 0))) :
    (sortWorldK (Enc.enc : α → List Value) (Enc.n α) w g 0 n d os).heap[g]? = some (.cells (putCells id 0 (flatK Enc.enc (Enc.n α) d) cur) E (0, 0)) := by
  have o : g < w.heap.size := (Array.getElem?_eq_some_iff.1 j).1
  unfold sortWorldK putRowK
  rw [heap_grow_old _ _ (by simpa [putRow, mapBlock, Sort.ahead] using o)]
  simp [putRow, mapBlock, Sort.ahead, Array.getElem?_modify, j, onCells]
theorem Rm {g n : Nat} {os : Array Obj} (d : Array α) : Evo w (sortWorldK (Enc.enc : α → List Value) (Enc.n α) w g 0 n d os) [g] := by
  unfold sortWorldK putRowK
  refine ⟨rfl, rfl, rfl, by simp [putRow, mapBlock, Sort.ahead], fun k hk j => ?_⟩
  rw [heap_grow_old _ _ (by simpa [putRow, mapBlock, Sort.ahead] using hk)]
  have : g ≠ k := fun e => j (by simp [e])
  simp [putRow, mapBlock, Sort.ahead, Array.getElem?_modify, this]
theorem Wm (cur : Array Value) (F : Array Value) (h : F.size ≤ cur.size) : (putCells id 0 F cur).toList.take F.size = F.toList := by
  apply List.ext_getElem?
  intro j
  by_cases o : j < F.size
  · rw [List.getElem?_take_of_lt o, Array.getElem?_toList]
    simp [putCells, o, show j < cur.size by omega]
  · rw [List.getElem?_take_eq_none ω, List.getElem?_eq_none θ]
theorem Sz {g n cap : Nat} {os : Array Obj} {cur : Array Value} {l' : List α} (o : l'.length = l.length) (hb : base ≤ g) (hg : w.heap[g]? = some (.cells cur E (0, 0))) (h1 : l.length ≤ cap) (U : cap ≤ maxLen) (J : cur.size = cap * Enc.n α) (C : l.length ≤ 140737488355328) :
    OwnE (sortWorldK (Enc.enc : α → List Value) (Enc.n α) w g 0 n l'.toArray os) base E (.slice (some ⟨g, 0, none⟩) l.length cap) l' := by
  have j : ∀ cs ∈ l'.map (Enc.enc : α → List Value), cs.length = Enc.n α := fun cs I => by
    obtain ⟨x, _, rfl⟩ := List.mem_map.1 I; exact Enc.len x
  have hle : l.length * Enc.n α ≤ cap * Enc.n α := Nat.mul_le_mul_right _ h1
  refine ⟨⟨?_, .inr ⟨g, cap, _, by rw [List.length_map, o], hb, Qf _ hg, by rw [List.length_map, o]; exact h1, U, by simp [putCells, J], ?_⟩⟩, j, by rw [List.length_map, o]; exact C⟩
  · rw [CF _ _ j]
  · rw [List.length_map, o, ← OI]
    have R : (flatK (Enc.enc : α → List Value) (Enc.n α) l'.toArray).size = l.length * Enc.n α := by simp [o]
    rw [← R]
    exact Wm cur _ (by rw [R, J]; exact hle)
theorem Ym {P : Program} {fn g : FuncId} {C : Array Value} {R : List α → List α → Prop} (hs : ∀ l l', R l l' → l'.length = l.length) (U : R [] [])
    (c : ∀ (j off cap : Nat) (d : Array α) (w : World), HoldsK (Enc.enc : α → List Value) (Enc.n α) w j off d → j < w.heap.size → d.size < 4611686018427387904 →
      Calls P fn #[.slice (some ⟨j, off, none⟩) d.size cap, .func (.func g) #[] C] w fun e w' => e = .returned (.tuple #[]) ∧ ∃ (o : Array α) (n : Nat) (os : Array Obj), R d.toList o.toList ∧ w' = sortWorldK (Enc.enc : α → List Value) (Enc.n α) w j off n o os)
    (c0 : ∀ w : World, Calls P fn #[.slice none 0 0, .func (.func g) #[] C] w fun e w' => e = .returned (.tuple #[]) ∧ w' = w)
    (h : OwnE w base E v l) : Calls P fn #[v, .func (.func g) #[] C] w fun e w' => e = .returned (.tuple #[]) ∧ Evo w w' v.ownBlock.toList ∧ ∃ l', R l l' ∧ OwnE w' base E v l' := by
  have h0 : Own w base E (Enc.n α) v (l.map Enc.enc) := h
  rcases h0.row.2 with ⟨hv, hl⟩ | ⟨g2, cap, cur, hv, hb, hg, h2, h3, h4, h5⟩
  · have J : l = [] := List.eq_nil_of_length_eq_zero (by simpa using hl)
    subst J; subst hv
    refine (c0 w).mono ?_
    rintro e w' ⟨rfl, rfl⟩
    exact ⟨rfl, Evo.refl _ _, [], U, h⟩
  · rw [List.length_map] at hv h2 h5
    have I := h.bd
    subst hv
    refine (c g2 0 cap l.toArray w (VS hg h5) (Array.getElem?_eq_some_iff.1 hg).1 θ).mono ?_
    rintro e w' ⟨rfl, o, n, os, hR, rfl⟩
    exact ⟨rfl, Rm _, o.toList, hR, Sz (l' := o.toList) (hs _ _ hR) hb hg h2 h3 h4 I⟩
end
def Rb {α : Type} (lt : α → α → Bool) (l l' : List α) : Prop := l'.Perm l ∧ l'.Pairwise (fun x y => lt y x = false)
theorem YS {α : Type} [Inhabited α] {lt : α → α → Bool} {d o : Array α} (U : PermIn 0 d.size d o) (hs : SortedIn lt 0 d.size o) : Rb lt d.toList o.toList := by
  obtain ⟨h1, _, J⟩ := U
  refine ⟨?_, List.pairwise_iff_getElem.2 fun i j R I C => ?_⟩
  · have e : o.extract 0 d.size = o := by rw [← h1]; simp
    rw [e] at J; simpa using J
  · have := hs i j (Nat.zero_le _) C (by rw [← h1]; simpa using I)
    simp at R I
    rwa [getElem!_pos o j I, getElem!_pos o i R] at this
section
variable {P : Program} {f : Fr} {w : World} {o : Oper}
theorem Wa {t t2 : TypeId} {x y : Operand} {a b : List UInt8} (j : o.op = .binOp .gtr t x y t2) (C : opv f x = S a) (I : opv f y = S b) :
    (execOp (opv f) o).run P w = .ok (.value (.bool (decide (¬ (blt a b || a == b) = true)))) w := HP j C I (by
  simp only [Op.stringOp, Fg, blt, Sem.run_pure]
  congr 2
  rw [Bool.eq_iff_iff]; simp)
end
def LM (a b : AQ) : Int := if a < b then -1 else if b < a then 1 else 0
def Yi (a b : Int) : Int := if ¬ a = 0 then a else b
theorem GX (a : AQ) : ¬ a < a := List.lt_irrefl a
theorem Wf {a b c : AQ} (h : a < b) (j : b < c) : a < c := List.lt_trans h j
theorem QS {a b : AQ} (h : ¬ a < b) (j : ¬ b < a) : a = b := List.le_antisymm (List.not_lt.1 j) (List.not_lt.1 h)
def dF (x y : AQ × AQ) : Prop := x.1 < y.1 ∨ (x.1 = y.1 ∧ x.2 < y.2)
instance (x y : AQ × AQ) : Decidable (dF x y) := by unfold dF; infer_instance
def TL (x : Gram) : AQ × AQ := (x.fst, x.snd)
theorem XF {a b : AQ} : LM a b < 0 ↔ a < b := by
  unfold LM
  by_cases h : a < b
  · simp [h]
  · by_cases j : b < a <;> simp [h, j]
theorem Ll {a b : AQ} : LM a b = 0 ↔ a = b := by
  unfold LM
  by_cases h : a < b
  · simp [h]; intro e; exact GX _ (e ▸ h)
  · by_cases j : b < a
    · simp [h, j]; intro e; exact GX _ (e ▸ j)
    · simp [h, j]; exact QS h j
def dI (g : List Gram) : Prop := g.Pairwise (fun x y => dF (TL x) (TL y))
def GramsOk (ps : List (AQ × AQ)) (g : List Gram) : Prop := dI g ∧ (∀ x ∈ g, 0 < ps.count (TL x) ∧ x.count = ((ps.count (TL x) : Nat) : Int)) ∧ ∀ p ∈ ps, ∃ x ∈ g, TL x = p
theorem GramsOk.nil : GramsOk [] [] := ⟨List.Pairwise.nil, by simp, by simp⟩
open Go.ChangeMaps (setBlock)
theorem N8 {P : Program} {K : TypeId} {α : Type} [DecidableEq α] {C : α → Value} (heq : ∀ (w : World) (x y : α), (Op.equal K (C x) (C y)).run P w = .ok (decide (x = y)) w) (x : α) (w : World) :
    ∀ (es : List MapEntry) (i k : Nat) (e : MapEntry), (∀ e ∈ es, ∃ y, e.key = C y) → es[i]? = some e → e.key = C x → (∀ j I, j < i → es[j]? = some I → I.key ≠ C x) → (Instr.findAsking K (C x) es k).run P w = .ok (some (k + i, e.val)) w
  | [], i, k, e, _, h, _, _ => by simp at h
  | a :: es, 0, k, e, _, h, hk, _ => by
    simp at h; subst h
    simp only [Instr.findAsking, Sem.run_bind, hk, heq, Result.andThen_ok, decide_true, if_true, Sem.run_pure, Nat.add_zero]
  | a :: es, i + 1, k, e, hall, h, hk, hne => by
    obtain ⟨y, R⟩ := hall a (by simp)
    have U := hne 0 a ω (by simp)
    have ih := N8 heq x w es i (k + 1) e (fun e he => hall e (by simp [he])) (by simpa using h) hk (fun j I hj J => hne (j + 1) I ω (by simpa using J))
    have hd : decide (x = y) = false := by simp; intro h; exact U (by rw [R, h])
    simp only [Instr.findAsking, Sem.run_bind, R, heq, hd, Result.andThen_ok, Bool.false_eq_true, if_false]
    rw [ih, show k + 1 + i = k + (i + 1) by omega]
theorem Mg {P : Program} {K : TypeId} {α : Type} [DecidableEq α] {j : α → Value} (heq : ∀ (w : World) (x y : α), (Op.equal K (j x) (j y)).run P w = .ok (decide (x = y)) w) (x : α) (w : World) :
    ∀ (es : List MapEntry) (k : Nat), (∀ e ∈ es, ∃ y, e.key = j y) → (∀ e ∈ es, e.key ≠ j x) → (Instr.findAsking K (j x) es k).run P w = .ok none w
  | [], _, _, _ => rfl
  | a :: es, k, hall, hne => by
    obtain ⟨y, C⟩ := hall a (by simp)
    have I := hne a (by simp)
    have J := Mg heq x w es (k + 1) (fun e he => hall e (by simp [he])) (fun e he => hne e (by simp [he]))
    have hd : decide (x = y) = false := by simp; intro h; exact I (by rw [C, h])
    simp only [Instr.findAsking, Sem.run_bind, C, heq, hd, Result.andThen_ok, Bool.false_eq_true, if_false]
    exact J
theorem KeyLaw.asked {P : Program} {K : TypeId} {D : TypeDesc} {α : Type} [DecidableEq α] {j : α → Value} (hu : P.underlying K = some D) (inj : ∀ x y, j x = j y → x = y) (C : ∀ x y, Instr.sameNow D (j x) (j y) = none)
    (heq : ∀ (w : World) (x y : α), (Op.equal K (j x) (j y)).run P w = .ok (decide (x = y)) w) (check : ∀ w e x, (Instr.checkKey e 10000 K (j x)).run P w = .ok () w) (same : ∀ x, Instr.sameBits 10000 (j x) (j x) = true) : KeyLaw P K j where
  inj := inj
  check := check
  same := same
  hit w x es i e hall h hk hne := by
    have h1 := N8 heq x w es i 0 e hall h hk hne
    rw [Nat.zero_add] at h1
    cases es with
    | nil => simp at h
    | cons a es =>
      obtain ⟨y, J⟩ := hall a (by simp)
      have I : Instr.findNow D (j x) (a :: es) 0 = none := by simp only [Instr.findNow, J, C]
      simp only [Instr.findKey, Sem.run_bind, run_underlying hu, Result.andThen_ok, I]
      exact h1
  miss w x es hall hne := by
    have h1 := Mg heq x w es 0 hall hne
    cases es with
    | nil => simp only [Instr.findKey, Sem.run_bind, run_underlying hu, Result.andThen_ok, Instr.findNow]; rfl
    | cons a es =>
      obtain ⟨y, J⟩ := hall a (by simp)
      have I : Instr.findNow D (j x) (a :: es) 0 = none := by simp only [Instr.findNow, J, C]
      simp only [Instr.findKey, Sem.run_bind, run_underlying hu, Result.andThen_ok, I]
      exact h1
theorem Xv {P : Program} {T : TypeId} {f0 f1 f2 : Field} (hu : P.underlying T = some (.struct #[f0, f1, f2])) (n0 : f0.name ≠ "_") (n1 : f1.name ≠ "_") (n2 : f2.name ≠ "_")
    (o0 : f0.offset = 0) (o1 : f1.offset = 1) (o2 : f2.offset = 2) (u0 : P.underlying f0.type = some (.int .i64)) (u1 : P.underlying f1.type = some .string) (u2 : P.underlying f2.type = some (.int .i64))
    (a0 : DH P f0.type = some false) (C : DH P f1.type = some false) (a2 : DH P f2.type = some false)
    (he : ∀ (w : World) (x y : Item), (Op.equalIn 10000 T (.agg (Enc.enc x).toArray) (.agg (Enc.enc y).toArray)).run P w = .ok (decide (x = y)) w) : KeyLaw P T (fun x : Item => Value.agg (Enc.enc x).toArray) := by
  refine KeyLaw.asked hu (fun x y h => ?_) (fun x y => rfl) (fun w x y => he w x y) (fun w e x => ?_) (fun x => ?_)
  · obtain ⟨R, t1, i1⟩ := x
    obtain ⟨U, t2, i2⟩ := y
    have h1 : [Value.int .i64 R, S t1, Value.int .i64 i1] = [Value.int .i64 U, S t2, Value.int .i64 i2] := by
      have j := Value.agg.inj h
      exact List.toArray_inj j
    simp only [List.cons.injEq, Value.int.injEq, true_and, and_true] at h1
    rw [h1.1, X8 h1.2.1, h1.2.2]
  · have p0 : ∀ (z : Item), (part f0.type (Enc.enc z).toArray 0).run P w = .ok (.int .i64 z.kind) w := fun z => Dz a0 rfl
    have p1 : ∀ (z : Item), (part f1.type (Enc.enc z).toArray 1).run P w = .ok (S z.text) w := fun z => Dz C rfl
    have p2 : ∀ (z : Item), (part f2.type (Enc.enc z).toArray 2).run P w = .ok (.int .i64 z.id) w := fun z => Dz a2 rfl
    have I := Ez u0 w e 9998 (.int .i64 x.kind) (.inr ⟨_, _, rfl, rfl⟩)
    have c1 := Ez u1 w e 9998 (S x.text) (.inl ⟨rfl, _, rfl⟩)
    have c2 := Ez u2 w e 9998 (.int .i64 x.id) (.inr ⟨_, _, rfl, rfl⟩)
    unfold Instr.checkKey
    simp only [Sem.run_bind, run_underlying hu, Result.andThen_ok]
    simp [n0, n1, n2, o0, o1, o2, p0, p1, p2, I, c1, c2, Sem.run_bind]
  · show Instr.sameBits 10000 (.agg #[.int .i64 x.kind, S x.text, .int .i64 x.id]) (.agg #[.int .i64 x.kind, S x.text, .int .i64 x.id]) = true
    have h1 := TN 9999 ⟨x.text.toArray⟩
    have J := OM 9999 .i64 x.kind
    have j := OM 9999 .i64 x.id
    unfold Instr.sameBits
    simp only [S] at *
    simp [J, h1, j]
def StampIs {α : Type} (w : World) (b : Nat) (ek : α → Value) (a : α) (s : Int) : Prop := ∃ (es : Array MapEntry) (clock i : Nat) (e : MapEntry), w.heap[b]? = some (.map es clock) ∧ es[i]? = some e ∧ (e.born : Int) = s ∧ e.key = ek a
section
variable {P : Program} {B : Exit → Act → World → Prop} {n : Nat} {k : List Kont} {f : Fr} {w : World} {ops : Array Oper} {rest : List Oper}
variable {α β : Type} {ek : α → Value} {ev : β → Value} {b : Nat} {m : List (α × β)} {K E : TypeId}
theorem StampIs.evo {w' : World} {a : α} {s : Int} {X : List Nat} (h : StampIs w b ek a s) (he : Evo w w' X) (C : b < w.heap.size) (I : b ∉ X) : StampIs w' b ek a s := by
  obtain ⟨es, c, i, e, h1, j⟩ := h
  exact ⟨es, c, i, e, (he.same b C I).trans h1, j⟩
theorem Qy [DecidableEq α] (L : KeyLaw P K ek) {T : TypeId} {z : β} {s0 bb : Nat} (hu : P.underlying T = some (.map K E)) (hz : Dl P E = some (s0, bb, some (ev z))) (a : α) (h : MapIs w b ek ev m) :
    ∃ w' s, (Instr.mapEntry T (.map (some b)) (ek a)).run P w = .ok (.tuple #[ev ((Bz m a).getD z), .int .i64 s]) w' ∧ Evo w w' [b] ∧ w'.heap.size = w.heap.size ∧ MapIs w' b ek ev (Dj m a ((Bz m a).getD z)) ∧ StampIs w' b ek a s := by
  obtain ⟨es, c, hb, he, a7, ao, aT⟩ := h.ex
  have ag := h.lt
  obtain ⟨bl, c', U, hf⟩ := h.find L a
  rw [hb] at U
  injection U with U
  injection U with e1 e2
  subst e1; subst e2
  rcases hf with ⟨hg, hf⟩ | ⟨i, u, hg, hi, hne, hf⟩
  · have az : ∀ p ∈ m, p.1 ≠ a := by
      intro p hp e
      unfold Bz at hg
      have a_ := hg
      simp only [Option.map_eq_none_iff, List.find?_eq_none, decide_eq_true_eq] at a_
      exact a_ p hp e
    refine ⟨setBlock w b (.map (es.push { key := ek a, val := ev z, born := c }) (c + 1)), (c : Int), ?_, Evo.setB _ _ _, by simp [setBlock], ⟨_, _, D1 ag _, ?_, ?_, ?_, Hf a _ m aT⟩, ⟨_, _, es.size, { key := ek a, val := ev z, born := c }, D1 ag _, by simp, rfl, rfl⟩⟩
    · rw [hg]
      simp only [Instr.mapEntry, getObj, Sem.run_bind, run_underlying hu, Result.andThen_ok, Sem.run, hb, L.check, hf, setObj, setBlock, IS hz, goInt]
      rfl
    · rw [hg, Hh az]; simp [he]
    · simp only [Array.toList_push, List.map_append, List.map_cons, List.map_nil]
      rw [List.nodup_append]
      refine ⟨a7, by simp, fun x hx y hy => ?_⟩
      simp at hy
      subst hy
      obtain ⟨e, J, rfl⟩ := List.mem_map.1 hx
      have := ao e J
      omega
    · intro e J
      simp only [Array.toList_push, List.mem_append, List.mem_singleton] at J
      rcases J with J | rfl
      · have := ao e J; omega
      · simp
  · have C := FC he i
    rw [hi] at C
    cases hes : es.toList[i]? with
    | none => rw [hes] at C; simp at C
    | some e =>
      rw [hes] at C
      simp only [Option.map_some, Option.some.injEq, Prod.mk.injEq] at C
      have I : es[i]? = some e := by simpa using hes
      have a6 : (Instr.keyThatStays (((es[i]?).map (·.key)).getD (ek a)) (ek a)).run P w = .ok (ek a) w := by
        rw [I]
        simp only [Option.map_some, Option.getD_some, C.1, Instr.keyThatStays, L.same, if_true, Sem.run_pure]
      have a1 : (es.modify i fun e => { e with key := ek a }) = es := by
        apply Array.ext_getElem?
        intro j
        rw [Array.getElem?_modify]
        by_cases R : i = j
        · subst R
          rw [if_pos rfl, I]
          obtain ⟨k0, v0, b0⟩ := e
          obtain rfl : k0 = ek a := C.1
          rfl
        · rw [if_neg R]
      have ba : Dj m a ((Bz m a).getD z) = m := by
        rw [hg, Ia hi aT]
        apply List.ext_getElem?
        intro j
        rw [List.getElem?_set]
        by_cases R : i = j
        · subst R
          have bd : i < m.length := (List.getElem?_eq_some_iff.1 hi).1
          rw [if_pos rfl, if_pos bd, hi]; rfl
        · rw [if_neg R]
      refine ⟨setBlock w b (.map es c), (e.born : Int), ?_, Evo.setB _ _ _, by simp [setBlock], ?_, ⟨es, c, i, e, D1 ag _, I, rfl, C.1⟩⟩
      · rw [hg]
        simp only [Instr.mapEntry, getObj, Sem.run_bind, run_underlying hu, Result.andThen_ok, Sem.run, hb, L.check, hf, a6, setObj, setBlock, a1, goInt]
        rw [I]
        rfl
      · rw [ba]
        exact ⟨es, c, D1 ag _, he, a7, ao, aT⟩
theorem NU [DecidableEq α] (L : KeyLaw P K ek) {T : TypeId} {a : α} {s : Int} (v : β) (h : MapIs w b ek ev m) (hs : StampIs w b ek a s) :
    ∃ w', (Instr.entryStore T (.map (some b)) (.int .i64 s) (ev v)).run P w = .ok () w' ∧ Evo w w' [b] ∧ w'.heap.size = w.heap.size ∧ MapIs w' b ek ev (Dj m a v) := by
  obtain ⟨es, c, hb, he, a1, a6, a7⟩ := h.ex
  have a8 := h.lt
  obtain ⟨bc, c', i, e, U, J, az, ao⟩ := hs
  rw [hb] at U
  injection U with U
  injection U with e1 e2
  subst e1; subst e2
  have C := FC he i
  have ag : es.toList[i]? = some e := by simpa using J
  rw [ag] at C
  cases hi : m[i]? with
  | none => rw [hi] at C; simp at C
  | some p =>
    rw [hi] at C
    simp only [Option.map_some, Option.some.injEq, Prod.mk.injEq] at C
    obtain ⟨a', u⟩ := p
    have ha : a' = a := L.inj _ _ (C.1.symm.trans ao)
    subst ha
    have aT : es.findIdx? (fun e => (e.born : Int) == s) = some i := by
      cases hq : es.findIdx? (fun e => (e.born : Int) == s) with
      | none =>
        rw [Array.findIdx?_eq_none_iff] at hq
        have := hq e (by rw [← Array.mem_toList_iff]; exact List.mem_of_getElem? ag)
        simp [az] at this
      | some j =>
        obtain ⟨R, hp, _⟩ := Array.findIdx?_eq_some_iff_getElem.1 hq
        have h1 : ((es[j]).born : Int) = s := by simpa using hp
        have h2 : (es.toList.map (·.born))[j]? = (es.toList.map (·.born))[i]? := by
          rw [List.getElem?_map, List.getElem?_map, ag, Array.getElem?_toList, Array.getElem?_eq_getElem R]
          simp only [Option.map_some, Option.some.injEq]
          omega
        have h3 := (List.getElem?_inj (by simpa using R) a1).1 h2
        rw [h3]
    refine ⟨setBlock w b (.map (es.modify i fun e => { e with val := ev v }) c), ?_, Evo.setB _ _ _, by simp [setBlock], ⟨_, _, D1 a8 _, ?_, ?_, ?_, Hf a' v m a7⟩⟩
    · have hint : (asInt (.int .i64 s)).run P w = .ok s w := rfl
      simp only [Instr.entryStore, getObj, Sem.run_bind, Result.andThen_ok, Sem.run, hb, hint, aT, setObj, setBlock]
    · rw [Ia hi a7]
      apply List.ext_getElem?
      intro j
      have R := FC he j
      simp only [List.getElem?_map, Array.getElem?_toList, Array.getElem?_modify] at R ⊢
      rw [List.getElem?_set]
      by_cases I : i = j
      · subst I
        have a_ : i < m.length := (List.getElem?_eq_some_iff.1 hi).1
        simp [J, a_, ao]
      · simp [I, R]
    · have : (es.modify i fun e => { e with val := ev v }).toList.map (·.born) = es.toList.map (·.born) := by
        apply List.ext_getElem?
        intro j
        simp only [List.getElem?_map, Array.getElem?_toList, Array.getElem?_modify]
        by_cases I : i = j
        · subst I; simp [J]
        · simp [I]
      rw [this]; exact a1
    · intro x hx
      obtain ⟨j, R⟩ := List.getElem?_of_mem hx
      simp only [Array.getElem?_toList, Array.getElem?_modify] at R
      by_cases I : i = j
      · subst I
        simp [J] at R
        rw [← R]
        exact a6 e (List.mem_of_getElem? ag)
      · simp only [I, if_false] at R
        exact a6 x (by rw [← Array.getElem?_toList] at R; exact List.mem_of_getElem? R)
theorem Hm [DecidableEq α] (L : KeyLaw P K ek) {T d : Nat} {z : β} {s0 I : Nat} {t : TypeId} {pos : String} {j : Array Edge} {x y : Operand} {a : α} (hd : Nat.blt d n = true) (hu : P.underlying T = some (.map K E)) (hz : Dl P E = some (s0, I, some (ev z)))
    (hx : opv f x = .map (some b)) (hy : opv f y = ek a) (h : MapIs w b ek ev m)
    (J : ∀ s w', Evo w w' [b] → w'.heap.size = w.heap.size → MapIs w' b ek ev (Dj m a ((Bz m a).getD z)) → StampIs w' b ek a s → KL P B n ops k rest (upd f d (.tuple #[ev ((Bz m a).getD z), .int .i64 s])) w') :
    KL P B n ops k (⟨some d, .mapEntry T x y, t, pos, j, none⟩ :: rest) f w := by
  obtain ⟨w', s, R, he, U, hm, C⟩ := Qy L hu hz a h
  refine Hp (w' := w') rfl rfl hd ?_ (J s w' he U hm C)
  simp [execOp, hx, hy, R]
theorem GF [DecidableEq α] (L : KeyLaw P K ek) {T : TypeId} {t : TypeId} {pos : String} {j : Array Edge} {x y u : Operand} {a : α} {s : Int} {v : β} (U : opv f x = .map (some b)) (hy : opv f y = .int .i64 s) (hu : opv f u = ev v)
    (h : MapIs w b ek ev m) (R : StampIs w b ek a s) (I : ∀ w', Evo w w' [b] → w'.heap.size = w.heap.size → MapIs w' b ek ev (Dj m a v) → KL P B n ops k rest f w') :
    KL P B n ops k (⟨none, .entryStore T x y u, t, pos, j, none⟩ :: rest) f w := by
  obtain ⟨w', J, he, C, hm⟩ := NU (T := T) L v h R
  refine Sx (w' := w') rfl rfl ?_ (I w' he C hm)
  simp [execOp, U, hy, hu, J]
end
instance : Enc (AQ × AQ) := ⟨2, fun x => [S x.1, S x.2], fun _ => rfl, fun _ => rfl, by decide⟩
theorem KK {α : Type} [DecidableEq α] : ∀ {m : List (α × Int)} {p : α × Int}, (m.map (·.1)).Nodup → p ∈ m → Bz m p.1 = some p.2
  | q :: m, p, hn, hp => by
    obtain ⟨h1, h2⟩ := List.nodup_cons.1 hn
    rw [FQ]
    rcases List.mem_cons.1 hp with rfl | hp
    · rw [if_pos rfl]
    · rw [if_neg (fun e => h1 (by show q.1 ∈ _; rw [e]; exact List.mem_map_of_mem hp)), KK h2 hp]
theorem St {α : Type} [DecidableEq α] {m : List (α × Int)} {a : α} {v : Int} (h : Bz m a = some v) : (a, v) ∈ m := by
  unfold Bz at h
  cases e : m.find? (fun p => decide (p.1 = a)) with
  | none => rw [e] at h; cases h
  | some p =>
    rw [e] at h
    have h1 : p.2 = v := by simpa using h
    have j : p.1 = a := by simpa using List.find?_some e
    have C := List.mem_of_find?_eq_some e
    rw [← h1, ← j]; exact C
section
variable {α : Type} [DecidableEq α]
def SK (m m2 : List (α × Int)) (a : α) (d : Int) : Prop := ∀ x, Bz m2 x = if x = a then some ((Bz m a).getD 0 + d) else Bz m x
theorem UX {m : List (α × Int)} {a : α} (d : Int) : SK m (Dj (Dj m a ((Bz m a).getD 0)) a ((Bz m a).getD 0 + d)) a d := fun x => by
  rw [ED, ED]
  by_cases e : x = a
  · subst e; simp
  · simp [e, Ne.symm e]
theorem U3 {m : List (α × Int)} {a : α} (d : Int) : SK m (Dj (Dj m a ((Bz m a).getD 0)) a ((Bz (Dj m a ((Bz m a).getD 0)) a).getD 0 + d)) a d := fun x => by
  rw [ED, ED, ED, if_pos rfl]
  by_cases e : x = a
  · subst e; simp
  · simp [e, Ne.symm e]
end
section
variable {α : Type} [BEq α] [LawfulBEq α]
end
section
variable {α : Type} [DecidableEq α]
def FJ (l : List α) : List α := l.foldl (fun acc x => if x ∈ acc then acc else acc ++ [x]) []
theorem Ls (l : List α) (x : α) : FJ (l ++ [x]) = if x ∈ FJ l then FJ l else FJ l ++ [x] := by unfold FJ; rw [List.foldl_append]; rfl
theorem Ga : ∀ (n : Nat) (l : List α), l.length = n → (∀ x, x ∈ FJ l ↔ x ∈ l) ∧ (FJ l).Nodup
  | 0, l, h => by
    have : l = [] := List.eq_nil_of_length_eq_zero h
    subst this; exact ⟨fun x => Iff.rfl, List.nodup_nil⟩
  | n + 1, l, h => by
    have j : l ≠ [] := by intro e; subst e; simp at h
    obtain ⟨r, y, rfl⟩ : ∃ r y, l = r ++ [y] := ⟨l.dropLast, l.getLast j, (List.dropLast_concat_getLast j).symm⟩
    obtain ⟨h1, I⟩ := Ga n r (by simpa using h)
    rw [Ls]
    by_cases C : y ∈ FJ r
    · rw [if_pos C]
      refine ⟨fun x => ?_, I⟩
      rw [h1 x, List.mem_append]
      exact ⟨.inl, fun h => h.elim id (fun h => by have : x = y := (by simpa using h); rw [this]; exact (h1 y).1 C)⟩
    · rw [if_neg C]
      refine ⟨fun x => by rw [List.mem_append, List.mem_append, h1 x], ?_⟩
      rw [List.nodup_append]
      exact ⟨I, by simp, fun a J b R => by have : b = y := (by simpa using R); rw [this]; intro e; exact C (e ▸ J)⟩
theorem M8 (l : List α) (x : α) : x ∈ FJ l ↔ x ∈ l := (Ga _ l rfl).1 x
theorem US (l : List α) : (FJ l).Nodup := (Ga _ l rfl).2
end
def QP (l : List Int) : Int := l.foldr (· + ·) 0
theorem Lw (a : Int) (l : List Int) : QP (a :: l) = a + QP l := rfl
theorem MK : ∀ l m : List Int, QP (l ++ m) = QP l + QP m
  | [], m => by simp [QP]
  | a :: l, m => by rw [List.cons_append, Lw, Lw, MK l m]; omega
def OQ (c : Int) : Int := max (min c 1073741824) 0
def Xz (l : List Gram) (p : AQ × AQ) : Int := QP (l.map (fun x => if TL x = p then OQ x.count else 0))
theorem Xu {l : List Gram} {k : Nat} (hk : k < l.length) (p : AQ × AQ) : Xz (l.take (k + 1)) p = Xz (l.take k) p + if TL (l.getD k default) = p then OQ (l.getD k default).count else 0 := by
  unfold Xz; rw [Ai l k hk, List.map_append, MK]; simp [QP]
def OccM (l : List Gram) (m : List ((AQ × AQ) × Int)) : Prop := ∀ p, Bz m p = if p ∈ l.map TL then some (Xz l p) else none
theorem OccM.nil : OccM [] [] := fun p => by simp [Bz]
theorem OccM.get {l : List Gram} {m : List ((AQ × AQ) × Int)} (h : OccM l m) (p : AQ × AQ) : (Bz m p).getD 0 = Xz l p := by
  rw [h p]
  by_cases j : p ∈ l.map TL
  · rw [if_pos j]; rfl
  · rw [if_neg j]
    have : ∀ x ∈ l.map (fun x => if TL x = p then OQ x.count else 0), x = 0 := fun x C => by
      obtain ⟨y, J, rfl⟩ := List.mem_map.1 C
      exact if_neg (fun e => j (by rw [← e]; exact List.mem_map_of_mem J))
    have I : ∀ {l : List Int}, (∀ x ∈ l, x = 0) → QP l = 0 := fun {l} => by
      induction l with
      | nil => intro _; rfl
      | cons a l ih => intro h; rw [Lw, h a (by simp), ih (fun x C => h x (by simp [C]))]; rfl
    exact (I this).symm
theorem OccM.step {l : List Gram} {m m2 : List ((AQ × AQ) × Int)} {k : Nat} (hk : k < l.length) (h : OccM (l.take k) m) (J : SK m m2 (TL (l.getD k default)) (OQ (l.getD k default).count)) : OccM (l.take (k + 1)) m2 := fun p => by
  rw [J p]
  have e : (l.take (k + 1)).map TL = (l.take k).map TL ++ [TL (l.getD k default)] := by rw [Ai l k hk, List.map_append]; rfl
  rw [e, Xu hk]
  by_cases j : p = TL (l.getD k default)
  · rw [if_pos j, if_pos (by simp [j]), if_pos j.symm, ← j, h.get]
  · have I : (if TL (l.getD k default) = p then OQ (l.getD k default).count else 0) = 0 := if_neg (fun q => j q.symm)
    rw [if_neg j, h p, I, Int.add_zero]
    by_cases C : p ∈ (l.take k).map TL
    · rw [if_pos C, if_pos (List.mem_append_left _ C)]
    · rw [if_neg C, if_neg (fun q => (List.mem_append.1 q).elim C (fun q => j (by simpa using q)))]
def Jk (a b : Int) : Int := if a < b then -1 else if b < a then 1 else 0
theorem Rt {a b : Int} : Jk a b < 0 ↔ a < b := by
  unfold Jk; split
  · simp_all
  · split <;> simp_all
theorem PK {a b : Int} : Jk a b = 0 ↔ a = b := by
  unfold Jk; split
  · simp; omega
  · split
    · simp; omega
    · simp; omega
def O5 (x y : Item) : Int := Yi (Jk x.kind y.kind) (Yi (LM x.text y.text) (Jk x.id y.id))
def NX (x y : Item) : Prop := x.kind < y.kind ∨ (x.kind = y.kind ∧ (x.text < y.text ∨ (x.text = y.text ∧ x.id < y.id)))
instance (x y : Item) : Decidable (NX x y) := by unfold NX; infer_instance
theorem Oc (x : Item) : ¬ NX x x := fun h => by
  rcases h with h | ⟨_, h | ⟨_, h⟩⟩
  · omega
  · exact GX _ h
  · omega
theorem I8 {x y z : Item} (h : NX x y) (C : NX y z) : NX x z := by
  rcases h with h | ⟨h, j⟩ <;> rcases C with C | ⟨C, h2'⟩
  · exact .inl ω
  · exact .inl ω
  · exact .inl ω
  · refine .inr ⟨h.trans C, ?_⟩
    rcases j with j | ⟨j, I⟩ <;> rcases h2' with h2' | ⟨h2', h2''⟩
    · exact .inl (Wf j h2')
    · exact .inl (h2' ▸ j)
    · exact .inl (j ▸ h2')
    · exact .inr ⟨j.trans h2', by omega⟩
theorem U6 {x y : Item} (h : ¬ NX x y) (C : ¬ NX y x) : x = y := by
  have j : x.kind = y.kind := by
    rcases Int.lt_trichotomy x.kind y.kind with q | q | q
    · exact absurd (.inl q) h
    · exact q
    · exact absurd (.inl q) C
  have I : x.text = y.text := QS (fun q => h (.inr ⟨j, .inl q⟩)) (fun q => C (.inr ⟨j.symm, .inl q⟩))
  have J : x.id = y.id := by
    rcases Int.lt_trichotomy x.id y.id with q | q | q
    · exact absurd (.inr ⟨j, .inr ⟨I, q⟩⟩) h
    · exact q
    · exact absurd (.inr ⟨j.symm, .inr ⟨I.symm, q⟩⟩) C
  cases x; cases y; simp_all
theorem W4 {x y : Item} : O5 x y < 0 ↔ NX x y := by
  unfold O5 Yi NX
  by_cases h : Jk x.kind y.kind = 0
  · rw [if_neg (by simpa using h)]
    have e := PK.1 h
    by_cases C : LM x.text y.text = 0
    · rw [if_neg (by simpa using C), Rt]
      have I := Ll.1 C
      constructor
      · exact fun j => .inr ⟨e, .inr ⟨I, j⟩⟩
      · rintro (j | ⟨_, j | j⟩)
        · omega
        · exact absurd (I ▸ j) (GX _)
        · exact j.2
    · rw [if_pos C, XF]
      constructor
      · exact fun j => .inr ⟨e, .inl j⟩
      · rintro (j | ⟨_, j | j⟩)
        · omega
        · exact j
        · exact absurd (Ll.2 j.1) C
  · rw [if_pos h, Rt]
    constructor
    · exact fun C => .inl C
    · rintro (C | C)
      · exact C
      · exact absurd (PK.2 C.1) h
theorem QL (x y : Item) : Go.Proofs.ltOf O5 x y = decide (NX x y) := by unfold Go.Proofs.ltOf; exact decide_eq_decide.2 W4
theorem cZ : Go.Sort.SWO (Go.Proofs.ltOf O5) where
  irrefl x := by rw [QL]; simpa using Oc _
  trans x y z h1 h2 := by rw [QL] at *; simp only [decide_eq_true_eq] at *; exact I8 h1 h2
  ntrans x y z h1 h2 := by
    rw [QL] at *
    simp only [decide_eq_false_iff_not] at *
    intro h3
    by_cases j : NX y x
    · exact h2 (I8 j h3)
    · have e := U6 h1 j
      rw [e] at h3; exact h2 h3
def QV (l : List Item) : Prop := l.Pairwise (fun x y => ¬ NX y x)
def KM : List Item → Item → List Item
  | [], x => [x]
  | y :: l, x => if NX x y then x :: y :: l else y :: KM l x
theorem Ub : ∀ (l : List Item) (x : Item) (k : Nat), k ≤ l.length → (∀ j, j < k → ¬ NX x (l.getD j default)) → (k = l.length ∨ NX x (l.getD k default)) → l.take k ++ [x] ++ l.drop k = KM l x
  | [], x, k, hk, _, _ => by
    have : k = 0 := by simpa using hk
    subst this; rfl
  | y :: l, x, 0, _, _, h => by
    rcases h with h | h
    · simp at h
    · have C : NX x y := h
      unfold KM; rw [if_pos C]; rfl
  | y :: l, x, k + 1, hk, h1, h2 => by
    have I : ¬ NX x y := h1 0 ω
    unfold KM; rw [if_neg I]
    have J := Ub l x k (by simpa using hk) (fun j R => h1 (j + 1) ω) (h2.imp (fun q => by simpa using q) (fun q => q))
    rw [← J]; simp
theorem Li : ∀ (l : List Item) (x : Item), (KM l x).Perm (x :: l)
  | [], x => List.Perm.refl _
  | y :: l, x => by
    unfold KM; split
    · exact List.Perm.refl _
    · exact ((Li l x).cons y).trans (List.Perm.swap x y l)
theorem XJ {l : List Item} {x z : Item} : z ∈ KM l x ↔ z = x ∨ z ∈ l := by rw [(Li l x).mem_iff, List.mem_cons]
theorem Rf : ∀ {l : List Item} {x : Item}, QV l → QV (KM l x)
  | [], x, _ => List.pairwise_singleton _ _
  | y :: l, x, h => by
    obtain ⟨h1, h2⟩ := List.pairwise_cons.1 h
    unfold KM; split
    · rename_i hx
      refine List.pairwise_cons.2 ⟨fun z hz => ?_, h⟩
      rcases List.mem_cons.1 hz with rfl | hz
      · exact fun q => Oc _ (I8 hx q)
      · exact fun q => h1 z hz (I8 q hx)
    · rename_i hx
      refine List.pairwise_cons.2 ⟨fun z hz => ?_, Rf h2⟩
      rcases XJ.1 hz with rfl | hz
      · exact hx
      · exact h1 z hz
def AS (l xs : List Item) : List Item := xs.foldl KM l
theorem Lm (l xs j : List Item) : AS l (xs ++ j) = AS (AS l xs) j := by unfold AS; rw [List.foldl_append]
theorem DT (l xs : List Item) (x : Item) : AS l (xs ++ [x]) = KM (AS l xs) x := by rw [Lm]; rfl
theorem Je : ∀ (xs l : List Item), (AS l xs).Perm (l ++ xs)
  | [], l => by rw [List.append_nil]; exact List.Perm.refl _
  | x :: xs, l => by
    refine (Je xs (KM l x)).trans ?_
    refine ((Li l x).append_right xs).trans ?_
    exact List.perm_middle.symm
theorem Px : ∀ (xs : List Item) {l : List Item}, QV l → QV (AS l xs)
  | [], _, h => h
  | _ :: xs, _, h => Px xs (Rf h)
theorem CL (l xs : List Item) : (AS l xs).length = l.length + xs.length := by rw [(Je xs l).length_eq, List.length_append]
def DP (xs : List Item) : List Item := AS [] xs
theorem GV (xs : List Item) : (DP xs).Perm xs := Je xs []
theorem LS (xs : List Item) : QV (DP xs) := Px xs List.Pairwise.nil
theorem L8 {l l' : List Item} (h : QV l) (j : QV l') (I : l.Perm l') : l = l' :=
  I.eq_of_pairwise (fun a b _ _ h1 C => U6 C h1) h j
theorem XX {l l' : List Item} (h : Rb (Go.Proofs.ltOf O5) l l') {xs : List Item} (j : l.Perm xs) : l' = DP xs := by
  refine L8 ?_ (LS xs) ((h.1.trans j).trans (GV xs).symm)
  refine h.2.imp (fun {a b} q => ?_)
  rw [QL] at q; simpa using q
theorem Rl {l : List Item} (p : Item → Bool) (h : QV l) : QV (l.filter p) := h.filter p
theorem Qz (xs : List Item) (p : Item → Bool) : (DP xs).filter p = DP (xs.filter p) :=
  L8 (Rl p (LS xs)) (LS _) (((GV xs).filter p).trans (GV _).symm)
section
variable {α : Type} [DecidableEq α]
def Ie (s t : List α) (x : α) : Int := ((t.count x : Nat) : Int) - ((s.count x : Nat) : Int)
def CntG (ps qs : List α) (m : List (α × Int)) : Prop := ∀ x, Bz m x = if x ∈ ps ∨ x ∈ qs then some (Ie qs ps x) else none
theorem CntG.nil : CntG ([] : List α) [] [] := fun x => by simp [Bz]
theorem K7 {j C : List α} {x : α} (h : ¬ (x ∈ j ∨ x ∈ C)) : Ie C j x = 0 := by
  unfold Ie; rw [List.count_eq_zero.2 (fun q => h (.inl q)), List.count_eq_zero.2 (fun q => h (.inr q))]; rfl
theorem CntG.get {C I : List α} {m : List (α × Int)} (h : CntG C I m) (x : α) : (Bz m x).getD 0 = Ie I C x := by
  rw [h x]
  by_cases j : x ∈ C ∨ x ∈ I
  · rw [if_pos j]; rfl
  · rw [if_neg j, K7 j]; rfl
theorem CntG.inc {j C : List α} {m m2 : List (α × Int)} {a : α} (h : CntG j C m) (U : SK m m2 a 1) : CntG (j ++ [a]) C m2 := fun x => by
  rw [U x]
  by_cases e : x = a
  · subst e
    rw [if_pos rfl, if_pos (.inl (by simp)), h.get]
    unfold Ie; rw [List.count_append]; simp; omega
  · rw [if_neg e, h x]
    have R : (j ++ [a]).count x = j.count x := by rw [List.count_append, List.count_singleton]; simp [Ne.symm e]
    have J : (x ∈ j ++ [a] ∨ x ∈ C) ↔ (x ∈ j ∨ x ∈ C) := by simp [e]
    unfold Ie; rw [R]
    by_cases I : x ∈ j ∨ x ∈ C
    · rw [if_pos I, if_pos (J.2 I)]
    · rw [if_neg I, if_neg (fun q => I (J.1 q))]
theorem CntG.dec {C j : List α} {m m2 : List (α × Int)} {a : α} (h : CntG C j m) (U : SK m m2 a (-1)) : CntG C (j ++ [a]) m2 := fun x => by
  rw [U x]
  by_cases e : x = a
  · subst e
    rw [if_pos rfl, if_pos (.inr (by simp)), h.get]
    unfold Ie; rw [List.count_append]; simp; omega
  · rw [if_neg e, h x]
    have R : (j ++ [a]).count x = j.count x := by rw [List.count_append, List.count_singleton]; simp [Ne.symm e]
    have J : (x ∈ C ∨ x ∈ j ++ [a]) ↔ (x ∈ C ∨ x ∈ j) := by simp [e]
    unfold Ie; rw [R]
    by_cases I : x ∈ C ∨ x ∈ j
    · rw [if_pos I, if_pos (J.2 I)]
    · rw [if_neg I, if_neg (fun q => I (J.1 q))]
theorem Qb (s t : List α) (x : α) : -(s.length : Int) ≤ Ie s t x ∧ Ie s t x ≤ (t.length : Int) := by
  have h1 := List.count_le_length (a := x) (l := s)
  have j := List.count_le_length (a := x) (l := t)
  unfold Ie; omega
def DifM (s t : List α) (m : List (α × Int)) : Prop := (m.map (·.1)).Nodup ∧ ∀ p, p ∈ m ↔ (p.2 = Ie s t p.1 ∧ Ie s t p.1 ≠ 0)
theorem DifM.len {s t : List α} {m : List (α × Int)} (h : DifM s t m) : m.length ≤ t.length + s.length := by
  have h1 := List.Nodup.length_le_of_subset h.1 (l₂ := t ++ s) (fun x I => by
    obtain ⟨p, C, rfl⟩ := List.mem_map.1 I
    have j := ((h.2 p).1 C).2
    rcases Classical.em (p.1 ∈ t ∨ p.1 ∈ s) with q | q
    · exact List.mem_append.2 q
    · exact absurd (K7 q) j)
  rw [List.length_map, List.length_append] at h1; exact h1
structure DelI (s t : List α) (m left : List (α × Int)) : Prop where
  nd : (m.map (·.1)).Nodup
  ndl : (left.map (·.1)).Nodup
  val : ∀ p ∈ m, p.2 = Ie s t p.1
  has : ∀ x, Ie s t x ≠ 0 → (x, Ie s t x) ∈ m
  zer : ∀ p ∈ m, p.2 = 0 → p ∈ left
  sub : ∀ p ∈ left, p ∈ m
theorem CntG.mem {C I : List α} {m : List (α × Int)} (h : CntG C I m) (j : (m.map (·.1)).Nodup) : DelI I C m m where
  nd := j
  ndl := j
  val p hp := by
    have h1 := KK j hp
    rw [h] at h1
    split at h1
    · injection h1 with h1; exact h1.symm
    · cases h1
  has x hx := St (by rw [h x, if_pos (Classical.not_not.1 (fun q => hx (K7 q)))])
  zer p hp _ := hp
  sub p hp := hp
theorem DelI.keep {s t : List α} {m j C : List (α × Int)} {p : α × Int} (h : DelI s t m (j ++ p :: C)) (I : ¬ p.2 = 0) : DelI s t m (j ++ C) where
  nd := h.nd
  ndl := h.ndl.sublist (by simp)
  val := h.val
  has := h.has
  zer q hq h0 := by
    have h1 := h.zer q hq h0
    rcases List.mem_append.1 h1 with h2 | h2
    · exact List.mem_append_left _ h2
    · rcases List.mem_cons.1 h2 with h3 | h3
      · exact absurd (h3 ▸ h0) I
      · exact List.mem_append_right _ h3
  sub q hq := h.sub q (by rcases List.mem_append.1 hq with h2 | h2; exact List.mem_append_left _ h2; exact List.mem_append_right _ (List.mem_cons_of_mem _ h2))
theorem Kj {m : List (α × Int)} {a : α} {p : α × Int} : p ∈ O9 m a ↔ p ∈ m ∧ p.1 ≠ a := by unfold O9; rw [List.mem_filter]; simp
theorem DelI.strike {s t : List α} {m I J : List (α × Int)} {p : α × Int} (h : DelI s t m (I ++ p :: J)) (hz : p.2 = 0) : DelI s t (O9 m p.1) (I ++ J) := by
  have ao : p ∈ m := h.sub p (by simp)
  have R : ∀ q ∈ I ++ J, q ∈ I ++ p :: J := fun q j => by rcases List.mem_append.1 j with C | C; exact List.mem_append_left _ C; exact List.mem_append_right _ (List.mem_cons_of_mem _ C)
  have ag : ∀ q ∈ I ++ J, q.1 ≠ p.1 := fun q j e => by
    have h1 := h.ndl
    rw [List.map_append, List.map_cons] at h1
    have C := (List.perm_middle (a := p.1) (l₁ := I.map (·.1)) (l₂ := J.map (·.1))).nodup_iff.1 h1
    have U := (List.nodup_cons.1 C).1
    exact U (by rw [← List.map_append, ← e]; exact List.mem_map_of_mem j)
  refine ⟨h.nd.sublist (List.Sublist.map _ List.filter_sublist), h.ndl.sublist (by simp), fun q j => h.val q (Kj.1 j).1, fun x hx => ?_, fun q j h0 => ?_, fun q j => ?_⟩
  · refine Kj.2 ⟨h.has x hx, fun e => hx ?_⟩
    have h1 := h.val p ao
    have e' : x = p.1 := e
    rw [e', ← h1]; exact hz
  · obtain ⟨h1, C⟩ := Kj.1 j
    have U := h.zer q h1 h0
    rcases List.mem_append.1 U with h4 | h4
    · exact List.mem_append_left _ h4
    · rcases List.mem_cons.1 h4 with h5 | h5
      · exact absurd (by rw [h5]) C
      · exact List.mem_append_right _ h5
  · exact Kj.2 ⟨h.sub q (R q j), ag q j⟩
theorem DelI.done {s t : List α} {m : List (α × Int)} (h : DelI s t m []) : DifM s t m := ⟨h.nd, fun p => ⟨fun j => ⟨h.val p j, fun C => by
  have := h.zer p j (by rw [h.val p j]; exact C)
  cases this⟩, fun j => by have := h.has p.1 j.2; rw [← j.1] at this; exact this⟩⟩
def EW (u : List α) (s t : List α) (f : α → Int → Item) : List Item := (u.filter (fun x => decide (Ie s t x ≠ 0))).map (fun x => f x (Ie s t x))
theorem KV {β C : Type} (f : β → C) {l : List β} (h : (l.map f).Nodup) : l.Nodup := by
  unfold List.Nodup at *; rw [List.pairwise_map] at h; exact h.imp (fun j e => j (by rw [e]))
theorem Pk {u s t : List α} {m : List (α × Int)} (h : DifM s t m) (C : u.Nodup) (hu : ∀ x, x ∈ t ∨ x ∈ s → x ∈ u) (f : α → Int → Item) : (m.map (fun p => f p.1 p.2)).Perm (EW u s t f) := by
  have h1 : m.Perm ((u.filter (fun x => decide (Ie s t x ≠ 0))).map (fun x => (x, Ie s t x))) := by
    refine (List.perm_ext_iff_of_nodup ?_ ?_).2 (fun p => ?_)
    · exact KV (fun q : α × Int => q.1) h.1
    · refine KV (fun q : α × Int => q.1) ?_
      rw [List.map_map, show ((fun q : α × Int => q.1) ∘ fun x => (x, Ie s t x)) = id from rfl, List.map_id]
      exact C.filter _
    · rw [h.2 p, List.mem_map]
      constructor
      · rintro ⟨j, h3⟩
        refine ⟨p.1, List.mem_filter.2 ⟨hu _ (Classical.not_not.1 (fun q => h3 (K7 q))), by simpa using h3⟩, ?_⟩
        rw [← j]
      · rintro ⟨x, hx, rfl⟩
        exact ⟨rfl, by simpa using (List.mem_filter.1 hx).2⟩
  have j := h1.map (fun p => f p.1 p.2)
  rw [List.map_map] at j; exact j
theorem I5 (u s t : List α) (x : α) (f : α → Int → Item) : EW (u ++ [x]) s t f = EW u s t f ++ (if Ie s t x ≠ 0 then [f x (Ie s t x)] else []) := by
  unfold EW; rw [List.filter_append, List.map_append]
  congr 1
  by_cases h : Ie s t x ≠ 0
  · rw [if_pos h, List.filter_cons_of_pos (by simpa using h)]; rfl
  · rw [if_neg h, List.filter_cons_of_neg (by simpa using h)]; rfl
theorem Kf (u s t : List α) (f : α → Int → Item) : (EW u s t f).length ≤ u.length := by unfold EW; rw [List.length_map]; exact List.length_filter_le _ _
theorem XY {u s t : List α} {f : α → Int → Item} (h : ∀ x, Ie s t x = 0) : EW u s t f = [] := by unfold EW; rw [List.filter_eq_nil_iff.2 (fun x _ => by simp [h x])]; rfl
end
end Go.Vc
namespace Go.Proofs.YtlfjocbnbceceaaGreatDoor
open Go Go.RowKit Go.Vc Go.Proofs.Tryz
theorem ZA {l : List Vc.Item} {x : Vc.Item} (h : x ∈ l) : x.text.length ≤ HD l := by
  induction l with
  | nil => cases h
  | cons y l ih =>
    have e : HD (y :: l) = y.text.length + HD l := by simp [HD]
    rcases List.mem_cons.1 h with rfl | h
    · omega
    · have := ih h; omega
theorem Wi : ∀ (n : Nat) (s : AQ), s.length = n → ∀ x ∈ IE s, x.text.length ≤ s.length := by
  intro n
  induction n using Nat.strongRecOn with
  | ind n ih =>
    intro s hs x hx
    by_cases h : s = []
    · subst h; rw [Ev] at hx; cases hx
    · have h1 := Ib s
      have C : 0 < s.length := List.length_pos_iff.2 h
      rw [Ln h] at hx
      rcases List.mem_cons.1 hx with rfl | hx
      · show (s.take _).length ≤ _; rw [List.length_take]; omega
      · have j := ih _ (by rw [← hs]; show (s.drop (A4 s).2).length < s.length; rw [List.length_drop]; omega) (s.drop (A4 s).2) rfl x hx
        rw [List.length_drop] at j; omega
theorem VK {f : List Vc.Item} {x : Vc.Item} (h : x ∈ Ax f) : x.text.length ≤ HD f := by
  unfold Ax at h
  obtain ⟨y, C, j⟩ := List.mem_flatMap.1 h
  have h1 := ZA C
  unfold NL at j
  split at j
  · have := Wi _ y.text rfl x j; omega
  · split at j
    · have : x = y := by simpa using j
      rw [this]; exact h1
    · cases j
structure Chk where
  lev : List Int
  short : Int
  long : Int
  ts : List TermL
  cls : List Clas
def LO (c : Chk) : Prop := (∃ x ∈ c.lev, x < 0 ∨ 2 < x) ∨ (((¬ c.lev.getD 0 default = 0 ∨ c.short < 0) ∨ 100 < c.short) ∨ (¬ c.long = 0 ∧ (c.long < 100 ∨ 10000 < c.long)))
instance (c : Chk) : Decidable (LO c) := by unfold LO; infer_instance
def EG (c : Chk) : Int := if LO c then 1 else E0 c.ts c.cls
def Tiny (f : List Vc.Item) : Prop := f.length ≤ 1000 ∧ BK f ≤ 100000
theorem Q0 (f : List Vc.Item) : HD f = BK f := rfl
theorem Tiny.small {f : List Vc.Item} (h : Tiny f) : Fh f := ⟨by have := h.1; omega, by have := h.2; omega⟩
theorem Tiny.tk {f : List Vc.Item} (h : Tiny f) : HD f + f.length ≤ 1000000000 := by have h1 := h.1; have j := h.2; rw [← Q0] at j; omega
theorem Tiny.tlen {f : List Vc.Item} (h : Tiny f) : (Ax f).length ≤ 101000 := by have C := KS f; have h1 := h.1; have j := h.2; rw [← Q0] at j; omega
theorem Tiny.ttx {f : List Vc.Item} (h : Tiny f) : ∀ x ∈ Ax f, x.text.length ≤ 100000 := fun x C => by have I := VK C; have j := h.2; rw [← Q0] at j; omega
theorem Tiny.plen {f : List Vc.Item} (h : Tiny f) : (A9 f).length ≤ 101000 := by have j := Jd f; have h1 := h.1; have C := h.2; omega
theorem Tiny.txt {f : List Vc.Item} (h : Tiny f) {x : Vc.Item} (j : x ∈ f) : x.text.length ≤ 100000 := by have C := LQ j; have I := h.2; omega
def Tp (c : UInt8) : Bool := decide (BM c = 2)
def Fo (s : AQ) : Nat := (s.takeWhile Tp).length
def FF (s : AQ) : Nat → Nat
  | 0 => 0
  | k + 1 => if Tp (s.getD k default) = true then FF s k else k + 1
def DV (s : AQ) : Nat := FF s s.length
theorem QY : ∀ {s : AQ} {k : Nat}, k ≤ s.length → (∀ j, j < k → BM (s.getD j default) = 2) → (k = s.length ∨ ¬ BM (s.getD k default) = 2) → Fo s = k
  | [], k, hk, _, _ => by
    have : k = 0 := by simpa using hk
    subst this; rfl
  | c :: s, 0, _, _, h => by
    rcases h with h | h
    · simp at h
    · have C : Tp c = false := by unfold Tp; exact decide_eq_false h
      unfold Fo; rw [List.takeWhile_cons, C]; rfl
  | c :: s, k + 1, hk, h1, h2 => by
    have I : Tp c = true := decide_eq_true (h1 0 ω)
    have J := QY (s := s) (k := k) (by simpa using hk) (fun j R => h1 (j + 1) ω) (h2.imp (fun q => by simpa using q) (fun q => q))
    unfold Fo at *; rw [List.takeWhile_cons, I]
    show (s.takeWhile Tp).length + 1 = k + 1
    rw [J]
theorem Nf (s : AQ) : ∀ k, FF s k ≤ k
  | 0 => Nat.le_refl _
  | k + 1 => by
    unfold FF; split
    · exact Nat.le_succ_of_le (Nf s k)
    · exact Nat.le_refl _
theorem P8 (s : AQ) : DV s ≤ s.length := Nf s _
theorem Ng {s : AQ} {k : Nat} (C : 0 < k) (h : BM (s.getD (k - 1) default) = 2) : FF s k = FF s (k - 1) := by
  obtain ⟨k, rfl⟩ : ∃ j, k = j + 1 := ⟨k - 1, by omega⟩
  conv => lhs; unfold FF
  rw [if_pos (show Tp (s.getD k default) = true from decide_eq_true h)]; rfl
theorem Jr {s : AQ} {k : Nat} (h : k = 0 ∨ ¬ BM (s.getD (k - 1) default) = 2) : FF s k = k := by
  cases k with
  | zero => rfl
  | succ k =>
    unfold FF
    rw [if_neg (show ¬ Tp (s.getD k default) = true from fun q => (h.elim (fun q => by omega) id : ¬ BM (s.getD (k + 1 - 1) default) = 2) (of_decide_eq_true q))]
theorem Sc {s : AQ} {j : Nat} (h : ¬ BM (s.getD j default) = 2) : ∀ {k : Nat}, j < k → j < FF s k
  | k + 1, hj => by
    unfold FF; split
    · rename_i hs
      rcases Nat.lt_or_ge j k with h1 | h1
      · exact Sc h h1
      · have : j = k := by omega
        subst this; exact absurd (of_decide_eq_true hs) h
    · omega
theorem Uf {s : AQ} {j : Nat} (h : ¬ BM (s.getD j default) = 2) (C : j < s.length) : j < DV s := Sc h C
theorem RV (s : AQ) : Fo s ≤ s.length := by
  unfold Fo
  exact (List.takeWhile_sublist _).length_le
theorem YE : ∀ (s : AQ) {c : UInt8}, c ∈ s.takeWhile Tp → Tp c = true
  | [], c, h => by simp at h
  | a :: s, c, h => by
    rw [List.takeWhile_cons] at h
    split at h
    · rcases List.mem_cons.1 h with rfl | h
      · assumption
      · exact YE s h
    · cases h
theorem I3 {s : AQ} (h : Fo s = s.length) : DV s = 0 := by
  have h1 : ∀ c ∈ s, Tp c = true := by
    have e : s.takeWhile Tp = s := (List.takeWhile_sublist Tp).eq_of_length h
    intro c hc
    rw [← e] at hc
    exact YE s hc
  rcases Nat.eq_zero_or_pos (DV s) with h2 | h2
  · exact h2
  · exfalso
    have key : ∀ k, k ≤ s.length → FF s k = 0 := by
      intro k
      induction k with
      | zero => intro _; rfl
      | succ k ih =>
        intro hk
        unfold FF
        rw [if_pos (h1 _ (A5 ω)), ih ω]
    have := key s.length (Nat.le_refl _)
    unfold DV at h2; omega
theorem SX {s t : AQ} : t <+: s ↔ t.length ≤ s.length ∧ s.take t.length = t := by
  constructor
  · intro h; exact ⟨h.length_le, (List.prefix_iff_eq_take.1 h).symm⟩
  · rintro ⟨_, h⟩; exact List.prefix_iff_eq_take.2 h.symm
theorem L1 {s : AQ} {k : Nat} : (s.drop k).take (s.length - k) = s.drop k := List.take_of_length_le (by simp)
def ZR (s : AQ) : Nat := if Fo s = s.length then 0 else Fo s
theorem LL : ∀ (s : AQ), Fo s = s.length ∨ ¬ BM (s.getD (Fo s) default) = 2
  | [] => .inl rfl
  | c :: s => by
    by_cases h : Tp c = true
    · have e : Fo (c :: s) = Fo s + 1 := by unfold Fo; rw [List.takeWhile_cons, h]; rfl
      rw [e]
      exact (LL s).imp (fun q => by rw [List.length_cons, q]) (fun q => q)
    · have j : Tp c = false := by simpa using h
      have e : Fo (c :: s) = 0 := by unfold Fo; rw [List.takeWhile_cons, j]; rfl
      rw [e]
      exact .inr (fun q => h (decide_eq_true q))
theorem ZI {s : AQ} {b k : Nat} (J : Fo s = b) (he : FF s k = DV s) (hk : k = b) : ZR s = 0 ∧ DV s = 0 := by
  rcases LL s with h | h
  · exact ⟨if_pos h, I3 h⟩
  · by_cases j : Fo s = s.length
    · exact ⟨if_pos j, I3 j⟩
    · have h1 := RV s
      have C := Uf h ω
      have I := Nf s k
      omega
theorem VR {s : AQ} {b k : Nat} (j : Fo s = b) (he : FF s k = DV s) (hk : b < k) (I : k ≤ s.length) (C : ¬ BM (s.getD (k - 1) default) = 2) : ZR s = b ∧ DV s = k :=
  ⟨by unfold ZR; rw [if_neg ω, j], by rw [← he]; exact Jr (.inr C)⟩
theorem cE {s : AQ} (h : ¬ ZR s = DV s) : ZR s = Fo s := by
  unfold ZR at *; split
  · rename_i q; rw [if_pos q, I3 q] at h; exact absurd rfl h
  · rfl
theorem bZ {s : AQ} (h : ZR s = DV s) : Fo s = s.length := by
  rcases LL s with q | q
  · exact q
  · by_cases j : Fo s = s.length
    · exact j
    · have h1 := RV s
      have C := Uf q ω
      unfold ZR at h; rw [if_neg j] at h; omega
def K2 (s : AQ) : AQ := s.take (Fo s)
def IA (s : AQ) : AQ := s.drop (DV s)
theorem V2 {s : AQ} (h : Fo s = s.length) : K2 s = s ∧ IA s = s := by
  unfold K2 IA
  rw [I3 h, h]
  exact ⟨List.take_length, List.drop_zero⟩
def Gt (s : AQ) : AQ := if DV s = 0 then [] else if BM (s.getD (DV s - 1) default) = 5 then [s.getD (DV s - 1) default] else []
theorem VD {s : AQ} (h : DV s = 0 ∨ ¬ BM (s.getD (DV s - 1) default) = 5) : Gt s = [] := by
  unfold Gt; split
  · rfl
  · rename_i q2; rw [if_neg (h.elim (fun q => absurd q q2) id)]
theorem SL {s : AQ} (h : 0 < DV s) (j : BM (s.getD (DV s - 1) default) = 5) : (s.take (DV s)).drop (DV s - 1) = Gt s := by
  unfold Gt; rw [if_neg ω, if_pos j]
  have C := P8 s
  have hk : DV s - 1 < s.length := by omega
  have e : s.take (DV s) = s.take (DV s - 1) ++ [s.getD (DV s - 1) default] := by
    have := Ai s (DV s - 1) hk
    rwa [show DV s - 1 + 1 = DV s by omega] at this
  rw [e, List.drop_append_of_le_length (by rw [List.length_take]; omega), List.drop_of_length_le (by rw [List.length_take]; omega)]; rfl
def VX (t : AQ) (i : Nat) : Bool := decide (t.getD i 0 = 32 ∧ t.getD (i + 1) 0 = 32)
def IJ (t : AQ) (k : Nat) : Nat := (List.range k).countP (VX t)
def Nj (t : AQ) : Nat := IJ t t.length
theorem HM (t : AQ) (k : Nat) : IJ t (k + 1) = IJ t k + (if VX t k = true then 1 else 0) := by
  unfold IJ; rw [List.range_succ, List.countP_append, List.countP_singleton]
theorem Ue (t : AQ) (k : Nat) : IJ t k ≤ k := by
  unfold IJ
  have := List.countP_le_length (p := VX t) (l := List.range k)
  rwa [List.length_range] at this
theorem XE {t : AQ} {k : Nat} (h : t.length ≤ k + 1) : VX t k = false := by
  unfold VX
  refine decide_eq_false (fun q => ?_)
  have := q.2
  rw [List.getD_eq_getElem?_getD, List.getElem?_eq_none ω] at this
  exact absurd this υ
theorem YP {t : AQ} {k : Nat} (h : t.length ≤ k + 1) (hk : k ≤ t.length) : IJ t k = Nj t := by
  unfold Nj
  rcases Nat.lt_or_ge k t.length with h1 | h1
  · have e : t.length = k + 1 := by omega
    rw [e, HM, XE h]; simp
  · rw [show k = t.length by omega]
def aL : AQ := [98, 101, 103, 105, 110]
def aM : AQ := [101, 110, 100]
def U4 : AQ := [108, 111, 110, 103]
def RW : AQ := [115, 104, 111, 114, 116]
def RG (n : Int) : AQ := if 0 ≤ n then EC n.toNat [] else 45 :: EC (-n).toNat []
def VT (x : Vc.Item) : AQ := RG x.id ++ [58] ++ x.text
def T1 (x : Vc.Item) : AQ := if x.kind = 3 then [60, 47] ++ VT x ++ [62] else if x.kind = 4 then [60] ++ VT x ++ [47, 62] else [60] ++ VT x ++ [62]
def MM (x : Vc.Item) : AQ := if x.kind = 2 then [60] ++ VT x ++ [62] else if x.kind = 3 then [60, 47] ++ VT x ++ [62] else [60] ++ VT x ++ [47, 62]
theorem Vx {x : Vc.Item} (h : DE x = true) : MM x = T1 x := by
  unfold T1 MM
  unfold DE at h
  simp only [Bool.or_eq_true, decide_eq_true_eq] at h
  rcases h with (h | h) | h <;> simp [h]
def JL (l : List Vc.Item) : List AQ := (l.filter (fun x => decide (x.kind = 7))).map (·.text)
theorem Fi (l : List Vc.Item) : (JL l).length ≤ l.length := by unfold JL; rw [List.length_map]; exact List.length_filter_le _ _
theorem LG {l : List Vc.Item} {k : Nat} (hk : k < l.length) (h : (l.getD k default).kind = 7) : JL (l.take (k + 1)) = JL (l.take k) ++ [(l.getD k default).text] := by
  unfold JL; rw [Ai l k hk, List.filter_append, List.map_append, List.filter_cons_of_pos (p := fun x : Vc.Item => decide (x.kind = 7)) (decide_eq_true h)]; rfl
theorem Ms {l : List Vc.Item} {k : Nat} (hk : k < l.length) (h : ¬ (l.getD k default).kind = 7) : JL (l.take (k + 1)) = JL (l.take k) := by
  unfold JL; rw [Ai l k hk, List.filter_append, List.map_append, List.filter_cons_of_neg (p := fun x : Vc.Item => decide (x.kind = 7)) (by simpa using h)]; simp
theorem PL {l : List Vc.Item} {k : Nat} (hk : k < l.length) (h : (l.getD k default).kind = 6) : l.any (fun x => decide (x.kind = 6)) = true := List.any_eq_true.2 ⟨_, A5 hk, decide_eq_true h⟩
theorem Sk {l : List Vc.Item} (h : ∀ j, j < l.length → ¬ (l.getD j default).kind = 6) : l.any (fun x => decide (x.kind = 6)) = false := by
  rw [Bool.eq_false_iff]; intro q
  obtain ⟨x, J, I⟩ := List.any_eq_true.1 q
  obtain ⟨i, C, rfl⟩ := List.mem_iff_getElem.1 J
  exact h i C (by rw [List.getD_eq_getElem?_getD, List.getElem?_eq_getElem C]; exact of_decide_eq_true I)
def Pt (l : List Vc.Item) : Bool := l.any (fun x => decide (x.kind = 6))
def G9 (a b : List AQ) : List AQ := (a ++ b).foldl Dd []
theorem ZN {a b : List AQ} {x : AQ} : x ∈ G9 a b ↔ x ∈ a ∨ x ∈ b := by
  have h : ∀ (l o : List AQ), x ∈ l.foldl Dd o ↔ x ∈ o ∨ x ∈ l := by
    intro l
    induction l with
    | nil => intro o; simp
    | cons y l ih => intro o; rw [List.foldl_cons, ih, HL, List.mem_cons, or_assoc]
  unfold G9; rw [h, List.mem_append]; simp
theorem Tz (a b : List AQ) : (G9 a b).Nodup := by
  have h : ∀ (l o : List AQ), o.Pairwise (fun a b => a < b) → (l.foldl Dd o).Pairwise (fun a b => a < b) := by
    intro l
    induction l with
    | nil => intro o j; exact j
    | cons y l ih => intro o j; exact ih _ (Gz y j)
  exact Ma (h _ _ List.Pairwise.nil)
def Wu (k : Int) (s : AQ) (n : Int) : Vc.Item := ⟨k, s, n⟩
def Uy (x : Vc.Item) (n : Int) : Vc.Item := ⟨4, T1 x, n⟩
def Z8 (k : Int) (a b : List AQ) : List Vc.Item := EW (G9 a b) a b (Wu k)
def Wh (a b : List Vc.Item) : List Vc.Item := EW (FJ (a ++ b)) a b Uy
def Bk (f g : List Vc.Item) : List Vc.Item := if f = g ∧ Pt (Ax f) = true then [⟨2, [], 0⟩] else []
def Bh (f g : List Vc.Item) : List Vc.Item := if ((BE f).isSome ≠ (BE g).isSome ∨ ¬ sC f = sC g) ∨ ¬ sO f = sO g then [⟨5, [], 0⟩] else []
def CB (s t : AQ) : List Vc.Item := if ¬ K2 s = K2 t then [⟨7, aL, 0⟩] else []
def CN (s t : AQ) : List Vc.Item := if ¬ IA s = IA t then [⟨7, aM, 0⟩] else []
def ET (t : AQ) : List Vc.Item := if 0 < Nj t then [⟨8, [], (Nj t : Nat)⟩] else []
def DG (s t : AQ) : List Vc.Item := if ¬ Gt s = Gt t then [⟨9, Gt t, 0⟩] else []
def Dh (c : Chk) (s t : AQ) : List Vc.Item := if ¬ c.long = 0 ∧ c.long * (s.length : Nat) < 100 * (t.length : Nat) then [⟨12, U4, 0⟩] else []
def DM (c : Chk) (s t : AQ) : List Vc.Item := if ¬ c.short = 0 ∧ 100 * (t.length : Nat) < c.short * (s.length : Nat) then [⟨12, RW, 0⟩] else []
def CW (c : Chk) (s t : AQ) : List Vc.Item := CB s t ++ CN s t ++ ET t ++ DG s t ++ Dh c s t ++ DM c s t
def bP (c : Chk) (S : List Vc.Item) : List Nat := Aa c.ts.length (AR S (BG c.cls c.ts) 0)
def Gf (c : Chk) (k : Nat) : Vc.Item := ⟨10, (c.ts.getD k default).req.getD 0 default, -1⟩
def Jb (s : AQ) : Vc.Item := ⟨11, s, 1⟩
def VB (c : Chk) (S T : List Vc.Item) : List Vc.Item := (BR T c.ts (bP c S)).map (Gf c)
def QD (c : Chk) (S T : List Vc.Item) : List Vc.Item := (BZ T c.ts [] (bP c S)).map Jb
def Od (c : Chk) (S T : List Vc.Item) : List Vc.Item := VB c S T ++ QD c S T
def Cb (f g : List Vc.Item) : List Vc.Item := Z8 3 (Fu (Bv f)) (Fu (Bv g))
def Es (f g : List Vc.Item) : List Vc.Item := Wh (Ac f) (Ac g)
def HC (f g : List Vc.Item) : List Vc.Item := Z8 6 (JL (Ax f)) (JL (Ax g))
def Hg (c : Chk) (f g : List Vc.Item) : List Vc.Item := Bk f g ++ Cb f g ++ Es f g ++ Bh f g ++ HC f g ++ CW c (A9 f) (A9 g) ++ Od c (Ax f) (Ax g)
def Tc (f g : List Vc.Item) : Prop := g.length = 0 ∧ 0 < f.length
instance (f g : List Vc.Item) : Decidable (Tc f g) := by unfold Tc; infer_instance
def Cv (c : Chk) (f g : List Vc.Item) : List Vc.Item := if Tc f g then [⟨1, [], 0⟩] else Hg c f g
def RU (c : Chk) (x : Vc.Item) : Bool := decide (¬ c.lev.getD x.kind.toNat default = 0)
def Sm (c : Chk) (f g : List Vc.Item) : List Vc.Item := if EG c = 0 then (DP (Cv c f g)).filter (RU c) else []
theorem XB {c : Chk} {f g j C I : List Vc.Item} (h1 : j.Perm (Cb f g)) (J : C.Perm (Es f g)) (R : I.Perm (HC f g)) : (Bk f g ++ (j ++ (C ++ I)) ++ Bh f g ++ CW c (A9 f) (A9 g) ++ Od c (Ax f) (Ax g)).Perm (Hg c f g) := by
  unfold Hg
  refine List.Perm.append_right _ (List.Perm.append_right _ ?_)
  rw [List.append_assoc, List.append_assoc (Bk f g), List.append_assoc (Bk f g), List.append_assoc (Bk f g)]
  refine List.Perm.append_left _ ?_
  rw [List.append_assoc j, List.append_assoc (Cb f g ++ Es f g), List.append_assoc (Cb f g), List.append_assoc C]
  exact h1.append (J.append (List.perm_append_comm.trans ((List.Perm.refl _).append R)))
theorem Lq {α : Type} [DecidableEq α] {u s t : List α} {f : α → Int → Vc.Item} {k : Int} (j : ∀ x n, (f x n).kind = k) {z : Vc.Item} (h : z ∈ EW u s t f) : z.kind = k := by
  unfold EW at h
  obtain ⟨x, _, rfl⟩ := List.mem_map.1 h
  exact j _ _
theorem G4 {p : Prop} [Decidable p] {y z : Vc.Item} {k : Int} (j : y.kind = k) (h : z ∈ (if p then [y] else [])) : z.kind = k := by
  split at h
  · rw [List.mem_singleton] at h; rw [h]; exact j
  · cases h
theorem SD {c : Chk} {s t : AQ} {z : Vc.Item} (h : z ∈ CW c s t) : 7 ≤ z.kind ∧ z.kind ≤ 12 := by
  unfold CW at h
  rcases List.mem_append.1 h with h | h
  · rcases List.mem_append.1 h with h | h
    · rcases List.mem_append.1 h with h | h
      · rcases List.mem_append.1 h with h | h
        · rcases List.mem_append.1 h with h | h
          · have := G4 (k := 7) rfl h; omega
          · have := G4 (k := 7) rfl h; omega
        · have := G4 (k := 8) rfl h; omega
      · have := G4 (k := 9) rfl h; omega
    · have := G4 (k := 12) rfl h; omega
  · have := G4 (k := 12) rfl h; omega
theorem Tk {c : Chk} {S T : List Vc.Item} {z : Vc.Item} (h : z ∈ Od c S T) : 10 ≤ z.kind ∧ z.kind ≤ 11 := by
  unfold Od VB QD at h
  rcases List.mem_append.1 h with h | h
  · obtain ⟨k, _, rfl⟩ := List.mem_map.1 h
    exact ⟨(show (10 : Int) ≤ 10 by decide), (show (10 : Int) ≤ 11 by decide)⟩
  · obtain ⟨k, _, rfl⟩ := List.mem_map.1 h
    exact ⟨(show (10 : Int) ≤ 11 by decide), (show (11 : Int) ≤ 11 by decide)⟩
theorem TZ {c : Chk} {f g : List Vc.Item} {z : Vc.Item} (h : z ∈ Hg c f g) : 2 ≤ z.kind ∧ z.kind ≤ 12 := by
  unfold Hg at h
  rcases List.mem_append.1 h with h | h
  · rcases List.mem_append.1 h with h | h
    · rcases List.mem_append.1 h with h | h
      · rcases List.mem_append.1 h with h | h
        · rcases List.mem_append.1 h with h | h
          · rcases List.mem_append.1 h with h | h
            · have := G4 (k := 2) rfl h; omega
            · have := Lq (k := 3) (fun _ _ => rfl) h; omega
          · have := Lq (k := 4) (fun _ _ => rfl) h; omega
        · have := G4 (k := 5) rfl h; omega
      · have := Lq (k := 6) (fun _ _ => rfl) h; omega
    · have := SD h; omega
  · have := Tk h; omega
theorem NP {c : Chk} {f g : List Vc.Item} {z : Vc.Item} (h : z ∈ Cv c f g) : 1 ≤ z.kind ∧ z.kind ≤ 12 := by
  unfold Cv at h; split at h
  · rw [List.mem_singleton] at h; rw [h]; exact ⟨by decide, by decide⟩
  · have := TZ h; omega
def cA (c : Chk) (x : Vc.Item) : Bool := decide ((1 ≤ x.kind ∧ x.kind ≤ 12) ∧ c.lev.getD x.kind.toNat default = 2)
def Xf (c : Chk) (l : List Vc.Item) : Bool := l.any (cA c)
theorem TA {s t : AQ} {C : World} (R : s.length ≤ 140737488355328) (U : t.length ≤ 140737488355328) :
    Calls Tryz.prog 154 #[S s, S t] C fun e w' => e = .returned (.bool (decide (t <+: s))) ∧ Evo C w' [] := by
 refine AG (n := 18) func154 rfl ntmps154 rfl ?_
 have J : Evo C C [] := Evo.refl _ _
 refine Zs (Zn A6 (Zs (Zo Au (Zo (Al rfl η underlying9) (Zo Au (Zo (Al rfl η underlying9) (Zo (BQ rfl η η) (Zo Br ?_))))))))
 refine Ab rfl Aq rfl (fun j => Au) ?_
 refine Ab rfl Aq rfl (fun j => Au) ?_
 refine Ab rfl Aq rfl (fun j => Al rfl (Af j) underlying9) ?_
 refine Ab rfl Aq rfl (fun j => BP (0) (t.length) rfl underlying9 (Af j) LU (at1 (Af j) ω) τ τ) ?_
 refine Ab rfl Aq rfl (fun j => Au) ?_
 refine Ab rfl Aq rfl (fun j => Cn rfl (Af j) (Af j)) ?_
 refine Zo Fm (Zn A6 (AK Dk ?_))
 exact ⟨Ao (by rw [Bool.eq_iff_iff, decide_eq_true_iff, decide_eq_true_iff, SX]; constructor <;> (rintro ⟨h1, I⟩; exact ⟨by omega, I⟩)), J⟩
theorem UP {s t : AQ} {j : World} (J : s.length ≤ 140737488355328) (R : t.length ≤ 140737488355328) :
    Calls Tryz.prog 110 #[S s, S t] j fun e w' => e = .returned (.bool (decide (t <+: s))) ∧ Evo j w' [] := by
 refine AG (n := 8) func110 rfl ntmps110 rfl ?_
 have C : Evo j j [] := Evo.refl _ _
 refine Zs (Zn A6 (Zs (Zo Au (Zo Au (Zr [S _, S _] rfl η func154 (TA τ τ) ?_)))))
 rintro e w1 ⟨rfl, F1⟩
 refine ⟨_, rfl, ?_⟩
 have I := F1.size
 replace C := Z0 C F1
 refine Zn A6 (AK Dk ?_)
 exact ⟨rfl, C⟩
theorem Nc {s : AQ} {w0 : World} (hs : s.length ≤ 140737488355328) :
    Calls Tryz.prog 153 #[S s] w0 fun e w' => e = .returned (.tuple #[.int .i64 (ZR s : Nat), .int .i64 (DV s : Nat)]) ∧ Evo w0 w' [] := by
 refine AG (n := 36) func153 rfl ntmps153 rfl ?_
 have I : Evo w0 w0 [] := Evo.refl _ _
 refine Zs (Zo Ah (Zn Ah (Zs (Zo Au (Zo (Al rfl η underlying9) (Zn Ah (AB (AD (AZ (α := Nat) [2, 6, 7, 8, 9, 10, 11, 12, 13, 14, 15, 16, 17] (fun k g w => g 2 = .int .i64 (k : Nat) ∧ k ≤ s.length ∧ (∀ j, j < k → BM (s.getD j default) = 2) ∧ w0.heap.size ≤ w.heap.size ∧ Evo w0 w []) (fun k => s.length - k) 0 ?_ ?_)))))))))
 refine ⟨σ, δ, (fun j h => by omega), δ, I⟩
 rintro k g w2 ⟨a7, hk, hall, hzl1, I⟩
 have a1 := I.size
 refine Zk 2 a7 (AB (Zs (Zo AN (Zo AN (Zo Bu (Zo Br ?_))))))
 refine Ab rfl Aq rfl (fun C => Au) ?_
 refine Ab rfl Aq rfl (fun C => AN) ?_
 refine Ab rfl Aq rfl (fun C => A3 (k) rfl underlying9 (Af C) (Af C) χ ω) ?_
 refine Bb rfl Aq rfl (fun C => Am rfl (An (v := .int _ _) (Af C) (rfl)) func143 rfl ζ) (fun C => (EV ).mono (fun e w' h => ⟨h.1, h.2⟩)) (fun w4 F5 => ?_)
 have Q4 := F5.size
 replace I := Z0 I F5
 refine Ab rfl Aq rfl (fun C => A1 rfl (Af C) η) ?_
 refine Zn Fm (AE η (fun U => ?_) (fun U => ?_))
 refine AF (AD (AA (Zo AN (Zo A8 (Zn Ah (AO (Zg (k + 1) ?_)))))))
 refine ⟨σ, δ, (CS hall U.2), δ, I⟩
 refine AW rfl (AB (AD ?_))
 have R : Fo s = k := QY ω hall (by by_cases q : k = s.length; exact .inl q; exact .inr (fun h => U ⟨by omega, h⟩))
 refine AZ (α := Nat) [3, 18, 19, 20, 21, 22, 23, 24, 25, 26, 27, 28, 29, 30] (fun m g w => g 3 = .int .i64 (m : Nat) ∧ (k ≤ m ∧ m ≤ s.length) ∧ FF s m = DV s ∧ w4.heap.size ≤ w.heap.size ∧ Evo w0 w []) (fun m => m) s.length ?_ ?_
 refine ⟨σ, ⟨by omega, Nat.le_refl _⟩, rfl, δ, I⟩
 rintro m g w8 ⟨a8, hm, hend, hzl7, I⟩
 have a6 := I.size
 refine Zk 3 a8 (AB (Zs (Zo AN (Zo AN (Zo IG (Zo Br ?_))))))
 refine Ab rfl Aq rfl (fun C => Au) ?_
 refine Ab rfl Aq rfl (fun C => AN) ?_
 refine Ab rfl Aq rfl (fun C => DZ rfl (Af C) η ω ω) ?_
 refine Ab rfl Aq rfl (fun C => A3 ((m - 1)) rfl underlying9 (Af C) (Af C) ω ω) ?_
 refine Bb rfl Aq rfl (fun C => Am rfl (An (v := .int _ _) (Af C) (rfl)) func143 rfl ζ) (fun C => (EV ).mono (fun e w' h => ⟨h.1, h.2⟩)) (fun ba F11 => ?_)
 have a_ := F11.size
 replace I := Z0 I F11
 refine Ab rfl Aq rfl (fun C => A1 rfl (Af C) η) ?_
 refine Zn Fm (AE η (fun J => ?_) (fun J => ?_))
 refine AF (AD (AA (Zo AN (Zo JV (Zn Ah (AO (Zg (m - 1) ?_)))))))
 refine ⟨(congrArg (Value.int _) ω), ⟨by omega, by omega⟩, (by rw [← hend]; exact (Ng ω J.2).symm), δ, I⟩
 refine AW rfl (AB (AB ?_))
 have ag : m = k ∨ ¬ BM (s.getD (m - 1) default) = 2 := by by_cases q : m = k; exact .inl q; exact .inr (fun h => J ⟨by omega, h⟩)
 refine AA (Zo AN (Zo AN (Zn C3 (AE η (fun aT => ?_) (fun aT => ?_)))))
 refine Zs (Zo Ah (Zn Ah (AK (He (v := .int _ _) (u := .int _ _) rfl η η) ?_)))
 have h9 := ZI R hend ω
 exact ⟨by rw [h9.1, h9.2]; rfl, I⟩
 refine AF (Zs (Zo AN (Zo AN (Zo Ah (Zn Ah (AK (He (v := .int _ _) (u := .int _ _) rfl η η) ?_))))))
 have h9 := VR R hend ω ω (ag.resolve_left ω)
 exact ⟨by rw [h9.1, h9.2], I⟩
theorem Mj {s : AQ} {J : World} (hs : s.length ≤ 140737488355328) :
    Calls Tryz.prog 109 #[S s] J fun e w' => e = .returned (.tuple #[S (K2 s), S (IA s)]) ∧ Evo J w' [] := by
 refine AG (n := 22) func109 rfl ntmps109 rfl ?_
 have C : Evo J J [] := Evo.refl _ _
 refine Zs (Zo CD (Zn CD (Zs (Zo Au (Zr [S _] rfl η func153 (Nc ω) ?_)))))
 rintro e w1 ⟨rfl, F1⟩
 refine ⟨_, rfl, ?_⟩
 have Q1 := F1.size
 replace C := Z0 C F1
 refine Zo S4 (Zo (AX (v := .int _ _) rfl η η) (Zo (AX (v := .int _ _) rfl η η) (Zo Ah (Zn Ah (AB (Zs (Zo AN (Zo AN (Zn C3 ?_)))))))))
 refine AE η (fun I => ?_) (fun I => ?_)
 refine Zs (Zo Au (Zo Au (Zo CD (Zn CD (AK (He (v := S _) (u := S _) rfl η η) ?_)))))
 have R := V2 (bZ (s := s) ω)
 exact ⟨by rw [R.1, R.2], C⟩
 refine AF (AB ?_)
 have h8 := cE (s := s) (fun q => I (by rw [q])); have h7 := RV s; have h6 := P8 s
 have U := C
 refine CJ ([]) ζ ?_
 intro w3 F4 hC5
 have Q3 := F4.size
 replace C := Z0 C F4
 refine Zt (i := 0) η (fun w' j => Au) hC5 (Zt (i := 1) η (fun w' j => AN) hC5 (Zt (i := 2) η (fun w' j => by exact BP (0) ((ZR s)) rfl underlying9 η LU (at1 η χ) τ τ) hC5 (Zt (i := 3) η (fun w' j => Au) hC5 (Zt (i := 4) η (fun w' j => AN) hC5 (Zt (i := 5) η (fun w' j => by exact BP ((DV s)) (_) rfl underlying9 η (at1 η χ) TS τ τ) hC5 (Zt (i := 6) η (fun w' j => CD) hC5 (Zt (i := 7) η (fun w' j => CD) hC5 ?_)))))))
 refine CH ζ ?_
 refine AK (He (v := S _) (u := S _) rfl η η) ?_
 exact ⟨by rw [L1, h8]; rfl, C⟩
theorem Ju {s : AQ} {J : World} (hs : s.length ≤ 140737488355328) :
    Calls Tryz.prog 111 #[S s] J fun e w' => e = .returned (S (Gt s)) ∧ Evo J w' [] := by
 refine AG (n := 25) func111 rfl ntmps111 rfl ?_
 have I : Evo J J [] := Evo.refl _ _
 refine Zs (Zn CD (Zs (Zo Au (Zr [S _] rfl η func153 (Nc ω) ?_))))
 rintro e w1 ⟨rfl, F1⟩
 refine ⟨_, rfl, ?_⟩
 have R := F1.size
 replace I := Z0 I F1
 refine Zo S4 (Zo (AX (v := .int _ _) rfl η η) (Zo (AX (v := .int _ _) rfl η η) (Zo Ah (Zn Ah (AB (AB ?_))))))
 have h6 := P8 s
 refine AA (Zo AN (Zo IG (Zo Br ?_)))
 refine Ab rfl Aq rfl (fun j => Au) ?_
 refine Ab rfl Aq rfl (fun j => AN) ?_
 refine Ab rfl Aq rfl (fun j => DZ rfl (Af j) η ω ω) ?_
 refine Ab rfl Aq rfl (fun j => A3 ((DV s - 1)) rfl underlying9 (Af j) (Af j) ω ω) ?_
 refine Bb rfl Aq rfl (fun j => Am rfl (An (v := .int _ _) (Af j) (rfl)) func143 rfl ζ) (fun j => (EV ).mono (fun e w' h => ⟨h.1, h.2⟩)) (fun w2 F3 => ?_)
 have U := F3.size
 replace I := Z0 I F3
 refine Ab rfl Aq rfl (fun j => A1 rfl (Af j) η) ?_
 refine Zn Fm (AE η (fun C => ?_) (fun C => ?_))
 refine Zs (Zo Au (Zo AN (Zo JV (Zo AN (Zo (by exact BP ((DV s - 1)) ((DV s)) rfl underlying9 η (at1 η ω) (at1 η ω) τ τ) (Zn CD (AK (BN (v := S _) rfl η) ?_)))))))
 exact ⟨by rw [← SL ω C.2, List.drop_take], I⟩
 refine AF (Zs (Zn CD (AK (BN (v := S _) rfl η) ?_)))
 exact ⟨by rw [VD (by by_cases q : DV s = 0; exact .inl q; exact .inr (fun h => C ⟨by omega, h⟩))], I⟩
theorem Ip {s : AQ} {U : World} (hs : s.length ≤ 140737488355328) :
    Calls Tryz.prog 134 #[S s] U fun e w' => e = .returned (S (Gt s)) ∧ Evo U w' [] := by
 refine AG (n := 33) func134 rfl ntmps134 rfl ?_
 have C : Evo U U [] := Evo.refl _ _
 refine Zs (Zn CD (Zs (Zo Au (Zo (Al rfl η underlying9) (Zn Ah (AB (AD (AZ (α := Nat) [3, 6, 7, 8, 9, 10, 11, 12, 13, 14, 15, 16, 17] (fun k g w => g 3 = .int .i64 (k : Nat) ∧ k ≤ s.length ∧ FF s k = DV s ∧ U.heap.size ≤ w.heap.size ∧ Evo U w []) (fun k => k) s.length ?_ ?_))))))))
 refine ⟨σ, (Nat.le_refl _), rfl, δ, C⟩
 rintro k g w2 ⟨ao, hk, hend, hzl1, C⟩
 have ag := C.size
 refine Zk 3 ao (AB (Zs (Zo AN (Zo IG (Zo Br ?_)))))
 refine Ab rfl Aq rfl (fun j => Au) ?_
 refine Ab rfl Aq rfl (fun j => AN) ?_
 refine Ab rfl Aq rfl (fun j => DZ rfl (Af j) η ω ω) ?_
 refine Ab rfl Aq rfl (fun j => A3 ((k - 1)) rfl underlying9 (Af j) (Af j) ω ω) ?_
 refine Bb rfl Aq rfl (fun j => Am rfl (An (v := .int _ _) (Af j) (rfl)) func101 rfl ζ) (fun j => (Bi ).mono (fun e w' h => ⟨h.1, h.2⟩)) (fun w4 F5 => ?_)
 have Q4 := F5.size
 replace C := Z0 C F5
 refine Ab rfl Aq rfl (fun j => A1 rfl (Af j) η) ?_
 refine Zn Fm (AE η (fun R => ?_) (fun R => ?_))
 refine AF (AD (AA (Zo AN (Zo JV (Zn Ah (AO (Zg (k - 1) ?_)))))))
 refine ⟨(congrArg (Value.int _) ω), δ, (by rw [← hend]; exact (Ng ω R.2).symm), δ, C⟩
 refine AW rfl (AB (AB ?_))
 have J : DV s = k := by rw [← hend]; exact Jr (by by_cases q : k = 0; exact .inl q; exact .inr (fun h => R ⟨by omega, h⟩))
 refine AA (Zo AN (Zo C3 (Zo Br ?_)))
 refine Ab rfl Ay rfl (fun j => Au) ?_
 refine Ab rfl Ay rfl (fun j => AN) ?_
 refine Ab rfl Ay rfl (fun j => DZ rfl (Af j) η ω ω) ?_
 refine Ab rfl Ay rfl (fun j => A3 ((k - 1)) rfl underlying9 (Af j) (Af j) ω ω) ?_
 refine Bb rfl Ay rfl (fun j => Am rfl (An (v := .int _ _) (Af j) (rfl)) func101 rfl ζ) (fun j => (Bi ).mono (fun e w' h => ⟨h.1, h.2⟩)) (fun w7 F8 => ?_)
 have Q7 := F8.size
 replace C := Z0 C F8
 refine Ab rfl Ay rfl (fun j => BD rfl (Af j) η) ?_
 refine Zn Ee (AE η (fun I => ?_) (fun I => ?_))
 refine Zs (Zn CD (AK (BN (v := S _) rfl η) ?_))
 exact ⟨by rw [VD (by rw [J]; exact I.imp (fun q => by omega) (fun q => q))], C⟩
 refine AF (Zs (Zo Au (Zo AN (Zo JV (Zo AN (Zo (by exact BP ((k - 1)) (k) rfl underlying9 η (at1 η ω) (at1 η ω) τ τ) (Zn CD (AK (BN (v := S _) rfl η) ?_))))))))
 exact ⟨by rw [← SL (by rw [J]; have h9 := not_or.1 I; omega) (by rw [J]; exact Classical.not_not.1 (not_or.1 I).2), J, List.drop_take], C⟩
theorem K9 {s : AQ} {w0 : World} (hs : s.length ≤ 140737488355328) :
    Calls Tryz.prog 133 #[S s] w0 fun e w' => e = .returned (.tuple #[S (K2 s), S (IA s)]) ∧ Evo w0 w' [] := by
 refine AG (n := 39) func133 rfl ntmps133 rfl ?_
 have I : Evo w0 w0 [] := Evo.refl _ _
 refine Zs (Zo CD (Zn CD (Zs (Zo Au (Zo (Al rfl η underlying9) (Zo Ah (Zn Ah (AB (AD ?_)))))))))
 refine AZ (α := Nat) [4, 8, 9, 10, 11, 12, 13, 14, 15, 16, 17, 18, 19, 20] (fun k g w => g 4 = .int .i64 (k : Nat) ∧ k ≤ s.length ∧ (∀ j, j < k → BM (s.getD j default) = 2) ∧ w0.heap.size ≤ w.heap.size ∧ Evo w0 w []) (fun k => s.length - k) 0 ?_ ?_
 refine ⟨σ, δ, (fun j h => by omega), δ, I⟩
 rintro k g w2 ⟨a1, hk, hall, hzl1, I⟩
 have az := I.size
 refine Zk 4 a1 (AB (Zs (Zo AN (Zo Au (Zo (Al rfl η underlying9) (Zo Bu (Zo Br ?_)))))))
 refine Ab rfl Aq rfl (fun C => Au) ?_
 refine Ab rfl Aq rfl (fun C => AN) ?_
 refine Ab rfl Aq rfl (fun C => A3 (k) rfl underlying9 (Af C) (Af C) χ ω) ?_
 refine Bb rfl Aq rfl (fun C => Am rfl (An (v := .int _ _) (Af C) (rfl)) func101 rfl ζ) (fun C => (Bi ).mono (fun e w' h => ⟨h.1, h.2⟩)) (fun w4 F5 => ?_)
 have Q4 := F5.size
 replace I := Z0 I F5
 refine Ab rfl Aq rfl (fun C => A1 rfl (Af C) η) ?_
 refine Zn Fm (AE η (fun U => ?_) (fun U => ?_))
 refine AF (AD (AA (Zo AN (Zo A8 (Zn Ah (AO (Zg (k + 1) ?_)))))))
 refine ⟨σ, δ, (CS hall U.2), δ, I⟩
 refine AW rfl (AB (AD ?_))
 have ao : Fo s = k := QY ω hall (by by_cases q : k = s.length; exact .inl q; exact .inr (fun h => U ⟨by omega, h⟩))
 refine AZ (α := Nat) [5, 21, 22, 23, 24, 25, 26, 27, 28, 29, 30, 31, 32] (fun m g w => g 5 = .int .i64 (m : Nat) ∧ m ≤ s.length ∧ FF s m = DV s ∧ w4.heap.size ≤ w.heap.size ∧ Evo w0 w []) (fun m => m) s.length ?_ ?_
 refine ⟨σ, (Nat.le_refl _), rfl, δ, I⟩
 rintro m g w8 ⟨a6, hm, hend, hzl7, I⟩
 have aT := I.size
 refine Zk 5 a6 (AB (Zs (Zo AN (Zo IG (Zo Br ?_)))))
 refine Ab rfl Aq rfl (fun C => Au) ?_
 refine Ab rfl Aq rfl (fun C => AN) ?_
 refine Ab rfl Aq rfl (fun C => DZ rfl (Af C) η ω ω) ?_
 refine Ab rfl Aq rfl (fun C => A3 ((m - 1)) rfl underlying9 (Af C) (Af C) ω ω) ?_
 refine Bb rfl Aq rfl (fun C => Am rfl (An (v := .int _ _) (Af C) (rfl)) func101 rfl ζ) (fun C => (Bi ).mono (fun e w' h => ⟨h.1, h.2⟩)) (fun bb F11 => ?_)
 have a_ := F11.size
 replace I := Z0 I F11
 refine Ab rfl Aq rfl (fun C => A1 rfl (Af C) η) ?_
 refine Zn Fm (AE η (fun J => ?_) (fun J => ?_))
 refine AF (AD (AA (Zo AN (Zo JV (Zn Ah (AO (Zg (m - 1) ?_)))))))
 refine ⟨(congrArg (Value.int _) ω), δ, (by rw [← hend]; exact (Ng ω J.2).symm), δ, I⟩
 refine AW rfl (AB ?_)
 have a7 : DV s = m := by rw [← hend]; exact Jr (by by_cases q : m = 0; exact .inl q; exact .inr (fun h => J ⟨by omega, h⟩))
 have a8 := I
 refine CJ ([]) ζ ?_
 intro w13 F14 hC15
 have ba := F14.size
 replace I := Z0 I F14
 refine Zt (i := 0) η (fun w' R => Au) hC15 (Zt (i := 1) η (fun w' R => AN) hC15 (Zt (i := 2) η (fun w' R => by exact BP (0) (k) rfl underlying9 η LU (at1 η χ) τ τ) hC15 (Zt (i := 3) η (fun w' R => Au) hC15 (Zt (i := 4) η (fun w' R => AN) hC15 (Zt (i := 5) η (fun w' R => by exact BP (m) (_) rfl underlying9 η (at1 η χ) TS τ τ) hC15 (Zt (i := 6) η (fun w' R => CD) hC15 (Zt (i := 7) η (fun w' R => CD) hC15 ?_)))))))
 refine CH ζ ?_
 refine AK (He (v := S _) (u := S _) rfl η η) ?_
 exact ⟨by rw [L1]; unfold K2 IA; rw [ao, a7]; rfl, I⟩
end Go.Proofs.YtlfjocbnbceceaaGreatDoor
namespace Go.Proofs
open Go.Shelf Go.Proofs.Tryz
def Tryz.laysM171_ren : Go.Shelf.Ren := ⟨fun | 171 => 152 | 243 => 186 | 246 => 207 | 283 => 221 | 284 => 222 | 285 => 223 | 286 => 224 | 129 => 123 | 317 => 235 | 318 => 236 | 319 => 237 | 320 => 238 | 337 => 251 | 338 => 252 | n => n, fun | 3 => 3 | 9 => 9 | 2 => 2 | 4 => 4 | 171 => 224 | 0 => 0 | 53 => 153 | 37 => 123 | 5 => 5 | 173 => 226 | 212 => 233 | 51 => 151 | 20 => 20 | 213 => 234 | 46 => 105 | 232 => 249 | 233 => 250 | n => n, fun | 17 => 1 | 18 => 4 | 19 => 5 | n => n⟩
theorem Tryz.laysM171 : Go.Proofs.LaysM.n171 Tryz.prog Tryz.laysM171_ren := {
  mixed := by kernel_rfl
  f129 := Tryz.func123.trans (congrArg some (by kernel_rfl))
  f171 := Tryz.func152.trans (congrArg some (by kernel_rfl))
  f243 := Tryz.func186.trans (congrArg some (by kernel_rfl))
  f246 := Tryz.func207.trans (congrArg some (by kernel_rfl))
  f283 := Tryz.func221.trans (congrArg some (by kernel_rfl))
  f284 := Tryz.func222.trans (congrArg some (by kernel_rfl))
  f285 := Tryz.func223.trans (congrArg some (by kernel_rfl))
  f286 := Tryz.func224.trans (congrArg some (by kernel_rfl))
  f317 := Tryz.func235.trans (congrArg some (by kernel_rfl))
  f318 := Tryz.func236.trans (congrArg some (by kernel_rfl))
  f319 := Tryz.func237.trans (congrArg some (by kernel_rfl))
  f320 := Tryz.func238.trans (congrArg some (by kernel_rfl))
  f337 := Tryz.func251.trans (congrArg some (by kernel_rfl))
  f338 := Tryz.func252.trans (congrArg some (by kernel_rfl))
  t0 := underlying0
  a0 := isAgg0
  z0 := sizeOf0
  v0 := zeroValue0
  t2 := underlying2
  a2 := isAgg2
  z2 := sizeOf2
  v2 := zeroValue2
  t3 := underlying3
  a3 := isAgg3
  z3 := sizeOf3
  v3 := zeroValue3
  t4 := underlying4
  a4 := isAgg4
  z4 := sizeOf4
  v4 := zeroValue4
  t5 := underlying5
  a5 := isAgg5
  z5 := sizeOf5
  v5 := zeroValue5
  t9 := underlying9
  a9 := isAgg9
  z9 := sizeOf9
  v9 := zeroValue9
  t20 := underlying20
  a20 := isAgg20
  z20 := sizeOf20
  v20 := zeroValue20
  t37 := underlying123
  a37 := isAgg123
  z37 := sizeOf123
  v37 := zeroValue123
  t46 := underlying105
  a46 := isAgg105
  z46 := sizeOf105
  v46 := zeroValue105
  t51 := underlying151
  a51 := isAgg151
  z51 := sizeOf151
  v51 := zeroValue151
  t53 := underlying153
  a53 := isAgg153
  z53 := sizeOf153
  v53 := zeroValue153
  t171 := underlying224
  a171 := isAgg224
  z171 := sizeOf224
  v171 := zeroValue224
  t173 := underlying226
  a173 := isAgg226
  z173 := sizeOf226
  v173 := zeroValue226
  t212 := underlying233
  a212 := isAgg233
  z212 := sizeOf233
  v212 := zeroValue233
  t213 := underlying234
  a213 := isAgg234
  z213 := sizeOf234
  t232 := underlying249
  a232 := isAgg249
  z232 := sizeOf249
  v232 := zeroValue249
  t233 := underlying250
  a233 := isAgg250
  z233 := sizeOf250
  v233 := zeroValue250
  g17 := by kernel_rfl
  g18 := by kernel_rfl
  g19 := by kernel_rfl
  i0 := by kernel_rfl
  i2 := by kernel_rfl
  i3 := by kernel_rfl
  i4 := by kernel_rfl
  i5 := by kernel_rfl
  i9 := by kernel_rfl
  i20 := by kernel_rfl
  i37 := by kernel_rfl
  i46 := by kernel_rfl
  i51 := by kernel_rfl
  i53 := by kernel_rfl
  i171 := by kernel_rfl
  i173 := by kernel_rfl
  i212 := by kernel_rfl
  i232 := by kernel_rfl
  i233 := by kernel_rfl
  m17 := by kernel_rfl
  m18 := by kernel_rfl
  m19 := by kernel_rfl }
open Go.RowKit Go.Sort Go.Lib in
theorem Tryz.strconv_Itoa (n : Int) (C : -9223372036854775808 ≤ n) (h1 : n ≤ 9223372036854775807) (w : World) (j : Lib.TabIs Tryz.prog w "internal/strconv.uint64pow10" .u64 Lib.pow10Tab) :
    Calls Tryz.prog 152 #[.int .i64 n] w fun e w' => e = .returned (.string ⟨(Lib.itoa n).toArray⟩) ∧ ∃ k os, w' = grow (w.drewN k) os := Any.strconv_Itoa Tryz.laysM171 n C h1 w j
end Go.Proofs
