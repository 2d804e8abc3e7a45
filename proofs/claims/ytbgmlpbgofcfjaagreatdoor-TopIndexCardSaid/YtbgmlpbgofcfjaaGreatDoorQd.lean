/-
  Library, plain laws and walks that the statements reach (joined by a program out of smaller texts).
-/
import Derived.Test.YtbgmlpbgofcfjaaGreatDoorQc
import Derived.Test.YtbgmlpbgofcfjaaGreatDoorQb
import Derived.Test.YtbgmlpbgofcfjaaGreatDoorQa
import Derived.MapKept
import Derived.Shelf.Utf8.RuneCount
import Derived.Shelf.LaysM
import Derived.Shelf.Sort.Plain
import Derived.Shelf.Unicode.DecodeSlow
import Derived.Shelf.Unicode.DecodeAny
import Derived.Ground.Names2Prog
import Derived.Shelf.Slices.SearchI
import Derived.Shelf.Slices.In.SortNone
import Derived.Shelf.Slices.Empties
import Derived.Test.YtbgmlpbgofcfjaaGreatDoorProg
set_option linter.unusedVariables false
set_option linter.unusedSimpArgs false
namespace Go.Vc
open Go Go.RowKit Go.IntWalk
instance : Enc (Ac × Ac) := ⟨2, fun x => [S x.1, S x.2], fun _ => rfl, fun _ => rfl, by decide⟩
theorem KE {P : Program} {w : World} (d : Nat) {T : TypeId} {f0 f1 : Field} (hu : P.underlying T = some (.struct #[f0, f1])) (o : P.stoodInHeld T = false) (C : f0.name ≠ "_") (n1 : f1.name ≠ "_")
    (I : f0.offset = 0) (J : f1.offset = 1) (R : P.underlying f0.type = some .string) (U : P.underlying f1.type = some .string)
    (a0 : CQ P f0.type = some false) (j : CQ P f1.type = some false) (x y : Ac × Ac) :
    (Op.equalIn (d + 2) T (.agg (Enc.enc x).toArray) (.agg (Enc.enc y).toArray)).run P w = .ok (decide (x = y)) w := by
  have h := Qz (P := P) (w := w) d hu o C n1 I J R U a0 j ⟨x.1, x.2⟩ ⟨y.1, y.2⟩
  have e : decide (x = y) = decide ((⟨x.1, x.2⟩ : Ende) = ⟨y.1, y.2⟩) := decide_eq_decide.2 (by rw [Ende.mk.injEq]; exact Prod.ext_iff)
  rw [e]; exact h
theorem Sn {P : Program} {T : TypeId} {f0 f1 : Field} (hu : P.underlying T = some (.struct #[f0, f1])) (I : f0.name ≠ "_") (n1 : f1.name ≠ "_") (J : f0.offset = 0) (R : f1.offset = 1) (u0 : P.underlying f0.type = some .string) (u1 : P.underlying f1.type = some .string)
    (a0 : CQ P f0.type = some false) (j : CQ P f1.type = some false)
    (he : ∀ (w : World) (x y : Ac × Ac), (Op.equalIn 10000 T (.agg (Enc.enc x).toArray) (.agg (Enc.enc y).toArray)).run P w = .ok (decide (x = y)) w) : KeyLaw P T (fun x : Ac × Ac => Value.agg (Enc.enc x).toArray) := by
  refine KeyLaw.asked hu (fun x y h => ?_) (fun x y => rfl) (fun w x y => he w x y) (fun w e x => ?_) (fun x => ?_)
  · obtain ⟨t1, i1⟩ := x
    obtain ⟨t2, i2⟩ := y
    have h1 : [S t1, S i1] = [S t2, S i2] := List.toArray_inj (Value.agg.inj h)
    simp only [List.cons.injEq, and_true] at h1
    rw [Zb h1.1, Zb h1.2]
  · have U : ∀ (z : Ac × Ac), (part f0.type (Enc.enc z).toArray 0).run P w = .ok (S z.1) w := fun z => C2 a0 rfl
    have p1 : ∀ (z : Ac × Ac), (part f1.type (Enc.enc z).toArray 1).run P w = .ok (S z.2) w := fun z => C2 j rfl
    have o := Dk u0 w e 9998 (S x.1) (.inl ⟨rfl, _, rfl⟩)
    have c1 := Dk u1 w e 9998 (S x.2) (.inl ⟨rfl, _, rfl⟩)
    unfold Instr.checkKey
    simp only [Sem.run_bind, run_underlying hu, Result.andThen_ok]
    simp [I, n1, J, R, U, p1, o, c1, Sem.run_bind]
  · show Instr.sameBits 10000 (.agg #[S x.1, S x.2]) (.agg #[S x.1, S x.2]) = true
    have h1 := Nd 9999 ⟨x.1.toArray⟩
    have C := Nd 9999 ⟨x.2.toArray⟩
    unfold Instr.sameBits
    simp only [S] at *
    simp [h1, C]
theorem FH {α : Type} [DecidableEq α] : ∀ {m : List (α × Int)} {p : α × Int}, (m.map (·.1)).Nodup → p ∈ m → Az m p.1 = some p.2
  | q :: m, p, hn, hp => by
    obtain ⟨h1, h2⟩ := List.nodup_cons.1 hn
    rw [Dl]
    rcases List.mem_cons.1 hp with rfl | hp
    · rw [if_pos rfl]
    · rw [if_neg (fun e => h1 (by show q.1 ∈ _; rw [e]; exact List.mem_map_of_mem hp)), FH h2 hp]
theorem RT {α : Type} [DecidableEq α] {m : List (α × Int)} {a : α} {v : Int} (h : Az m a = some v) : (a, v) ∈ m := by
  unfold Az at h
  cases e : m.find? (fun p => decide (p.1 = a)) with
  | none => rw [e] at h; cases h
  | some p =>
    rw [e] at h
    have h1 : p.2 = v := by simpa using h
    have j : p.1 = a := by simpa using List.find?_some e
    have o := List.mem_of_find?_eq_some e
    rw [← h1, ← j]; exact o
section
variable {α : Type} [DecidableEq α]
def OY (m m2 : List (α × Int)) (a : α) (d : Int) : Prop := ∀ x, Az m2 x = if x = a then some ((Az m a).getD 0 + d) else Az m x
theorem JS {m : List (α × Int)} {a : α} (d : Int) : OY m (Co (Co m a ((Az m a).getD 0)) a ((Az m a).getD 0 + d)) a d := fun x => by
  rw [CW, CW]
  by_cases e : x = a
  · subst e; simp
  · simp [e, Ne.symm e]
theorem JR {m : List (α × Int)} {a : α} (d : Int) : OY m (Co (Co m a ((Az m a).getD 0)) a ((Az (Co m a ((Az m a).getD 0)) a).getD 0 + d)) a d := fun x => by
  rw [CW, CW, CW, if_pos rfl]
  by_cases e : x = a
  · subst e; simp
  · simp [e, Ne.symm e]
end
section
variable {α : Type} [BEq α] [LawfulBEq α]
def FL (ps : List α) (x : α) : Option Int := if x ∈ ps then some ((ps.count x : Nat) : Int) else none
theorem RS (x : α) : FL [] x = none := if_neg (by simp)
theorem Kq (ps : List α) (x : α) : (FL ps x).getD 0 = ((ps.count x : Nat) : Int) := by
  unfold FL
  by_cases h : x ∈ ps
  · rw [if_pos h]; rfl
  · rw [if_neg h, List.count_eq_zero.2 h]; rfl
theorem G8 [DecidableEq α] {m m2 : List (α × Int)} {ps : List α} {a : α} (h : ∀ x, Az m x = FL ps x) (C : OY m m2 a 1) : ∀ x, Az m2 x = FL (ps ++ [a]) x := fun x => by
  rw [C x]
  by_cases e : x = a
  · subst e
    rw [if_pos rfl, h, Kq]
    unfold FL
    rw [if_pos (by simp), List.count_append]; simp
  · rw [if_neg e, h]
    unfold FL
    have o : (ps ++ [a]).count x = ps.count x := by rw [List.count_append, List.count_singleton]; simp [Ne.symm e]
    rw [o]
    by_cases j : x ∈ ps
    · rw [if_pos j, if_pos (by simp [j])]
    · rw [if_neg j, if_neg (by simp [j, e])]
end
def CS (ws : List Ac) (k : Nat) : Ac := if k = 0 then [] else ws.getD (k - 1) default
theorem PE : ∀ (l : Ac) (ws : List Ac) (k : Nat), k ≤ ws.length → (Bk l ws).getD k default = (if k = 0 then l else ws.getD (k - 1) default, ws.getD k default)
  | l, [], 0, _ => rfl
  | l, w :: r, 0, _ => rfl
  | l, w :: r, k + 1, h => by
    have ih := PE w r k (by simpa using h)
    show (Bk w r).getD k default = _
    rw [ih]
    cases k with
    | zero => rfl
    | succ k => rfl
theorem Nj {ws : List Ac} {k : Nat} (h : k ≤ ws.length) : (Bk [] ws).take (k + 1) = (Bk [] ws).take k ++ [(CS ws k, ws.getD k default)] := by
  have j := D8 [] ws
  have e := PE [] ws k h
  rw [A7 _ k ω, e]; rfl
theorem Vf {ws : List Ac} : (Bk [] ws).take ws.length ++ [(CS ws ws.length, [])] = Bk [] ws := by
  have h := Nj (ws := ws) (k := ws.length) (Nat.le_refl _)
  rw [List.take_of_length_le (by rw [D8]; exact Nat.le_refl _)] at h
  have e : ws.getD ws.length default = ([] : Ac) := by simp [List.getD]; rfl
  rw [e] at h; exact h.symm
theorem R9 (ps : List (Ac × Ac)) : (GL ps).length ≤ ps.length := by
  have h := D6 ps
  have j : ((GL ps).map Bj).Nodup := List.pairwise_map.2 (h.1.imp fun {x y} (h : Pp (Bj x) (Bj y)) (e : Bj x = Bj y) => Cz (Bj y) (by rw [e] at h; exact h))
  have := List.Nodup.length_le_of_subset j (l₂ := ps) (fun q o => by
    obtain ⟨x, C, rfl⟩ := List.mem_map.1 o
    exact List.count_pos_iff.1 (h.2.1 x C).1)
  rwa [List.length_map] at this
theorem JP {ps : List (Ac × Ac)} {x : Gram} (j : x ∈ GL ps) : 0 < x.count ∧ x.count ≤ ps.length := by
  have h := (D6 ps).2.1 x j
  have o := List.count_le_length (a := Bj x) (l := ps)
  omega
theorem HT (ws : List Ac) : (AW ws).length ≤ ws.length + 1 := by have := R9 (Bk [] ws); rwa [D8] at this
end Go.Vc
namespace Go.Proofs.YtbgmlpbgofcfjaaGreatDoor
open Go.RowKit Go.Vc Go.Proofs.Tryz
theorem BE : CQ Tryz.prog 111 = some true := ζ
theorem XP : A8 Tryz.prog 223 0 = some 0 := ζ
theorem W7 : A8 Tryz.prog 223 1 = some 1 := ζ
theorem c4 : Cn Tryz.prog 105 = some [(0, 1), (1, 1), (2, 1)] := ζ
theorem YJ : Cn Tryz.prog 223 = some [(0, 1), (1, 1)] := ζ
theorem ER : Cy Tryz.prog 105 = some (3, 40, some (.agg #[(.string ⟨#[]⟩), (.string ⟨#[]⟩), (.int .i64 0)])) := ζ
theorem TY : Cy Tryz.prog 223 = some (2, 32, some (.agg #[(.string ⟨#[]⟩), (.string ⟨#[]⟩)])) := ζ
theorem RN {w : World} {base E : Nat} {v : Value} {l : List Gram} (h : OwnE w base E v l) : Calls Tryz.prog 145 #[v, .func (.func 146) #[] #[]] w fun e w' => e = .returned (.tuple #[]) ∧ Evo w w' v.ownBlock.toList ∧ ∃ l', S4 (ltOf OW) l l' ∧ OwnE w' base E v l' :=
  Xb (R := S4 (ltOf OW)) (fun l l' h => h.1.length_eq) ⟨List.Perm.refl _, List.Pairwise.nil⟩
    (fun j off cap d w hH hb o => (AnyQ.slices_SortFunc Tryz.sortGram 3 isAgg105 sizeOf105 Enc.enc (fun x => Enc.len x) (fun x v hv => List.all_eq_true.1 (Enc.one x) v hv) OW e7 146 #[] j off cap d w (enters_of func146 ζ rfl)
      (fun m os dk C x y => (show Calls Tryz.prog 146 #[.agg (Enc.enc x).toArray, .agg (Enc.enc y).toArray] _ _ from cmpg_calls.mono fun e w' ⟨h1, J, U⟩ => ⟨h1, Rj J U⟩)) hH hb o).mono fun e w' ⟨he, I, n, os, hp, C, hw⟩ => ⟨he, I, n, os, X7 hp C, hw⟩)
    (fun w => AnyF.slices_SortFunc_none { Tryz.sortGram with } none 0 (.func (.func 146) #[] #[]) w) h
theorem Hm : KeyLaw Tryz.prog 223 (fun x : Ac × Ac => Value.agg (Enc.enc x).toArray) :=
  Sn underlying223 υ υ rfl rfl underlying9 underlying9 BX BX (fun w x y => KE 9998 underlying223 Tryz.stoodInHeld223 υ υ rfl rfl underlying9 underlying9 BX BX x y)
def AO (l : List Vc.Item) : List Ac := (l.filter (fun x => decide (x.kind = 6))).map IX
theorem Nx {l : List Vc.Item} {k : Nat} (hk : k < l.length) (h : (l.getD k default).kind = 6) : AO (l.take (k + 1)) = AO (l.take k) ++ [IX (l.getD k default)] := by
  unfold AO; rw [A7 l k hk, List.filter_append, List.map_append, List.filter_cons_of_pos (p := fun x : Vc.Item => decide (x.kind = 6)) (decide_eq_true h)]; rfl
theorem O6 {l : List Vc.Item} {k : Nat} (hk : k < l.length) (h : ¬ (l.getD k default).kind = 6) : AO (l.take (k + 1)) = AO (l.take k) := by
  unfold AO; rw [A7 l k hk, List.filter_append, List.map_append, List.filter_cons_of_neg (p := fun x : Vc.Item => decide (x.kind = 6)) (by simpa using h)]; simp
theorem C9 (l : List Vc.Item) : (AO l).length ≤ l.length := by unfold AO; rw [List.length_map]; exact List.length_filter_le _ _
theorem SN {ao : Option Addr} {b off cap : Nat} {l : List Vc.Item} {I : World} (hl : RowE I ao b off cap l) (hq : ∀ x ∈ l, x.text.length ≤ 140737488355328) (hs : l.length ≤ 1000000) :
    Calls Tryz.prog 88 #[.slice ao l.length cap] I fun e w' => ∃ v, e = .returned v ∧ Evo I w' [] ∧ OwnE w' I.heap.size 9 v (AO l) := by
 refine AG (n := 22) func88 rfl ntmps88 rfl ?_
 have C : Evo I I [] := Evo.refl _ _
 have U := A9 hl
 have ag := hl.bd
 refine Zs (Zn Ew (Zs (Zn Ew (AE (Zs (Zo Bi (Zo (AQ rfl η underlying40) (Zn AU (AK ?_)))))))))
 refine Aq (α := Nat) [3, 5, 8, 9, 10, 11, 12, 13, 14, 15, 16, 17, 18, 19, 20] (fun k g w => ∃ J : Value, g 8 = .int .i64 (k : Nat) ∧ g 3 = J ∧ k ≤ l.length ∧ OwnE w I.heap.size 9 J (AO (l.take k)) ∧ I.heap.size ≤ w.heap.size ∧ Evo I w []) (fun k => l.length - k) 0 ?_ ?_
 refine ⟨_, σ, rfl, δ, (OwnE.nil _ _ _), δ, C⟩
 rintro k g w2 ⟨J, hj3, hj4, hk_k, j, hzl1, C⟩
 have af := C.size
 refine Zk 8 hj3 (Zk 3 hj4 (Zs (Zn Dn (AE (AH η (fun au => ?_) (fun au => ?_))))))
 refine AJ (AE (AK (Zs (Zo (Ab (k) rfl underlying40 Aa η η χ ω ((U _ C).addr (i := k) ω)) ?_))))
 have R := fun (w' : World) (h : Evo I w' []) => (U w' h).atD (k) ω
 refine Zo (AL rfl BE Aa η rfl (R _ C)) ?_
 have aT := fun g hg => (j.block (g := g) hg).2
 refine Bq (zs := [_, _, _]) (vs := [_, _, _]) Aa η rfl η (fun _ => rfl) η rfl rfl η ?_
 intro b8 w9 J8 E9 B8 Y8
 have Q9 := E9.size
 replace C := Z0 C E9
 replace j := j.evo0 E9
 refine Ag (Zs (Zo (AD rfl η Ba) (Zo (AA rfl Ae η (B8.at.cell 0 η)) (Zn DA (AH η (fun o => ?_) (fun o => ?_))))))
 have az := hq _ (EM (show k < l.length by omega)); have bb := C9 (l.take k); have bc : (l.take k).length ≤ k := List.length_take_le _ _
 refine AB (Zo (AN (v := J) rfl η) (Zo (AL rfl BE Aa η rfl B8.at) (Zr [.agg _] rfl η func147 (Db az) ?_)))
 rintro e bf ⟨rfl, F11⟩
 refine ⟨_, rfl, ?_⟩
 have a1 := F11.size
 replace C := Z0 C F11
 replace j := j.evo0 F11
 refine BL (u := S _) (y := _) rfl rfl underlying91 Es η j (fun _ => η) η ξ₁ (ω) (ω) ω ?_
 intro q_v12 v12 w13 E13 hov12 hlv12
 have a_ := E13.size
 replace C := AP C E13 (fun g hg => .inl (by first | exact (j.block hg).1 | (have := j.block hg; omega)))
 refine Zn (AR (v := v12) rfl η) (AX (AB (Zo Br (Zn AU (Zg (k + 1) ?_)))))
 refine ⟨_, σ, rfl, δ, (by first | (rw [Nx ω o]; exact hov12) | (rw [O6 ω o]; exact hov12)), δ, C⟩
 refine AJ (AX (AB (Zo Br (Zn AU (Zg (k + 1) ?_)))))
 refine ⟨_, σ, rfl, δ, (by first | (rw [Nx ω o]; exact j) | (rw [O6 ω o]; exact j)), δ, C⟩
 refine Ak rfl (Zs (Zo (AN (v := J) rfl η) (Zn (AR (v := J) rfl η) (AM (C8 (v := J) rfl η) ?_))))
 exact ⟨_, rfl, C, by rw [List.take_of_length_le ω] at j; exact j⟩
def gp (x : Gram) : (Ac × Ac) × Int := (Bj x, x.count)
theorem Iy {α : Type} [DecidableEq α] : ∀ {m : List (α × Int)} {p : α × Int}, (m.map (·.1)).Nodup → p ∈ m → Az m p.1 = some p.2
  | q :: m, p, hn, hp => by
    obtain ⟨h1, h2⟩ := List.nodup_cons.1 hn
    rw [Dl]
    rcases List.mem_cons.1 hp with rfl | hp
    · rw [if_pos rfl]
    · rw [if_neg (fun e => h1 (by show q.1 ∈ _; rw [e]; exact List.mem_map_of_mem hp)), Iy h2 hp]
theorem Oh {α : Type} [DecidableEq α] {m : List (α × Int)} {a : α} {v : Int} (h : Az m a = some v) : (a, v) ∈ m := by
  unfold Az at h
  cases e : m.find? (fun p => decide (p.1 = a)) with
  | none => rw [e] at h; cases h
  | some p =>
    rw [e] at h
    have h1 : p.2 = v := by simpa using h
    have j : p.1 = a := by simpa using List.find?_some e
    have o := List.mem_of_find?_eq_some e
    rw [← h1, ← j]; exact o
theorem Tm {ws : List Ac} {m : List ((Ac × Ac) × Int)} {g R : List Gram} (hm : ∀ x, Az m x = FL (Bk [] ws) x) (U : (m.map (·.1)).Nodup) (C : (g.map gp).Perm m) (hs : S4 (ltOf OW) g R) : R = AW ws := by
  have hk : (g.map Bj) = (g.map gp).map (·.1) := by rw [List.map_map]; rfl
  refine Qb (RA (ps := Bk [] ws) hs ?_ (fun x J => ?_) (fun p I => ?_)) (D6 _)
  · rw [hk]; exact ((C.map (·.1)).nodup_iff).2 U
  · have h1 : gp x ∈ m := C.mem_iff.1 (List.mem_map_of_mem J)
    have j := Iy U h1
    rw [hm] at j
    unfold FL at j
    by_cases o : (gp x).1 ∈ Bk [] ws
    · rw [if_pos o] at j
      injection j with j
      exact ⟨List.count_pos_iff.2 o, j.symm⟩
    · rw [if_neg o] at j; cases j
  · have h1 : Az m p = some (((Bk [] ws).count p : Nat) : Int) := by rw [hm]; exact if_pos I
    have j := C.mem_iff.2 (Oh h1)
    obtain ⟨x, J, e⟩ := List.mem_map.1 j
    exact ⟨x, J, congrArg Prod.fst e⟩
theorem Tk {ws : List Ac} {m : List ((Ac × Ac) × Int)} (hm : ∀ x, Az m x = FL (Bk [] ws) x) (C : (m.map (·.1)).Nodup) : m.length ≤ ws.length + 1 := by
  have h := List.Nodup.length_le_of_subset C (l₂ := Bk [] ws) (fun x J => by
    obtain ⟨p, I, rfl⟩ := List.mem_map.1 J
    have j := Iy C I
    rw [hm] at j
    unfold FL at j
    by_cases o : p.1 ∈ Bk [] ws
    · exact o
    · rw [if_neg o] at j; cases j)
  rw [List.length_map, D8] at h; exact h
theorem Iu {α β : Type} {f : α → β} {g : List α} {j o : List β} {p : β} {x : α} {m : List β} (h : (g.map f ++ (j ++ p :: o)).Perm m) (C : f x = p) : ((g ++ [x]).map f ++ (j ++ o)).Perm m := by
  refine List.Perm.trans ?_ h
  rw [List.map_append, List.append_assoc]
  refine List.Perm.append_left _ ?_
  show (f x :: (j ++ o)).Perm _
  rw [C]
  exact List.perm_middle.symm
set_option maxHeartbeats 1000000 in
theorem SK {ao : Option Addr} {b off cap : Nat} {ws : List Ac} {w0 : World} (hl : RowE w0 ao b off cap ws) (hs : ws.length ≤ 1000000) :
    Calls Tryz.prog 87 #[.slice ao ws.length cap] w0 fun e w' => ∃ v, e = .returned v ∧ Evo w0 w' [] ∧ OwnE w' w0.heap.size 105 v (AW ws) := by
 refine AG (n := 53) func87 rfl ntmps87 rfl ?_
 have C : Evo w0 w0 [] := Evo.refl _ _
 have aS := A9 hl
 have bA := hl.bd
 refine Zs (Zn Ew (Zs (DF (α := Ac × Ac) (β := Int) (fun x : Ac × Ac => Value.agg (Enc.enc x).toArray) (Value.int .i64) rfl ?_)))
 intro b1 w2 J1 E2 o Y1
 have Q2 := E2.size
 replace C := Z0 C E2
 replace hl := aS _ C
 refine Zn c5 (Zs (Zn Fa (AE (Zs (Zo Bi (Zo (AQ rfl η underlying91) (Zn AU (AK (Aq (α := Nat) [4, 6, 13, 14, 15, 16, 17, 18, 19, 20, 21, 22, 23, 24, 25, 26] (fun k g w => ∃ m : List ((Ac × Ac) × Int), g 13 = .int .i64 (k : Nat) ∧ g 4 = S (CS ws k) ∧ k ≤ ws.length ∧ MapIs w b1 (fun x : Ac × Ac => Value.agg (Enc.enc x).toArray) (Value.int .i64) m ∧ (∀ x, Az m x = FL ((Bk [] ws).take k) x) ∧ w2.heap.size ≤ w.heap.size ∧ Evo w0 w []) (fun k => ws.length - k) 0 ?_ ?_)))))))))
 refine ⟨_, σ, rfl, δ, o, (fun x => (RS x).symm), δ, C⟩
 rintro k g w4 ⟨m, hj5, hj6, hk_k, o, hmm, hzl3, C⟩
 have bz := C.size
 have b0 := o.lt
 replace hl := aS _ C
 refine Zk 13 hj5 (Zk 4 hj6 (Zs (Zn Dn (AE (AH η (fun bL => ?_) (fun bL => ?_))))))
 refine AJ (AE (AK (Zs (Zo (Ab (k) rfl underlying91 Es η η χ ω (hl.addr (i := k) ω)) ?_))))
 have bq := fun (w' : World) (h : Evo w0 w' []) => (aS w' h).atD (k) ω
 refine Zo (AA rfl BX η ((bq _ C).cell 0 η)) (Zn Fa (AE ?_))
 have ba := hmm (CS ws k, ws.getD k default); have bB : (Az (Co m (CS ws k, ws.getD k default) ((Az m (CS ws k, ws.getD k default)).getD 0)) (CS ws k, ws.getD k default)).getD 0 = (Az m (CS ws k, ws.getD k default)).getD 0 := by rw [CW, if_pos rfl]; rfl
 have bF : (Az m (CS ws k, ws.getD k default)).getD 0 = (((Bk [] ws).take k).count (CS ws k, ws.getD k default) : Nat) := by rw [ba, Kq]
 have bM := List.count_le_length (a := (CS ws k, ws.getD k default)) (l := (Bk [] ws).take k); have bS := List.length_take_le k (Bk [] ws)
 refine EC [17, 18, 19, 20, 21, 22, 23, 24] (fun g w => ∃ m2 : List ((Ac × Ac) × Int), MapIs w b1 (fun x : Ac × Ac => Value.agg (Enc.enc x).toArray) (Value.int .i64) m2 ∧ OY m m2 (CS ws k, ws.getD k default) 1 ∧ w4.heap.size ≤ w.heap.size ∧ Evo w0 w []) ?_ ?_
 have aT := o
 have br := C
 refine Aw ([b1]) ζ ?_
 intro w11 F12 I
 have b5 := F12.size
 replace C := Z0 C F12
 replace o := o.evo0 F12
 refine Zt (i := 0) η (fun w' hC => TQ) I (Zt (i := 1) η (fun w' hC => Ca) I (Zt (i := 2) η (fun w' hC => Ca) I (Zt (i := 3) η (fun w' hC => A2 (pv := [(0, S _), (1, S _)]) (zs := [_, _]) (cells := [_, _]) rfl TY η YJ η η) I ?_)))
 refine GM (i := 4) (j := 6) ζ ?_ ?_
 refine EO η ?_
 refine Zo (BM (a := (CS ws k, ws.getD k default)) (z := 0) (v := .int _ _) Hm rfl underlying221 Bd η η o rfl) ?_
 refine AZ I ?_
 refine Zt (i := 5) η (fun w' hC => Bl rfl η η ω ω) I ?_
 refine Zh (i := 6) ?_
 refine CX (a := (CS ws k, ws.getD k default)) (z := 0) Hm rfl underlying221 Bd η η o ?_
 intro s14 w14 F14 V14 hm_new hst14
 have b6 := F14.size
 replace C := Z1 C F14 ε
 replace I := Z1 I F14 ε
 replace o := hm_new
 clear hm_new
 refine AZ I ?_
 refine Zt (i := 7) η (fun w' hC => AI (v := .int _ _) rfl η η) I ?_
 refine Zh (i := 8) ?_
 refine Bw (a := (CS ws k, ws.getD k default)) Hm η η η o hst14 ?_
 intro w15 F15 V15 hm_new
 have b7 := F15.size
 replace C := Z1 C F15 ε
 replace o := hm_new
 clear hm_new
 refine Ah ζ ?_
 refine A5 ζ ?_
 refine Ad ?_ ?_
 refine ⟨_, o, (by first | exact JS 1 | exact JR 1), δ, C⟩
 exact ψ
 refine EO η ?_
 refine CX (a := (CS ws k, ws.getD k default)) (z := 0) Hm rfl underlying221 Bd η η o ?_
 intro s16 w16 F16 V16 hm_new hst16
 have b8 := F16.size
 replace C := Z1 C F16 ε
 replace I := Z1 I F16 ε
 replace o := hm_new
 clear hm_new
 refine AZ I ?_
 refine Zt (i := 7) η (fun w' hC => AI (v := .int _ _) rfl η η) I ?_
 refine Zh (i := 4) ?_
 refine Zo (BM (a := (CS ws k, ws.getD k default)) (z := 0) (v := .int _ _) Hm rfl underlying221 Bd η η o rfl) ?_
 refine AZ I ?_
 refine Zt (i := 5) η (fun w' hC => Bl rfl η η ω ω) I ?_
 refine Zh (i := 8) ?_
 refine Bw (a := (CS ws k, ws.getD k default)) Hm η η η o hst16 ?_
 intro w17 F17 V17 hm_new
 have b9 := F17.size
 replace C := Z1 C F17 ε
 replace o := hm_new
 clear hm_new
 refine Ah ζ ?_
 refine A5 ζ ?_
 refine Ad ?_ ?_
 refine ⟨_, o, (by first | exact JS 1 | exact JR 1), δ, C⟩
 exact ψ
 rintro g dc ⟨m2, o, af, hzl10, C⟩
 have bl := C.size
 have bQ := o.lt
 refine AB (Zo Ca (Zn Fa (AX (AB (Zo Br (Zn AU (Zg (k + 1) ?_)))))))
 refine ⟨_, σ, (congrArg S (by unfold CS; rw [if_neg ω]; rfl)), δ, o, (by rw [Nj ω]; exact G8 hmm af), δ, C⟩
 refine Ak rfl (AE ?_)
 obtain rfl : k = ws.length := by omega
 have ba := hmm (CS ws ws.length, []); have bB : (Az (Co m (CS ws ws.length, []) ((Az m (CS ws ws.length, [])).getD 0)) (CS ws ws.length, [])).getD 0 = (Az m (CS ws ws.length, [])).getD 0 := by rw [CW, if_pos rfl]; rfl
 have bF : (Az m (CS ws ws.length, [])).getD 0 = (((Bk [] ws).take ws.length).count (CS ws ws.length, []) : Nat) := by rw [ba, Kq]
 have bM := List.count_le_length (a := (CS ws ws.length, [])) (l := (Bk [] ws).take ws.length); have bS := List.length_take_le ws.length (Bk [] ws)
 refine EC [27, 28, 29, 30, 31, 32, 33] (fun g w => ∃ m2 : List ((Ac × Ac) × Int), MapIs w b1 (fun x : Ac × Ac => Value.agg (Enc.enc x).toArray) (Value.int .i64) m2 ∧ OY m m2 (CS ws ws.length, []) 1 ∧ w4.heap.size ≤ w.heap.size ∧ Evo w0 w []) ?_ ?_
 have aT := o
 have br := C
 refine Aw ([b1]) ζ ?_
 intro w21 F22 J
 have b_ := F22.size
 replace C := Z0 C F22
 replace o := o.evo0 F22
 refine Zt (i := 0) η (fun w' hC => TQ) J (Zt (i := 1) η (fun w' hC => Ca) J (Zt (i := 2) η (fun w' hC => A2 (pv := [(0, S _), (1, S _)]) (zs := [_, _]) (cells := [_, _]) rfl TY η YJ η η) J ?_))
 refine GM (i := 3) (j := 5) ζ ?_ ?_
 refine EO η ?_
 refine Zo (BM (a := (CS ws ws.length, [])) (z := 0) (v := .int _ _) Hm rfl underlying221 Bd η η o rfl) ?_
 refine AZ J ?_
 refine Zt (i := 4) η (fun w' hC => Bl rfl η η ω ω) J ?_
 refine Zh (i := 5) ?_
 refine CX (a := (CS ws ws.length, [])) (z := 0) Hm rfl underlying221 Bd η η o ?_
 intro s24 w24 F24 V24 hm_new hst24
 have ca := F24.size
 replace C := Z1 C F24 ε
 replace J := Z1 J F24 ε
 replace o := hm_new
 clear hm_new
 refine AZ J ?_
 refine Zt (i := 6) η (fun w' hC => AI (v := .int _ _) rfl η η) J ?_
 refine Zh (i := 7) ?_
 refine Bw (a := (CS ws ws.length, [])) Hm η η η o hst24 ?_
 intro w25 F25 V25 hm_new
 have cb := F25.size
 replace C := Z1 C F25 ε
 replace o := hm_new
 clear hm_new
 refine Ah ζ ?_
 refine A5 ζ ?_
 refine Ad ?_ ?_
 refine ⟨_, o, (by first | exact JS 1 | exact JR 1), δ, C⟩
 exact ψ
 refine EO η ?_
 refine CX (a := (CS ws ws.length, [])) (z := 0) Hm rfl underlying221 Bd η η o ?_
 intro s26 w26 F26 V26 hm_new hst26
 have cc := F26.size
 replace C := Z1 C F26 ε
 replace J := Z1 J F26 ε
 replace o := hm_new
 clear hm_new
 refine AZ J ?_
 refine Zt (i := 6) η (fun w' hC => AI (v := .int _ _) rfl η η) J ?_
 refine Zh (i := 3) ?_
 refine Zo (BM (a := (CS ws ws.length, [])) (z := 0) (v := .int _ _) Hm rfl underlying221 Bd η η o rfl) ?_
 refine AZ J ?_
 refine Zt (i := 4) η (fun w' hC => Bl rfl η η ω ω) J ?_
 refine Zh (i := 7) ?_
 refine Bw (a := (CS ws ws.length, [])) Hm η η η o hst26 ?_
 intro w27 F27 V27 hm_new
 have cm := F27.size
 replace C := Z1 C F27 ε
 replace o := hm_new
 clear hm_new
 refine Ah ζ ?_
 refine A5 ζ ?_
 refine Ad ?_ ?_
 refine ⟨_, o, (by first | exact JS 1 | exact JR 1), δ, C⟩
 exact ψ
 rintro g dk ⟨m2, o, af, hzl20, C⟩
 have bm := C.size
 have bR := o.lt
 refine Zs (Zn Ew (AE (AE ?_)))
 have bs : ∀ x, Az m2 x = FL (Bk [] ws) x := by have h9 := G8 hmm af; rw [Vf] at h9; exact h9
 have bt := o.nodup; have c9 := Tk bs bt
 refine AB (Zo TQ (Ip rfl underlying221 η o ?_))
 intro r30 w31 her30 E31 R hzr30
 have cp := E31.size
 replace C := Z0 C E31
 replace hl := aS _ C
 replace o := o.evo0 E31
 refine Ag (AK ?_)
 have c3 := R.lt
 refine Aq (α := List ((Ac × Ac) × Int)) [7, 8, 9, 36, 37, 38, 39, 40, 41, 42, 43, 44, 45, 46, 47, 48, 49] (fun left g w => ∃ la : Option ((Ac × Ac) × Int), ∃ vo : Value, ∃ gl : List Gram, g 7 = vo ∧ IterIs w r30 b1 (fun x : Ac × Ac => Value.agg (Enc.enc x).toArray) (Value.int .i64) m2 left la ∧ OwnE w w31.heap.size 105 vo gl ∧ (gl.map gp ++ left).Perm m2 ∧ w0.heap.size ≤ r30 ∧ w31.heap.size ≤ w.heap.size ∧ Evo w0 w []) (fun left => left.length) m2 ?_ ?_
 refine ⟨_, _, [], rfl, R, (OwnE.nil _ _ _), (by simp), δ, δ, C⟩
 rintro left g dm ⟨la, vo, gl, hj34, R, U, hpm, hrl, hzl32, C⟩
 have bn := C.size
 refine Zk 7 hj34 ?_
 have bY := hpm.length_eq
 rw [List.length_append, List.length_map] at bY
 refine Zs (LF rfl η R (fun bx => ?_) (fun bb c_ bc dn a_ F35 b2 al => ?_))
 subst bx
 refine Zn (AI (v := .bool _) rfl η η) (AE (Dm η (Ak rfl (Zs (Zo (AN (v := vo) rfl η) (Zr [vo, .func _ _ _] rfl η func145 (RN U) ?_))))))
 rintro e dp ⟨rfl, F36, gs36, hsr36, hs36⟩
 refine ⟨_, rfl, ?_⟩
 have cr := F36.size
 replace C := AP C F36 (fun g hg => .inl (by first | exact (U.block hg).1 | (have := U.block hg; omega)))
 replace U := hs36
 refine Ag (Zs (Zo (AN (v := vo) rfl η) (Zn (AR (v := vo) rfl η) (AM (C8 (v := vo) rfl η) ?_))))
 exact ⟨_, rfl, C, by have e9 := Tm bs bt (by simpa using hpm) hsr36; have h9 := U; rw [e9] at h9; exact h9.base_le ω⟩
 have cq := F35.size
 replace C := Z1 C F35 ε
 replace U := U.evo F35 (by intro g hg hm; simp at hm; subst hm; have := U.block hg; omega)
 replace R := al
 clear al
 refine Zn (AI (v := .bool _) rfl η η) (AE (DY η (AJ (AK (Zs (Zo (EW rfl η R) (Zo (AI (v := .agg _) rfl η η) (Zo (AI (v := .int _ _) rfl η η) ?_))))))))
 have bX := fun g hg => (U.block (g := g) hg).2
 refine Bq (zs := [_, _]) (vs := [_, _]) TY η rfl η (fun _ => rfl) η rfl rfl η ?_
 intro b38 w39 J38 E39 B38 Y38
 have ct := E39.size
 replace C := Z0 C E39
 replace U := U.evo0 E39
 replace R := R.evo0 E39
 refine Zn Am (AB (Zo (AN (v := vo) rfl η) (Zo (AD rfl η XP) (Zo (AA rfl BX η (B38.at.cell 0 η)) (Zo (AD rfl η W7) (Zo (AA rfl BX η (B38.at.cell 1 η)) (Zo AU (Zo (A2 (pv := [(0, S _), (1, S _), (2, .int _ _)]) (zs := [_, _, _]) (cells := [_, _, _]) rfl ER η c4 η η) (BL (u := .agg _) (y := ⟨_, _, _⟩) rfl rfl underlying96 ER η U (fun _ => η) η ξ (τ) (τ) ω ?_)))))))))
 intro q_v40 v40 w41 E41 hov40 hlv40
 have cv := E41.size
 replace C := AP C E41 (fun g hg => .inl (by first | exact (U.block hg).1 | (have := U.block hg; omega)))
 replace R := R.evo E41 (by intro hm; have af := Option.mem_toList.1 hm; first | (have := U.block af; omega) | (simp [Value.ownBlock] at af; omega)) (by intro hm; have af := Option.mem_toList.1 hm; first | (have := U.block af; omega) | (simp [Value.ownBlock] at af; omega))
 refine Zn (AR (v := v40) rfl η) (AX (DN (bb ++ bc) ?_ ?_ ?_))
 rw [a_]; simp
 refine ⟨_, _, _, rfl, R, hov40, (by rw [a_] at hpm; exact Iu hpm rfl), δ, δ, C⟩
 exact ψ
end Go.Proofs.YtbgmlpbgofcfjaaGreatDoor
namespace Go.Vc
open Go Go.RowKit Go.IntWalk
section
variable {α : Type} [DecidableEq α]
def Gp (l : List α) : List α := l.foldl (fun acc x => if x ∈ acc then acc else acc ++ [x]) []
theorem WR (l : List α) (x : α) : Gp (l ++ [x]) = if x ∈ Gp l then Gp l else Gp l ++ [x] := by unfold Gp; rw [List.foldl_append]; rfl
theorem Fj : ∀ (n : Nat) (l : List α), l.length = n → (∀ x, x ∈ Gp l ↔ x ∈ l) ∧ (Gp l).Nodup
  | 0, l, h => by
    have : l = [] := List.eq_nil_of_length_eq_zero h
    subst this; exact ⟨fun x => Iff.rfl, List.nodup_nil⟩
  | n + 1, l, h => by
    have j : l ≠ [] := by intro e; subst e; simp at h
    obtain ⟨r, y, rfl⟩ : ∃ r y, l = r ++ [y] := ⟨l.dropLast, l.getLast j, (List.dropLast_concat_getLast j).symm⟩
    obtain ⟨h1, C⟩ := Fj n r (by simpa using h)
    rw [WR]
    by_cases o : y ∈ Gp r
    · rw [if_pos o]
      refine ⟨fun x => ?_, C⟩
      rw [h1 x, List.mem_append]
      exact ⟨.inl, fun h => h.elim id (fun h => by have : x = y := (by simpa using h); rw [this]; exact (h1 y).1 o)⟩
    · rw [if_neg o]
      refine ⟨fun x => by rw [List.mem_append, List.mem_append, h1 x], ?_⟩
      rw [List.nodup_append]
      exact ⟨C, by simp, fun a I b J => by have : b = y := (by simpa using J); rw [this]; intro e; exact o (e ▸ I)⟩
theorem Gh (l : List α) (x : α) : x ∈ Gp l ↔ x ∈ l := (Fj _ l rfl).1 x
theorem HX (l : List α) : (Gp l).Nodup := (Fj _ l rfl).2
end
def CC (l : List Int) : Int := l.foldr (· + ·) 0
theorem BD (a : Int) (l : List Int) : CC (a :: l) = a + CC l := rfl
theorem Cg : ∀ l m : List Int, CC (l ++ m) = CC l + CC m
  | [], m => by simp [CC]
  | a :: l, m => by rw [List.cons_append, BD, BD, Cg l m]; omega
theorem Gi {l m : List Int} (h : l.Perm m) : CC l = CC m := by
  induction h with
  | nil => rfl
  | cons x _ ih => rw [BD, BD, ih]
  | swap x y l => simp only [BD]; omega
  | trans _ _ ih1 ih2 => rw [ih1, ih2]
theorem B0 : ∀ {l : List Int}, (∀ x ∈ l, 0 ≤ x) → 0 ≤ CC l
  | [], _ => Int.le_refl _
  | a :: l, h => by
    rw [BD]
    have h1 := h a (by simp)
    have h2 := B0 (l := l) (fun x hx => h x (by simp [hx]))
    omega
theorem Ie : ∀ {l : List Int} {n : Int}, 0 ≤ n → (∀ x ∈ l, x ≤ n) → CC l ≤ l.length * n
  | [], n, _, _ => by simp [CC]
  | a :: l, n, hn, h => by
    rw [BD]
    have h1 := h a (by simp)
    have o := Ie (l := l) hn (fun x j => h x (by simp [j]))
    have e : (((a :: l).length : Nat) : Int) * n = n + (l.length : Nat) * n := by rw [List.length_cons]; push_cast; rw [Int.add_mul]; omega
    rw [e]; omega
def JZ (c : Int) : Int := max (min c 1073741824) 0
def Kf (l : List Gram) (p : Ac × Ac) : Int := CC (l.map (fun x => if Bj x = p then JZ x.count else 0))
theorem X9 {l : List Gram} {k : Nat} (hk : k < l.length) (p : Ac × Ac) : Kf (l.take (k + 1)) p = Kf (l.take k) p + if Bj (l.getD k default) = p then JZ (l.getD k default).count else 0 := by
  unfold Kf; rw [A7 l k hk, List.map_append, Cg]; simp [CC]
def ck (a b : List Gram) (p : Ac × Ac) : Int := max (Kf a p - Kf b p) 0
def US (a b : List Gram) : Int := min (CC ((Gp (a.map Bj)).map (ck a b))) 1073741824
def OccM (l : List Gram) (m : List ((Ac × Ac) × Int)) : Prop := ∀ p, Az m p = if p ∈ l.map Bj then some (Kf l p) else none
theorem OccM.nil : OccM [] [] := fun p => by simp [Az]
theorem OccM.get {l : List Gram} {m : List ((Ac × Ac) × Int)} (h : OccM l m) (p : Ac × Ac) : (Az m p).getD 0 = Kf l p := by
  rw [h p]
  by_cases j : p ∈ l.map Bj
  · rw [if_pos j]; rfl
  · rw [if_neg j]
    have : ∀ x ∈ l.map (fun x => if Bj x = p then JZ x.count else 0), x = 0 := fun x o => by
      obtain ⟨y, I, rfl⟩ := List.mem_map.1 o
      exact if_neg (fun e => j (by rw [← e]; exact List.mem_map_of_mem I))
    have C : ∀ {l : List Int}, (∀ x ∈ l, x = 0) → CC l = 0 := fun {l} => by
      induction l with
      | nil => intro _; rfl
      | cons a l ih => intro h; rw [BD, h a (by simp), ih (fun x o => h x (by simp [o]))]; rfl
    exact (C this).symm
theorem OccM.step {l : List Gram} {m m2 : List ((Ac × Ac) × Int)} {k : Nat} (hk : k < l.length) (h : OccM (l.take k) m) (I : OY m m2 (Bj (l.getD k default)) (JZ (l.getD k default).count)) : OccM (l.take (k + 1)) m2 := fun p => by
  rw [I p]
  have e : (l.take (k + 1)).map Bj = (l.take k).map Bj ++ [Bj (l.getD k default)] := by rw [A7 l k hk, List.map_append]; rfl
  rw [e, X9 hk]
  by_cases j : p = Bj (l.getD k default)
  · rw [if_pos j, if_pos (by simp [j]), if_pos j.symm, ← j, h.get]
  · have C : (if Bj (l.getD k default) = p then JZ (l.getD k default).count else 0) = 0 := if_neg (fun q => j q.symm)
    rw [if_neg j, h p, C, Int.add_zero]
    by_cases o : p ∈ (l.take k).map Bj
    · rw [if_pos o, if_pos (List.mem_append_left _ o)]
    · rw [if_neg o, if_neg (fun q => (List.mem_append.1 q).elim o (fun q => j (by simpa using q)))]
theorem JY {α : Type} [DecidableEq α] : ∀ {l m : List α}, l.Nodup → m.Nodup → (∀ x, x ∈ l ↔ x ∈ m) → l.Perm m := fun {l m} h1 j h => by
  rw [List.perm_iff_count]
  intro x
  rw [List.Nodup.count h1, List.Nodup.count j]
  simp [h x]
end Go.Vc
namespace Go.Proofs.YtbgmlpbgofcfjaaGreatDoor
open Go.RowKit Go.Vc Go.Proofs.Tryz
def PX (x : Vc.Item) : Prop := 2 ≤ x.kind ∧ x.kind ≤ 9
instance (x : Vc.Item) : Decidable (PX x) := by unfold PX; infer_instance
def MM (x : Vc.Item) : Prop := 2 ≤ x.kind ∧ x.kind ≤ 4
instance (x : Vc.Item) : Decidable (MM x) := by unfold MM; infer_instance
def Mj (x : Vc.Item) : Vc.Item := if 5 ≤ x.kind ∧ x.kind ≤ 9 then ⟨x.kind, IX x, 0⟩ else ⟨x.kind, x.text, 0⟩
theorem K9 {x : Vc.Item} (h : 5 ≤ x.kind ∧ x.kind ≤ 9) : (⟨x.kind, IX x, 0⟩ : Vc.Item) = Mj x := (if_pos h).symm
theorem Iq {x : Vc.Item} (h : ¬ (5 ≤ x.kind ∧ x.kind ≤ 9)) : (⟨x.kind, x.text, 0⟩ : Vc.Item) = Mj x := (if_neg h).symm
theorem Ey {a b : Vc.Item} {p q : Bool} (h : a = b) (j : p = q) : Ending.returned (.tuple #[.agg (Enc.enc a).toArray, .bool p]) = .returned (.tuple #[.agg (Enc.enc b).toArray, .bool q]) := by rw [h, j]
def wK (k : Int) : Int := if k = 6 ∨ k = 5 then 4 else if k = 7 ∨ (2 ≤ k ∧ k ≤ 4) then 3 else if k = 9 then 2 else if k = 8 then 1 else 0
theorem bD {k : Int} (h : k = 6 ∨ k = 5) : (4 : Int) = wK k := by unfold wK; rw [if_pos h]
theorem av {k : Int} (h : k = 7 ∨ (2 ≤ k ∧ k ≤ 4)) : (3 : Int) = wK k := by unfold wK; rw [if_neg ω, if_pos h]
theorem aD {k : Int} (h : k = 9) : (2 : Int) = wK k := by unfold wK; rw [if_neg ω, if_neg ω, if_pos h]
theorem ax {k : Int} (h : k = 8) : (1 : Int) = wK k := by unfold wK; rw [if_neg ω, if_neg ω, if_neg ω, if_pos h]
theorem Zx {k : Int} (h : ¬ (2 ≤ k ∧ k ≤ 9)) : (0 : Int) = wK k := by unfold wK; rw [if_neg ω, if_neg ω, if_neg ω, if_neg ω]
theorem JI (k : Int) : 0 ≤ wK k ∧ wK k ≤ 4 := by unfold wK; split; omega; split; omega; split; omega; split <;> omega
theorem R5 {x : Vc.Item} {o : World}  :
    Calls Tryz.prog 148 #[.agg (Enc.enc x).toArray] o fun e w' => e = .returned (.bool (decide (MM x))) ∧ Evo o w' [] := by
 refine AG (n := 16) func148 rfl ntmps148 rfl ?_
 have C : Evo o o [] := Evo.refl _ _
 refine Zs (CE (vs := [_, _, _]) η η rfl ?_)
 intro b1 w2 J1 E2 B1 Y1
 have I := E2.size
 replace C := Z0 C E2
 refine Zn BV (Zs (Zo (AD rfl η Ba) (Zo (AA rfl Ae η (B1.at.cell 0 η)) (Zo DA (Zo Cb ?_)))))
 refine Aj rfl BQ rfl (fun j => AD rfl η Ba) ?_
 refine Aj rfl BQ rfl (fun j => AA rfl Ae (Ar j) (B1.at.cell 0 η)) ?_
 refine Aj rfl BQ rfl (fun j => BK rfl (Ar j) η) ?_
 refine Zo FW (Zo Cb ?_)
 refine Aj rfl BQ rfl (fun j => AD rfl η Ba) ?_
 refine Aj rfl BQ rfl (fun j => AA rfl Ae (Ar j) (B1.at.cell 0 η)) ?_
 refine Aj rfl BQ rfl (fun j => BK rfl (Ar j) η) ?_
 refine Zo FW (Zn BV (AM G7 ?_))
 exact ⟨Bn (decide_eq_decide.2 (by unfold MM; omega)), C⟩
theorem Cf {x : Vc.Item} {U : World}  :
    Calls Tryz.prog 92 #[.agg (Enc.enc x).toArray] U fun e w' => e = .returned (.int .i64 (wK x.kind)) ∧ Evo U w' [] := by
 refine AG (n := 17) func92 rfl ntmps92 rfl ?_
 have j : Evo U U [] := Evo.refl _ _
 refine Zs (CE (vs := [_, _, _]) η η rfl ?_)
 intro b1 w2 J1 E2 B1 Y1
 have Q2 := E2.size
 replace j := Z0 j E2
 refine Zn Am (AE (Zs (Zo (AD rfl η Ba) (Zn (AA rfl Ae η (B1.at.cell 0 η)) (AK (AE (Zs (Zo DA (Zn BV ?_)))))))))
 refine AH η (fun C => ?_) (fun C => ?_)
 refine AJ (Dy η C (Zs (Zn Am (AM C3 ?_))))
 exact ⟨A3 (by first | exact bD ω | exact av ω | exact aD ω | exact ax ω | exact Zx ω), j⟩
 refine AB (Zo DA (Zn BV (AH η (fun af => ?_) (fun af => ?_))))
 refine Zs (Zn Am (AM C3 ?_))
 exact ⟨A3 (by first | exact bD ω | exact av ω | exact aD ω | exact ax ω | exact Zx ω), j⟩
 refine AE (Zs (Zo DA (Zn BV (AH η (fun I => ?_) (fun I => ?_)))))
 refine AJ (Dy η I (Zs (Zn Am (AM C3 ?_))))
 exact ⟨A3 (by first | exact bD ω | exact av ω | exact aD ω | exact ax ω | exact Zx ω), j⟩
 refine Zs (Zo DA (Zn BV (AH η (fun J => ?_) (fun J => ?_))))
 refine AJ (Dy η J (Zs (Zn Am (AM C3 ?_))))
 exact ⟨A3 (by first | exact bD ω | exact av ω | exact aD ω | exact ax ω | exact Zx ω), j⟩
 refine Zs (Zo DA (Zn BV (AH η (fun R => ?_) (fun R => ?_))))
 refine AJ (Dy η R (Zs (Zn Am (AM C3 ?_))))
 exact ⟨A3 (by first | exact bD ω | exact av ω | exact aD ω | exact ax ω | exact Zx ω), j⟩
 refine AB (Zo DA (Zn BV (AH η (fun ag => ?_) (fun ag => ?_))))
 refine Zs (Zn Am (AM C3 ?_))
 exact ⟨A3 (by first | exact bD ω | exact av ω | exact aD ω | exact ax ω | exact Zx ω), j⟩
 refine Zs (Zo DA (Zn BV (AH η (fun al => ?_) (fun al => ?_))))
 refine Zs (Zn Am (AM C3 ?_))
 exact ⟨A3 (by first | exact bD ω | exact av ω | exact aD ω | exact ax ω | exact Zx ω), j⟩
 refine Zs (Zo DA (Zn BV (AH η (fun o => ?_) (fun o => ?_))))
 refine Zs (Zn Am (AM C3 ?_))
 exact ⟨A3 (by first | exact bD ω | exact av ω | exact aD ω | exact ax ω | exact Zx ω), j⟩
 refine AJ (AX (Zs (Zn Am (AM C3 ?_))))
 exact ⟨A3 (by first | exact bD ω | exact av ω | exact aD ω | exact ax ω | exact Zx ω), j⟩
set_option maxHeartbeats 1000000 in
theorem Qq {x : Vc.Item} {w0 : World} (hx : x.text.length ≤ 140737488355328) :
    Calls Tryz.prog 90 #[.agg (Enc.enc x).toArray] w0 fun e w' => e = .returned (.tuple #[.agg (Enc.enc (Mj x)).toArray, .bool (decide (PX x))]) ∧ Evo w0 w' [] := by
 refine AG (n := 24) func90 rfl ntmps90 rfl ?_
 have o : Evo w0 w0 [] := Evo.refl _ _
 refine Zs (CE (vs := [_, _, _]) η η rfl ?_)
 intro b1 w2 J1 E2 B1 Y1
 have Q2 := E2.size
 replace o := Z0 o E2
 refine CU (zs := [_, _, _]) Aa η rfl ?_
 intro b3 w4 J3 E4 B3 Y3
 have Q4 := E4.size
 replace o := Z0 o E4
 replace B1 := B1.evo0 E4
 refine Zn BV (AE (Zs (Zo (AD rfl η Ba) (Zn (AA rfl Ae η (B1.at.cell 0 η)) (AK (AE (Zs (Zo DA (Zn BV ?_)))))))))
 refine AH η (fun a_ => ?_) (fun a_ => ?_)
 refine AJ (Dy η a_ (AE ?_))
 have J := B1
 have j := B1.at
 have R := B3
 have ao := o
 refine Aw ([b3]) ζ ?_
 intro w6 F7 au
 have Q6 := F7.size
 replace o := Z0 o F7
 replace B1 := B1.evo0 F7
 replace B3 := B3.evo0 F7
 refine Zt (i := 0) η (fun w' C => AD rfl η Ba) au (Zt (i := 1) η (fun w' C => AA rfl Ae η ((j.evo C θ).cell 0 η)) au (Zt (i := 2) η (fun w' C => AL rfl BE Aa η rfl (j.evo C θ)) au ?_))
 refine Zh (i := 3) ?_
 refine Zr [.agg _] rfl η func147 (Db (x := x) hx) ?_
 rintro e w9 ⟨rfl, F9⟩
 refine ⟨_, rfl, ?_⟩
 have Q9 := F9.size
 replace o := Z0 o F9
 replace au := Z0 au F9
 replace B1 := B1.evo0 F9
 replace B3 := B3.evo0 F9
 refine AZ au ?_
 refine Zt (i := 4) η (fun w' C => A2 (pv := [(0, .int _ _), (1, S _)]) (zs := [_, _, _]) (cells := [_, _, _]) rfl Aa η HU η η) au ?_
 refine Zh (i := 5) ?_
 refine Ai (v := .agg _) (vs := [_, _, _]) (cs' := [_, _, _]) η η B3 Aa η rfl η rfl η ?_
 intro w10 E10 V10 hb_new
 have bc := E10.size
 replace o := Z1 o E10 ε
 replace B1 := B1.evo E10 θ
 replace B3 := hb_new
 clear hb_new
 refine Ah ζ ?_
 refine Zh (i := 6) ?_
 refine Zo BV ?_
 refine Ah ζ ?_
 refine A5 ζ ?_
 refine AM (Ot (cs := [_, _, _]) (u := .bool _) rfl BE Aa η rfl B3.at η) ?_
 first | exact ⟨Ey (a := ⟨x.kind, IX x, 0⟩) (K9 ω) (decide_eq_true (by unfold PX; omega)).symm, o⟩ | exact ⟨Ey (a := ⟨x.kind, x.text, 0⟩) (Iq ω) (decide_eq_decide.2 (by unfold MM PX; omega)), o⟩
 refine Zs (Zo DA (Zn BV (AH η (fun az => ?_) (fun az => ?_))))
 refine AJ (Dy η az (AE ?_))
 have J := B1
 have j := B1.at
 have R := B3
 have ao := o
 refine Aw ([b3]) ζ ?_
 intro w12 F13 U
 have bd := F13.size
 replace o := Z0 o F13
 replace B1 := B1.evo0 F13
 replace B3 := B3.evo0 F13
 refine Zt (i := 0) η (fun w' C => AD rfl η Ba) U (Zt (i := 1) η (fun w' C => AA rfl Ae η ((j.evo C θ).cell 0 η)) U (Zt (i := 2) η (fun w' C => AL rfl BE Aa η rfl (j.evo C θ)) U ?_))
 refine Zh (i := 3) ?_
 refine Zr [.agg _] rfl η func147 (Db (x := x) hx) ?_
 rintro e bL ⟨rfl, F15⟩
 refine ⟨_, rfl, ?_⟩
 have bf := F15.size
 replace o := Z0 o F15
 replace U := Z0 U F15
 replace B1 := B1.evo0 F15
 replace B3 := B3.evo0 F15
 refine AZ U ?_
 refine Zt (i := 4) η (fun w' C => A2 (pv := [(0, .int _ _), (1, S _)]) (zs := [_, _, _]) (cells := [_, _, _]) rfl Aa η HU η η) U ?_
 refine Zh (i := 5) ?_
 refine Ai (v := .agg _) (vs := [_, _, _]) (cs' := [_, _, _]) η η B3 Aa η rfl η rfl η ?_
 intro w16 E16 V16 hb_new
 have bl := E16.size
 replace o := Z1 o E16 ε
 replace B1 := B1.evo E16 θ
 replace B3 := hb_new
 clear hb_new
 refine Ah ζ ?_
 refine Zh (i := 6) ?_
 refine Zo BV ?_
 refine Ah ζ ?_
 refine A5 ζ ?_
 refine AM (Ot (cs := [_, _, _]) (u := .bool _) rfl BE Aa η rfl B3.at η) ?_
 first | exact ⟨Ey (a := ⟨x.kind, IX x, 0⟩) (K9 ω) (decide_eq_true (by unfold PX; omega)).symm, o⟩ | exact ⟨Ey (a := ⟨x.kind, x.text, 0⟩) (Iq ω) (decide_eq_decide.2 (by unfold MM PX; omega)), o⟩
 refine Zs (Zo DA (Zn BV (AH η (fun aS => ?_) (fun aS => ?_))))
 refine AJ (Dy η aS (AE ?_))
 have J := B1
 have j := B1.at
 have R := B3
 have ao := o
 refine Aw ([b3]) ζ ?_
 intro w18 F19 af
 have bm := F19.size
 replace o := Z0 o F19
 replace B1 := B1.evo0 F19
 replace B3 := B3.evo0 F19
 refine Zt (i := 0) η (fun w' C => AD rfl η Ba) af (Zt (i := 1) η (fun w' C => AA rfl Ae η ((j.evo C θ).cell 0 η)) af (Zt (i := 2) η (fun w' C => AL rfl BE Aa η rfl (j.evo C θ)) af ?_))
 refine Zh (i := 3) ?_
 refine Zr [.agg _] rfl η func147 (Db (x := x) hx) ?_
 rintro e bM ⟨rfl, F21⟩
 refine ⟨_, rfl, ?_⟩
 have bn := F21.size
 replace o := Z0 o F21
 replace af := Z0 af F21
 replace B1 := B1.evo0 F21
 replace B3 := B3.evo0 F21
 refine AZ af ?_
 refine Zt (i := 4) η (fun w' C => A2 (pv := [(0, .int _ _), (1, S _)]) (zs := [_, _, _]) (cells := [_, _, _]) rfl Aa η HU η η) af ?_
 refine Zh (i := 5) ?_
 refine Ai (v := .agg _) (vs := [_, _, _]) (cs' := [_, _, _]) η η B3 Aa η rfl η rfl η ?_
 intro w22 E22 V22 hb_new
 have bo := E22.size
 replace o := Z1 o E22 ε
 replace B1 := B1.evo E22 θ
 replace B3 := hb_new
 clear hb_new
 refine Ah ζ ?_
 refine Zh (i := 6) ?_
 refine Zo BV ?_
 refine Ah ζ ?_
 refine A5 ζ ?_
 refine AM (Ot (cs := [_, _, _]) (u := .bool _) rfl BE Aa η rfl B3.at η) ?_
 first | exact ⟨Ey (a := ⟨x.kind, IX x, 0⟩) (K9 ω) (decide_eq_true (by unfold PX; omega)).symm, o⟩ | exact ⟨Ey (a := ⟨x.kind, x.text, 0⟩) (Iq ω) (decide_eq_decide.2 (by unfold MM PX; omega)), o⟩
 refine Zs (Zo DA (Zn BV (AH η (fun aT => ?_) (fun aT => ?_))))
 refine AJ (Dy η aT (AE ?_))
 have J := B1
 have j := B1.at
 have R := B3
 have ao := o
 refine Aw ([b3]) ζ ?_
 intro w24 F25 ag
 have bq := F25.size
 replace o := Z0 o F25
 replace B1 := B1.evo0 F25
 replace B3 := B3.evo0 F25
 refine Zt (i := 0) η (fun w' C => AD rfl η Ba) ag (Zt (i := 1) η (fun w' C => AA rfl Ae η ((j.evo C θ).cell 0 η)) ag (Zt (i := 2) η (fun w' C => AL rfl BE Aa η rfl (j.evo C θ)) ag ?_))
 refine Zh (i := 3) ?_
 refine Zr [.agg _] rfl η func147 (Db (x := x) hx) ?_
 rintro e bQ ⟨rfl, F27⟩
 refine ⟨_, rfl, ?_⟩
 have br := F27.size
 replace o := Z0 o F27
 replace ag := Z0 ag F27
 replace B1 := B1.evo0 F27
 replace B3 := B3.evo0 F27
 refine AZ ag ?_
 refine Zt (i := 4) η (fun w' C => A2 (pv := [(0, .int _ _), (1, S _)]) (zs := [_, _, _]) (cells := [_, _, _]) rfl Aa η HU η η) ag ?_
 refine Zh (i := 5) ?_
 refine Ai (v := .agg _) (vs := [_, _, _]) (cs' := [_, _, _]) η η B3 Aa η rfl η rfl η ?_
 intro w28 E28 V28 hb_new
 have bs := E28.size
 replace o := Z1 o E28 ε
 replace B1 := B1.evo E28 θ
 replace B3 := hb_new
 clear hb_new
 refine Ah ζ ?_
 refine Zh (i := 6) ?_
 refine Zo BV ?_
 refine Ah ζ ?_
 refine A5 ζ ?_
 refine AM (Ot (cs := [_, _, _]) (u := .bool _) rfl BE Aa η rfl B3.at η) ?_
 first | exact ⟨Ey (a := ⟨x.kind, IX x, 0⟩) (K9 ω) (decide_eq_true (by unfold PX; omega)).symm, o⟩ | exact ⟨Ey (a := ⟨x.kind, x.text, 0⟩) (Iq ω) (decide_eq_decide.2 (by unfold MM PX; omega)), o⟩
 refine AB (Zo DA (Zn BV (AH η (fun a1 => ?_) (fun a1 => ?_))))
 refine AE ?_
 have J := B1
 have j := B1.at
 have R := B3
 have ao := o
 refine Aw ([b3]) ζ ?_
 intro w30 F31 al
 have bt := F31.size
 replace o := Z0 o F31
 replace B1 := B1.evo0 F31
 replace B3 := B3.evo0 F31
 refine Zt (i := 0) η (fun w' C => AD rfl η Ba) al (Zt (i := 1) η (fun w' C => AA rfl Ae η ((j.evo C θ).cell 0 η)) al (Zt (i := 2) η (fun w' C => AL rfl BE Aa η rfl (j.evo C θ)) al ?_))
 refine Zh (i := 3) ?_
 refine Zr [.agg _] rfl η func147 (Db (x := x) hx) ?_
 rintro e bR ⟨rfl, F33⟩
 refine ⟨_, rfl, ?_⟩
 have bx := F33.size
 replace o := Z0 o F33
 replace al := Z0 al F33
 replace B1 := B1.evo0 F33
 replace B3 := B3.evo0 F33
 refine AZ al ?_
 refine Zt (i := 4) η (fun w' C => A2 (pv := [(0, .int _ _), (1, S _)]) (zs := [_, _, _]) (cells := [_, _, _]) rfl Aa η HU η η) al ?_
 refine Zh (i := 5) ?_
 refine Ai (v := .agg _) (vs := [_, _, _]) (cs' := [_, _, _]) η η B3 Aa η rfl η rfl η ?_
 intro w34 E34 V34 hb_new
 have bz := E34.size
 replace o := Z1 o E34 ε
 replace B1 := B1.evo E34 θ
 replace B3 := hb_new
 clear hb_new
 refine Ah ζ ?_
 refine Zh (i := 6) ?_
 refine Zo BV ?_
 refine Ah ζ ?_
 refine A5 ζ ?_
 refine AM (Ot (cs := [_, _, _]) (u := .bool _) rfl BE Aa η rfl B3.at η) ?_
 first | exact ⟨Ey (a := ⟨x.kind, IX x, 0⟩) (K9 ω) (decide_eq_true (by unfold PX; omega)).symm, o⟩ | exact ⟨Ey (a := ⟨x.kind, x.text, 0⟩) (Iq ω) (decide_eq_decide.2 (by unfold MM PX; omega)), o⟩
 refine AJ (AX (AE ?_))
 have J := B1
 have j := B1.at
 have R := B3
 have ao := o
 refine Aw ([b3]) ζ ?_
 intro w35 F36 I
 have bA := F36.size
 replace o := Z0 o F36
 replace B3 := B3.evo0 F36
 refine Zt (i := 0) η (fun w' C => AD rfl η Ba) I (Zt (i := 1) η (fun w' C => AA rfl Ae η ((j.evo C θ).cell 0 η)) I (Zt (i := 2) η (fun w' C => AD rfl η Fq) I (Zt (i := 3) η (fun w' C => AA rfl BX η ((j.evo C θ).cell 1 η)) I (Zt (i := 4) η (fun w' C => A2 (pv := [(0, .int _ _), (1, S _)]) (zs := [_, _, _]) (cells := [_, _, _]) rfl Aa η HU η η) I (Zt (i := 5) η (fun w' C => AL rfl BE Aa η rfl (j.evo C θ)) I ?_)))))
 refine Zh (i := 6) ?_
 refine Zr [.agg _] rfl η func148 (R5 (x := x)) ?_
 rintro e bS ⟨rfl, F38⟩
 refine ⟨_, rfl, ?_⟩
 have bB := F38.size
 replace o := Z0 o F38
 replace I := Z0 I F38
 replace B3 := B3.evo0 F38
 refine AZ I ?_
 refine Zh (i := 7) ?_
 refine Ai (v := .agg _) (vs := [_, _, _]) (cs' := [_, _, _]) η η B3 Aa η rfl η rfl η ?_
 intro w39 E39 V39 hb_new
 have bF := E39.size
 replace o := Z1 o E39 ε
 replace B3 := hb_new
 clear hb_new
 refine Ah ζ ?_
 refine Zh (i := 8) ?_
 refine Zo BV ?_
 refine Ah ζ ?_
 refine A5 ζ ?_
 refine AM (Ot (cs := [_, _, _]) (u := .bool _) rfl BE Aa η rfl B3.at η) ?_
 first | exact ⟨Ey (a := ⟨x.kind, IX x, 0⟩) (K9 ω) (decide_eq_true (by unfold PX; omega)).symm, o⟩ | exact ⟨Ey (a := ⟨x.kind, x.text, 0⟩) (Iq ω) (decide_eq_decide.2 (by unfold MM PX; omega)), o⟩
section
variable {α : Type}
theorem T4 {f f' : α → Int} : ∀ {ks : List α}, (∀ c ∈ ks, f' c ≤ f c) → CC (ks.map f') ≤ CC (ks.map f)
  | [], _ => Int.le_refl _
  | k :: ks, h => by
    rw [List.map_cons, List.map_cons, BD, BD]
    have h1 := h k (by simp)
    have h2 := T4 (ks := ks) (fun c hc => h c (by simp [hc]))
    omega
theorem Jc {f : α → Int} {p : α → Bool} : ∀ {ks : List α}, (∀ c ∈ ks, p c = false → f c = 0) → CC (ks.map f) = CC ((ks.filter p).map f)
  | [], _ => rfl
  | k :: ks, h => by
    have h2 := Jc (ks := ks) (fun c hc => h c (by simp [hc]))
    rw [List.map_cons, BD]
    cases e : p k with
    | true => rw [List.filter_cons_of_pos e, List.map_cons, BD, h2]
    | false => rw [List.filter_cons_of_neg (by simp [e]), h k (by simp) e, h2]; omega
theorem TK {f : α → Int} : ∀ {ks : List α}, (∀ c ∈ ks, f c = 0) → CC (ks.map f) = 0
  | [], _ => rfl
  | k :: ks, h => by rw [List.map_cons, BD, h k (by simp), TK (fun c hc => h c (by simp [hc]))]; rfl
end
section
variable {α : Type} [DecidableEq α]
theorem RV {f f' : α → Int} {x : α} {d : Int} : ∀ {ks : List α}, ks.Nodup → x ∈ ks → f' x = f x + d → (∀ c ∈ ks, c ≠ x → f' c = f c) → CC (ks.map f') = CC (ks.map f) + d
  | [], _, h, _, _ => by cases h
  | k :: ks, hn, hx, h1, h2 => by
    rw [List.nodup_cons] at hn
    rw [List.map_cons, List.map_cons, BD, BD]
    by_cases e : k = x
    · subst e
      have h3 : ks.map f' = ks.map f := List.map_congr_left fun c hc => h2 c (by simp [hc]) (fun q => hn.1 (q ▸ hc))
      rw [h3, h1]; omega
    · have h3 : x ∈ ks := (List.mem_cons.1 hx).resolve_left (fun q => e q.symm)
      have h4 := RV hn.2 h3 h1 (fun c hc => h2 c (by simp [hc]))
      rw [h2 k (by simp) e, h4]; omega
theorem Kj {f : α → Int} {ks j : List α} (J : ks.Nodup) (C : j.Nodup) (h : ∀ x ∈ ks, x ∉ j → f x = 0) (I : ∀ x ∈ j, x ∉ ks → f x = 0) : CC (ks.map f) = CC (j.map f) := by
  rw [Jc (p := fun c => decide (c ∈ j)) (ks := ks) (fun c o e => h c o (by simpa using e)), Jc (p := fun c => decide (c ∈ ks)) (ks := j) (fun c o e => I c o (by simpa using e))]
  refine Gi (List.Perm.map _ (JY (J.filter _) (C.filter _) fun x => ?_))
  simp only [List.mem_filter, decide_eq_true_eq]
  exact ⟨fun h => ⟨h.2, h.1⟩, fun h => ⟨h.2, h.1⟩⟩
end
def CD (l : List Vc.Item) : List Vc.Item := (l.filter (fun x => decide (PX x))).map Mj
theorem FJ {l : List Vc.Item} {k : Nat} (hk : k < l.length) (h : PX (l.getD k default)) : CD (l.take (k + 1)) = CD (l.take k) ++ [Mj (l.getD k default)] := by
  unfold CD; rw [A7 l k hk, List.filter_append, List.map_append, List.filter_cons_of_pos (p := fun x : Vc.Item => decide (PX x)) (decide_eq_true h)]; rfl
theorem LI {l : List Vc.Item} {k : Nat} (hk : k < l.length) (h : ¬ PX (l.getD k default)) : CD (l.take (k + 1)) = CD (l.take k) := by
  unfold CD; rw [A7 l k hk, List.filter_append, List.map_append, List.filter_cons_of_neg (p := fun x : Vc.Item => decide (PX x)) (by simpa using h)]; simp
theorem Hf (l : List Vc.Item) : (CD l).length ≤ l.length := by unfold CD; rw [List.length_map]; exact List.length_filter_le _ _
def eP (a b : List Vc.Item) (c : Vc.Item) : Int := (((CD a).count c : Nat) : Int) - (((CD b).count c : Nat) : Int)
def fP (n : Int) (c : Vc.Item) : Int := if MM c then 0 else max n 0 * wK c.kind
def eg (n : Int) (c : Vc.Item) : Int := if MM c then max n (-n) else 0
def LU (a b : List Vc.Item) : List Vc.Item := Gp (CD a ++ CD b)
def upL (a b : List Vc.Item) : Int := CC ((LU a b).map fun c => fP (eP a b c) c)
def ay (a b : List Vc.Item) : Int := CC ((LU a b).map fun c => eg (eP a b c) c)
def eC (a b : List Vc.Item) : Int := max (upL a b) (upL b a) + 3 * ay a b
theorem Dr {a b : List Vc.Item} {c : Vc.Item} : c ∈ LU a b ↔ c ∈ CD a ∨ c ∈ CD b := by unfold LU; rw [Gh, List.mem_append]
theorem DT (a b : List Vc.Item) : (LU a b).Nodup := HX _
theorem dd (k : Int) : wK k = 0 ∨ wK k = 1 ∨ wK k = 2 ∨ wK k = 3 ∨ wK k = 4 := by have := JI k; omega
theorem eE (n : Int) (c : Vc.Item) : 0 ≤ fP n c ∧ fP n c ≤ 4 * max n 0 := by
  unfold fP
  split
  · omega
  · rcases dd c.kind with h | h | h | h | h <;> rw [h] <;> omega
theorem dr (n : Int) (c : Vc.Item) : 0 ≤ eg n c ∧ eg n c ≤ max n (-n) := by unfold eg; split <;> omega
def CntM (ps qs : List Vc.Item) (m : List (Vc.Item × Int)) : Prop := ∀ x, Az m x = if x ∈ ps ∨ x ∈ qs then some (((ps.count x : Nat) : Int) - ((qs.count x : Nat) : Int)) else none
theorem CntM.nil : CntM [] [] [] := fun x => by simp [Az]
theorem CntM.get {ps o : List Vc.Item} {m : List (Vc.Item × Int)} (h : CntM ps o m) (x : Vc.Item) : (Az m x).getD 0 = ((ps.count x : Nat) : Int) - ((o.count x : Nat) : Int) := by
  rw [h x]
  by_cases j : x ∈ ps ∨ x ∈ o
  · rw [if_pos j]; rfl
  · rw [if_neg j, List.count_eq_zero.2 (fun q => j (.inl q)), List.count_eq_zero.2 (fun q => j (.inr q))]; rfl
theorem CntM.keys {a b : List Vc.Item} {m : List (Vc.Item × Int)} (h : CntM (CD a) (CD b) m) (o : (m.map (·.1)).Nodup) : (m.map (·.1)).Perm (LU a b) := JY o (DT a b) fun x => by
  rw [Dr]
  constructor
  · intro hx
    obtain ⟨q, I, rfl⟩ := List.mem_map.1 hx
    have j : Az m q.1 = some q.2 := FH o I
    rw [h q.1] at j
    exact Classical.byContradiction fun C => by rw [if_neg C] at j; cases j
  · intro hx
    have j := h x
    rw [if_pos hx] at j
    exact List.mem_map.2 ⟨_, RT j, rfl⟩
theorem CntM.val {a b : List Vc.Item} {m : List (Vc.Item × Int)} (h : CntM (CD a) (CD b) m) (C : (m.map (·.1)).Nodup) {q : Vc.Item × Int} (I : q ∈ m) : q.2 = eP a b q.1 := by
  have o : Az m q.1 = some q.2 := FH C I
  have j := h.get q.1
  rw [o] at j
  exact j
theorem CntM.len {a b : List Vc.Item} {m : List (Vc.Item × Int)} (h : CntM (CD a) (CD b) m) (o : (m.map (·.1)).Nodup) : m.length ≤ a.length + b.length := by
  have h1 := (h.keys o).length_eq
  have j := List.Nodup.length_le_of_subset (DT a b) (l₂ := CD a ++ CD b) (fun x C => by rw [List.mem_append]; exact Dr.1 C)
  rw [List.length_append] at j
  have I := Hf a
  have J := Hf b
  rw [List.length_map] at h1
  omega
theorem CntM.sum {a b : List Vc.Item} {m d : List (Vc.Item × Int)} (h : CntM (CD a) (CD b) m) (j : (m.map (·.1)).Nodup) (o : d.Perm m) (F : Int → Vc.Item → Int) : CC (d.map fun q => F q.2 q.1) = CC ((LU a b).map fun c => F (eP a b c) c) := by
  rw [Gi (o.map _), ← Gi ((h.keys j).map _), List.map_map]
  congr 1
  exact List.map_congr_left fun q C => by rw [h.val j C]; rfl
def cO (x y : Vc.Item) : Prop := x.kind = y.kind ∧ 5 ≤ x.kind ∧ x.kind ≤ 9 ∧ IX x = IX y
instance (x y : Vc.Item) : Decidable (cO x y) := by unfold cO; infer_instance
def UU (x y : Vc.Item) : Prop := x.kind = y.kind ∧ x.text = y.text
instance (x y : Vc.Item) : Decidable (UU x y) := by unfold UU; infer_instance
def eH (a b : List Vc.Item) : Int := max (US (AW (AO a)) (AW (AO b))) (US (AW (AO b)) (AW (AO a)))
def Te (a b : List Vc.Item) : Int := max (eC a b) (4 * ((eH a b + 1) / 2))
theorem eM : ∀ (w : World) (x y : Vc.Item), (Op.equalIn 10000 111 (.agg (Enc.enc x).toArray) (.agg (Enc.enc y).toArray)).run Tryz.prog w = .ok (decide (x = y)) w := fun w x y => KI 9998 underlying111 Tryz.stoodInHeld111 υ υ υ rfl rfl rfl underlying3 underlying9 underlying3 Ae BX Ae x y
theorem XL {l : List Vc.Item} {x : Vc.Item} (h : x ∈ l) : x.text.length ≤ EX l := by
  induction l with
  | nil => cases h
  | cons y l ih =>
    have e : EX (y :: l) = y.text.length + EX l := by simp [EX]
    rcases List.mem_cons.1 h with rfl | h
    · omega
    · have := ih h; omega
theorem Va : ∀ (n : Nat) (s : Ac), s.length = n → ∀ x ∈ Jl s, x.text.length ≤ s.length := by
  intro n
  induction n using Nat.strongRecOn with
  | ind n ih =>
    intro s hs x hx
    by_cases h : s = []
    · subst h; rw [Em] at hx; cases hx
    · have h1 := KT s
      have o : 0 < s.length := List.length_pos_iff.2 h
      rw [K0 h] at hx
      rcases List.mem_cons.1 hx with rfl | hx
      · show (s.take _).length ≤ _; rw [List.length_take]; omega
      · have j := ih _ (by rw [← hs]; show (s.drop (Du s).2).length < s.length; rw [List.length_drop]; omega) (s.drop (Du s).2) rfl x hx
        rw [List.length_drop] at j; omega
theorem LD {f : List Vc.Item} {x : Vc.Item} (h : x ∈ Cp f) : x.text.length ≤ EX f := by
  unfold Cp at h
  obtain ⟨y, o, j⟩ := List.mem_flatMap.1 h
  have h1 := XL o
  unfold NJ at j
  split at j
  · have := Va _ y.text rfl x j; omega
  · split at j
    · have : x = y := by simpa using j
      rw [this]; exact h1
    · cases j
theorem LM (f : List Vc.Item) : EX f = Ay f := rfl
def NR (B k : Nat) (lo : List Vc.Item) : Prop := lo.length ≤ 2 * k ∧ ∀ x ∈ lo, x.text.length ≤ B + 4
theorem NR.nil (B : Nat) : NR B 0 [] := ⟨Nat.le_refl _, by simp⟩
theorem NR.skip {B k : Nat} {j : List Vc.Item} (h : NR B k j) : NR B (k + 1) j := ⟨by have := h.1; omega, h.2⟩
theorem NR.one {B k : Nat} {j : List Vc.Item} {x : Vc.Item} (h : NR B k j) (o : x.text.length ≤ B + 4) : NR B (k + 1) (j ++ [x]) :=
  ⟨by rw [List.length_append]; have := h.1; simp; omega, fun y C => (List.mem_append.1 C).elim (h.2 y) (fun q => by have e : y = x := (by simpa using q); rw [e]; exact o)⟩
def LL (x : Vc.Item) : Int := if MM x then 1 else wK x.kind
def Yo (x y : Vc.Item) : Prop := UU x y ∨ (x.kind = y.kind ∧ 5 ≤ x.kind ∧ x.kind ≤ 9)
instance (x y : Vc.Item) : Decidable (Yo x y) := by unfold Yo; infer_instance
def et (x y : Vc.Item) : Int := if UU x y then 0 else if ¬ (x.kind = y.kind ∧ 5 ≤ x.kind ∧ x.kind ≤ 9) then 0 else if x.kind = 6 ∧ IX x = IX y then 1 else wK x.kind
def TE : List Vc.Item → List Vc.Item → Int
  | [], [] => 0
  | x :: a, [] => LL x + TE a []
  | [], y :: b => LL y + TE [] b
  | x :: a, y :: b => if Yo x y then min (min (et x y + TE a b) (LL x + TE a (y :: b))) (LL y + TE (x :: a) b) else min (LL x + TE a (y :: b)) (LL y + TE (x :: a) b)
termination_by a b => a.length + b.length
section
variable {ks p q : List (Ac × Ac)} {x y : Ac × Ac}
end
theorem XT {ps : List (Ac × Ac)} (hps : ps.length ≤ 1073741824) : ∀ {g : List Gram}, (g.map Bj).Nodup → (∀ x ∈ g, x.count = ((ps.count (Bj x) : Nat) : Int)) → ∀ p, Kf g p = if p ∈ g.map Bj then ((ps.count p : Nat) : Int) else 0
  | [], _, _, p => by simp [Kf, CC]
  | x :: r, hn, h, p => by
    rw [List.map_cons, List.nodup_cons] at hn
    have ih := XT hps hn.2 (fun y hy => h y (by simp [hy])) p
    have e : Kf (x :: r) p = (if Bj x = p then JZ x.count else 0) + Kf r p := rfl
    rw [e, ih]
    have hb := List.count_le_length (a := Bj x) (l := ps)
    have hx := h x (by simp)
    by_cases e2 : Bj x = p
    · subst e2
      rw [if_pos rfl, if_neg hn.1, if_pos (by simp), hx]
      unfold JZ; omega
    · rw [if_neg e2, Int.zero_add]
      by_cases e3 : p ∈ r.map Bj
      · rw [if_pos e3, if_pos (by simp at e3 ⊢; exact .inr e3)]
      · rw [if_neg e3, if_neg (by rw [List.map_cons, List.mem_cons]; rintro (q | q); exact e2 q.symm; exact e3 q)]
theorem Po {ws : List Ac} (I : ws.length ≤ 1000000) (p : Ac × Ac) : Kf (AW ws) p = (((Bk [] ws).count p : Nat) : Int) := by
  have h := D6 (Bk [] ws)
  have C : ((AW ws).map Bj).Nodup := List.pairwise_map.2 (h.1.imp fun {x y} (h : Pp (Bj x) (Bj y)) (e : Bj x = Bj y) => Cz (Bj y) (by rw [e] at h; exact h))
  rw [XT (ps := Bk [] ws) (by rw [D8]; omega) C (fun x o => (h.2.1 x o).2)]
  by_cases j : p ∈ (AW ws).map Bj
  · rw [if_pos j]
  · rw [if_neg j, List.count_eq_zero.2]; rfl
    intro q
    obtain ⟨x, o, e⟩ := h.2.2 p q
    exact j (e ▸ List.mem_map_of_mem o)
def GB (g : List Gram) : Int := CC (g.map (·.count))
theorem Rs : ∀ (g : List Gram) (p : Ac × Ac), GB (IQ g p) = GB g + 1
  | [], p => rfl
  | x :: r, p => by
    have ih := Rs r p
    unfold GB at *
    unfold IQ
    split
    · rw [List.map_cons, List.map_cons, BD, BD, ih]; omega
    · split
      · rw [List.map_cons, List.map_cons, BD, BD]
        show x.count + 1 + _ = _; omega
      · rw [List.map_cons, List.map_cons, BD, BD]
        show 1 + (x.count + _) = _; omega
theorem PK : ∀ (ps : List (Ac × Ac)) (g : List Gram), GB (ps.foldl IQ g) = GB g + ps.length
  | [], g => by simp
  | p :: ps, g => by
    rw [List.foldl_cons, PK ps, Rs, List.length_cons]; push_cast; omega
theorem HS (ws : List Ac) : GB (AW ws) = (ws.length : Int) + 1 := by
  unfold AW GL
  rw [PK, D8]; show (0 : Int) + _ = _; push_cast; omega
theorem PS {g : List Gram} {k : Nat} (h : k < g.length) : GB (g.take (k + 1)) = GB (g.take k) + (g.getD k default).count := by
  unfold GB; rw [A7 g k h, List.map_append, Cg]; simp [CC]
def Sd (n k : Nat) : List Vc.Item := (List.range k).map fun i => ⟨6, [119, UInt8.ofNat (97 + n - 1 - i)], 0⟩
end Go.Proofs.YtbgmlpbgofcfjaaGreatDoor
namespace Go.Proofs.YtbgmlpbgofcfjaaGreatDoor
open Go Go.RowKit Go.Vc
def dT (a b : List Vc.Item) (i j : Nat) : Int := TE (a.drop i) (b.drop j)
section
variable {a b : List Vc.Item} {i j : Nat}
end
section
variable {w w' : World} {base bt : Nat} {T E : TypeId} {n m lo : Nat} {rb : Nat → Nat} {a b : List Vc.Item} {i j : Nat}
end
section
variable {α : Type}
theorem TW {f g : α → Int} : ∀ ks : List α, CC (ks.map fun c => f c + g c) = CC (ks.map f) + CC (ks.map g)
  | [] => rfl
  | c :: ks => by rw [List.map_cons, List.map_cons, List.map_cons, BD, BD, BD, TW ks]; omega
theorem QK {f g : α → Int} : ∀ ks : List α, CC (ks.map fun c => f c - g c) = CC (ks.map f) - CC (ks.map g)
  | [] => rfl
  | c :: ks => by rw [List.map_cons, List.map_cons, List.map_cons, BD, BD, BD, QK ks]; omega
theorem KC {f g : α → Int} : ∀ {ks : List α}, (∀ c ∈ ks, f c = g c) → CC (ks.map f) = CC (ks.map g)
  | [], _ => rfl
  | c :: ks, h => by rw [List.map_cons, List.map_cons, BD, BD, h c (by simp), KC (fun x hx => h x (by simp [hx]))]
theorem KX [DecidableEq α] {f : α → Int} {ks : List α} (hn : ks.Nodup) : ∀ {l : List α}, (∀ x ∈ l, x ∈ ks) → CC (ks.map fun c => ((l.count c : Nat) : Int) * f c) = CC (l.map f)
  | [], _ => by rw [show ([] : List α).map f = [] from rfl]; exact TK (fun c _ => by simp)
  | x :: l, h => by
    rw [List.map_cons, BD, ← KX hn (l := l) (fun y hy => h y (by simp [hy])), Int.add_comm]
    refine RV (x := x) hn (h x (by simp)) ?_ (fun c _ hc => ?_)
    · rw [List.count_cons_self]; show ((l.count x + 1 : Nat) : Int) * f x = _
      rw [Int.natCast_add, Int.add_mul]; simp
    · rw [List.count_cons_of_ne (Ne.symm hc)]
end
def wC (c : Vc.Item) : Int := if MM c then 0 else wK c.kind
def tC (c : Vc.Item) : Int := if MM c then 1 else 0
def wN (l : List Vc.Item) : Int := CC ((CD l).map wC)
def tN (l : List Vc.Item) : Int := CC ((CD l).map tC)
def Rx (a b : List Vc.Item) (c : Vc.Item) : Int := min (((CD a).count c : Nat) : Int) (((CD b).count c : Nat) : Int)
def bT (a b : List Vc.Item) : Int := CC ((Gp (CD a)).map fun c => Rx a b c * wC c)
def aU (a b : List Vc.Item) : Int := CC ((Gp (CD a)).map fun c => Rx a b c * tC c)
theorem KO {a b : List Vc.Item} {c : Vc.Item} (h : c ∉ CD a) : Rx a b c = 0 := by unfold Rx; rw [List.count_eq_zero.2 h]; omega
theorem KU {a b : List Vc.Item} {f : Vc.Item → Int} (h : ∀ c, c ∉ CD a → f c = 0) : CC ((Gp (CD a)).map f) = CC ((LU a b).map f) :=
  Kj (HX _) (DT a b) (fun x C o => absurd (Dr.2 (.inl ((Gh _ _).1 C))) o) (fun x _ o => h x (fun q => o ((Gh _ _).2 q)))
theorem QZ (a b : List Vc.Item) : upL a b = wN a - bT a b := by
  unfold wN bT
  rw [← KX (DT a b) (fun x C => Dr.2 (.inl C)), KU (b := b) (fun c o => by rw [KO o, Int.zero_mul]), ← QK]
  unfold upL
  refine KC (fun c _ => ?_)
  unfold fP wC
  split
  · simp
  · rw [← Int.sub_mul]
    congr 1
    unfold eP Rx; omega
theorem S8 (a b : List Vc.Item) : ay a b = tN a + tN b - 2 * aU a b := by
  have e : (2 : Int) * aU a b = aU a b + aU a b := by omega
  rw [e]
  unfold tN aU
  rw [← KX (DT a b) (fun x o => Dr.2 (.inl o)), ← KX (DT a b) (l := CD b) (fun x o => Dr.2 (.inr o)), KU (b := b) (fun c C => by rw [KO C, Int.zero_mul]), ← TW, ← TW, ← QK]
  unfold ay
  refine KC (fun c _ => ?_)
  unfold eg tC
  split
  · simp only [Int.mul_one]
    unfold eP Rx; omega
  · simp
theorem aF (a b : List Vc.Item) : bT a b = bT b a := by
  have h : ∀ c, Rx a b c = Rx b a c := fun c => by unfold Rx; omega
  unfold bT
  rw [KU (b := b) (fun c C => by rw [KO C, Int.zero_mul]), KU (a := b) (b := a) (f := fun c => Rx b a c * wC c) (fun c C => by rw [KO C, Int.zero_mul])]
  rw [KC (g := fun c => Rx b a c * wC c) (fun c _ => by rw [h c])]
  exact Kj (DT a b) (DT b a) (fun x I o => absurd (Dr.2 (Dr.1 I).symm) o) (fun x I o => absurd (Dr.2 (Dr.1 I).symm) o)
theorem Xd (a b : List Vc.Item) : eC a b = max (wN a) (wN b) - bT a b + 3 * (tN a + tN b - 2 * aU a b) := by
  unfold eC
  rw [QZ, QZ, S8, ← aF a b]
  omega
end Go.Proofs.YtbgmlpbgofcfjaaGreatDoor
namespace Go.Vc
open Go Go.RowKit Go.IntWalk
open Go.ChangeMaps (setBlock)
theorem HW {α β : Type} (f : α → β) : ∀ (l : List α) (i : Nat), (l.eraseIdx i).map f = (l.map f).eraseIdx i
  | [], _ => by simp
  | a :: l, 0 => by simp
  | a :: l, i + 1 => by simp [HW f l i]
theorem Wd {α β : Type} [DecidableEq α] {m : List (α × β)} {a : α} (h : Az m a = none) : JD m a = m := by
  unfold JD
  refine List.filter_eq_self.2 (fun p o => ?_)
  unfold Az at h
  simp only [Option.map_eq_none_iff, List.find?_eq_none, decide_eq_true_eq] at h
  simp [h p o]
theorem RY {α β : Type} [DecidableEq α] : ∀ {m : List (α × β)} {a : α} {v : β} {i : Nat}, (m.map (·.1)).Nodup → m[i]? = some (a, v) → JD m a = m.eraseIdx i
  | [], _, _, _, _, h => by simp at h
  | p :: m, a, v, 0, hn, h => by
    simp at h; subst h
    simp only [List.map_cons, List.nodup_cons] at hn
    show ((a, v) :: m).filter _ = m
    rw [List.filter_cons, if_neg (by simp)]
    refine List.filter_eq_self.2 (fun q I => ?_)
    have : q.1 ≠ a := fun e => hn.1 (List.mem_map.2 ⟨q, I, e⟩)
    simp [this]
  | p :: m, a, v, i + 1, hn, h => by
    simp only [List.map_cons, List.nodup_cons] at hn
    have o : m[i]? = some (a, v) := by simpa using h
    have C : p.1 ≠ a := fun e => hn.1 (by rw [e]; exact List.mem_map.2 ⟨(a, v), List.mem_of_getElem? o, rfl⟩)
    have J := RY hn.2 o
    show (p :: m).filter _ = p :: m.eraseIdx i
    rw [List.filter_cons, if_pos (by simp [C])]
    exact congrArg _ J
theorem V8 {α β : Type} [DecidableEq α] (m : List (α × β)) (a : α) (o : (m.map (·.1)).Nodup) : ((JD m a).map (·.1)).Nodup := o.sublist (List.Sublist.map _ List.filter_sublist)
section
variable {P : Program} {B : Exit → Act → World → Prop} {n : Nat} {k : List Kont} {f : Fr} {w : World} {ops : Array Oper} {rest : List Oper} {o : Oper}
variable {α β : Type} {ek : α → Value} {ev : β → Value} {b : Nat} {m : List (α × β)} {K E : TypeId}
theorem T9 (es : Array MapEntry) (i : Nat) : (es.eraseIdxIfInBounds i).toList = es.toList.eraseIdx i := by
  unfold Array.eraseIdxIfInBounds
  split
  · simp
  · rw [List.eraseIdx_of_length_le (by simpa using Nat.le_of_not_lt ‹_›)]
theorem Xx [DecidableEq α] (L : KeyLaw P K ek) {T ty : TypeId} (hu : P.underlying T = some (.map K E)) (a : α) {es : Array MapEntry} {c : Nat} (J : w.heap[b]? = some (.map es c)) (h : MapIs w b ek ev m) :
    ∃ I, (Builtin.delete_ #[T, K] ty #[.map (some b), ek a]).run P w = .ok (.tuple #[]) (setBlock w b (.map I c)) ∧ (I.toList = es.toList ∧ JD m a = m ∨ ∃ i v, m[i]? = some (a, v) ∧ I.toList = es.toList.eraseIdx i ∧ JD m a = m.eraseIdx i) := by
  obtain ⟨af, c2, C, R⟩ := h.find L a
  rw [J] at C
  injection C with C
  injection C with e1 e2
  subst e1; subst e2
  have U := h.nodup
  rcases R with ⟨hg, R⟩ | ⟨i, u, hg, hi, hne, R⟩
  · refine ⟨es, ?_, .inl ⟨rfl, Wd hg⟩⟩
    simp [Builtin.delete_, run_underlying hu, MapKept.run_getObj_map J, L.check, R, MapKept.run_setObj_map _ J, Result.andThen, setBlock]
  · refine ⟨es.eraseIdxIfInBounds i, ?_, .inr ⟨i, u, hi, T9 es i, RY U hi⟩⟩
    simp [Builtin.delete_, run_underlying hu, MapKept.run_getObj_map J, L.check, R, MapKept.run_setObj_map _ J, Result.andThen, setBlock]
theorem WA {C : Type} {l : List C} {i : Nat} {x : C} (h : x ∈ l.eraseIdx i) : x ∈ l := (List.eraseIdx_sublist l i).subset h
theorem Tu [DecidableEq α] (L : KeyLaw P K ek) {T : TypeId} {t : TypeId} {pos : String} {R : Array Edge} {x y : Operand} {a : α} (hu : P.underlying T = some (.map K E)) (hx : opv f x = .map (some b)) (hy : opv f y = ek a)
    (h : MapIs w b ek ev m) (h2 : ∀ w', Evo w w' [b] → w'.heap.size = w.heap.size → MapIs w' b ek ev (JD m a) → KL P B n ops k rest f w') :
    KL P B n ops k (⟨none, .call ⟨.builtin .delete, #[x, y], #[T, K]⟩, t, pos, R, none⟩ :: rest) f w := by
  obtain ⟨es, c, hb, he, I, J, af⟩ := h.ex
  obtain ⟨C, hr, U⟩ := Xx (ty := t) L hu a hb h
  refine Yy (v := .tuple #[]) (w' := setBlock w b (.map C c)) rfl rfl (CA (s := Builtin.delete_ #[T, K] t #[.map (some b), ek a]) rfl (by simp [hx, hy]) (fun cs => rfl) hr) (h2 _ (Evo.setB _ _ _) (by simp [setBlock]) ⟨C, c, Dj h.lt _, ?_, ?_, ?_, V8 m a af⟩)
  · rcases U with ⟨h1, h3⟩ | ⟨i, v, _, h1, h3⟩
    · rw [h1, h3]; exact he
    · rw [h1, h3, HW, he, ← HW]
  · rcases U with ⟨h1, _⟩ | ⟨i, v, _, h1, _⟩
    · rw [h1]; exact I
    · rw [h1]; exact I.sublist ((List.eraseIdx_sublist _ _).map _)
  · intro e hm
    rcases U with ⟨h1, _⟩ | ⟨i, v, _, h1, _⟩
    · rw [h1] at hm; exact J e hm
    · rw [h1] at hm; exact J e (WA hm)
end
abbrev ZE : Value → Value := fun v => v
abbrev Ob : Value := .slice none 0 0
def FC {α : Type} [DecidableEq α] (M : List (α × Value)) (k : α) : Value := (Az M k).getD Ob
structure FamM {α β : Type} [DecidableEq α] [Enc β] (w : World) (E : TypeId) (M : List (α × Value)) (P : α → List β) (F : List Nat) : Prop where
  own : ∀ k, OwnE w 0 E (FC M k) (P k)
  foot : ∀ k g, (FC M k).ownBlock = some g → g ∈ F
  apart : ∀ k k' g, (FC M k).ownBlock = some g → (FC M k').ownBlock = some g → k = k'
section
variable {α β : Type} [DecidableEq α] [Enc β] {w w' : World} {E : TypeId} {M M' : List (α × Value)} {P P' : α → List β} {F F' X : List Nat} {k : α} {v2 : Value} {l2 : List β} {m : Nat} {ek : α → Value}
theorem VW (M : List (α × Value)) (k : α) (v : Value) (y : α) : FC (Co M k v) y = if y = k then v else FC M y := by
  unfold FC; rw [CW]; by_cases h : k = y
  · rw [if_pos h, if_pos h.symm]; rfl
  · rw [if_neg h, if_neg (fun e => h e.symm)]
theorem WC (M : List (α × Value)) (k y : α) : Az (JD M k) y = if y = k then none else Az M y := by
  unfold Az JD
  rw [List.find?_filter]
  by_cases h : y = k
  · subst h
    rw [if_pos rfl]
    simp only [Option.map_eq_none_iff, List.find?_eq_none]
    intro p _ h2
    simp only [Bool.and_eq_true, Bool.not_eq_true', decide_eq_true_eq, decide_eq_false_iff_not] at h2
    exact h2.1 h2.2
  · rw [if_neg h]
    congr 2
    funext p
    by_cases e : p.1 = y
    · have : ¬ p.1 = k := fun q => h (e ▸ q)
      simp [e, h]
    · simp [e]
theorem P2 (M : List (α × Value)) (k y : α) : FC (JD M k) y = if y = k then Ob else FC M y := by
  unfold FC; rw [WC]; split <;> rfl
theorem FamM.nil (w : World) (E : TypeId) (F : List Nat) : FamM (α := α) (β := β) w E [] (fun _ => []) F :=
  ⟨fun _ => OwnE.nil _ _ _, fun _ _ h => (by cases (show (none : Option Nat) = some _ from h)), fun _ _ _ h => (by cases (show (none : Option Nat) = some _ from h))⟩
theorem FamM.evo (h : FamM w E M P F) (he : Evo w w' X) (C : ∀ g ∈ F, g ∉ X) : FamM w' E M P F := ⟨fun k => (h.own k).evo he (fun g I => C g (h.foot k g I)), h.foot, h.apart⟩
theorem FamM.mono (h : FamM w E M P F) (C : ∀ g ∈ F, g ∈ F') : FamM w E M P F' := ⟨h.own, fun k g I => C g (h.foot k g I), h.apart⟩
theorem FamM.congr (h : FamM w E M P F) (C : ∀ k, P k = P' k) : FamM w E M P' F := ⟨fun k => C k ▸ h.own k, h.foot, h.apart⟩
theorem FamM.lt (h : FamM w E M P F) {g : Nat} (C : (FC M k).ownBlock = some g) : g < w.heap.size := ((h.own k).block C).2
theorem FamM.put (h : FamM w E M P F) (he : Evo w w' X) (hX : ∀ x ∈ X, x < w.heap.size → x ∈ F → (FC M k).ownBlock = some x) (U : ∀ y, FC M' y = if y = k then v2 else FC M y) (ho : OwnE w' 0 E v2 l2)
    (hb : v2.ownBlock = (FC M k).ownBlock ∨ ∃ g, v2.ownBlock = some g ∧ w.heap.size ≤ g) (hP : ∀ y, P' y = if y = k then l2 else P y) : FamM w' E M' P' (v2.ownBlock.toList ++ F) := by
  have h1 : ∀ y g, y ≠ k → v2.ownBlock = some g → (FC M y).ownBlock = some g → False := fun y g hy I C => by
    rcases hb with hb | ⟨q, hq, hq2⟩
    · exact hy (h.apart y k g C (hb ▸ I))
    · rw [I] at hq; injection hq with hq; have := h.lt C; omega
  refine ⟨fun y => ?_, fun y g I => ?_, fun y R g I C => ?_⟩
  · rw [U, hP]
    by_cases e : y = k
    · rw [if_pos e, if_pos e]; exact ho
    · rw [if_neg e, if_neg e]
      exact (h.own y).evo he (fun g I hm => e (h.apart y k g I (hX g hm (h.lt I) (h.foot y g I))))
  · rw [U] at I
    by_cases e : y = k
    · rw [if_pos e] at I; exact List.mem_append_left _ (Option.mem_toList.2 I)
    · rw [if_neg e] at I; exact List.mem_append_right _ (h.foot y g I)
  · rw [U] at I C
    by_cases e : y = k
    · by_cases J : R = k
      · rw [e, J]
      · rw [if_pos e] at I; rw [if_neg J] at C; exact (h1 R g J I C).elim
    · by_cases J : R = k
      · rw [if_neg e] at I; rw [if_pos J] at C; exact (h1 y g e C I).elim
      · rw [if_neg e] at I; rw [if_neg J] at C; exact h.apart y R g I C
theorem FamM.del (h : FamM w E M P F) (he : Evo w w' X) (U : ∀ g ∈ F, g ∉ X) (hk : P k = []) : FamM w' E (JD M k) P F := by
  refine ⟨fun y => ?_, fun y g C => ?_, fun y R g C I => ?_⟩
  · rw [P2]
    by_cases e : y = k
    · rw [if_pos e, e, hk]; exact OwnE.nil _ _ _
    · rw [if_neg e]; exact (h.own y).evo he (fun g C => U g (h.foot y g C))
  · rw [P2] at C
    by_cases e : y = k
    · rw [if_pos e] at C; cases (show (none : Option Nat) = some _ from C)
    · rw [if_neg e] at C; exact h.foot y g C
  · rw [P2] at C I
    by_cases e : y = k
    · rw [if_pos e] at C; cases (show (none : Option Nat) = some _ from C)
    · by_cases J : R = k
      · rw [if_pos J] at I; cases (show (none : Option Nat) = some _ from I)
      · rw [if_neg e] at C; rw [if_neg J] at I; exact h.apart y R g C I
end
def FamIs {α β : Type} [DecidableEq α] [Enc β] (w : World) (m : Nat) (ek : α → Value) (E : TypeId) (P : α → List β) (F : List Nat) : Prop := ∃ M, MapIs w m ek ZE M ∧ FamM w E M P F ∧ m ∉ F ∧ ∀ g ∈ F, g < w.heap.size
section
variable {α β : Type} [DecidableEq α] [Enc β] {w w' : World} {E : TypeId} {P P' : α → List β} {F F' X : List Nat} {k : α} {m : Nat} {ek : α → Value}
theorem FamIs.lt (h : FamIs w m ek E P F) : m < w.heap.size := let ⟨_, h1, _⟩ := h; h1.lt
theorem FamIs.flt (h : FamIs w m ek E P F) : ∀ g ∈ F, g < w.heap.size := let ⟨_, _, _, _, h1⟩ := h; h1
theorem FamIs.evo (h : FamIs w m ek E P F) (he : Evo w w' X) (hm : m ∉ X) (R : ∀ g ∈ F, g ∉ X) : FamIs w' m ek E P F := by
  obtain ⟨M, h1, C, I, J⟩ := h
  exact ⟨M, h1.evo he hm, C.evo he R, I, fun g U => Nat.lt_of_lt_of_le (J g U) he.size⟩
theorem FamIs.evo0 (h : FamIs w m ek E P F) (he : Evo w w' []) : FamIs w' m ek E P F := h.evo he (by simp) (by simp)
theorem FamIs.congr (h : FamIs w m ek E P F) (R : ∀ k, P k = P' k) : FamIs w m ek E P' F := by
  obtain ⟨M, h1, C, I, J⟩ := h
  exact ⟨M, h1, C.congr R, I, J⟩
theorem FamIs.made {b : Nat} (h : MapIs w b ek ZE ([] : List (α × Value))) : FamIs (β := β) w b ek E (fun _ => []) [] := ⟨[], h, FamM.nil _ _ _, by simp, by simp⟩
theorem FamIs.put {M : List (α × Value)} {v2 : Value} {l2 : List β} (U : FamM w E M P F) (R : m ∉ F) (h4 : ∀ g ∈ F, g < w.heap.size) (aS : m < w.heap.size) (he : Evo w w' ([m] ++ (FC M k).ownBlock.toList)) {M' : List (α × Value)} (h1 : MapIs w' m ek ZE M') (hM : ∀ y, FC M' y = if y = k then v2 else FC M y)
    (ho : OwnE w' 0 E v2 l2) (J : v2.ownBlock = (FC M k).ownBlock ∨ ∃ g, v2.ownBlock = some g ∧ w.heap.size ≤ g) (hP : ∀ y, P' y = if y = k then l2 else P y) : FamIs w' m ek E P' (v2.ownBlock.toList ++ F) := by
  refine ⟨M', h1, U.put he (fun x I _ hF => ?_) hM ho J hP, fun hm => ?_, fun g C => ?_⟩
  · rcases List.mem_append.1 I with I | I
    · have : x = m := by simpa using I
      subst this; exact absurd hF R
    · exact Option.mem_toList.1 I
  · rcases List.mem_append.1 hm with hm | hm
    · have hv := Option.mem_toList.1 hm
      rcases J with J | ⟨g, C, hg2⟩
      · exact R (U.foot k m (J ▸ hv))
      · rw [hv] at C; injection C with C; omega
    · exact R hm
  · rcases List.mem_append.1 C with C | C
    · exact (ho.block (Option.mem_toList.1 C)).2
    · exact Nat.lt_of_lt_of_le (h4 g C) he.size
theorem Vq {M : List (α × Value)} {k : α} {u v : Value} : ∀ y, FC (Co (Co M k u) k v) y = if y = k then v else FC M y := fun y => by
  rw [N7, VW]
end
theorem StampIs.evo2 {α : Type} {w w' : World} {b : Nat} {ek : α → Value} {a : α} {s : Int} {X : List Nat} (h : StampIs w b ek a s) (he : Evo w w' X) (J : b ∉ X) : StampIs w' b ek a s := by
  obtain ⟨es, c, i, e, h1, C⟩ := h
  have I : b < w.heap.size := by
    rcases Nat.lt_or_ge b w.heap.size with h3 | h3
    · exact h3
    · rw [Array.getElem?_eq_none h3] at h1; cases h1
  exact ⟨es, c, i, e, (he.same b I J).trans h1, C⟩
section
variable {α : Type} [Enc α] {w : World} {base : Nat} {E : TypeId} {v : Value} {l : List α} {P : Program}
theorem NW (y0 : α) : ∀ n, ((List.replicate n y0).map (Enc.enc : α → List Value)).flatten = (List.replicate n (Enc.enc y0)).flatten
  | 0 => rfl
  | n + 1 => by rw [List.replicate_succ, List.map_cons, List.flatten_cons, NW y0 n, List.replicate_succ, List.flatten_cons]
theorem IP (l : List α) : (l.map (Enc.enc : α → List Value)).flatten.length = l.length * Enc.n α := by
  have := Bm (l.map (Enc.enc : α → List Value)) (Enc.n α) (fun c C => by
    obtain ⟨x, _, rfl⟩ := List.mem_map.1 C; exact Enc.len x)
  rwa [List.length_map] at this
theorem T1 {T ty : TypeId} {m bb : Nat} {z : Value} {y0 : α} (hu : P.underlying T = some (.slice E)) (ht : Cy P E = some (m, bb, some z)) (hz : z.cells = (Enc.enc y0).toArray) (hm : m = Enc.n α) (I : OwnE w base E v l)
    {ao : Option Addr} {cap : Nat} (hv : v = .slice ao l.length cap) (i : Nat) (hi : i ≤ l.length) :
    ∃ w', (Builtin.clear_ #[T] ty #[.slice (if cap = i then ao else ao.map (·.add (i * m))) (l.length - i) (cap - i)]).run P w = .ok (.tuple #[]) w' ∧ Evo w w' v.ownBlock.toList ∧ w'.heap.size = w.heap.size ∧ OwnE w' base E v (l.take i ++ List.replicate (l.length - i) y0) := by
  rcases Nat.lt_or_ge i l.length with hlt | hge
  · have hle : l.length ≤ cap := by
      obtain ⟨_, _, _, h1, h2, _⟩ := I.rowOf
      rw [hv] at h1; cases h1; exact h2.le
    rcases I.row.2 with ⟨hv2, hn⟩ | ⟨g, cap2, cur, hv2, hb, hblk, hn, hcap, hs, htk⟩
    · rw [List.length_map] at hn; omega
    · have e1 : ao = some ⟨g, 0, none⟩ ∧ cap = cap2 := by rw [hv] at hv2; injection hv2 with a1 a2 a3; exact ⟨a1, a3⟩
      obtain ⟨rfl, rfl⟩ := e1
      subst hm
      have hp := Enc.pos (α := α)
      rw [List.length_map] at hn htk
      obtain ⟨vs, J⟩ : ∃ vs, vs = (List.replicate (l.length - i) (Enc.enc y0)).flatten := ⟨_, rfl⟩
      have ag : vs.length = (l.length - i) * Enc.n α := by rw [J, ← NW, IP, List.length_replicate]
      have a_ : (Builtin.zeroCells z.cells (l.length - i)).toList = vs := by
        unfold Builtin.zeroCells
        have h1 := Da hz (Enc.len y0) hp (l.length - i)
        have bf : z.cells.size = Enc.n α := by rw [hz]; simpa using Enc.len y0
        rw [bf] at h1 ⊢
        rw [h1, J]
      have au : i * Enc.n α + (l.length - i) * Enc.n α = l.length * Enc.n α := by rw [← Nat.add_mul]; congr 1; omega
      have bx : l.length * Enc.n α ≤ cap * Enc.n α := Nat.mul_le_mul_right _ hle
      have az := run_storeCells_at P g (0 + i * Enc.n α) E vs 0 cur w hblk (by rw [ag, hs]; omega) (fun u aS => by
        rw [J] at aS
        obtain ⟨c, hc, aT⟩ := List.mem_flatten.1 aS
        rw [List.eq_of_mem_replicate hc] at aT
        exact List.all_eq_true.1 (Enc.one y0) u aT)
      have U : ¬ cap = i := by omega
      refine ⟨w.setRow g (cur.toList.take (0 + i * Enc.n α + 0) ++ vs ++ cur.toList.drop (0 + i * Enc.n α + 0 + vs.length)).toArray, ?_, ?_, ?_, ?_⟩
      · rw [if_neg U]
        obtain ⟨q, hq⟩ : ∃ q, l.length - i = q + 1 := ⟨l.length - i - 1, by omega⟩
        rw [hq] at a_
        simp only [Option.map_some, add_lit]
        simp [Builtin.clear_, run_underlying hu, ET ht, hq, a_]
        simp at az
        rw [az]
        rfl
      · rw [hv2]; exact Evo.setRow _ _ _
      · simp
      · have bc := IP l
        obtain ⟨R, al⟩ : ∃ R, cur.toList = (l.map (Enc.enc : α → List Value)).flatten ++ R := ⟨cur.toList.drop (l.length * Enc.n α), by rw [← htk, List.take_append_drop]⟩
        have C : (l.take i ++ List.replicate (l.length - i) y0).length = l.length := by rw [List.length_append, List.length_take, List.length_replicate]; omega
        have af : (l.map (Enc.enc : α → List Value)).flatten.take (i * Enc.n α) = ((l.take i).map (Enc.enc : α → List Value)).flatten := by
          have h1 : l = l.take i ++ l.drop i := (List.take_append_drop i l).symm
          conv => lhs; rw [h1]
          rw [List.map_append, List.flatten_append]
          refine List.take_left' ?_
          rw [IP, List.length_take]; congr 1; omega
        refine ⟨⟨?_, .inr ⟨g, cap, _, ?_, hb, setRow_heap w g _ _ _ _ hblk, ?_, hcap, ?_, ?_⟩⟩, fun c hc => ?_, ?_⟩
        · rw [IP, List.length_map]
        · rw [hv2, List.length_map, List.length_map, C]
        · rw [List.length_map, C]; exact hn
        · simp only [List.size_toArray, List.length_append, List.length_take, List.length_drop, Array.length_toList]; rw [ag, hs]; omega
        · rw [List.length_map, C, List.map_append, List.flatten_append, NW, ← J]
          simp only [Nat.zero_add, Nat.add_zero]
          have e2 : cur.toList.take (i * Enc.n α) = ((l.take i).map (Enc.enc : α → List Value)).flatten := by
            rw [al, List.take_append_of_le_length (by rw [bc]; omega), af]
          rw [e2]
          refine List.take_left' ?_
          rw [List.length_append, IP, ag, List.length_take, ← au]
          congr 2; omega
        · obtain ⟨x, _, rfl⟩ := List.mem_map.1 hc; exact Enc.len x
        · rw [List.length_map, C]; exact I.bd
  · have e : l.length - i = 0 := by omega
    refine ⟨w, ?_, Evo.refl _ _, rfl, ?_⟩
    · rw [e]
      generalize (if cap = i then ao else ao.map (·.add (i * m))) = a
      cases a <;> simp [Builtin.clear_, run_underlying hu]
    · rw [e, List.take_of_length_le ω]; simpa using I
theorem YW {B : Exit → Act → World → Prop} {n : Nat} {k : List Kont} {f : Fr} {ops : Array Oper} {rest : List Oper} {T t : TypeId} {pos : String} {J : Array Edge} {x : Operand} {m R : Nat} {z : Value} {y0 : α} (hu : P.underlying T = some (.slice E)) (ht : Cy P E = some (m, R, some z)) (hz : z.cells = (Enc.enc y0).toArray) (hm : m = Enc.n α) (C : OwnE w base E v l)
    {ao : Option Addr} {cap len : Nat} (hv : v = .slice ao len cap) (hlen : len = l.length) (i : Nat) (U : i ≤ len) (hx : opv f x = .slice (if cap = i then ao else ao.map (·.add (i * m))) (len - i) (cap - i))
    (h : ∀ w', Evo w w' v.ownBlock.toList → w'.heap.size = w.heap.size → OwnE w' base E v (l.take i ++ List.replicate (l.length - i) y0) → KL P B n ops k rest f w') :
    KL P B n ops k (⟨none, .call ⟨.builtin .clear, #[x], #[T]⟩, t, pos, J, none⟩ :: rest) f w := by
  subst hlen
  obtain ⟨w', I, he, hs, ho⟩ := T1 (ty := t) hu ht hz hm C hv i U
  exact Yy (w' := w') rfl rfl (CA (s := Builtin.clear_ #[T] t _) rfl (by simp only [List.map_toArray, List.map_cons, List.map_nil, hx]) (fun cs => rfl) I) (h w' he hs ho)
end
theorem OwnE.row_of {α : Type} [Enc α] {w : World} {base : Nat} {E : TypeId} {l : List α} {ao : Option Addr} {len cap : Nat} (h : OwnE w base E (.slice ao len cap) l) :
    len = l.length ∧ ∃ g, RowE w ao g 0 cap l ∧ (l ≠ [] → (Value.slice ao len cap).ownBlock = some g ∧ base ≤ g ∧ g < w.heap.size) := by
  obtain ⟨h1, g, C, I⟩ := Own.row_of h rfl
  exact ⟨by simpa using h1, g, C, fun J => I (by simpa using J)⟩
theorem OwnE.le_cap {α : Type} [Enc α] {w : World} {base : Nat} {E : TypeId} {l : List α} {ao : Option Addr} {len cap : Nat} (h : OwnE w base E (.slice ao len cap) l) : l.length ≤ cap := let ⟨_, _, h1, _⟩ := h.row_of; h1.le
structure Sum3 where
  p : Int
  w : Int
  t : Int
  deriving Inhabited, DecidableEq
instance : Enc Sum3 := ⟨3, fun x => [.int .i64 x.p, .int .i64 x.w, .int .i64 x.t], fun _ => rfl, fun _ => rfl, by decide⟩
abbrev eN : Sum3 → Value := fun x => .agg (Enc.enc x).toArray
structure LV where
  ga : Option Addr
  gl : Nat
  gc : Nat
  cm : Option Nat
  s : Sum3
  tot : Int
abbrev LV.gs (x : LV) : Value := .slice x.ga x.gl x.gc
abbrev Zu : LV → Value := fun x => .agg #[.slice x.ga x.gl x.gc, .map x.cm, .int .i64 x.s.p, .int .i64 x.s.w, .int .i64 x.s.t, .int .i64 x.tot]
open Go.Sort Go.Proofs in
theorem Xj {P : Program} {fn : FuncId} (c : ∀ (C off cap : Nat) (zs : List Int) (w : World), Holds (Value.int .i64) w C off zs.toArray → C < w.heap.size → zs.length < 4611686018427387904 →
      Calls P fn #[.slice (some ⟨C, off, none⟩) zs.length cap] w fun e w' => e = .returned (.tuple #[]) ∧ ∃ n os, w' = grow (putRow (Value.int .i64) (Sort.ahead w n) C off (zs.mergeSort fun x y => decide (x ≤ y)).toArray) os)
    (I : ∀ w : World, Calls P fn #[.slice none 0 0] w fun e w' => e = .returned (.tuple #[]) ∧ w' = w)
    {w : World} {base : Nat} {E : TypeId} {v : Value} {l : List Int} (h : OwnE w base E v l) :
    Calls P fn #[v] w fun e w' => e = .returned (.tuple #[]) ∧ Evo w w' v.ownBlock.toList ∧ OwnE w' base E v (l.mergeSort fun x y => decide (x ≤ y)) := by
  rcases h.open1 (enc1 := Value.int .i64) rfl (fun _ => rfl) with ⟨rfl, rfl⟩ | ⟨g, cap, cur, rfl, hb, hg, h2, h3, h4, h5⟩
  · refine (I w).mono ?_
    rintro e w' ⟨rfl, rfl⟩
    exact ⟨rfl, Evo.refl _ _, by simpa using h⟩
  · have J := h.bd
    refine (c g 0 cap l w (holds_of_blockI hg h5) (Array.getElem?_eq_some_iff.1 hg).1 ω).mono ?_
    rintro e w' ⟨rfl, n, os, rfl⟩
    have hlen : (l.mergeSort fun x y => decide (x ≤ y)).length = l.length := by simp
    have R := ownsRow_sortedI (n := n) (os := os) (ss := l) (ts := l.mergeSort fun x y => decide (x ≤ y)) hlen hb hg h2 h3 h4
    exact ⟨rfl, Evo.grown (grownBy_sortedI _), OwnE.of1 (enc1 := Value.int .i64) rfl (fun _ => rfl) ω (by rw [hlen]; exact R)⟩
end Go.Vc
namespace Go.Proofs.YtbgmlpbgofcfjaaGreatDoor
open Go Go.RowKit Go.Vc
def EU (l : List Vc.Item) : Int := CC (l.map fun x => wK x.kind)
def PH (l : List Vc.Item) : Sum3 := ⟨((AO l).length : Int) + 1, wN l, tN l⟩
def IW (l : List Vc.Item) (p : Ac × Ac) : Nat := (Bk [] (AO l)).count p
def Ec (l : List Vc.Item) (c : Vc.Item) : Nat := (CD l).count c
abbrev BG := List (Int × List Vc.Item)
section
variable {κ : Type}
def post (f : List Vc.Item → κ → Nat) (A : BG) (k : κ) : List Range := A.filterMap fun q => if f q.2 k = 0 then none else some ⟨q.1, (f q.2 k : Int)⟩
variable {f : List Vc.Item → κ → Nat} {A : BG} {k : κ} {id : Int} {l : List Vc.Item}
theorem SX : post f (A ++ [(id, l)]) k = post f A k ++ (if f l k = 0 then [] else [⟨id, (f l k : Int)⟩]) := by
  unfold post
  rw [List.filterMap_append]
  by_cases h : f l k = 0
  · simp [h]
  · simp [h]
theorem PY (h : f l k = 0) : post f (A ++ [(id, l)]) k = post f A k := by rw [SX, if_pos h, List.append_nil]
theorem W0 (h : f l k ≠ 0) : post f (A ++ [(id, l)]) k = post f A k ++ [⟨id, (f l k : Int)⟩] := by rw [SX, if_neg h]
def BS (A : BG) (id : Int) : BG := A.filter (fun q => ! decide (q.1 = id))
theorem KS : post f (BS A id) k = (post f A k).filter (fun p => ! decide (p.lo = id)) := by
  unfold post BS
  induction A with
  | nil => rfl
  | cons q A ih =>
    by_cases h : q.1 = id
    · rw [List.filter_cons_of_neg (by simp [h]), ih]
      by_cases C : f q.2 k = 0
      · rw [List.filterMap_cons, if_pos C]
      · rw [List.filterMap_cons, if_neg C, List.filter_cons_of_neg (by simp [h])]
    · rw [List.filter_cons_of_pos (by simp [h])]
      by_cases C : f q.2 k = 0
      · rw [List.filterMap_cons, if_pos C, List.filterMap_cons, if_pos C, ih]
      · rw [List.filterMap_cons, if_neg C, List.filterMap_cons, if_neg C, List.filter_cons_of_pos (by simp [h]), ih]
theorem Np {p : Range} (h : p ∈ post f A k) : ∃ q ∈ A, q.1 = p.lo ∧ (f q.2 k : Int) = p.hi ∧ f q.2 k ≠ 0 := by
  unfold post at h
  obtain ⟨q, I, e⟩ := List.mem_filterMap.1 h
  by_cases C : f q.2 k = 0
  · rw [if_pos C] at e; cases e
  · rw [if_neg C] at e; injection e with e; subst e; exact ⟨q, I, rfl, rfl, C⟩
theorem ZC {q : Int × List Vc.Item} (h : q ∈ A) (C : f q.2 k ≠ 0) : (⟨q.1, (f q.2 k : Int)⟩ : Range) ∈ post f A k := by
  unfold post
  exact List.mem_filterMap.2 ⟨q, h, by rw [if_neg C]⟩
theorem KG : ((post f A k).map (·.lo)).Sublist (A.map (·.1)) := by
  unfold post
  induction A with
  | nil => exact List.Sublist.refl _
  | cons q A ih =>
    by_cases C : f q.2 k = 0
    · rw [List.filterMap_cons, if_pos C]; exact ih.cons _
    · rw [List.filterMap_cons, if_neg C]; exact ih.cons_cons _
theorem UE (h : (A.map (·.1)).Nodup) : ((post f A k).map (·.lo)).Nodup := h.sublist KG
theorem G5 : (post f A k).length ≤ A.length := by have := (KG (f := f) (A := A) (k := k)).length_le; simpa using this
theorem post_keep (C : (A.map (·.1)).Nodup) (hA : (id, l) ∈ A) (h0 : f l k = 0) : post f (BS A id) k = post f A k := by
  rw [KS]
  refine List.filter_eq_self.2 fun p hp => ?_
  obtain ⟨q, hq, U, _, J⟩ := Np hp
  have I : p.lo ≠ id := fun e => by
    have e2 : q = (id, l) := eq_of_key C hq hA (U.trans e)
    rw [e2] at J; exact J h0
  simp [I]
where
  eq_of_key {A : BG} (C : (A.map (·.1)).Nodup) {x y : Int × List Vc.Item} (hx : x ∈ A) (hy : y ∈ A) (h : x.1 = y.1) : x = y := by
    obtain ⟨i, R, rfl⟩ := List.getElem_of_mem hx
    obtain ⟨j, hj, rfl⟩ := List.getElem_of_mem hy
    have : i = j := (List.getElem?_inj (by simpa using R) C (j := j)).1 (by rw [List.getElem?_map, List.getElem?_map, List.getElem?_eq_getElem R, List.getElem?_eq_getElem hj]; exact congrArg some h)
    subst this; rfl
def Nh [DecidableEq κ] (left : List κ) (P P' : κ → List Range) (y : κ) : List Range := if y ∈ left then P y else P' y
variable [DecidableEq κ] {P P' : κ → List Range} {left rest : List κ}
theorem Sv (h : ∀ y, y ∈ left ↔ y = k ∨ y ∈ rest) (hk : k ∉ rest) : ∀ y, Nh rest P P' y = if y = k then P' k else Nh left P P' y := fun y => by
  unfold Nh
  by_cases e : y = k
  · subst e; rw [if_neg hk, if_pos rfl]
  · rw [if_neg e]
    by_cases C : y ∈ rest
    · rw [if_pos C, if_pos ((h y).2 (.inr C))]
    · rw [if_neg C, if_neg (fun q => ((h y).1 q).elim e C)]
theorem LJ (h : k ∈ left) : Nh left P P' k = P k := if_pos h
theorem MQ (y : κ) : Nh [] P P' y = P' y := if_neg (by simp)
theorem Ma (h : ∀ y, y ∉ left → P y = P' y) (y : κ) : P y = Nh left P P' y := by
  unfold Nh
  split
  · rfl
  · exact h y ‹_›
end
theorem WJ {l : List Vc.Item} {k : Nat} (h : k < l.length) : EU (l.take (k + 1)) = EU (l.take k) + wK (l.getD k default).kind := by
  unfold EU; rw [A7 l k h, List.map_append, Cg]; simp [CC]
theorem MO (l : List Vc.Item) : 0 ≤ EU l ∧ EU l ≤ 4 * (l.length : Int) := by
  unfold EU
  refine ⟨B0 fun x C => ?_, ?_⟩
  · obtain ⟨y, _, rfl⟩ := List.mem_map.1 C; exact (JI y.kind).1
  · have := Ie (l := l.map fun x => wK x.kind) (n := 4) υ (fun x C => by
      obtain ⟨y, _, rfl⟩ := List.mem_map.1 C; exact (JI y.kind).2)
    rw [List.length_map] at this; omega
def Ge (t p : Int) : Int := if 100 < p then -1 else if p < 1 ∨ t < 1 then 1073741824 else (min t 1073741824 * (100 - p)).tdiv 100
theorem Z7 {t p : Int} (h : 100 < p) : (-1 : Int) = Ge t p := (if_pos h).symm
theorem Zw {t p : Int} (h : ¬ 100 < p) (C : p < 1 ∨ t < 1) : (1073741824 : Int) = Ge t p := by unfold Ge; rw [if_neg h, if_pos C]
theorem Z4 {t p : Int} (h : ¬ 100 < p) (C : ¬ (p < 1 ∨ t < 1)) : (min t 1073741824 * (100 - p)).tdiv 100 = Ge t p := by unfold Ge; rw [if_neg h, if_neg C]
theorem V2 {t p : Int} (h : ¬ 100 < p) (I : ¬ (p < 1 ∨ t < 1)) : 0 ≤ min t 1073741824 * (100 - p) ∧ min t 1073741824 * (100 - p) ≤ 107374182400 := by
  have C : 0 ≤ min t 1073741824 := by omega
  have h1 : min t 1073741824 ≤ 1073741824 := by omega
  refine ⟨Int.mul_nonneg C ω, ?_⟩
  have := Int.mul_le_mul h1 (show 100 - p ≤ 100 by omega) ω ω
  omega
theorem eI (x : Int) (h : -2000000000 ≤ x ∧ x ≤ 2000000000) : -2000000000 ≤ x.tdiv 2 ∧ x.tdiv 2 ≤ 2000000000 := by
  rcases Int.le_total 0 x with h0 | h0
  · rw [Int.tdiv_eq_ediv_of_nonneg h0]; omega
  · have e : x.tdiv 2 = -((-x).tdiv 2) := by rw [Int.neg_tdiv, Int.neg_neg]
    rw [e, Int.tdiv_eq_ediv_of_nonneg ω]; omega
def bO (s : Sum3) : Prop := 0 ≤ s.p ∧ s.p ≤ 1000000000 ∧ 0 ≤ s.w ∧ s.w ≤ 1000000000 ∧ 0 ≤ s.t ∧ s.t ≤ 1000000000
def Vd (a b c : Sum3) : Int := max (max a.w b.w - c.w + 3 * (a.t + b.t - 2 * c.t)) (4 * ((max a.p b.p - c.p + 1).tdiv 2))
theorem I5 {l l' : List Vc.Item} {c : Vc.Item} (h : CD l' = CD l ++ [c]) : wN l' = wN l + wC c := by unfold wN; rw [h, List.map_append, Cg]; simp [CC]
theorem Ig {l l' : List Vc.Item} {c : Vc.Item} (h : CD l' = CD l ++ [c]) : tN l' = tN l + tC c := by unfold tN; rw [h, List.map_append, Cg]; simp [CC]
theorem QU {l l' : List Vc.Item} (h : CD l' = CD l) : wN l' = wN l := by unfold wN; rw [h]
theorem Qn {l l' : List Vc.Item} (h : CD l' = CD l) : tN l' = tN l := by unfold tN; rw [h]
theorem Ia {c : Vc.Item} (h : MM c) : wC c = 0 ∧ tC c = 1 := ⟨if_pos h, if_pos h⟩
theorem IH {c : Vc.Item} (h : ¬ MM c) : wC c = wK c.kind ∧ tC c = 0 := ⟨if_neg h, if_neg h⟩
theorem SL (c : Vc.Item) : 0 ≤ wC c ∧ wC c ≤ 4 := by unfold wC; have := JI c.kind; split <;> omega
theorem S1 (c : Vc.Item) : 0 ≤ tC c ∧ tC c ≤ 1 := by unfold tC; split <;> omega
theorem YM (l : List Vc.Item) : 0 ≤ wN l ∧ wN l ≤ 4 * (l.length : Int) := by
  have h := Hf l
  unfold wN
  refine ⟨B0 fun x C => ?_, ?_⟩
  · obtain ⟨y, _, rfl⟩ := List.mem_map.1 C; exact (SL y).1
  · have := Ie (l := (CD l).map wC) (n := 4) υ (fun x C => by
      obtain ⟨y, _, rfl⟩ := List.mem_map.1 C; exact (SL y).2)
    rw [List.length_map] at this; omega
theorem UT (l : List Vc.Item) : 0 ≤ tN l ∧ tN l ≤ (l.length : Int) := by
  have h := Hf l
  unfold tN
  refine ⟨B0 fun x C => ?_, ?_⟩
  · obtain ⟨y, _, rfl⟩ := List.mem_map.1 C; exact (S1 y).1
  · have := Ie (l := (CD l).map tC) (n := 1) υ (fun x C => by
      obtain ⟨y, _, rfl⟩ := List.mem_map.1 C; exact (S1 y).2)
    rw [List.length_map] at this; omega
theorem Zj {l : List Vc.Item} (h : l.length ≤ 1000000) : bO (PH l) := by
  have h1 := YM l
  have C := UT l
  have I := C9 l
  unfold bO PH; dsimp only; omega
theorem Vw {g : List Gram} (h : ∀ x ∈ g, 0 ≤ x.count) (k : Nat) : 0 ≤ GB (g.take k) ∧ GB (g.take k) ≤ GB g := by
  have h1 : ∀ {g : List Gram}, (∀ x ∈ g, 0 ≤ x.count) → 0 ≤ GB g := fun {g} h => B0 fun x C => by
    obtain ⟨y, I, rfl⟩ := List.mem_map.1 C; exact h y I
  refine ⟨h1 fun x C => h x (List.mem_of_mem_take C), ?_⟩
  have e : GB g = GB (g.take k) + GB (g.drop k) := by
    conv => lhs; rw [← List.take_append_drop k g]
    unfold GB; rw [List.map_append, Cg]
  have := h1 (g := g.drop k) fun x C => h x (List.mem_of_mem_drop C)
  omega
theorem Ul (ws : List Ac) (k : Nat) : 0 ≤ GB ((AW ws).take k) ∧ GB ((AW ws).take k) ≤ (ws.length : Int) + 1 := by
  have h := Vw (g := AW ws) (fun x C => by
    have := (JP (ps := Bk [] ws) C).1; omega) k
  rw [HS] at h; exact h
theorem EK (ws : List Ac) : ((AW ws).map Bj).Nodup :=
  List.pairwise_map.2 ((D6 (Bk [] ws)).1.imp fun {x y} (h : Pp (Bj x) (Bj y)) (e : Bj x = Bj y) => Cz (Bj y) (by rw [e] at h; exact h))
theorem EZ {l : List Vc.Item} {x : Gram} (h : x ∈ AW (AO l)) : x.count = (IW l (Bj x) : Int) ∧ IW l (Bj x) ≠ 0 := by
  have h1 := (D6 (Bk [] (AO l))).2.1 x h
  refine ⟨h1.2, ?_⟩
  have := h1.1
  unfold IW; omega
theorem I6 {l : List Vc.Item} {p : Ac × Ac} (h : p ∉ (AW (AO l)).map Bj) : IW l p = 0 := by
  unfold IW
  rw [List.count_eq_zero]
  intro q
  obtain ⟨x, C, e⟩ := (D6 (Bk [] (AO l))).2.2 p q
  exact h (e ▸ List.mem_map_of_mem C)
theorem RO {α : Type} [Inhabited α] {g : List α} {k : Nat} (h : k < g.length) : g.drop k = g.getD k default :: g.drop (k + 1) := by
  rw [List.drop_eq_getElem_cons h]; simp [List.getD, h]
theorem It {g : List Gram} {k : Nat} (h : k < g.length) : ∀ y, y ∈ (g.drop k).map Bj ↔ y = Bj (g.getD k default) ∨ y ∈ (g.drop (k + 1)).map Bj := fun y => by
  rw [RO h, List.map_cons, List.mem_cons]
theorem Jx {g : List Gram} {k : Nat} (C : (g.map Bj).Nodup) (h : k < g.length) : Bj (g.getD k default) ∉ (g.drop (k + 1)).map Bj := by
  have h1 : ((g.drop k).map Bj).Nodup := C.sublist ((List.drop_sublist k g).map _)
  rw [RO h, List.map_cons, List.nodup_cons] at h1
  exact h1.1
theorem JA {l : List Vc.Item} {M : List (Vc.Item × Int)} (I : ∀ x, Az M x = FL (CD l) x) (J : (M.map (·.1)).Nodup) {p : Vc.Item × Int} (h : p ∈ M) : p.2 = (Ec l p.1 : Int) ∧ Ec l p.1 ≠ 0 := by
  have h1 := Iy J h
  rw [I] at h1
  unfold FL at h1
  by_cases C : p.1 ∈ CD l
  · rw [if_pos C] at h1
    injection h1 with h1
    exact ⟨h1.symm, by have := List.count_pos_iff.2 C; unfold Ec; omega⟩
  · rw [if_neg C] at h1; cases h1
theorem N6 {l : List Vc.Item} {M : List (Vc.Item × Int)} (C : ∀ x, Az M x = FL (CD l) x) {c : Vc.Item} (h : c ∉ M.map (·.1)) : Ec l c = 0 := by
  unfold Ec
  rw [List.count_eq_zero]
  intro q
  have h1 := C c
  unfold FL at h1
  rw [if_pos q] at h1
  exact h (List.mem_map_of_mem (f := (·.1)) (Oh h1))
theorem Ni {α β : Type} {C l2 : List (α × β)} {p : α × β} : ∀ y, y ∈ (C ++ p :: l2).map (·.1) ↔ y = p.1 ∨ y ∈ (C ++ l2).map (·.1) := fun y => by
  simp only [List.map_append, List.map_cons, List.mem_append, List.mem_cons]
  constructor
  · rintro (h | h | h)
    · exact .inr (.inl h)
    · exact .inl h
    · exact .inr (.inr h)
  · rintro (h | h | h)
    · exact .inr (.inl h)
    · exact .inl h
    · exact .inr (.inr h)
theorem JN {α β : Type} {C l2 : List (α × β)} {p : α × β} (h : ((C ++ p :: l2).map (·.1)).Nodup) : p.1 ∉ (C ++ l2).map (·.1) := by
  have h1 : (p.1 :: (C ++ l2).map (·.1)).Nodup := by
    refine (List.Perm.nodup_iff ?_).1 h
    rw [List.map_append, List.map_cons, List.map_append]
    exact List.perm_middle
  exact (List.nodup_cons.1 h1).1
def Hl (id : Int) (p : Range) : Bool := ! decide (p.lo = id)
theorem SJ {id : Int} {p : Range} (h : p.lo = id) : ¬ Hl id p = true := by unfold Hl; rw [decide_eq_true h]; decide
theorem LB {id : Int} {p : Range} (h : ¬ p.lo = id) : Hl id p = true := by unfold Hl; rw [decide_eq_false h]; rfl
structure DelI (id : Int) (l C : List Range) (i j : Nat) : Prop where
  len : C.length = l.length
  head : C.take i = (l.take j).filter (Hl id)
  tail : C.drop j = l.drop j
  lt : i < j
  le : j ≤ l.length
theorem DelI.start {id : Int} {l : List Range} {k : Nat} (hk : k < l.length) (h : (l.getD k default).lo = id) (C : ∀ j, j < k → ¬ (l.getD j default).lo = id) : DelI id l l k (k + 1) := by
  refine ⟨rfl, ?_, rfl, by omega, hk⟩
  rw [A7 l k hk, List.filter_append, List.filter_cons_of_neg (SJ h), List.filter_nil, List.append_nil]
  refine (List.filter_eq_self.2 fun p I => ?_).symm
  obtain ⟨q, J, rfl⟩ := List.getElem_of_mem I
  rw [List.length_take] at J
  have h1 := C q ω
  have e : l.getD q default = l[q] := by simp [List.getD, show q < l.length by omega]
  rw [e] at h1
  rw [List.getElem_take]
  exact LB h1
theorem DelI.at {id : Int} {l C : List Range} {i j : Nat} (h : DelI id l C i j) (I : j < l.length) : C.getD j default = l.getD j default := by
  have h1 := congrArg (·[0]?) h.tail
  simp only [List.getElem?_drop, Nat.add_zero] at h1
  simp only [List.getD, h1]
theorem DelI.skip {id : Int} {l C : List Range} {i j : Nat} (h : DelI id l C i j) (I : j < l.length) (hk : (l.getD j default).lo = id) : DelI id l C i (j + 1) := by
  refine ⟨h.len, ?_, ?_, by have := h.lt; omega, I⟩
  · rw [A7 l j I, List.filter_append, List.filter_cons_of_neg (SJ hk), List.filter_nil, List.append_nil]; exact h.head
  · rw [← List.drop_drop, ← List.drop_drop, h.tail]
theorem DelI.keep {id : Int} {l C : List Range} {i j : Nat} (h : DelI id l C i j) (I : j < l.length) (hk : ¬ (l.getD j default).lo = id) : DelI id l (C.set i (l.getD j default)) (i + 1) (j + 1) := by
  have J := h.lt
  have R := h.len
  refine ⟨by rw [List.length_set]; exact h.len, ?_, ?_, by omega, I⟩
  · rw [A7 l j I, List.filter_append, List.filter_cons_of_pos (LB hk), List.filter_nil, ← h.head]
    rw [A7 _ i (by rw [List.length_set]; omega)]
    congr 1
    · rw [List.take_set_of_le (Nat.le_refl _)]
    · simp [List.getD, show i < C.length by omega]
  · rw [List.drop_set_of_lt ω, ← List.drop_drop, ← List.drop_drop, h.tail]
theorem DelI.done {id : Int} {l C : List Range} {i j : Nat} (h : DelI id l C i j) (I : l.length ≤ j) : C.take i = l.filter (Hl id) := by
  rw [h.head, List.take_of_length_le I]
theorem YO {id : Int} {l : List Range} (h : ∀ j, j < l.length → ¬ (l.getD j default).lo = id) : l.filter (Hl id) = l := by
  refine List.filter_eq_self.2 fun p I => ?_
  obtain ⟨q, C, rfl⟩ := List.getElem_of_mem I
  have h1 := h q C
  have e : l.getD q default = l[q] := by simp [List.getD, C]
  rw [e] at h1
  exact LB h1
def Om (a b : List Vc.Item) : Int := CC ((AW (AO a)).map fun g => min (IW b (Bj g) : Int) g.count)
def aC (a b : List Vc.Item) : Sum3 := ⟨Om a b, bT a b, aU a b⟩
def cn (a b : List Vc.Item) (p : Ac × Ac) : Int := min (IW a p : Int) (IW b p : Int)
theorem Sh (a b : List Vc.Item) : Om a b = CC (((AW (AO a)).map Bj).map (cn a b)) := by
  unfold Om
  rw [List.map_map]
  congr 1
  refine List.map_congr_left fun g C => ?_
  have := (EZ C).1
  show min _ g.count = cn a b (Bj g)
  unfold cn; omega
theorem aK (a b : List Vc.Item) : Om a b = Om b a := by
  rw [Sh, Sh]
  have e : cn b a = cn a b := funext fun p => by unfold cn; omega
  rw [e]
  refine Kj (EK _) (EK _) (fun p _ h => ?_) (fun p _ h => ?_)
  · have := I6 h; unfold cn; omega
  · have := I6 h; unfold cn; omega
theorem Qd (a b : List Vc.Item) : 0 ≤ Om a b ∧ Om a b ≤ ((AO a).length : Int) + 1 := by
  have I : ∀ g ∈ AW (AO a), 0 ≤ g.count := fun g C => by have := (EZ C).1; omega
  unfold Om
  refine ⟨B0 fun x J => ?_, ?_⟩
  · obtain ⟨g, C, rfl⟩ := List.mem_map.1 J; have := I g C; omega
  · rw [← HS]
    exact T4 fun g _ => by omega
theorem Oq (a b : List Vc.Item) (ha : a.length ≤ 1000000) (hb : b.length ≤ 1000000) : US (AW (AO a)) (AW (AO b)) = ((AO a).length : Int) + 1 - Om a b := by
  have af := C9 a
  have ag := C9 b
  have U := EK (AO a)
  have e : CC ((Gp ((AW (AO a)).map Bj)).map (ck (AW (AO a)) (AW (AO b)))) = GB (AW (AO a)) - Om a b := by
    rw [Kj (HX _) U (fun x C h => absurd ((Gh _ _).1 C) h) (fun x C h => absurd ((Gh _ _).2 C) h)]
    unfold GB Om
    rw [← QK, List.map_map]
    congr 1
    refine List.map_congr_left fun g R => ?_
    have h1 := (EZ R).1
    have I := Po (ws := AO a) ω (Bj g)
    have J := Po (ws := AO b) ω (Bj g)
    show max (Kf _ (Bj g) - Kf _ (Bj g)) 0 = g.count - min (IW b (Bj g) : Int) g.count
    rw [I, J]
    unfold IW at *; omega
  have h4 := Qd a b
  unfold US
  rw [e, HS]; omega
theorem Wo (a b : List Vc.Item) : 0 ≤ upL a b := B0 fun x C => by
  obtain ⟨c, _, rfl⟩ := List.mem_map.1 C; exact (eE _ _).1
theorem TV (a b : List Vc.Item) : 0 ≤ ay a b := B0 fun x C => by
  obtain ⟨c, _, rfl⟩ := List.mem_map.1 C; exact (dr _ _).1
theorem ew (a b : List Vc.Item) : 0 ≤ bT a b ∧ bT a b ≤ wN a := by
  have h1 := QZ a b
  have J := Wo a b
  refine ⟨B0 fun x I => ?_, by omega⟩
  obtain ⟨c, _, rfl⟩ := List.mem_map.1 I
  have C := (SL c).1
  exact Int.mul_nonneg (by unfold Rx; omega) C
theorem eY (a b : List Vc.Item) : 0 ≤ aU a b ∧ 2 * aU a b ≤ tN a + tN b := by
  have h1 := S8 a b
  have J := TV a b
  refine ⟨B0 fun x I => ?_, by omega⟩
  obtain ⟨c, _, rfl⟩ := List.mem_map.1 I
  have C := (S1 c).1
  exact Int.mul_nonneg (by unfold Rx; omega) C
theorem de {a b : List Vc.Item} (ha : a.length ≤ 1000000) (hb : b.length ≤ 1000000) : bO (aC a b) := by
  have h1 := Qd a b
  have C := ew a b
  have I := eY a b
  have J := YM a
  have R := UT a
  have U := UT b
  have h7 := C9 a
  unfold bO aC; dsimp only; omega
theorem ZR (a b : List Vc.Item) (C : a.length ≤ 1000000) (I : b.length ≤ 1000000) : Vd (PH a) (PH b) (aC a b) = Te a b := by
  have h1 := Oq a b C I
  have J := Oq b a I C
  have R := aK a b
  have U := Xd a b
  have h5 := Qd a b
  have h6 := Qd b a
  have e : eH a b = max ((AO a).length + 1 : Int) ((AO b).length + 1) - Om a b := by unfold eH; rw [h1, J, ← R]; omega
  unfold Vd PH aC Te
  dsimp only
  rw [← U, ← e]
  rw [Int.tdiv_eq_ediv_of_nonneg ω]
def vS (m : List (Int × Sum3)) (id : Int) : Sum3 := (Az m id).getD ⟨0, 0, 0⟩
theorem dQ (m : List (Int × Sum3)) (id : Int) (v : Sum3) (y : Int) : vS (Co m id v) y = if id = y then v else vS m y := by unfold vS; rw [CW]; split <;> rfl
section
variable {κ : Type} {f : List Vc.Item → κ → Nat} {A : BG} {key : κ} {base : List Vc.Item → Sum3} {up : Sum3 → Int → Sum3} {d : Int → Int} {j : Nat} {m : List (Int × Sum3)}
def InnS (f : List Vc.Item → κ → Nat) (A : BG) (key : κ) (base : List Vc.Item → Sum3) (up : Sum3 → Int → Sum3) (d : Int → Int) (j : Nat) (m : List (Int × Sum3)) : Prop :=
  ∀ q ∈ A, vS m q.1 = if q.1 ∈ ((post f A key).take j).map (·.lo) then up (base q.2) (d (f q.2 key)) else base q.2
theorem InnS.start (h : ∀ q ∈ A, vS m q.1 = base q.2) : InnS f A key base up d 0 m := fun q C => by rw [h q C]; simp
theorem InnS.val (h : InnS f A key base up d j m) (hn : (A.map (·.1)).Nodup) (I : j < (post f A key).length) : ∃ q ∈ A, q.1 = ((post f A key).getD j default).lo ∧ (f q.2 key : Int) = ((post f A key).getD j default).hi ∧ vS m ((post f A key).getD j default).lo = base q.2 := by
  obtain ⟨q, R, C, U, _⟩ := Np (EM I)
  refine ⟨q, R, C, U, ?_⟩
  rw [← C, h q R, if_neg]
  intro h1
  have h2 := UE (f := f) (k := key) hn
  obtain ⟨p, hp, J⟩ := List.mem_map.1 h1
  obtain ⟨i, hi, rfl⟩ := List.getElem_of_mem hp
  rw [List.length_take] at hi
  rw [List.getElem_take] at J
  have e4 : (post f A key).getD j default = (post f A key)[j] := by simp [List.getD, I]
  rw [e4] at C
  have := (List.getElem?_inj (i := i) (by rw [List.length_map]; omega) h2 (j := j)).1 (by rw [List.getElem?_map, List.getElem?_map, List.getElem?_eq_getElem ω, List.getElem?_eq_getElem I]; exact congrArg some (J.trans C))
  omega
theorem InnS.step (h : InnS f A key base up d j m) (hn : (A.map (·.1)).Nodup) (U : j < (post f A key).length) :
    InnS f A key base up d (j + 1) (Co m ((post f A key).getD j default).lo (up (vS m ((post f A key).getD j default).lo) (d ((post f A key).getD j default).hi))) := fun q hq => by
  obtain ⟨q0, I, e1, e2, e3⟩ := h.val hn U
  have e4 : ((post f A key).take (j + 1)).map (·.lo) = ((post f A key).take j).map (·.lo) ++ [((post f A key).getD j default).lo] := by rw [A7 _ j U, List.map_append]; rfl
  rw [dQ, e4]
  by_cases e : ((post f A key).getD j default).lo = q.1
  · have J : q0 = q := post_keep.eq_of_key hn I hq (e1.trans e)
    subst J
    rw [if_pos e, if_pos (List.mem_append_right _ (List.mem_singleton.2 e.symm)), e3, ← e2]
  · rw [if_neg e, h q hq]
    have R : q.1 ∈ ((post f A key).take j).map (·.lo) ++ [((post f A key).getD j default).lo] ↔ q.1 ∈ ((post f A key).take j).map (·.lo) := by
      rw [List.mem_append, List.mem_singleton]
      exact ⟨fun h => h.elim id (fun h => absurd h.symm e), .inl⟩
    by_cases C : q.1 ∈ ((post f A key).take j).map (·.lo)
    · rw [if_pos C, if_pos (R.2 C)]
    · rw [if_neg C, if_neg (fun h => C (R.1 h))]
theorem InnS.done (h : InnS f A key base up d j m) (hn : (A.map (·.1)).Nodup) (hj : (post f A key).length ≤ j) (h0 : ∀ s, up s (d 0) = s) : ∀ q ∈ A, vS m q.1 = up (base q.2) (d (f q.2 key)) := fun q C => by
  rw [h q C, List.take_of_length_le hj]
  by_cases e : f q.2 key = 0
  · rw [if_neg, e]
    · exact (h0 _).symm
    · intro h1
      obtain ⟨p, hp, J⟩ := List.mem_map.1 h1
      obtain ⟨q2, I, R, _, U⟩ := Np hp
      have : q2 = q := post_keep.eq_of_key hn I C (R.trans J)
      subst this; exact U e
  · rw [if_pos (List.mem_map.2 ⟨_, ZC C e, rfl⟩)]
end
def fT (s : Sum3) (d : Int) : Sum3 := ⟨s.p + d, s.w, s.t⟩
def Wu (a b : List Vc.Item) (k : Nat) : Int := CC (((AW (AO a)).take k).map fun g => min (IW b (Bj g) : Int) g.count)
theorem XY {a b : List Vc.Item} {k : Nat} (h : k < (AW (AO a)).length) : Wu a b (k + 1) = Wu a b k + min (IW b (Bj ((AW (AO a)).getD k default)) : Int) ((AW (AO a)).getD k default).count := by
  unfold Wu; rw [A7 _ k h, List.map_append, Cg]; simp [CC]
theorem bI {a b : List Vc.Item} {k : Nat} (h : (AW (AO a)).length ≤ k) : Wu a b k = Om a b := by unfold Wu Om; rw [List.take_of_length_le h]
theorem dw (a b : List Vc.Item) (k : Nat) : 0 ≤ Wu a b k ∧ Wu a b k ≤ ((AO a).length : Int) + 1 := by
  have I : ∀ g ∈ AW (AO a), 0 ≤ g.count := fun g C => by have := (EZ C).1; omega
  have h1 := Ul (AO a) k
  unfold Wu
  refine ⟨B0 fun x J => ?_, Int.le_trans (T4 fun g _ => ?_) h1.2⟩
  · obtain ⟨g, C, rfl⟩ := List.mem_map.1 J; have := I g (List.mem_of_mem_take C); omega
  · omega
def VR (dn : List (Vc.Item × Int)) (b : List Vc.Item) : Int := CC (dn.map fun p => min (Ec b p.1 : Int) p.2 * wC p.1)
def U4 (dn : List (Vc.Item × Int)) (b : List Vc.Item) : Int := CC (dn.map fun p => min (Ec b p.1 : Int) p.2 * tC p.1)
theorem XH (dn : List (Vc.Item × Int)) (p : Vc.Item × Int) (b : List Vc.Item) : VR (dn ++ [p]) b = VR dn b + min (Ec b p.1 : Int) p.2 * wC p.1 := by unfold VR; rw [List.map_append, Cg]; simp [CC]
theorem Yq (dn : List (Vc.Item × Int)) (p : Vc.Item × Int) (b : List Vc.Item) : U4 (dn ++ [p]) b = U4 dn b + min (Ec b p.1 : Int) p.2 * tC p.1 := by unfold U4; rw [List.map_append, Cg]; simp [CC]
theorem fV {dn : List (Vc.Item × Int)} {b : List Vc.Item} (h : ∀ p ∈ dn, 0 ≤ p.2 ∧ p.2 ≤ 1000000) (hl : dn.length ≤ 1000000) : (0 ≤ VR dn b ∧ VR dn b ≤ 4000000000000) ∧ 0 ≤ U4 dn b ∧ U4 dn b ≤ 1000000000000 := by
  have h1 := Ie (l := dn.map fun p => min (Ec b p.1 : Int) p.2 * wC p.1) (n := 4000000) υ (fun x I => by
    obtain ⟨p, C, rfl⟩ := List.mem_map.1 I
    have R := h p C
    have J := SL p.1
    have := Int.mul_le_mul (show min (Ec b p.1 : Int) p.2 ≤ 1000000 by omega) J.2 J.1 υ
    omega)
  have U := Ie (l := dn.map fun p => min (Ec b p.1 : Int) p.2 * tC p.1) (n := 1000000) υ (fun x I => by
    obtain ⟨p, C, rfl⟩ := List.mem_map.1 I
    have R := h p C
    have J := S1 p.1
    have := Int.mul_le_mul (show min (Ec b p.1 : Int) p.2 ≤ 1000000 by omega) J.2 J.1 υ
    omega)
  have h5 : 0 ≤ VR dn b := B0 fun x I => by
    obtain ⟨p, C, rfl⟩ := List.mem_map.1 I
    have R := h p C
    exact Int.mul_nonneg ω (SL p.1).1
  have h6 : 0 ≤ U4 dn b := B0 fun x I => by
    obtain ⟨p, C, rfl⟩ := List.mem_map.1 I
    have R := h p C
    exact Int.mul_nonneg ω (S1 p.1).1
  rw [List.length_map] at h1 U
  unfold VR U4 at *
  omega
theorem Ud {l b : List Vc.Item} {M dn : List (Vc.Item × Int)} {F : Vc.Item → Int} (I : ∀ x, Az M x = FL (CD l) x) (J : (M.map (·.1)).Nodup) (hp : dn.Perm M) : CC (dn.map fun p => min (Ec b p.1 : Int) p.2 * F p.1) = CC ((Gp (CD l)).map fun c => Rx l b c * F c) := by
  rw [Gi (hp.map _)]
  have e : (M.map fun p => min (Ec b p.1 : Int) p.2 * F p.1) = (M.map (·.1)).map fun c => Rx l b c * F c := by
    rw [List.map_map]
    refine List.map_congr_left fun p C => ?_
    have h1 := (JA I J C).1
    show _ = Rx l b p.1 * F p.1
    congr 1
    rw [h1]; unfold Rx Ec; omega
  rw [e]
  refine Gi (List.Perm.map _ (JY J (HX _) fun x => ?_))
  rw [Gh]
  constructor
  · intro h
    have h1 : ¬ Ec l x = 0 := by
      obtain ⟨p, C, rfl⟩ := List.mem_map.1 h; exact (JA I J C).2
    exact List.count_pos_iff.1 (by unfold Ec at h1; omega)
  · intro h
    refine Classical.byContradiction fun R => ?_
    have U := N6 I R
    have := List.count_pos_iff.2 h
    unfold Ec at U; omega
theorem dV {l : List Vc.Item} {M : List (Vc.Item × Int)} (I : ∀ x, Az M x = FL (CD l) x) (C : (M.map (·.1)).Nodup) : M.length ≤ l.length := by
  have h := List.Nodup.length_le_of_subset C (l₂ := CD l) (fun x R => by
    obtain ⟨p, J, rfl⟩ := List.mem_map.1 R
    have h1 := (JA I C J).2
    exact List.count_pos_iff.1 (by unfold Ec at h1; omega))
  have U := Hf l
  rw [List.length_map] at h; omega
theorem XD {n : Int} (h : 0 ≤ n) (s : Sum3) : fT s (min 0 n) = s := by
  unfold fT; rw [show min (0 : Int) n = 0 by omega, Int.add_zero]
def cI (c : Vc.Item) (s : Sum3) (d : Int) : Sum3 := ⟨s.p, s.w + d * wC c, s.t + d * tC c⟩
theorem YQ {c : Vc.Item} {n : Int} (h : 0 ≤ n) (s : Sum3) : cI c s (min 0 n) = s := by
  unfold cI; rw [show min (0 : Int) n = 0 by omega, Int.zero_mul, Int.zero_mul, Int.add_zero, Int.add_zero]
theorem VB {c : Vc.Item} (h : MM c) (s : Sum3) (d : Int) : cI c s d = ⟨s.p, s.w, s.t + d⟩ := by
  unfold cI; rw [(Ia h).1, (Ia h).2, Int.mul_zero, Int.mul_one, Int.add_zero]
theorem Up {c : Vc.Item} (h : ¬ MM c) (s : Sum3) (d : Int) : cI c s d = ⟨s.p, s.w + d * wK c.kind, s.t⟩ := by
  unfold cI; rw [(IH h).1, (IH h).2, Int.mul_zero, Int.add_zero]
theorem Yh {l : List Vc.Item} {k : Nat} (h : k < (AW (AO l)).length) : 0 ≤ ((AW (AO l)).getD k default).count ∧ ((AW (AO l)).getD k default).count ≤ ((AO l).length : Int) + 1 := by
  have := JP (ps := Bk [] (AO l)) (EM h)
  rw [D8] at this
  have h1 := this.1
  have C := this.2
  have e : (GL (Bk [] (AO l))).getD k default = (AW (AO l)).getD k default := rfl
  rw [e] at h1 C
  omega
theorem Zi {a : List Vc.Item} {A : BG} {k : Nat} {m : List (Int × Sum3)} (h : k < (AW (AO a)).length)
    (C : ∀ q ∈ A, vS m q.1 = fT ⟨Wu a q.2 k, 0, 0⟩ (min (IW q.2 (Bj ((AW (AO a)).getD k default)) : Int) ((AW (AO a)).getD k default).count)) : ∀ q ∈ A, vS m q.1 = ⟨Wu a q.2 (k + 1), 0, 0⟩ := fun q I => by
  rw [C q I, XY h]; rfl
theorem aV {a : List Vc.Item} {A : BG} {dn : List (Vc.Item × Int)} {p : Vc.Item × Int} {m : List (Int × Sum3)}
    (C : ∀ q ∈ A, vS m q.1 = cI p.1 ⟨Om a q.2, VR dn q.2, U4 dn q.2⟩ (min (Ec q.2 p.1 : Int) p.2)) : ∀ q ∈ A, vS m q.1 = ⟨Om a q.2, VR (dn ++ [p]) q.2, U4 (dn ++ [p]) q.2⟩ := fun q I => by
  rw [C q I, XH, Yq]; rfl
theorem YL {a : List Vc.Item} {A : BG} {M dn : List (Vc.Item × Int)} {m : List (Int × Sum3)} (C : ∀ x, Az M x = FL (CD a) x) (I : (M.map (·.1)).Nodup) (J : dn.Perm M)
    (h : ∀ q ∈ A, vS m q.1 = ⟨Om a q.2, VR dn q.2, U4 dn q.2⟩) : ∀ q ∈ A, vS m q.1 = aC a q.2 := fun q R => by
  rw [h q R]
  unfold aC VR U4
  rw [Ud C I J, Ud C I J]; rfl
theorem bk {h n k : Int} (I : 0 ≤ h) (J : 0 ≤ n) (C : n ≤ 1000000) : 0 ≤ min h n * wK k ∧ min h n * wK k ≤ 4000000 := by
  have h1 := JI k
  refine ⟨Int.mul_nonneg ω h1.1, ?_⟩
  have := Int.mul_le_mul (show min h n ≤ 1000000 by omega) h1.2 h1.1 υ
  omega
def T5 (l : List Vc.Item) (p : Int) (x : Int × List Vc.Item) : Bool := decide (Te l x.2 ≤ Ge (max (EU l) (EU x.2)) p)
def PJ (A : BG) (l : List Vc.Item) (p : Int) (r : List Int) : Prop := r.Perm ((A.filter (T5 l p)).map (·.1)) ∧ r.Pairwise (· ≤ ·)
theorem PF {A : BG} {l : List Vc.Item} {p : Int} {r : List Int} (h : PJ A l p r) {id : Int} : id ∈ r ↔ ∃ q ∈ A, q.1 = id ∧ T5 l p q = true := by
  rw [h.1.mem_iff, List.mem_map]
  constructor
  · rintro ⟨q, C, e⟩; exact ⟨q, (List.mem_filter.1 C).1, e, (List.mem_filter.1 C).2⟩
  · rintro ⟨q, C, e, I⟩; exact ⟨q, List.mem_filter.2 ⟨C, I⟩, e⟩
theorem Ws (l : List Int) : (l.mergeSort fun x y => decide (x ≤ y)).Perm l := List.mergeSort_perm _ _
theorem Wn (l : List Int) : (l.mergeSort fun x y => decide (x ≤ y)).Pairwise (· ≤ ·) := by
  have := List.pairwise_mergeSort (le := fun x y : Int => decide (x ≤ y)) (fun a b c h1 C => by simp at *; omega) (fun a b => by simp; omega) l
  exact this.imp (fun h => by simpa using h)
end Go.Proofs.YtbgmlpbgofcfjaaGreatDoor
namespace Go.Proofs.YtbgmlpbgofcfjaaGreatDoor
open Go Go.RowKit Go.Vc Go.IntWalk
abbrev eQ : Ac × Ac → Value := fun x : Ac × Ac => Value.agg (Enc.enc x).toArray
abbrev dC : Vc.Item → Value := fun x : Vc.Item => Value.agg (Enc.enc x).toArray
abbrev Zv : Int → Value := Value.int .i64
structure LvIs (GT : TypeId) (w : World) (lv : LV) (l : List Vc.Item) (F : List Nat) : Prop where
  gs : OwnE w 0 GT lv.gs (AW (AO l))
  cls : ∃ b M, lv.cm = some b ∧ MapIs w b dC (Value.int .i64) M ∧ (∀ x, Az M x = FL (CD l) x) ∧ b ∈ F
  fg : ∀ g, lv.gs.ownBlock = some g → g ∈ F
  s : lv.s = PH l
  tot : lv.tot = EU l
section
variable {GT : TypeId} {w w' : World} {lv : LV} {l : List Vc.Item} {F F' X : List Nat}
theorem LvIs.evo (h : LvIs GT w lv l F) (he : Evo w w' X) (I : ∀ g ∈ F, g ∉ X) : LvIs GT w' lv l F := by
  obtain ⟨b, M, h1, J, R, C⟩ := h.cls
  exact ⟨h.gs.evo he (fun g U => I g (h.fg g U)), ⟨b, M, h1, J.evo he (I b C), R, C⟩, h.fg, h.s, h.tot⟩
theorem LvIs.mono (h : LvIs GT w lv l F) (C : ∀ g ∈ F, g ∈ F') : LvIs GT w lv l F' := by
  obtain ⟨b, M, h1, I, J, R⟩ := h.cls
  exact ⟨h.gs, ⟨b, M, h1, I, J, C b R⟩, fun g U => C g (h.fg g U), h.s, h.tot⟩
end
def LvsIs (GT : TypeId) (w : World) (L : List (Int × LV)) (A : BG) (F : List Nat) : Prop := L.map (·.1) = A.map (·.1) ∧ ∀ (i : Nat) (x : Int × LV) (y : Int × List Vc.Item), L[i]? = some x → A[i]? = some y → LvIs GT w x.2 y.2 F
section
variable {GT : TypeId} {w w' : World} {L : List (Int × LV)} {A : BG} {F F' X : List Nat}
theorem LvsIs.nil : LvsIs GT w [] [] F := ⟨rfl, by simp⟩
theorem LvsIs.evo (h : LvsIs GT w L A F) (he : Evo w w' X) (I : ∀ g ∈ F, g ∉ X) : LvsIs GT w' L A F := ⟨h.1, fun i x y h1 C => (h.2 i x y h1 C).evo he I⟩
theorem LvsIs.mono (h : LvsIs GT w L A F) (I : ∀ g ∈ F, g ∈ F') : LvsIs GT w L A F' := ⟨h.1, fun i x y h1 C => (h.2 i x y h1 C).mono I⟩
theorem LvsIs.len (h : LvsIs GT w L A F) : L.length = A.length := by have := congrArg List.length h.1; simpa using this
theorem LvsIs.miss (h : LvsIs GT w L A F) {id : Int} (hid : id ∉ A.map (·.1)) : Az L id = none := O7 fun p C e => hid (by rw [← h.1, ← e]; exact List.mem_map_of_mem C)
theorem LvsIs.got (h : LvsIs GT w L A F) {id : Int} (hid : id ∈ A.map (·.1)) : ∃ lv, Az L id = some lv := by
  cases e : Az L id with
  | none =>
    exfalso
    rw [← h.1] at hid
    obtain ⟨p, I, C⟩ := List.mem_map.1 hid
    unfold Az at e
    simp only [Option.map_eq_none_iff, List.find?_eq_none, decide_eq_true_eq] at e
    exact e p I C
  | some lv => exact ⟨lv, rfl⟩
theorem LvsIs.mem (h : LvsIs GT w L A F) {x : Int × LV} (J : x ∈ L) : ∃ y ∈ A, y.1 = x.1 ∧ LvIs GT w x.2 y.2 F := by
  obtain ⟨i, I, rfl⟩ := List.getElem_of_mem J
  have C : i < A.length := by rw [← h.len]; exact I
  refine ⟨A[i], List.getElem_mem C, ?_, h.2 i _ _ (List.getElem?_eq_getElem I) (List.getElem?_eq_getElem C)⟩
  have h1 : (L.map (·.1))[i]? = (A.map (·.1))[i]? := by rw [h.1]
  rw [List.getElem?_map, List.getElem?_map, List.getElem?_eq_getElem I, List.getElem?_eq_getElem C] at h1
  simpa using h1.symm
theorem LvsIs.at (h : LvsIs GT w L A F) {id : Int} {lv : LV} (C : Az L id = some lv) : ∃ l, (id, l) ∈ A ∧ LvIs GT w lv l F := by
  have hx : (id, lv) ∈ L := by
    unfold Az at C
    cases e : L.find? (fun p => decide (p.1 = id)) with
    | none => rw [e] at C; cases C
    | some p =>
      rw [e] at C
      have h1 : p.2 = lv := by simpa using C
      have J : p.1 = id := by simpa using List.find?_some e
      have R := List.mem_of_find?_eq_some e
      rw [← h1, ← J]; exact R
  obtain ⟨y, hy, e, U⟩ := h.mem hx
  exact ⟨y.2, by have I : y.1 = id := e; rw [← I]; exact hy, U⟩
theorem LvsIs.add (h : LvsIs GT w L A F) {id : Int} {lv : LV} {l : List Vc.Item} (I : LvIs GT w lv l F) : LvsIs GT w (L ++ [(id, lv)]) (A ++ [(id, l)]) F := by
  refine ⟨by rw [List.map_append, List.map_append, h.1]; rfl, fun i x y h1 C => ?_⟩
  rcases Nat.lt_or_ge i L.length with hi | hi
  · rw [List.getElem?_append_left hi] at h1
    rw [List.getElem?_append_left (by rw [← h.len]; exact hi)] at C
    exact h.2 i x y h1 C
  · rw [List.getElem?_append_right hi] at h1
    rw [List.getElem?_append_right (by rw [← h.len]; exact hi), ← h.len] at C
    cases e : i - L.length with
    | zero => rw [e] at h1 C; simp at h1 C; subst h1; subst C; exact I
    | succ j => rw [e] at h1; simp at h1
theorem LvsIs.del (h : LvsIs GT w L A F) (id : Int) : LvsIs GT w (JD L id) (BS A id) F := by
  have key : ∀ (L : List (Int × LV)) (A : BG), LvsIs GT w L A F → LvsIs GT w (JD L id) (BS A id) F := fun L => by
    induction L with
    | nil => intro A h; cases A with
      | nil => exact LvsIs.nil
      | cons a A => have := h.len; simp at this
    | cons x L ih => intro A h; cases A with
      | nil => have := h.len; simp at this
      | cons y A =>
        have h1 := h.1
        simp only [List.map_cons, List.cons.injEq] at h1
        have R : LvsIs GT w L A F := ⟨h1.2, fun i u v hu I => h.2 (i + 1) u v (by simpa using hu) (by simpa using I)⟩
        have J := h.2 0 x y rfl rfl
        have C := ih A R
        unfold JD BS at *
        by_cases e : x.1 = id
        · rw [List.filter_cons_of_neg (by simp [e]), List.filter_cons_of_neg (by simp [← h1.1, e])]; exact C
        · rw [List.filter_cons_of_pos (by simp [e]), List.filter_cons_of_pos (by simp [← h1.1, e])]
          refine ⟨by rw [List.map_cons, List.map_cons, C.1, h1.1], fun i u v hu I => ?_⟩
          cases i with
          | zero => simp at hu I; subst hu; subst I; exact J
          | succ i => exact C.2 i u v (by simpa using hu) (by simpa using I)
  exact key L A h
end
structure IdxP (TI GT PT : TypeId) (w : World) (bx ml mg mc : Nat) (L : List (Int × LV)) (A : BG) (F1 F2 F3 : List Nat) : Prop where
  blk : Blk w bx TI [.map (some ml), .map (some mg), .map (some mc)]
  lists : MapIs w ml Zv Zu L
  lvs : LvsIs GT w L A F3
  grams : FamIs w mg eQ PT (post IW A) F1
  classes : FamIs w mc dC PT (post Ec A) F2
  ne : ml ≠ bx ∧ mg ≠ bx ∧ mc ≠ bx ∧ ml ≠ mg ∧ ml ≠ mc ∧ mg ≠ mc
  out : ∀ g, g ∈ F1 ∨ g ∈ F2 ∨ g ∈ F3 → g ≠ bx ∧ g ≠ ml ∧ g ≠ mg ∧ g ≠ mc
  d12 : ∀ g ∈ F1, g ∉ F2
  d13 : ∀ g ∈ F1, g ∉ F3
  d23 : ∀ g ∈ F2, g ∉ F3
  lt3 : ∀ g ∈ F3, g < w.heap.size
def feet (bx ml mg mc : Nat) (F1 F2 F3 : List Nat) : List Nat := bx :: ml :: mg :: mc :: (F1 ++ (F2 ++ F3))
theorem Ap {J ml U R : Nat} {C F2 I : List Nat} {g : Nat} : g ∈ feet J ml U R C F2 I ↔ g = J ∨ g = ml ∨ g = U ∨ g = R ∨ g ∈ C ∨ g ∈ F2 ∨ g ∈ I := by
  unfold feet; simp only [List.mem_cons, List.mem_append]
def IdxG (TI GT PT : TypeId) (w : World) (bx : Nat) (A : BG) (F : List Nat) : Prop := ∃ ml mg mc L F1 F2 F3, IdxP TI GT PT w bx ml mg mc L A F1 F2 F3 ∧ F = feet bx ml mg mc F1 F2 F3
section
variable {TI GT PT : TypeId} {w w' : World} {bx ml mg mc : Nat} {L : List (Int × LV)} {A : BG} {F F1 F2 F3 X : List Nat}
theorem IdxP.evo (h : IdxP TI GT PT w bx ml mg mc L A F1 F2 F3) (he : Evo w w' X) (C : ∀ g ∈ feet bx ml mg mc F1 F2 F3, g ∉ X) : IdxP TI GT PT w' bx ml mg mc L A F1 F2 F3 where
  blk := h.blk.evo he (C bx (Ap.2 (.inl rfl)))
  lists := h.lists.evo he (C ml (Ap.2 (.inr (.inl rfl))))
  lvs := h.lvs.evo he (fun g I => C g (Ap.2 (.inr (.inr (.inr (.inr (.inr (.inr I))))))))
  grams := h.grams.evo he (C mg (Ap.2 (.inr (.inr (.inl rfl))))) (fun g I => C g (Ap.2 (.inr (.inr (.inr (.inr (.inl I)))))))
  classes := h.classes.evo he (C mc (Ap.2 (.inr (.inr (.inr (.inl rfl)))))) (fun g I => C g (Ap.2 (.inr (.inr (.inr (.inr (.inr (.inl I))))))))
  ne := h.ne
  out := h.out
  d12 := h.d12
  d13 := h.d13
  d23 := h.d23
  lt3 := fun g I => Nat.lt_of_lt_of_le (h.lt3 g I) he.size
theorem IdxP.lt (h : IdxP TI GT PT w bx ml mg mc L A F1 F2 F3) : ∀ g ∈ feet bx ml mg mc F1 F2 F3, g < w.heap.size := fun g C => by
  rcases Ap.1 C with rfl | rfl | rfl | rfl | h1 | h1 | h1
  · exact h.blk.lt
  · exact h.lists.lt
  · exact h.grams.lt
  · exact h.classes.lt
  · exact h.grams.flt g h1
  · exact h.classes.flt g h1
  · exact h.lt3 g h1
theorem IdxG.evo (h : IdxG TI GT PT w bx A F) (he : Evo w w' X) (C : ∀ g ∈ F, g ∉ X) : IdxG TI GT PT w' bx A F := by
  obtain ⟨ml, mg, mc, L, F1, F2, F3, h1, rfl⟩ := h
  exact ⟨ml, mg, mc, L, F1, F2, F3, h1.evo he C, rfl⟩
theorem IdxG.evo0 (h : IdxG TI GT PT w bx A F) (he : Evo w w' []) : IdxG TI GT PT w' bx A F := h.evo he (by simp)
theorem IdxG.lt (h : IdxG TI GT PT w bx A F) : ∀ g ∈ F, g < w.heap.size := by
  obtain ⟨ml, mg, mc, L, F1, F2, F3, h1, rfl⟩ := h
  exact h1.lt
theorem aN {C I J : Nat} (R : Blk w bx TI [.map (some C), .map (some I), .map (some J)]) (h1 : MapIs w C Zv Zu ([] : List (Int × LV))) (U : MapIs w I eQ ZE ([] : List ((Ac × Ac) × Value))) (h3 : MapIs w J dC ZE ([] : List (Vc.Item × Value)))
    (n1 : C ≠ bx) (n2 : I ≠ bx) (n3 : J ≠ bx) (n4 : C ≠ I) (n5 : C ≠ J) (n6 : I ≠ J) : IdxG TI GT PT w bx [] [bx, C, I, J] :=
  ⟨C, I, J, [], [], [], [], ⟨R, h1, LvsIs.nil, (FamIs.made U).congr (fun _ => rfl), (FamIs.made h3).congr (fun _ => rfl), ⟨n1, n2, n3, n4, n5, n6⟩, by simp, by simp, by simp, by simp, by simp⟩, rfl⟩
end
def Gz (A : BG) (id : Int) : Prop := ¬ (id ∈ A.map (·.1) ∨ 1024 ≤ (A.length : Int))
instance (A : BG) (id : Int) : Decidable (Gz A id) := by unfold Gz; infer_instance
def UA (A : BG) (id : Int) (l : List Vc.Item) : BG := if Gz A id then A ++ [(id, l)] else A
theorem Ko {A : BG} {id : Int} {l : List Vc.Item} (h : Gz A id) : UA A id l = A ++ [(id, l)] := if_pos h
theorem bh {A : BG} {id : Int} {l : List Vc.Item} (h : ¬ Gz A id) : UA A id l = A := if_neg h
section
variable {κ : Type} [DecidableEq κ] {f : List Vc.Item → κ → Nat} {A : BG} {id : Int} {l : List Vc.Item} {key : κ} {left rest : List κ} {w w' : World} {E : TypeId} {M : List (κ × Value)} {F : List Nat} {m : Nat} {ek : κ → Value} {v2 : Value} {n : Int}
theorem cF (C : FamM w E M (Nh left (post f A) (post f (A ++ [(id, l)]))) F) (h3 : m ∉ F) (h4 : ∀ g ∈ F, g < w.heap.size) (I : m < w.heap.size) (he : Evo w w' ([m] ++ (FC M key).ownBlock.toList))
    (h1 : MapIs w' m ek ZE (Co (Co M key (FC M key)) key v2)) (U : OwnE w' 0 E v2 (Nh left (post f A) (post f (A ++ [(id, l)])) key ++ [⟨id, n⟩])) (hn : n = (f l key : Int)) (J : f l key ≠ 0)
    (hb : v2.ownBlock = (FC M key).ownBlock ∨ ∃ g, v2.ownBlock = some g ∧ w.heap.size ≤ g) (R : ∀ y, y ∈ left ↔ y = key ∨ y ∈ rest) (hk : key ∉ rest) : FamIs w' m ek E (Nh rest (post f A) (post f (A ++ [(id, l)]))) (v2.ownBlock.toList ++ F) := by
  have e : Nh left (post f A) (post f (A ++ [(id, l)])) key ++ [⟨id, n⟩] = post f (A ++ [(id, l)]) key := by
    rw [LJ ((R key).2 (.inl rfl)), W0 J, hn]
  rw [e] at U
  exact FamIs.put C h3 h4 I he h1 Vq U hb (Sv R hk)
theorem Kn {I w : World} {v2 v0 : Value} {F J : List Nat} (U : ∀ g ∈ F, g ∈ J ∨ I.heap.size ≤ g) (h0 : ∀ g, v0.ownBlock = some g → g ∈ F) (C : v2.ownBlock = v0.ownBlock ∨ ∃ g, v2.ownBlock = some g ∧ w.heap.size ≤ g) (hw : I.heap.size ≤ w.heap.size) : ∀ g ∈ v2.ownBlock.toList ++ F, g ∈ J ∨ I.heap.size ≤ g := fun g hg => by
  rcases List.mem_append.1 hg with h1 | h1
  · have R := Option.mem_toList.1 h1
    rcases C with C | ⟨q, hq, hq2⟩
    · exact U g (h0 g (C ▸ R))
    · rw [R] at hq; injection hq with hq; exact .inr ω
  · exact U g h1
theorem MR {v2 v0 : Value} {n m : Nat} (h : v2.ownBlock = v0.ownBlock ∨ v2.ownBlock = some n) (hm : m ≤ n) : v2.ownBlock = v0.ownBlock ∨ ∃ g, v2.ownBlock = some g ∧ m ≤ g := h.imp id fun h => ⟨n, h, hm⟩
end
theorem QX {GT : TypeId} {w : World} {L : List (Int × LV)} {A : BG} {F : List Nat} (h : LvsIs GT w L A F) (id : Int) : (Az L id).isSome = decide (id ∈ A.map (·.1)) := by
  by_cases hid : id ∈ A.map (·.1)
  · obtain ⟨lv, e⟩ := h.got hid; rw [e, decide_eq_true hid]; rfl
  · rw [h.miss hid, decide_eq_false hid]; rfl
theorem YK {β : Type} {L : List (Int × β)} {id : Int} {v : β} (h : id ∉ L.map (·.1)) : Co L id v = L ++ [(id, v)] := FZ fun p C e => h (e ▸ List.mem_map_of_mem C)
section
variable {TI GT PT : TypeId} {w w' : World} {bx ml mg mc : Nat} {L : List (Int × LV)} {A : BG} {F1 F2 F3 : List Nat}
theorem Be {g m : Nat} {F : List Nat} (h1 : g ≠ m) (C : g ∉ F) : g ∉ m :: F := fun h => (List.mem_cons.1 h).elim h1 C
theorem IdxP.l1 (h : IdxP TI GT PT w bx ml mg mc L A F1 F2 F3) : ∀ g ∈ F1, g < w.heap.size := h.grams.flt
theorem IdxP.l2 (h : IdxP TI GT PT w bx ml mg mc L A F1 F2 F3) : ∀ g ∈ F2, g < w.heap.size := h.classes.flt
theorem IdxP.bx0 (h : IdxP TI GT PT w bx ml mg mc L A F1 F2 F3) : bx ∉ [ml] := Be h.ne.1.symm (by simp)
theorem IdxP.mg0 (h : IdxP TI GT PT w bx ml mg mc L A F1 F2 F3) : mg ∉ [ml] := Be h.ne.2.2.2.1.symm (by simp)
theorem IdxP.mc0 (h : IdxP TI GT PT w bx ml mg mc L A F1 F2 F3) : mc ∉ [ml] := Be h.ne.2.2.2.2.1.symm (by simp)
theorem IdxP.f10 (h : IdxP TI GT PT w bx ml mg mc L A F1 F2 F3) : ∀ g ∈ F1, g ∉ [ml] := fun g C => Be (h.out g (.inl C)).2.1 (by simp)
theorem IdxP.f20 (h : IdxP TI GT PT w bx ml mg mc L A F1 F2 F3) : ∀ g ∈ F2, g ∉ [ml] := fun g C => Be (h.out g (.inr (.inl C))).2.1 (by simp)
theorem IdxP.f30 (h : IdxP TI GT PT w bx ml mg mc L A F1 F2 F3) : ∀ g ∈ F3, g ∉ [ml] := fun g C => Be (h.out g (.inr (.inr C))).2.1 (by simp)
theorem IdxP.bx1 (h : IdxP TI GT PT w bx ml mg mc L A F1 F2 F3) : bx ∉ mg :: F1 := Be h.ne.2.1.symm (fun q => (h.out _ (.inl q)).1 rfl)
theorem IdxP.ml1 (h : IdxP TI GT PT w bx ml mg mc L A F1 F2 F3) : ml ∉ mg :: F1 := Be h.ne.2.2.2.1 (fun q => (h.out _ (.inl q)).2.1 rfl)
theorem IdxP.mc1 (h : IdxP TI GT PT w bx ml mg mc L A F1 F2 F3) : mc ∉ mg :: F1 := Be h.ne.2.2.2.2.2.symm (fun q => (h.out _ (.inl q)).2.2.2 rfl)
theorem IdxP.f21 (h : IdxP TI GT PT w bx ml mg mc L A F1 F2 F3) : ∀ g ∈ F2, g ∉ mg :: F1 := fun g C => Be (h.out g (.inr (.inl C))).2.2.1 (fun q => h.d12 g q C)
theorem IdxP.f31 (h : IdxP TI GT PT w bx ml mg mc L A F1 F2 F3) : ∀ g ∈ F3, g ∉ mg :: F1 := fun g C => Be (h.out g (.inr (.inr C))).2.2.1 (fun q => h.d13 g q C)
theorem IdxP.nw1 (h : IdxP TI GT PT w bx ml mg mc L A F1 F2 F3) : ∀ g, w.heap.size ≤ g → g ∉ mg :: F1 := fun g C => Be (by have := h.grams.lt; omega) (fun q => by have := h.l1 g q; omega)
theorem IdxP.bx2 (h : IdxP TI GT PT w bx ml mg mc L A F1 F2 F3) : bx ∉ mc :: F2 := Be h.ne.2.2.1.symm (fun q => (h.out _ (.inr (.inl q))).1 rfl)
theorem IdxP.ml2 (h : IdxP TI GT PT w bx ml mg mc L A F1 F2 F3) : ml ∉ mc :: F2 := Be h.ne.2.2.2.2.1 (fun q => (h.out _ (.inr (.inl q))).2.1 rfl)
theorem IdxP.mg2 (h : IdxP TI GT PT w bx ml mg mc L A F1 F2 F3) : mg ∉ mc :: F2 := Be h.ne.2.2.2.2.2 (fun q => (h.out _ (.inr (.inl q))).2.2.1 rfl)
theorem IdxP.f12 (h : IdxP TI GT PT w bx ml mg mc L A F1 F2 F3) : ∀ g ∈ F1, g ∉ mc :: F2 := fun g C => Be (h.out g (.inl C)).2.2.2 (h.d12 g C)
theorem IdxP.f32 (h : IdxP TI GT PT w bx ml mg mc L A F1 F2 F3) : ∀ g ∈ F3, g ∉ mc :: F2 := fun g C => Be (h.out g (.inr (.inr C))).2.2.2 (fun q => h.d23 g q C)
theorem IdxP.nw2 (h : IdxP TI GT PT w bx ml mg mc L A F1 F2 F3) : ∀ g, w.heap.size ≤ g → g ∉ mc :: F2 := fun g C => Be (by have := h.classes.lt; omega) (fun q => by have := h.l2 g q; omega)
theorem aL {id : Int} {l : List Vc.Item} {lv : LV} {F4 G1 G2 : List Nat} {n1 n2 : Nat} (h : IdxP TI GT PT w bx ml mg mc L A F1 F2 F3) (aS : Blk w' bx TI [.map (some ml), .map (some mg), .map (some mc)]) (aT : MapIs w' ml Zv Zu (L ++ [(id, lv)])) (a1 : LvsIs GT w' L A F3) (az : LvIs GT w' lv l F4)
    (hg : FamIs w' mg eQ PT (post IW (A ++ [(id, l)])) G1) (hc : FamIs w' mc dC PT (post Ec (A ++ [(id, l)])) G2) (J : ∀ g ∈ G1, g ∈ F1 ∨ n1 ≤ g) (au : ∀ g ∈ G1, g < n2) (R : ∀ g ∈ G2, g ∈ F2 ∨ n2 ≤ g) (I : ∀ g ∈ F4, w.heap.size ≤ g ∧ g < n1) (hs : w.heap.size ≤ n1) (ba : n1 ≤ n2) (bb : n2 ≤ w'.heap.size) :
    IdxG TI GT PT w' bx (A ++ [(id, l)]) (feet bx ml mg mc G1 G2 (F4 ++ F3)) ∧ ∀ g ∈ feet bx ml mg mc G1 G2 (F4 ++ F3), g ∈ feet bx ml mg mc F1 F2 F3 ∨ w.heap.size ≤ g := by
  have q1 := h.blk.lt
  have q2 := h.lists.lt
  have q3 := h.grams.lt
  have q4 := h.classes.lt
  have U : ∀ g, w.heap.size ≤ g → g ≠ bx ∧ g ≠ ml ∧ g ≠ mg ∧ g ≠ mc := fun g hg => by omega
  refine ⟨⟨ml, mg, mc, _, G1, G2, _, ⟨aS, aT, (a1.mono (fun g hg => List.mem_append_right _ hg)).add (az.mono (fun g hg => List.mem_append_left _ hg)), hg, hc, h.ne, fun g af => ?_, fun g h1 C => ?_, fun g h1 C => ?_, fun g h1 C => ?_, fun g h1 => ?_⟩, rfl⟩, fun g af => ?_⟩
  · rcases af with h1 | h1 | h1
    · rcases J g h1 with C | C
      · exact h.out g (.inl C)
      · exact U g ω
    · rcases R g h1 with C | C
      · exact h.out g (.inr (.inl C))
      · exact U g ω
    · rcases List.mem_append.1 h1 with C | C
      · exact U g (I g C).1
      · exact h.out g (.inr (.inr C))
  · have hu := au g h1
    rcases J g h1 with h3 | h3 <;> rcases R g C with h4 | h4
    · exact h.d12 g h3 h4
    · omega
    · have := h.l2 g h4; omega
    · omega
  · rcases J g h1 with h3 | h3 <;> rcases List.mem_append.1 C with h4 | h4
    · have := h.l1 g h3; have := (I g h4).1; omega
    · exact h.d13 g h3 h4
    · have := (I g h4).2; omega
    · have := h.lt3 g h4; omega
  · rcases R g h1 with h3 | h3 <;> rcases List.mem_append.1 C with h4 | h4
    · have := h.l2 g h3; have := (I g h4).1; omega
    · exact h.d23 g h3 h4
    · have := (I g h4).2; omega
    · have := h.lt3 g h4; omega
  · rcases List.mem_append.1 h1 with h4 | h4
    · have := (I g h4).2; omega
    · have := h.lt3 g h4; omega
  · rcases Ap.1 af with h1 | h1 | h1 | h1 | h1 | h1 | h1
    · exact .inl (Ap.2 (.inl h1))
    · exact .inl (Ap.2 (.inr (.inl h1)))
    · exact .inl (Ap.2 (.inr (.inr (.inl h1))))
    · exact .inl (Ap.2 (.inr (.inr (.inr (.inl h1)))))
    · rcases J g h1 with C | C
      · exact .inl (Ap.2 (.inr (.inr (.inr (.inr (.inl C))))))
      · exact .inr ω
    · rcases R g h1 with C | C
      · exact .inl (Ap.2 (.inr (.inr (.inr (.inr (.inr (.inl C)))))))
      · exact .inr ω
    · rcases List.mem_append.1 h1 with C | C
      · exact .inr (I g C).1
      · exact .inl (Ap.2 (.inr (.inr (.inr (.inr (.inr (.inr C)))))))
end
section
variable {κ : Type} [DecidableEq κ] {f : List Vc.Item → κ → Nat} {A : BG} {id : Int} {key : κ} {left rest : List κ} {w w' : World} {E : TypeId} {M : List (κ × Value)} {P : κ → List Range} {F : List Nat} {m : Nat} {ek : κ → Value} {v2 : Value}
theorem cJ (C : FamM w E M (Nh left (post f A) (post f (BS A id))) F) (U : m ∉ F) (h4 : ∀ g ∈ F, g < w.heap.size) (I : m < w.heap.size) (he : Evo w w' ([m] ++ (FC M key).ownBlock.toList))
    (h1 : MapIs w' m ek ZE (Co M key v2)) (R : OwnE w' 0 E v2 ((Nh left (post f A) (post f (BS A id)) key).filter (Hl id))) (hb : v2.ownBlock = (FC M key).ownBlock) (J : ∀ y, y ∈ left ↔ y = key ∨ y ∈ rest) (hk : key ∉ rest) :
    FamIs w' m ek E (Nh rest (post f A) (post f (BS A id))) (v2.ownBlock.toList ++ F) := by
  have e : (Nh left (post f A) (post f (BS A id)) key).filter (Hl id) = post f (BS A id) key := by
    rw [LJ ((J key).2 (.inl rfl)), KS]; rfl
  rw [e] at R
  exact FamIs.put C U h4 I he h1 (fun y => VW M key v2 y) R (.inl hb) (Sv J hk)
theorem UK (C : FamM w E M P F) (J : m ∉ F) (R : ∀ g ∈ F, g < w.heap.size) (he : Evo w w' [m]) (h1 : MapIs w' m ek ZE (JD M key)) (hk : P key = []) : FamIs w' m ek E P F :=
  ⟨_, h1, C.del he (fun g I hm => J (by have : g = m := (by simpa using hm); exact this ▸ I)) hk, J, fun g I => Nat.lt_of_lt_of_le (R g I) he.size⟩
theorem Ue (C : FamM w E M P F) (I : m ∉ F) (J : ∀ g ∈ F, g < w.heap.size) (h1 : MapIs w m ek ZE M) : FamIs w m ek E P F := ⟨_, h1, C, I, J⟩
end
theorem JW {A : BG} {id : Int} (h : id ∉ A.map (·.1)) : BS A id = A := List.filter_eq_self.2 fun q C => by
  have : ¬ q.1 = id := fun e => h (e ▸ List.mem_map_of_mem C)
  simp [this]
section
variable {TI GT PT : TypeId} {w w' : World} {bx ml mg mc : Nat} {L : List (Int × LV)} {A : BG} {F1 F2 F3 : List Nat}
theorem Zy {id : Int} {U G2 : List Nat} {n1 n2 : Nat} (h : IdxP TI GT PT w bx ml mg mc L A F1 F2 F3) (ao : Blk w' bx TI [.map (some ml), .map (some mg), .map (some mc)]) (au : MapIs w' ml Zv Zu (JD L id)) (az : LvsIs GT w' L A F3)
    (hg : FamIs w' mg eQ PT (post IW (BS A id)) U) (hc : FamIs w' mc dC PT (post Ec (BS A id)) G2) (I : ∀ g ∈ U, g ∈ F1 ∨ n1 ≤ g) (al : ∀ g ∈ U, g < n2) (J : ∀ g ∈ G2, g ∈ F2 ∨ n2 ≤ g) (hs : w.heap.size ≤ n1) (a1 : n1 ≤ n2) (a_ : n2 ≤ w'.heap.size) :
    IdxG TI GT PT w' bx (BS A id) (feet bx ml mg mc U G2 F3) ∧ ∀ g ∈ feet bx ml mg mc U G2 F3, g ∈ feet bx ml mg mc F1 F2 F3 ∨ w.heap.size ≤ g := by
  have q1 := h.blk.lt
  have q2 := h.lists.lt
  have q3 := h.grams.lt
  have q4 := h.classes.lt
  have ag : ∀ g, w.heap.size ≤ g → g ≠ bx ∧ g ≠ ml ∧ g ≠ mg ∧ g ≠ mc := fun g hg => by omega
  refine ⟨⟨ml, mg, mc, _, U, G2, _, ⟨ao, au, az.del id, hg, hc, h.ne, fun g R => ?_, fun g h1 C => ?_, fun g h1 C => ?_, fun g h1 C => ?_, fun g h1 => ?_⟩, rfl⟩, fun g R => ?_⟩
  · rcases R with h1 | h1 | h1
    · rcases I g h1 with C | C
      · exact h.out g (.inl C)
      · exact ag g ω
    · rcases J g h1 with C | C
      · exact h.out g (.inr (.inl C))
      · exact ag g ω
    · exact h.out g (.inr (.inr h1))
  · have hu := al g h1
    rcases I g h1 with h3 | h3 <;> rcases J g C with h4 | h4
    · exact h.d12 g h3 h4
    · omega
    · have := h.l2 g h4; omega
    · omega
  · rcases I g h1 with h3 | h3
    · exact h.d13 g h3 C
    · have := h.lt3 g C; omega
  · rcases J g h1 with h3 | h3
    · exact h.d23 g h3 C
    · have := h.lt3 g C; omega
  · have := h.lt3 g h1; omega
  · rcases Ap.1 R with h1 | h1 | h1 | h1 | h1 | h1 | h1
    · exact .inl (Ap.2 (.inl h1))
    · exact .inl (Ap.2 (.inr (.inl h1)))
    · exact .inl (Ap.2 (.inr (.inr (.inl h1))))
    · exact .inl (Ap.2 (.inr (.inr (.inr (.inl h1)))))
    · rcases I g h1 with C | C
      · exact .inl (Ap.2 (.inr (.inr (.inr (.inr (.inl C))))))
      · exact .inr ω
    · rcases J g h1 with C | C
      · exact .inl (Ap.2 (.inr (.inr (.inr (.inr (.inr (.inl C)))))))
      · exact .inr ω
    · exact .inl (Ap.2 (.inr (.inr (.inr (.inr (.inr (.inr h1)))))))
end
def ME (l : List Vc.Item) (p : Int) (mo : List (Int × Sum3)) (x : Int × LV) : Bool := decide (Vd (PH l) x.2.s (vS mo x.1) ≤ Ge (max (EU l) x.2.tot) p)
theorem Ll {α β : Type} {p : Int × α → Bool} {q : Int × β → Bool} : ∀ {L : List (Int × α)} {A : List (Int × β)}, L.map (·.1) = A.map (·.1) → (∀ (i : Nat) x y, L[i]? = some x → A[i]? = some y → p x = q y) → (L.filter p).map (·.1) = (A.filter q).map (·.1)
  | [], [], _, _ => rfl
  | [], _ :: _, h, _ => by simp at h
  | _ :: _, [], h, _ => by simp at h
  | x :: L, y :: A, h, hq => by
    simp only [List.map_cons, List.cons.injEq] at h
    have h0 := hq 0 x y rfl rfl
    have ih := Ll (p := p) (q := q) h.2 (fun i u v hu hv => hq (i + 1) u v (by simpa using hu) (by simpa using hv))
    cases e : p x
    · rw [List.filter_cons_of_neg (by simp [e]), List.filter_cons_of_neg (by simp [← h0, e])]; exact ih
    · rw [List.filter_cons_of_pos e, List.filter_cons_of_pos (by rw [← h0]; exact e), List.map_cons, List.map_cons, ih, h.1]
theorem V0 {GT : TypeId} {w : World} {L dn : List (Int × LV)} {A : BG} {F : List Nat} {l : List Vc.Item} {p : Int} {J : List (Int × Sum3)} (h : LvsIs GT w L A F) (hv : ∀ q ∈ A, vS J q.1 = aC l q.2) (hs : l.length ≤ 1000000) (hA : ∀ q ∈ A, q.2.length ≤ 1000000) (hp : dn.Perm L) :
    PJ A l p (((dn.filter (ME l p J)).map (·.1)).mergeSort fun x y => decide (x ≤ y)) := by
  refine ⟨(Ws _).trans ?_, Wn _⟩
  have e : (L.filter (ME l p J)).map (·.1) = (A.filter (T5 l p)).map (·.1) := Ll h.1 (fun i x y U I => by
    have R := h.2 i x y U I
    have C := List.mem_of_getElem? I
    have hid : x.1 = y.1 := by
      have h1 : (L.map (·.1))[i]? = (A.map (·.1))[i]? := by rw [h.1]
      rw [List.getElem?_map, List.getElem?_map, U, I] at h1
      simpa using h1
    unfold ME T5
    rw [R.s, R.tot, hid, hv y C, ZR l y.2 hs (hA y C)])
  rw [← e]
  exact (hp.filter _).map _
theorem Vu {GT : TypeId} {w : World} {L : List (Int × LV)} {A : BG} {F : List Nat} {l : List Vc.Item} {J : List (Int × Sum3)} (h : LvsIs GT w L A F) (hv : ∀ q ∈ A, vS J q.1 = aC l q.2) (U : l.length ≤ 1000000) (I : ∀ q ∈ A, q.2.length ≤ 1000000) {x : Int × LV} (hx : x ∈ L) : bO x.2.s ∧ bO (vS J x.1) := by
  obtain ⟨y, C, e, R⟩ := h.mem hx
  rw [R.s, ← e, hv y C]
  exact ⟨Zj (I y C), de U (I y C)⟩
theorem Uv {l : List Vc.Item} {p : Int} {C : List (Int × Sum3)} {dn : List (Int × LV)} {x : Int × LV} (h : Vd (PH l) x.2.s (vS C x.1) ≤ Ge (max (EU l) x.2.tot) p) : ((dn ++ [x]).filter (ME l p C)).map (·.1) = (dn.filter (ME l p C)).map (·.1) ++ [x.1] := by
  rw [List.filter_append, List.filter_cons_of_pos (p := ME l p C) (decide_eq_true h), List.map_append]; rfl
theorem Xf {l : List Vc.Item} {p : Int} {C : List (Int × Sum3)} {dn : List (Int × LV)} {x : Int × LV} (h : ¬ Vd (PH l) x.2.s (vS C x.1) ≤ Ge (max (EU l) x.2.tot) p) : ((dn ++ [x]).filter (ME l p C)).map (·.1) = (dn.filter (ME l p C)).map (·.1) := by
  rw [List.filter_append, List.filter_cons_of_neg (p := ME l p C) (by unfold ME; rw [decide_eq_false h]; decide)]; simp
end Go.Proofs.YtbgmlpbgofcfjaaGreatDoor
namespace Go.Proofs
open Go.Shelf Go.Proofs.Tryz
def Tryz.lays189_ren : Go.Shelf.Ren := ⟨fun | 189 => 48 | 125 => 103 | 257 => 105 | 128 => 160 | 129 => 161 | 294 => 162 | 295 => 163 | 296 => 164 | 297 => 165 | 298 => 166 | 299 => 167 | 216 => 97 | 300 => 168 | 301 => 169 | 328 => 216 | 329 => 212 | 330 => 213 | 331 => 217 | 332 => 218 | 215 => 104 | 343 => 252 | n => n, fun | 28 => 22 | 3 => 3 | 46 => 193 | 0 => 0 | 51 => 236 | 53 => 238 | 4 => 4 | 183 => 230 | 182 => 229 | 131 => 83 | 5 => 5 | 9 => 9 | 218 => 298 | 222 => 302 | 228 => 348 | 229 => 112 | n => n, fun | n => n⟩
theorem Tryz.lays189 : Go.Proofs.Lays.n189 Tryz.prog Tryz.lays189_ren := {
  mixed := by kernel_rfl
  f125 := Tryz.func103.trans (congrArg some (by kernel_rfl))
  f128 := Tryz.func160.trans (congrArg some (by kernel_rfl))
  f129 := Tryz.func161.trans (congrArg some (by kernel_rfl))
  f189 := Tryz.func48.trans (congrArg some (by kernel_rfl))
  f215 := Tryz.func104.trans (congrArg some (by kernel_rfl))
  f216 := Tryz.func97.trans (congrArg some (by kernel_rfl))
  f257 := Tryz.func105.trans (congrArg some (by kernel_rfl))
  f294 := Tryz.func162.trans (congrArg some (by kernel_rfl))
  f295 := Tryz.func163.trans (congrArg some (by kernel_rfl))
  f296 := Tryz.func164.trans (congrArg some (by kernel_rfl))
  f297 := Tryz.func165.trans (congrArg some (by kernel_rfl))
  f298 := Tryz.func166.trans (congrArg some (by kernel_rfl))
  f299 := Tryz.func167.trans (congrArg some (by kernel_rfl))
  f300 := Tryz.func168.trans (congrArg some (by kernel_rfl))
  f301 := Tryz.func169.trans (congrArg some (by kernel_rfl))
  f328 := Tryz.func216.trans (congrArg some (by kernel_rfl))
  f329 := Tryz.func212.trans (congrArg some (by kernel_rfl))
  f330 := Tryz.func213.trans (congrArg some (by kernel_rfl))
  f331 := Tryz.func217.trans (congrArg some (by kernel_rfl))
  f332 := Tryz.func218.trans (congrArg some (by kernel_rfl))
  f343 := Tryz.func252.trans (congrArg some (by kernel_rfl))
  t0 := underlying0
  a0 := isAgg0
  z0 := sizeOf0
  v0 := zeroValue0
  t3 := underlying3
  a3 := isAgg3
  z3 := sizeOf3
  v3 := zeroValue3
  t4 := underlying4
  a4 := isAgg4
  z4 := sizeOf4
  v4 := zeroValue4
  t5 := underlying5
  a5 := isAgg5
  z5 := sizeOf5
  v5 := zeroValue5
  t9 := underlying9
  a9 := isAgg9
  z9 := sizeOf9
  v9 := zeroValue9
  t28 := underlying22
  a28 := isAgg22
  z28 := sizeOf22
  v28 := zeroValue22
  t46 := underlying193
  a46 := isAgg193
  z46 := sizeOf193
  v46 := zeroValue193
  t51 := underlying236
  a51 := isAgg236
  z51 := sizeOf236
  v51 := zeroValue236
  t53 := underlying238
  a53 := isAgg238
  z53 := sizeOf238
  v53 := zeroValue238
  t131 := underlying83
  a131 := isAgg83
  z131 := sizeOf83
  v131 := zeroValue83
  t182 := underlying229
  a182 := isAgg229
  z182 := sizeOf229
  v182 := zeroValue229
  t183 := underlying230
  a183 := isAgg230
  z183 := sizeOf230
  v183 := zeroValue230
  t218 := underlying298
  a218 := isAgg298
  z218 := sizeOf298
  v218 := zeroValue298
  t222 := underlying302
  a222 := isAgg302
  z222 := sizeOf302
  v222 := zeroValue302
  t228 := underlying348
  a228 := isAgg348
  z228 := sizeOf348
  v228 := zeroValue348
  t229 := underlying112
  a229 := isAgg112
  z229 := sizeOf112
  v229 := zeroValue112 }
open Go.Sort Go.RowKit in
theorem Tryz.slices_Sort_int (C off cap : Nat) (zs : List Int) (w : World) (hH : Holds (Value.int .i64) w C off zs.toArray) (hblk : C < w.heap.size) (I : zs.length < 4611686018427387904) :
    Calls Tryz.prog 48 #[.slice (some ⟨C, off, none⟩) zs.length cap] w fun e w' =>
      e = .returned (.tuple #[]) ∧ ∃ n os, w' = grow (putRow (Value.int .i64) (Sort.ahead w n) C off (zs.mergeSort fun x y => decide (x ≤ y)).toArray) os := Any.slices_Sort_int Tryz.lays189 C off cap zs w hH hblk I
open Go.RowKit Go.Sort in
theorem Tryz.slices_Sort_int_none (p : Option Addr) (cap : Nat) (w : World) :
    Calls Tryz.prog 48 #[.slice p 0 cap] w fun e w' => e = .returned (.tuple #[]) ∧ w' = w := Any.slices_Sort_int_none Tryz.lays189 p cap w
end Go.Proofs
namespace Go.Proofs.YtbgmlpbgofcfjaaGreatDoor
open Go.RowKit Go.Vc Go.Proofs.Tryz
theorem HY : A8 Tryz.prog 99 0 = some 0 := ζ
theorem Hb : A8 Tryz.prog 99 1 = some 1 := ζ
theorem Hg : A8 Tryz.prog 99 2 = some 2 := ζ
theorem fE : Cn Tryz.prog 81 = some [(0, 1), (1, 1), (2, 1)] := ζ
theorem fX : Cy Tryz.prog 81 = some (3, 24, some (.agg #[(.map none), (.map none), (.map none)])) := ζ
def eB (l : List Int) : List Int := l.mergeSort fun x y => decide (x ≤ y)
theorem Rc {w : World} {base : Nat} {v : Value} {l : List Int} (h : OwnE w base 3 v l) : Calls Tryz.prog 48 #[v] w fun e w' => e = .returned (.tuple #[]) ∧ Evo w w' v.ownBlock.toList ∧ OwnE w' base 3 v (eB l) :=
  Xj Tryz.slices_Sort_int (Tryz.slices_Sort_int_none none 0) h
theorem DB : KeyLaw Tryz.prog 111 (fun x : Vc.Item => Value.agg (Enc.enc x).toArray) := ZM underlying111 υ υ υ rfl rfl rfl underlying3 underlying9 underlying3 Ae BX Ae eM
theorem Mt : KeyLaw Tryz.prog 107 (fun x : Ac × Ac => Value.agg (Enc.enc x).toArray) :=
  Sn underlying107 υ υ rfl rfl underlying9 underlying9 BX BX (fun w x y => KE 9998 underlying107 Tryz.stoodInHeld107 υ υ rfl rfl underlying9 underlying9 BX BX x y)
theorem Lu {x : Vc.Item} {I : World}  :
    Calls Tryz.prog 91 #[.agg (Enc.enc x).toArray] I fun e w' => e = .returned (.bool (decide (MM x))) ∧ Evo I w' [] := by
 refine AG (n := 16) func91 rfl ntmps91 rfl ?_
 have J : Evo I I [] := Evo.refl _ _
 refine Zs (CE (vs := [_, _, _]) η η rfl ?_)
 intro b1 w2 J1 E2 B1 Y1
 have R := E2.size
 replace J := Z0 J E2
 refine Zn BV (Zs (Zo (AD rfl η Ba) (Zo (AA rfl Ae η (B1.at.cell 0 η)) (Zo DA (Zo Cb ?_)))))
 refine Aj rfl BQ rfl (fun C => AD rfl η Ba) ?_
 refine Aj rfl BQ rfl (fun C => AA rfl Ae (Ar C) (B1.at.cell 0 η)) ?_
 refine Aj rfl BQ rfl (fun C => BK rfl (Ar C) η) ?_
 refine Zo FW (Zo Cb ?_)
 refine Aj rfl BQ rfl (fun C => AD rfl η Ba) ?_
 refine Aj rfl BQ rfl (fun C => AA rfl Ae (Ar C) (B1.at.cell 0 η)) ?_
 refine Aj rfl BQ rfl (fun C => BK rfl (Ar C) η) ?_
 refine Zo FW (Zn BV (AM G7 ?_))
 exact ⟨Bn (decide_eq_decide.2 (by unfold MM; omega)), J⟩
theorem OO {t p : Int} {C : World}  :
    Calls Tryz.prog 47 #[.int .i64 t, .int .i64 p] C fun e w' => e = .returned (.int .i64 (Ge t p)) ∧ Evo C w' [] := by
 refine AG (n := 21) func47 rfl ntmps47 rfl ?_
 have I : Evo C C [] := Evo.refl _ _
 refine Zs (Zn Am (AE (AK (Zs (Zo AU (Zo Ve (Zn BV (AH η (fun J => ?_) (fun J => ?_)))))))))
 refine Zs (Zn Am (AM C3 ?_))
 exact ⟨A3 (Z7 ω), I⟩
 refine Zs (Zo AU (Zo Dn (Zo Cb ?_)))
 refine Aj rfl BQ rfl (fun hg => AU) ?_
 refine Aj rfl BQ rfl (fun hg => Dc rfl (Ar hg) η) ?_
 refine Zo FW (Zn BV (AH η (fun R => ?_) (fun R => ?_)))
 refine Zs (Zn Am (AM C3 ?_))
 exact ⟨A3 (Zw ω ω), I⟩
 refine AJ (AX (AE ?_))
 have U := V2 (t := t) (p := p) ω ω; have ag := Int.tdiv_eq_ediv_of_nonneg (b := 100) U.1
 refine AB (Zo AU (Zo (Eg rfl η η) (Zo AU (Zo TP (Zo (Ha rfl η η ω ω) (Zo (P3 rfl η η ω ω ω) (Zn Am (AM C3 ?_))))))))
 exact ⟨A3 (Z4 ω ω), I⟩
theorem II {ao : Option Addr} {b off cap : Nat} {l : List Vc.Item} {I : World} (hl : RowE I ao b off cap l) (hs : l.length ≤ 1000000) :
    Calls Tryz.prog 89 #[.slice ao l.length cap] I fun e w' => e = .returned (.int .i64 (EU l)) ∧ Evo I w' [] := by
 refine AG (n := 18) func89 rfl ntmps89 rfl ?_
 have C : Evo I I [] := Evo.refl _ _
 have R := A9 hl
 have af := hl.bd
 refine Zs (Zn Am (Zs (Zn Am (AE (Zs (Zo Bi (Zo (AQ rfl η underlying40) (Zn AU (AK ?_)))))))))
 refine Aq (α := Nat) [3, 5, 8, 9, 10, 11, 12, 13, 14, 15, 16] (fun k g w => g 8 = .int .i64 (k : Nat) ∧ g 3 = .int .i64 (EU (l.take k)) ∧ k ≤ l.length ∧ I.heap.size ≤ w.heap.size ∧ Evo I w []) (fun k => l.length - k) 0 ?_ ?_
 refine ⟨σ, rfl, δ, δ, C⟩
 rintro k g w2 ⟨al, hj4, hk_k, hzl1, C⟩
 have U := C.size
 refine Zk 8 al (Zk 3 hj4 (Zs (Zn Dn (AE (AH η (fun ag => ?_) (fun ag => ?_))))))
 refine AJ (AE (AK (Zs (Zo (Ab (k) rfl underlying40 Aa η η χ ω ((R _ C).addr (i := k) ω)) ?_))))
 have J := fun (w' : World) (h : Evo I w' []) => (R w' h).atD (k) ω
 refine Zo (AL rfl BE Aa η rfl (J _ C)) (Bq (zs := [_, _, _]) (vs := [_, _, _]) Aa η rfl η (fun _ => rfl) η rfl rfl η ?_)
 intro b7 w8 J7 E8 B7 Y7
 have Q8 := E8.size
 replace C := Z0 C E8
 refine Ag ?_
 have az := MO (l.take k); have au := List.length_take_le k l; have aS := JI (l.getD k default).kind
 refine AB (Zo AU (Zo (AL rfl BE Aa η rfl B7.at) (Zr [.agg _] rfl η func92 (Cf (x := (l.getD k default))) ?_)))
 rintro e w9 ⟨rfl, F9⟩
 refine ⟨_, rfl, ?_⟩
 have Q9 := F9.size
 replace C := Z0 C F9
 refine Zo Br (Zn Am (AX ?_))
 have az := MO (l.take k); have au := List.length_take_le k l; have aS := JI (l.getD k default).kind
 refine AB (Zo Br (Zn AU (Zg (k + 1) ?_)))
 refine ⟨σ, (congrArg (Value.int _) (WJ ω).symm), δ, δ, C⟩
 refine Ak rfl (Zs (Zo AU (Zn Am (AM C3 ?_))))
 exact ⟨A3 (by rw [List.take_of_length_le ω]), C⟩
theorem OQ {a b c : Sum3} {I : World} (J : bO a) (hb : bO b) (hc : bO c) :
    Calls Tryz.prog 46 #[.agg (Enc.enc a).toArray, .agg (Enc.enc b).toArray, .agg (Enc.enc c).toArray] I fun e w' => e = .returned (.int .i64 (Vd a b c)) ∧ Evo I w' [] := by
 obtain ⟨R, U, af, ag, al, ao⟩ := J; obtain ⟨az, aS, aT, a1, a_, ba⟩ := hb; obtain ⟨bc, bd, bf, bl, bm, bn⟩ := hc; have bo := eI (max a.p b.p - c.p + 1) ω
 refine AG (n := 42) func46 rfl ntmps46 rfl ?_
 have C : Evo I I [] := Evo.refl _ _
 refine Zs (CE (vs := [_, _, _]) η η rfl ?_)
 intro b1 w2 J1 E2 B1 Y1
 have Q2 := E2.size
 replace C := Z0 C E2
 refine CE (vs := [_, _, _]) η η rfl ?_
 intro b3 w4 J3 E4 B3 Y3
 have Q4 := E4.size
 replace C := Z0 C E4
 replace B1 := B1.evo0 E4
 refine CE (vs := [_, _, _]) η η rfl ?_
 intro b5 w6 J5 E6 B5 Y5
 have Q6 := E6.size
 replace C := Z0 C E6
 replace B1 := B1.evo0 E6
 replace B3 := B3.evo0 E6
 refine Zn Am (Zs (Zo (AD rfl η Hb) (Zo (AA rfl Ae η (B1.at.cell 1 η)) (Zo (AD rfl η Hb) (Zo (AA rfl Ae η (B3.at.cell 1 η)) (Zo (GH rfl η η) (Zo (AD rfl η Hb) (Zo (AA rfl Ae η (B5.at.cell 1 η)) (Zo TP ?_)))))))))
 refine Zo (AD rfl η Hg) (Zo (AA rfl Ae η (B1.at.cell 2 η)) (Zo (AD rfl η Hg) (Zo (AA rfl Ae η (B3.at.cell 2 η)) (Zo Br (Zo (AD rfl η Hg) (Zo (AA rfl Ae η (B5.at.cell 2 η)) (Zo (Ha rfl η η ω ω) (Zo TP (Zo (Ha rfl η η ω ω) ?_)))))))))
 refine Zo Br (Zn Am (Zs (Zo (AD rfl η HY) (Zo (AA rfl Ae η (B1.at.cell 0 η)) (Zo (AD rfl η HY) (Zo (AA rfl Ae η (B3.at.cell 0 η)) (Zo (GH rfl η η) (Zo (AD rfl η HY) (Zo (AA rfl Ae η (B5.at.cell 0 η)) ?_)))))))))
 refine Zo TP (Zn Am (Zs (Zo AU (Zo AU (Zo Br (Zo (P3 rfl η η ω ω ω) (Zo (Ha rfl η η ω ω) (Zo (GH rfl η η) (Zn Am ?_)))))))))
 refine AM C3 ?_
 exact ⟨A3 rfl, C⟩
abbrev Mp := IdxG 81 105 110
theorem Lx  {U : World}  :
    Calls Tryz.prog 6 #[] U fun e w' => ∃ bx F, e = .returned (.pointer (some ⟨bx, 0, none⟩)) ∧ Evo U w' [] ∧ Mp w' bx [] F ∧ (∀ g ∈ F, U.heap.size ≤ g) := by
 refine AG (n := 6) func6 rfl ntmps6 rfl ?_
 have R : Evo U U [] := Evo.refl _ _
 refine Zs (Zn fH (Zs (DF (α := Int) (β := LV) (Value.int .i64) Zu rfl ?_)))
 intro b1 w2 J1 E2 C Y1
 have Q2 := E2.size
 replace R := Z0 R E2
 refine DF (α := Ac × Ac) (β := Value) (fun x : Ac × Ac => Value.agg (Enc.enc x).toArray) ZE rfl ?_
 intro b3 w4 J3 E4 I Y3
 have Q4 := E4.size
 replace R := Z0 R E4
 replace C := C.evo0 E4
 refine DF (α := Vc.Item) (β := Value) (fun x : Vc.Item => Value.agg (Enc.enc x).toArray) ZE rfl ?_
 intro b5 w6 J5 E6 J Y5
 have Q6 := E6.size
 replace R := Z0 R E6
 replace C := C.evo0 E6
 replace I := I.evo0 E6
 refine Zo (A2 (pv := [(0, .map _), (1, .map _), (2, .map _)]) (zs := [_, _, _]) (cells := [_, _, _]) rfl fX η fE η η) (CE (vs := [_, _, _]) η η rfl ?_)
 intro b7 w8 J7 E8 B7 Y7
 have Q8 := E8.size
 replace R := Z0 R E8
 replace C := C.evo0 E8
 replace I := I.evo0 E8
 replace J := J.evo0 E8
 refine Zn fH (AM (C8 (v := .pointer _) rfl η) ?_)
 exact ⟨_, _, rfl, R, aN B7 C I J ω ω ω ω ω ω, by intro g9 af; simp only [List.mem_cons, List.not_mem_nil, or_false] at af; omega⟩
theorem Pw : CQ Tryz.prog 101 = some true := ζ
theorem QR : CQ Tryz.prog 105 = some true := ζ
theorem VY : CQ Tryz.prog 96 = some false := ζ
theorem VL : CQ Tryz.prog 97 = some false := ζ
theorem Jp : A8 Tryz.prog 101 0 = some 0 := ζ
theorem Km : A8 Tryz.prog 101 1 = some 1 := ζ
theorem Ep : A8 Tryz.prog 101 2 = some 2 := ζ
theorem OG : A8 Tryz.prog 105 2 = some 2 := ζ
theorem dY : Cn Tryz.prog 101 = some [(0, 1), (1, 1), (2, 3), (5, 1)] := ζ
theorem DH : Cy Tryz.prog 101 = some (6, 64, some (.agg #[(.slice none 0 0), (.map none), (.int .i64 0), (.int .i64 0), (.int .i64 0), (.int .i64 0)])) := ζ
set_option maxHeartbeats 1000000 in
theorem KZ {ao : Option Addr} {b off cap : Nat} {l : List Vc.Item} {w0 : World} (hl : RowE w0 ao b off cap l) (hq : ∀ x ∈ l, x.text.length ≤ 140737488355328) (hs : l.length ≤ 1000000) :
    Calls Tryz.prog 34 #[.slice ao l.length cap] w0 fun e w' => ∃ ga gl gc cb M, e = .returned (Zu ⟨ga, gl, gc, some cb, PH l, EU l⟩) ∧ Evo w0 w' [] ∧ OwnE w' w0.heap.size 105 (.slice ga gl gc) (AW (AO l)) ∧ MapIs w' cb (fun x : Vc.Item => Value.agg (Enc.enc x).toArray) (Value.int .i64) M ∧ (∀ x, Az M x = FL (CD l) x) ∧ w0.heap.size ≤ cb := by
 refine AG (n := 71) func34 rfl ntmps34 rfl ?_
 have hV : Evo w0 w0 [] := Evo.refl _ _
 have bo := A9 hl
 have cv := hl.bd
 refine Zs (CU (zs := [_, _, _, _, _, _]) DH η rfl ?_)
 intro b1 w2 J1 E2 B1 Y1
 have Q2 := E2.size
 replace hV := Z0 hV E2
 replace hl := bo _ hV
 have J := B1.at
 refine Ag (Zs (Zo Bi (Zr [.slice _ _ _] rfl η func88 (SN hl hq ω) ?_)))
 rintro e w3 ⟨gR, rfl, F3, aS⟩
 refine ⟨_, rfl, ?_⟩
 have Q3 := F3.size
 replace hV := Z0 hV F3
 replace B1 := B1.evo0 F3
 replace J := J.evo0 F3
 have gP := C9 l; have gr := HT (AO l); have cq := Ul (AO l)
 obtain ⟨gi, g4, gj, eT, bl, gn⟩ := aS.rowOf
 subst eT
 refine Zr [.slice _ _ _] rfl η func87 (SK bl ω) ?_
 rintro e w5 ⟨gQ, rfl, F5, al⟩
 refine ⟨_, rfl, ?_⟩
 have Q5 := F5.size
 replace hV := Z0 hV F5
 replace B1 := B1.evo0 F5
 replace J := J.evo0 F5
 replace aS := aS.evo0 F5
 replace bl := bl.evo0 F5
 have ct := fun g hg => (al.block (g := g) hg).2; have b2 := fun g hg => (al.block (g := g) hg).1
 obtain ⟨bR, g6, bS, eU, bf, c_⟩ := al.rowOf
 subst eU
 refine DF (α := Vc.Item) (β := Int) (fun x : Vc.Item => Value.agg (Enc.enc x).toArray) (Value.int .i64) rfl ?_
 intro b7 w8 J7 E8 C Y7
 have Q8 := E8.size
 replace hV := Z0 hV E8
 replace hl := bo _ hV
 replace B1 := B1.evo0 E8
 replace J := J.evo0 E8
 replace aS := aS.evo0 E8
 replace bl := bl.evo0 E8
 replace al := al.evo0 E8
 replace bf := bf.evo0 E8
 refine Zo Bi (Zr [.slice _ _ _] rfl η func89 (II hl ω) ?_)
 rintro e w9 ⟨rfl, F9⟩
 refine ⟨_, rfl, ?_⟩
 have Q9 := F9.size
 replace hV := Z0 hV F9
 replace B1 := B1.evo0 F9
 replace J := J.evo0 F9
 replace aS := aS.evo0 F9
 replace bl := bl.evo0 F9
 replace al := al.evo0 F9
 replace bf := bf.evo0 F9
 replace C := C.evo0 F9
 refine Zo (A2 (pv := [(0, .slice _ _ _), (1, .map _), (3, .int _ _)]) (zs := [_, _, _, _, _, _]) (cells := [_, _, _, _, _, _]) rfl DH η dY η η) ?_
 have ej := fun g hg => (aS.block (g := g) hg).2
 have en := fun g hg => (al.block (g := g) hg).2
 refine Bq (zs := [_, _, _, _, _, _]) (vs := [_, _, _, _, _, _]) DH η rfl η (fun _ => rfl) η rfl rfl η ?_
 intro a_ bm J12 E13 B12 Y12
 have e4 := E13.size
 replace hV := Z0 hV E13
 replace hl := bo _ hV
 replace B1 := B1.evo0 E13
 replace J := J.evo0 E13
 replace aS := aS.evo0 E13
 replace bl := bl.evo0 E13
 replace al := al.evo0 E13
 replace bf := bf.evo0 E13
 replace C := C.evo0 E13
 have I := B12.at
 refine Ag (AE (AE ?_))
 have R : Evo bm bm [a_, b7] := Evo.refl _ _
 have bA := fun w9 (h9 : Evo bm w9 [a_, b7]) => C1 bf h9 (fun ec hm => by have h2 := (c_ ec).2; simp at hm; omega)
 have bq := fun w9 (h9 : Evo bm w9 [a_, b7]) => al.evo h9 (fun g hg hm => by have := ct g hg; simp at hm; omega)
 have gy : b7 ≠ a_ := by omega
 refine AB (Zo (AD rfl η Jp) (Zo (AA rfl VY η (I.cell 0 η)) (Zo (AQ rfl η underlying96) (Zn AU (AK (Aq (α := Nat) [5, 20, 21, 22, 23, 24, 25, 26, 27, 28, 29, 30, 31, 32] (fun k g w => g 20 = .int .i64 (k : Nat) ∧ k ≤ (AW (AO l)).length ∧ Blk w a_ 101 [.slice bR (AW (AO l)).length bS, .map (some b7), .int .i64 (GB ((AW (AO l)).take k)), .int .i64 (0), .int .i64 (0), .int .i64 (EU l)] ∧ Blk w b1 101 [.slice none 0 0, .map none, .int .i64 0, .int .i64 0, .int .i64 0, .int .i64 0] ∧ MapIs w b7 (fun x : Vc.Item => Value.agg (Enc.enc x).toArray) (Value.int .i64) [] ∧ bm.heap.size ≤ w.heap.size ∧ Evo w0 w [] ∧ Evo bm w [a_, b7]) (fun k => (AW (AO l)).length - k) 0 ?_ ?_))))))
 refine ⟨σ, δ, B12, B1, C, δ, hV, R⟩
 rintro k g e0 ⟨cr, hk_k, B12, B1, C, hzl14, hV, R⟩
 have b8 := hV.size
 have b3 := R.size
 have dc := B12.lt
 have dk := B1.lt
 have dm := C.lt
 replace hl := bo _ hV
 replace al := bq _ R
 replace bf := bA _ R
 have I := B12.at
 have J := B1.at
 refine Zk 20 cr ?_
 have gq := cq k; have e2 := cq (k + 1)
 refine Zs (Zn Dn (AE (AH η (fun cm => ?_) (fun cm => ?_))))
 refine AJ (AE (AK (Zs (Zo (Ab (k) rfl underlying96 ER η η χ ω (bf.addr (i := k) ω)) ?_))))
 have bX := fun (w' : World) (h : Evo bm w' [a_, b7]) => (bA w' h).atD (k) ω
 refine Zo (AL rfl QR ER η rfl (bX _ R)) (Bq (zs := [_, _, _]) (vs := [_, _, _]) ER η rfl η (fun _ => rfl) η rfl rfl η ?_)
 intro b22 w23 J22 E23 B22 Y22
 have e5 := E23.size
 replace hV := Z0 hV E23
 replace R := Z0 R E23
 replace B12 := B12.evo0 E23
 replace B1 := B1.evo0 E23
 replace C := C.evo0 E23
 replace I := I.evo0 E23
 replace J := J.evo0 E23
 refine Ag ?_
 have gz := PS (g := (AW (AO l))) (k := k) ω
 refine AB (Zo (AD rfl η Ep) (Zo (AD rfl η HY) (Zo (AA rfl Ae η (I.cell 2 η)) (Zo (AD rfl η OG) (Zo (AA rfl Ae η (B22.at.cell 2 η)) (Zo Br (Zo (AD rfl η Ep) (Zo (AD rfl η HY) (Ai (v := .int _ _) (vs := [_]) (cs' := [_, _, _, _, _, _]) η η B12 Bd η rfl η rfl η ?_)))))))))
 intro w24 E24 V24 hb_new
 have e6 := E24.size
 replace hV := Z1 hV E24 ε
 replace R := Z1 R E24 ε
 replace B1 := B1.evo E24 θ
 replace C := C.evo E24 θ
 replace J := J.evo E24 θ
 replace B12 := hb_new
 have I := B12.at
 clear hb_new
 refine Ag (AX (AB (Zo Br (Zn AU (Zg (k + 1) ?_)))))
 refine ⟨σ, δ, (by rw [PS ω]; exact B12), B1, C, δ, hV, R⟩
 refine Ak rfl (AE (Zs (Zo Bi (Zo (AQ rfl η underlying40) (Zn AU (AK (Aq (α := Nat) [7, 8, 9, 35, 36, 37, 38, 39, 40, 41, 42, 43, 44, 45, 46, 47, 48, 49, 50, 51, 52, 53, 54, 55, 56, 57, 58, 59, 60, 61, 62, 63, 64, 65, 66, 67, 68, 69] (fun k g w => ∃ m : List (Vc.Item × Int), g 35 = .int .i64 (k : Nat) ∧ k ≤ l.length ∧ Blk w a_ 101 [.slice bR (AW (AO l)).length bS, .map (some b7), .int .i64 (((AO l).length : Int) + 1), .int .i64 (wN (l.take k)), .int .i64 (tN (l.take k)), .int .i64 (EU l)] ∧ Blk w b1 101 [.slice none 0 0, .map none, .int .i64 0, .int .i64 0, .int .i64 0, .int .i64 0] ∧ MapIs w b7 (fun x : Vc.Item => Value.agg (Enc.enc x).toArray) (Value.int .i64) m ∧ (∀ x, Az m x = FL (CD (l.take k)) x) ∧ e0.heap.size ≤ w.heap.size ∧ Evo w0 w [] ∧ Evo bm w [a_, b7]) (fun k => l.length - k) 0 ?_ ?_)))))))
 refine ⟨[], σ, δ, (by have h9 := B12; rw [List.take_of_length_le ω, HS] at h9; exact h9), B1, C, (fun x => (RS x).symm), δ, hV, R⟩
 rintro k g gS ⟨m, hj27, hk_k, B12, B1, C, hmm, hzl25, hV, R⟩
 have b9 := hV.size
 have b4 := R.size
 have dn := B12.lt
 have dp := B1.lt
 have ds := C.lt
 have I := B12.at
 have J := B1.at
 refine Zk 35 hj27 ?_
 have gN := JI (Mj (l.getD k default)).kind
 have gO := YM (l.take k); have gM := UT (l.take k); have gx := List.length_take_le k l
 refine Zs (Zn Dn (AE (AH η (fun cp => ?_) (fun cp => ?_))))
 refine AJ (AE (AK (Zs (Zo (Ab (k) rfl underlying40 Aa η η χ ω ((bo _ hV).addr (i := k) ω)) ?_))))
 have bY := fun (w' : World) (h : Evo w0 w' []) => (bo w' h).atD (k) ω
 have ca := bY _ hV
 refine Zo (AL rfl BE Aa η rfl ca) (Bq (zs := [_, _, _]) (vs := [_, _, _]) Aa η rfl η (fun _ => rfl) η rfl rfl η ?_)
 intro b33 w34 J33 E34 B33 Y33
 have e8 := E34.size
 replace hV := Z0 hV E34
 replace R := Z0 R E34
 replace B12 := B12.evo0 E34
 replace B1 := B1.evo0 E34
 replace C := C.evo0 E34
 replace I := I.evo0 E34
 replace J := J.evo0 E34
 refine Ag (Zs (Zo (AL rfl BE Aa η rfl B33.at) (Zr [.agg _] rfl η func90 (Qq ((hq _ (EM (show k < l.length by omega))))) ?_)))
 rintro e gT ⟨rfl, F35⟩
 refine ⟨_, rfl, ?_⟩
 have e9 := F35.size
 replace hV := Z0 hV F35
 replace R := Z0 R F35
 replace B12 := B12.evo0 F35
 replace B1 := B1.evo0 F35
 replace C := C.evo0 F35
 replace I := I.evo0 F35
 replace J := J.evo0 F35
 refine Zo PW (Zo (AI (v := .agg _) rfl η η) (Zo (AI (v := .bool _) rfl η η) (Bq (zs := [_, _, _]) (vs := [_, _, _]) Aa η rfl η (fun _ => rfl) η rfl rfl η ?_)))
 intro b36 w37 J36 E37 B36 Y36
 have e_ := E37.size
 replace hV := Z0 hV E37
 replace R := Z0 R E37
 replace hl := bo _ hV
 replace al := bq _ R
 replace bf := bA _ R
 replace B12 := B12.evo0 E37
 replace B1 := B1.evo0 E37
 replace C := C.evo0 E37
 replace I := I.evo0 E37
 replace J := J.evo0 E37
 have U := B36.at
 refine Zn BV (AE (Zs (Zo Cb (Zn (Cd rfl η) (AH η (fun bc => ?_) (fun bc => ?_))))))
 have au := bc
 refine Ak rfl (AB (Zo Br (Zn AU (Zg (k + 1) ?_))))
 refine ⟨_, σ, δ, (by first | (have hy := FJ (l := l) (k := k) ω au; rw [I5 hy, Ig hy, (Ia bc).1, (Ia bc).2, Int.add_zero]; exact B12) | (have hy := FJ (l := l) (k := k) ω au; rw [I5 hy, Ig hy, (IH bc).1, (IH bc).2, Int.add_zero]; exact B12) | (have hy := LI (l := l) (k := k) ω au; rw [QU hy, Qn hy]; exact B12)), B1, C, (by first | (rw [FJ ω au]; exact G8 hmm hm2) | (rw [LI ω au]; exact hmm)), δ, hV, R⟩
 have au := Classical.not_not.1 bc
 refine AJ (AE ?_)
 have c9 := hmm (Mj (l.getD k default)); have gk : (Az (Co m (Mj (l.getD k default)) ((Az m (Mj (l.getD k default))).getD 0)) (Mj (l.getD k default))).getD 0 = (Az m (Mj (l.getD k default))).getD 0 := by rw [CW, if_pos rfl]; rfl
 have gm : (Az m (Mj (l.getD k default))).getD 0 = ((CD (l.take k)).count (Mj (l.getD k default)) : Nat) := by rw [c9, Kq]
 have gw := List.count_le_length (a := (Mj (l.getD k default))) (l := CD (l.take k)); have gu := Hf (l.take k)
 refine EC [46, 47, 48, 49, 50, 51, 52] (fun g w => ∃ m2 : List (Vc.Item × Int), Blk w a_ 101 [.slice bR (AW (AO l)).length bS, .map (some b7), .int .i64 (((AO l).length : Int) + 1), .int .i64 (wN (l.take k)), .int .i64 (tN (l.take k)), .int .i64 (EU l)] ∧ Blk w b1 101 [.slice none 0 0, .map none, .int .i64 0, .int .i64 0, .int .i64 0, .int .i64 0] ∧ Blk w b36 111 (Enc.enc (Mj (l.getD k default))) ∧ MapIs w b7 (fun x : Vc.Item => Value.agg (Enc.enc x).toArray) (Value.int .i64) m2 ∧ OY m m2 (Mj (l.getD k default)) 1 ∧ w37.heap.size ≤ w.heap.size ∧ Evo w0 w [] ∧ Evo bm w [a_, b7]) ?_ ?_
 have br := B12
 have bL := B1
 have bQ := C
 have ba := I
 have bF := J
 have bs := B36
 have bb := U
 have cc := hV
 have b0 := R
 refine Aw ([b7]) ζ ?_
 intro w40 F41 ag
 have fg := F41.size
 replace hV := Z0 hV F41
 replace R := Z0 R F41
 replace B12 := B12.evo0 F41
 replace B1 := B1.evo0 F41
 replace C := C.evo0 F41
 replace I := I.evo0 F41
 replace J := J.evo0 F41
 replace B36 := B36.evo0 F41
 replace U := U.evo0 F41
 refine Zt (i := 0) η (fun w' hC => AD rfl η Km) ag (Zt (i := 1) η (fun w' hC => AA rfl VL η ((ba.evo hC θ).cell 1 η)) ag (Zt (i := 2) η (fun w' hC => AL rfl BE Aa η rfl (bb.evo hC θ)) ag ?_))
 refine GM (i := 3) (j := 5) ζ ?_ ?_
 refine EO η ?_
 refine Zo (BM (a := (Mj (l.getD k default))) (z := 0) (v := .int _ _) DB rfl underlying97 Bd η η C rfl) ?_
 refine AZ ag ?_
 refine Zt (i := 4) η (fun w' hC => Bl rfl η η ω ω) ag ?_
 refine Zh (i := 5) ?_
 refine CX (a := (Mj (l.getD k default))) (z := 0) DB rfl underlying97 Bd η η C ?_
 intro s43 w43 F43 V43 hm_new hst43
 have fi := F43.size
 replace hV := Z1 hV F43 ε
 replace R := Z1 R F43 ε
 replace ag := Z1 ag F43 ε
 replace B12 := B12.evo F43 θ
 replace B1 := B1.evo F43 θ
 replace I := I.evo F43 θ
 replace J := J.evo F43 θ
 replace B36 := B36.evo F43 θ
 replace U := U.evo F43 θ
 replace C := hm_new
 clear hm_new
 refine AZ ag ?_
 refine Zt (i := 6) η (fun w' hC => AI (v := .int _ _) rfl η η) ag ?_
 refine Zh (i := 7) ?_
 refine Bw (a := (Mj (l.getD k default))) DB η η η C hst43 ?_
 intro w44 F44 V44 hm_new
 have fo := F44.size
 replace hV := Z1 hV F44 ε
 replace R := Z1 R F44 ε
 replace B12 := B12.evo F44 θ
 replace B1 := B1.evo F44 θ
 replace I := I.evo F44 θ
 replace J := J.evo F44 θ
 replace B36 := B36.evo F44 θ
 replace U := U.evo F44 θ
 replace C := hm_new
 clear hm_new
 refine Ah ζ ?_
 refine A5 ζ ?_
 refine Ad ?_ ?_
 refine ⟨_, B12, B1, B36, C, (by first | exact JS 1 | exact JR 1), δ, hV, R⟩
 exact ψ
 refine EO η ?_
 refine CX (a := (Mj (l.getD k default))) (z := 0) DB rfl underlying97 Bd η η C ?_
 intro s45 w45 F45 V45 hm_new hst45
 have fr := F45.size
 replace hV := Z1 hV F45 ε
 replace R := Z1 R F45 ε
 replace ag := Z1 ag F45 ε
 replace B12 := B12.evo F45 θ
 replace B1 := B1.evo F45 θ
 replace I := I.evo F45 θ
 replace J := J.evo F45 θ
 replace B36 := B36.evo F45 θ
 replace U := U.evo F45 θ
 replace C := hm_new
 clear hm_new
 refine AZ ag ?_
 refine Zt (i := 6) η (fun w' hC => AI (v := .int _ _) rfl η η) ag ?_
 refine Zh (i := 3) ?_
 refine Zo (BM (a := (Mj (l.getD k default))) (z := 0) (v := .int _ _) DB rfl underlying97 Bd η η C rfl) ?_
 refine AZ ag ?_
 refine Zt (i := 4) η (fun w' hC => Bl rfl η η ω ω) ag ?_
 refine Zh (i := 7) ?_
 refine Bw (a := (Mj (l.getD k default))) DB η η η C hst45 ?_
 intro w46 F46 V46 hm_new
 have fs := F46.size
 replace hV := Z1 hV F46 ε
 replace R := Z1 R F46 ε
 replace B12 := B12.evo F46 θ
 replace B1 := B1.evo F46 θ
 replace I := I.evo F46 θ
 replace J := J.evo F46 θ
 replace B36 := B36.evo F46 θ
 replace U := U.evo F46 θ
 replace C := hm_new
 clear hm_new
 refine Ah ζ ?_
 refine A5 ζ ?_
 refine Ad ?_ ?_
 refine ⟨_, B12, B1, B36, C, (by first | exact JS 1 | exact JR 1), δ, hV, R⟩
 exact ψ
 rintro g gU ⟨m2, B12, B1, B36, C, hm2, hzl39, hV, R⟩
 have b_ := hV.size
 have b5 := R.size
 have dO := B12.lt
 have d_ := B1.lt
 have ea := B36.lt
 have eb := C.lt
 have I := B12.at
 have J := B1.at
 have U := B36.at
 refine Zs (Zo (AL rfl BE Aa η rfl U) (Zr [.agg _] rfl η func91 (Lu (x := (Mj (l.getD k default)))) ?_))
 rintro e gV ⟨rfl, F52⟩
 refine ⟨_, rfl, ?_⟩
 have f_ := F52.size
 replace hV := Z0 hV F52
 replace R := Z0 R F52
 replace B12 := B12.evo0 F52
 replace B1 := B1.evo0 F52
 replace B36 := B36.evo0 F52
 replace C := C.evo0 F52
 replace I := I.evo0 F52
 replace J := J.evo0 F52
 replace U := U.evo0 F52
 refine Ag (AH η (fun aT => ?_) (fun aT => ?_))
 refine AB (Zo (AD rfl η Ep) (Zo (AD rfl η Hg) (Zo (AA rfl Ae η (I.cell 4 η)) (Zo Br (Zo (AD rfl η Ep) (Zo (AD rfl η Hg) (Ai (v := .int _ _) (vs := [_]) (cs' := [_, _, _, _, _, _]) η η B12 Bd η rfl η rfl η ?_)))))))
 intro w54 E54 V54 hb_new
 have gb := E54.size
 replace hV := Z1 hV E54 ε
 replace R := Z1 R E54 ε
 replace B1 := B1.evo E54 θ
 replace C := C.evo E54 θ
 replace J := J.evo E54 θ
 replace B12 := hb_new
 have I := B12.at
 clear hb_new
 refine Ag (AX (AB (Zo Br (Zn AU (Zg (k + 1) ?_)))))
 refine ⟨_, σ, δ, (by first | (have hy := FJ (l := l) (k := k) ω au; rw [I5 hy, Ig hy, (Ia aT).1, (Ia aT).2, Int.add_zero]; exact B12) | (have hy := FJ (l := l) (k := k) ω au; rw [I5 hy, Ig hy, (IH aT).1, (IH aT).2, Int.add_zero]; exact B12) | (have hy := LI (l := l) (k := k) ω au; rw [QU hy, Qn hy]; exact B12)), B1, C, (by first | (rw [FJ ω au]; exact G8 hmm hm2) | (rw [LI ω au]; exact hmm)), δ, hV, R⟩
 have br := B12
 have bL := B1
 have bs := B36
 have bQ := C
 have ba := I
 have bF := J
 have bb := U
 have cc := hV
 have b0 := R
 refine Aw ([]) ζ ?_
 intro w55 F56 az
 have gd := F56.size
 replace hV := Z0 hV F56
 replace R := Z0 R F56
 replace B12 := B12.evo0 F56
 replace B1 := B1.evo0 F56
 replace B36 := B36.evo0 F56
 replace C := C.evo0 F56
 replace I := I.evo0 F56
 replace J := J.evo0 F56
 replace U := U.evo0 F56
 refine Zt (i := 0) η (fun w' hC => AD rfl η Ep) az (Zt (i := 1) η (fun w' hC => AD rfl η Hb) az (Zt (i := 2) η (fun w' hC => AA rfl Ae η ((ba.evo0 hC).cell 3 η)) az (Zt (i := 3) η (fun w' hC => AL rfl BE Aa η rfl (bb.evo0 hC)) az ?_)))
 refine Zh (i := 4) ?_
 refine Zr [.agg _] rfl η func92 (Cf (x := (Mj (l.getD k default)))) ?_
 rintro e gW ⟨rfl, F58⟩
 refine ⟨_, rfl, ?_⟩
 have gf := F58.size
 replace hV := Z0 hV F58
 replace R := Z0 R F58
 replace az := Z0 az F58
 replace B12 := B12.evo0 F58
 replace B1 := B1.evo0 F58
 replace C := C.evo0 F58
 replace I := I.evo0 F58
 replace J := J.evo0 F58
 refine AZ az ?_
 refine Zt (i := 5) η (fun w' hC => Bl rfl η η ω ω) az (Zt (i := 6) η (fun w' hC => AD rfl η Ep) az (Zt (i := 7) η (fun w' hC => AD rfl η Hb) az ?_))
 refine Zh (i := 8) ?_
 refine Ai (v := .int _ _) (vs := [_]) (cs' := [_, _, _, _, _, _]) η η B12 Bd η rfl η rfl η ?_
 intro w59 E59 V59 hb_new
 have gg := E59.size
 replace hV := Z1 hV E59 ε
 replace R := Z1 R E59 ε
 replace B1 := B1.evo E59 θ
 replace C := C.evo E59 θ
 replace J := J.evo E59 θ
 replace B12 := hb_new
 have I := B12.at
 clear hb_new
 refine Ah ζ ?_
 refine A5 ζ ?_
 refine AX (AB (Zo Br (Zn AU (Zg (k + 1) ?_))))
 refine ⟨_, σ, δ, (by first | (have hy := FJ (l := l) (k := k) ω au; rw [I5 hy, Ig hy, (Ia aT).1, (Ia aT).2, Int.add_zero]; exact B12) | (have hy := FJ (l := l) (k := k) ω au; rw [I5 hy, Ig hy, (IH aT).1, (IH aT).2, Int.add_zero]; exact B12) | (have hy := LI (l := l) (k := k) ω au; rw [QU hy, Qn hy]; exact B12)), B1, C, (by first | (rw [FJ ω au]; exact G8 hmm hm2) | (rw [LI ω au]; exact hmm)), δ, hV, R⟩
 refine Ak rfl (AE ?_)
 rw [List.take_of_length_le ω] at B12 I hmm
 refine AB (Zo (AL rfl Pw DH η rfl I) (Ai (v := .agg _) (vs := [_, _, _, _, _, _]) (cs' := [_, _, _, _, _, _]) η η B1 DH η rfl η rfl η ?_))
 intro w60 E60 V60 hb_new
 have gh := E60.size
 replace hV := Z1 hV E60 ε
 replace al := (bq _ R).evo E60 (by intro g hg hm; simp at hm; subst hm; have h7 := b2 g hg; omega)
 replace B12 := B12.evo E60 θ
 replace C := C.evo E60 θ
 replace I := I.evo E60 θ
 replace B1 := hb_new
 have J := B1.at
 clear hb_new
 refine Ag (AM (Nn (cs := [_, _, _, _, _, _]) rfl Pw DH η rfl J) ?_)
 exact ⟨_, _, _, _, _, rfl, hV, al.base_le ω, C, hmm, by omega⟩
end Go.Proofs.YtbgmlpbgofcfjaaGreatDoor
