/-
  Library, plain laws and walks that the statements reach (joined by a program out of smaller texts).
-/
import Derived.Test.YtkklomiipkipnaaGreatDoorKc
import Derived.Test.YtkklomiipkipnaaGreatDoorKb
import Derived.Deep.Strs
namespace Go.Vc
open Go Go.RowKit Go.IntWalk Go.Deep
instance : Enc Ende := ⟨2, fun x => [S x.strip, S x.add], fun _ => rfl, fun _ => rfl, by decide⟩
def BdE (x : Ende) : Prop := x.strip.length ≤ 140737488351232 ∧ x.add.length ≤ 140737488351232
def BdC (x : Clas) : Prop := x.name.length ≤ 140737488351232 ∧ (∀ y ∈ x.ends, BdE y) ∧ x.ends.length ≤ 4398046510976
instance : Rep Clas where
  n := 2
  rep w cs x := (∃ ao b off cap, cs = [S x.name, .slice ao x.ends.length cap] ∧ RowE w ao b off cap x.ends) ∧ BdC x
  len := fun ⟨⟨_, _, _, _, h, _⟩, _⟩ => by rw [h]; rfl
  evo0 := fun ⟨⟨ao, b, off, cap, h, hr⟩, hb⟩ he => ⟨⟨ao, b, off, cap, h, hr.evo0 he⟩, hb⟩
  pos := by decide
theorem clas_atK {w : World} {E : List Nat} {ao : Option Addr} {b off cap : Nat} {l : List Clas} (h : RowRK w E ao b off cap l) (k : Nat) (hk : k < l.length) :
    ∃ ao' b' off' cap', ∀ w', Evo w w' E → At w' b (off + k * 2) [S (l.getD k default).name, .slice ao' (l.getD k default).ends.length cap'] ∧ RowE w' ao' b' off' cap' (l.getD k default).ends := by
  obtain ⟨cs, h1⟩ := h.atD k hk
  obtain ⟨ao', b', off', cap', h2, h3⟩ := (h1 w (Evo.refl _ _)).2.1
  refine ⟨ao', b', off', cap', fun w' he => ⟨h2 ▸ (h1 w' he).1, ?_⟩⟩
  obtain ⟨ao2, b2, off2, cap2, h4, h5⟩ := (h1 w' he).2.1
  rw [h2] at h4
  simp only [List.cons.injEq, Value.slice.injEq, and_true, true_and] at h4
  obtain ⟨rfl, rfl⟩ := h4
  exact rowE_same h5 h3
theorem clas_bd {w : World} {ao : Option Addr} {b off cap : Nat} {l : List Clas} (h : RowR w ao b off cap l) : ∀ x ∈ l, BdC x := fun x hx => by
  obtain ⟨css, _, hl, hr⟩ := h
  obtain ⟨i, hi⟩ := List.getElem?_of_mem hx
  have hi2 : i < l.length := (List.getElem?_eq_some_iff.1 hi).1
  exact (hr i (css[i]'(by omega)) x (by simp [hl, hi2]) hi).2
theorem getD_in {α : Type} [Inhabited α] {l : List α} {k : Nat} (h : k < l.length) : l.getD k default ∈ l := by
  have e : l.getD k default = l[k] := by simp [List.getD, h]
  rw [e]; exact List.getElem_mem _
theorem ends_bd {c : List Clas} (h : ∀ x ∈ c, BdC x) (n : Str) (k : Nat) : BdE ((endsL c n).getD k default) := by
  have h0 : BdE default := ⟨Nat.zero_le _, Nat.zero_le _⟩
  by_cases h1 : 0 ≤ findC c n
  · rw [ends_at h1]
    rcases Nat.lt_or_ge k (c.getD (findC c n).toNat default).ends.length with h2 | h2
    · have h3 := findC_lt c n
      have h4 : (findC c n).toNat < c.length := by omega
      exact (h _ (getD_in h4)).2.1 _ (getD_in h2)
    · rw [List.getD_eq_getElem?_getD, List.getElem?_eq_none h2]; exact h0
  · rw [ends_none h1]; exact h0
theorem ends_len {c : List Clas} (h : ∀ x ∈ c, BdC x) (n : Str) : (endsL c n).length ≤ 4398046510976 := by
  by_cases h1 : 0 ≤ findC c n
  · rw [ends_at h1]
    have h3 := findC_lt c n
    exact (h _ (getD_in (by omega : (findC c n).toNat < c.length))).2.2
  · rw [ends_none h1]; exact Nat.zero_le _
theorem ends_ifbd {c : List Clas} {q : Str} (h : ∀ k, BdE ((endsL c q).getD k default)) (k : Nat) : BdE ((if q = [] then ([] : List Ende) else endsL c q).getD k default) := by
  by_cases hq : q = []
  · rw [if_pos hq]; exact ⟨Nat.zero_le _, Nat.zero_le _⟩
  · rw [if_neg hq]; exact h k
theorem ends_iflen {c : List Clas} {q : Str} {n : Nat} (h : (endsL c q).length ≤ n) : (if q = [] then ([] : List Ende) else endsL c q).length ≤ n := by
  by_cases hq : q = []
  · rw [if_pos hq]; exact Nat.zero_le _
  · rw [if_neg hq]; exact h
end Go.Vc
namespace Go.Vc
open Go Go.RowKit Go.IntWalk
section
variable {P : Program} {w : World} {f : Fr} {o : Oper}
theorem equalIn_str (d : Nat) {T : TypeId} (u : P.underlying T = some .string) (a b : Str) : (Op.equalIn (d + 1) T (S a) (S b)).run P w = .ok (a == b) w := by
  have := run_equalIn_string (P := P) w d T ⟨a.toArray⟩ ⟨b.toArray⟩ u
  rw [toList_S, toList_S] at this
  exact this
theorem equalIn_ende (d : Nat) {T : TypeId} {f0 f1 : Field} (hu : P.underlying T = some (.struct #[f0, f1])) (hp : P.stoodInHeld T = false) (n0 : f0.name ≠ "_") (n1 : f1.name ≠ "_")
    (o0 : f0.offset = 0) (o1 : f1.offset = 1) (u0 : P.underlying f0.type = some .string) (u1 : P.underlying f1.type = some .string)
    (a0 : aggP P f0.type = some false) (a1 : aggP P f1.type = some false) (x y : Ende) :
    (Op.equalIn (d + 2) T (.agg (Enc.enc x).toArray) (.agg (Enc.enc y).toArray)).run P w = .ok (decide (x = y)) w := by
  have hf : P.fieldsOf T = #[f0, f1] := by simp [Program.fieldsOf, hu]
  rw [run_equalIn_struct (P := P) w (d + 1) T _ _ (by rw [hf]; exact hu) hp, hf]
  have p0 : ∀ (z : Ende), (part f0.type (Enc.enc z).toArray 0).run P w = .ok (S z.strip) w := fun z => run_part1 a0 rfl
  have p1 : ∀ (z : Ende), (part f1.type (Enc.enc z).toArray 1).run P w = .ok (S z.add) w := fun z => run_part1 a1 rfl
  have e0 := equalIn_str (P := P) (w := w) d u0 x.strip y.strip
  have e1 := equalIn_str (P := P) (w := w) d u1 x.add y.add
  have key : (Op.eqFields (d + 1) (Enc.enc x).toArray (Enc.enc y).toArray [f0, f1]).run P w = .ok ((x.strip == y.strip) && (x.add == y.add)) w := by
    simp only [Op.eqFields, n0, n1, o0, o1, ne_eq, not_false_eq_true, if_true, Sem.run_bind, p0, e0, Result.andThen_ok]
    cases (x.strip == y.strip) with
    | false => simp
    | true =>
      simp only [Bool.not_true, Bool.false_eq_true, if_false, Sem.run_bind, p1, e1, Result.andThen_ok, Bool.true_and]
      cases (x.add == y.add) with
      | false => simp
      | true => simp
  have e3 : ((x.strip == y.strip) && (x.add == y.add)) = decide (x = y) := by
    obtain ⟨k1, t1⟩ := x
    obtain ⟨k2, t2⟩ := y
    rw [Bool.eq_iff_iff]
    simp
  rw [← e3]
  exact key
theorem run_eqlG {α : Type} [Enc α] [DecidableEq α] {T T2 : TypeId} {x y : Operand} (a b : α) (ho : o.op = .binOp .eql T x y T2) (hg : P.eqGuardType P.depth T = false) (he : ∀ (w : World) (x y : α), (Op.equalIn 10000 T (.agg (Enc.enc x).toArray) (.agg (Enc.enc y).toArray)).run P w = .ok (decide (x = y)) w)
    (hx : opv f x = .agg (Enc.enc a).toArray) (hy : opv f y = .agg (Enc.enc b).toArray) : (execOp (opv f) o).run P w = .ok (.value (.bool (decide (a = b)))) w := by
  unfold execOp; rw [ho]; simp only []; rw [hx, hy]
  simp only [Sem.run_bind, run_eqGuard_agg w .eql T x y _ _ hg, Result.andThen_ok, run_eql_struct, he, Sem.run_pure]
end
end Go.Vc
namespace Go.Vc
open Go Go.RowKit Go.IntWalk Go.Deep
def decW (n : Nat) (s : Str) : Str := if n / 10 = 0 then UInt8.ofNat (48 + n % 10) :: s else decW (n / 10) (UInt8.ofNat (48 + n % 10) :: s)
termination_by n
decreasing_by omega
theorem decW_stop {n : Nat} (s : Str) (h : n / 10 = 0) : decW n s = UInt8.ofNat (48 + n % 10) :: s := by rw [decW, if_pos h]
theorem decW_go {n : Nat} (s : Str) (h : ¬ n / 10 = 0) : decW n s = decW (n / 10) (UInt8.ofNat (48 + n % 10) :: s) := by rw [decW, if_neg h]
theorem decW_len : ∀ (k n : Nat) (s : Str), n < 10 ^ (k + 1) → (decW n s).length ≤ s.length + (k + 1)
  | 0, n, s, h => by rw [decW_stop s (by omega)]; simp
  | k + 1, n, s, h => by
    by_cases h1 : n / 10 = 0
    · rw [decW_stop s h1]; simp
    · rw [decW_go s h1]
      have := decW_len k (n / 10) (UInt8.ofNat (48 + n % 10) :: s) (by rw [Nat.pow_succ] at h; omega)
      simp only [List.length_cons] at this
      omega
def stripsL : List Str := [[], [], [121], [115], [97]]
def addsL : List Str := [[115], [105, 101, 115], [], [101, 115], [97], [101, 114]]
def MadeE (es : List Ende) : Prop := es.Nodup ∧ ∀ e ∈ es, e.strip ∈ stripsL ∧ e.add ∈ addsL
def MadeP (cl : List Clas) (N i : Nat) : Prop := cl.length + i = N ∧ (∀ k, (h : k < cl.length) → (cl[k]'h).name = 99 :: decW (N - k) []) ∧ ∀ x ∈ cl, MadeE x.ends ∧ x.ends.length ≤ 3
theorem MadeE.nil : MadeE [] := ⟨List.nodup_nil, by simp⟩
theorem MadeP.nil (N : Nat) : MadeP [] N N := ⟨by simp, by simp, by simp⟩
theorem strip_len {s : Str} (h : s ∈ stripsL) : s.length ≤ 1 := by
  have : ∀ s ∈ stripsL, s.length ≤ 1 := by decide
  exact this s h
theorem add_len {s : Str} (h : s ∈ addsL) : s.length ≤ 3 := by
  have : ∀ s ∈ addsL, s.length ≤ 3 := by decide
  exact this s h
theorem MadeE.bd {es : List Ende} (h : MadeE es) : ∀ e ∈ es, BdE e := fun e he => by
  have h1 := strip_len (h.2 e he).1
  have h2 := add_len (h.2 e he).2
  exact ⟨by omega, by omega⟩
theorem made_bdC {es : List Ende} {n : Nat} (h : MadeE es) (hl : es.length ≤ 3) (hn : n ≤ 9) : BdC ⟨99 :: decW n [], es⟩ := by
  have := decW_len 0 n [] (by omega)
  refine ⟨?_, h.bd, ?_⟩
  · simp only [List.length_cons, List.length_nil] at this ⊢; omega
  · show es.length ≤ _; omega
theorem MadeP.mem {cl : List Clas} {N i : Nat} (h : MadeP cl N i) {x : Clas} (hx : x ∈ cl) : MadeE x.ends ∧ x.ends.length ≤ 3 := h.2.2 x hx
theorem MadeP.bd {cl : List Clas} {N i : Nat} (h : MadeP cl N i) (hN : N ≤ 9) : ∀ x ∈ cl, BdC x := fun x hx => by
  obtain ⟨k, hk, rfl⟩ := List.mem_iff_getElem.1 hx
  have h1 := h.2.1 k hk
  have h2 := h.2.2 _ hx
  have h3 := made_bdC (n := N - k) h2.1 h2.2 (by omega)
  rw [← h1] at h3
  exact h3
end Go.Vc
namespace Go.Vc
open Go Go.RowKit Go.IntWalk
def cn9 (l : Array Bool) : Nat := (l.getD 2 false).toNat + (l.getD 7 false).toNat
def Phi9 (z bs EN : Nat) : Nat → Fr → World → Prop
  | 0, g, w => ∃ b, (z ≤ b ∧ b < w.heap.size) ∧ g 31 = .slice (some ⟨b, 0, none⟩) 5 5 ∧ RowE w (some ⟨b, 0, none⟩) b 0 5 stripsL
  | 1, g, _ => g 32 = .pointer (some ⟨bs, 0, none⟩)
  | 2, g, _ => ∃ r, g 33 = .int .i64 r ∧ 0 ≤ r ∧ r < 5
  | 3, g, w => ∃ b j s, (z ≤ b ∧ b < w.heap.size) ∧ g 34 = .pointer (some ⟨b, j, none⟩) ∧ At w b j [S s] ∧ s ∈ stripsL
  | 4, g, _ => ∃ s, g 35 = S s ∧ s ∈ stripsL
  | 5, g, w => ∃ b, (z ≤ b ∧ b < w.heap.size) ∧ g 36 = .slice (some ⟨b, 0, none⟩) 6 6 ∧ RowE w (some ⟨b, 0, none⟩) b 0 6 addsL
  | 6, g, _ => g 37 = .pointer (some ⟨bs, 0, none⟩)
  | 7, g, _ => ∃ r, g 38 = .int .i64 r ∧ 0 ≤ r ∧ r < 6
  | 8, g, w => ∃ b j s, (z ≤ b ∧ b < w.heap.size) ∧ g 39 = .pointer (some ⟨b, j, none⟩) ∧ At w b j [S s] ∧ s ∈ addsL
  | 9, g, _ => ∃ s, g 40 = S s ∧ s ∈ addsL
  | 10, g, _ => ∃ s t, g 41 = .agg #[S s, S t] ∧ s ∈ stripsL ∧ t ∈ addsL
  | 11, g, w => ∃ b, (z ≤ b ∧ b < w.heap.size) ∧ g 9 = .pointer (some ⟨b, 0, none⟩) ∧ ∃ s t, Blk w b EN [S s, S t]
  | _, _, _ => True
def Fin9 (z EN : Nat) (g : Fr) (w : World) : Prop := ∃ b s t, (z ≤ b ∧ b < w.heap.size) ∧ g 9 = .pointer (some ⟨b, 0, none⟩) ∧ Blk w b EN [S s, S t] ∧ s ∈ stripsL ∧ t ∈ addsL
def I9 (wR : World) (bs EN T N2 : Nat) (c : Value) (l : Array Bool) (g : Fr) (w : World) : Prop :=
  Evo wR w [bs] ∧ Blk w bs T [c, .int .i64 (N2 + cn9 l : Nat)] ∧ ((l.getD 12 false = false ∧ ∀ j, l.getD j false = true → Phi9 wR.heap.size bs EN j g w) ∨ (l.getD 12 false = true ∧ Fin9 wR.heap.size EN g w ∧ ∀ j, j < 12 → l.getD j false = true))
theorem I9.last {wR w' : World} {bs EN T N2 : Nat} {c : Value} {l : Array Bool} {g' : Fr} (hu : l.getD 12 true = false) (hall : ∀ j, j < 12 → l.getD j false = true)
    (he : Evo wR w' [bs]) (hb : Blk w' bs T [c, .int .i64 (N2 + cn9 (l.setIfInBounds 12 true) : Nat)]) (hn : Fin9 wR.heap.size EN g' w') : I9 wR bs EN T N2 c (l.setIfInBounds 12 true) g' w' :=
  ⟨he, hb, .inr ⟨set_eq (un_false hu).2, hn, fun j hj => by rw [set_ne (by omega)]; exact hall j hj⟩⟩
theorem I9.done {wR w : World} {bs EN T N2 : Nat} {c : Value} {g : Fr} (h : I9 wR bs EN T N2 c (Array.replicate 13 true) g w) : Evo wR w [bs] ∧ Blk w bs T [c, .int .i64 (N2 + 2 : Nat)] ∧ Fin9 wR.heap.size EN g w := by
  obtain ⟨h1, h2, h3 | h3⟩ := h
  · exact absurd h3.1 (by decide)
  · exact ⟨h1, h2, h3.2.1⟩
end Go.Vc
namespace Go.Vc
open Go Go.RowKit Go.IntWalk Go.Deep
structure Raw2 where
  a : Value
  b : Value
  ok : oneCells [a, b] = true
instance : Inhabited Raw2 := ⟨⟨S [], S [], rfl⟩⟩
instance : Enc Raw2 := ⟨2, fun x => [x.a, x.b], fun _ => rfl, fun x => x.ok, by decide⟩
end Go.Vc
namespace Go.Vc
open Go Go.RowKit Go.IntWalk Go.Deep
structure TermL where
  words : List Ende
  req : List Str
  forb : List Str
deriving Inhabited
instance : Rep TermL where
  n := 3
  rep w cs x := (∃ ao b off cap ao1 b1 off1 cap1 ao2 b2 off2 cap2, cs = [.slice ao x.words.length cap, .slice ao1 x.req.length cap1, .slice ao2 x.forb.length cap2] ∧ RowE w ao b off cap x.words ∧ RowE w ao1 b1 off1 cap1 x.req ∧ RowE w ao2 b2 off2 cap2 x.forb) ∧ (x.words.length ≤ 4398046510976 ∧ ∀ y ∈ x.words, BdE y)
  len := fun ⟨⟨_, _, _, _, _, _, _, _, _, _, _, _, h, _⟩, _⟩ => by rw [h]; rfl
  evo0 := fun ⟨⟨ao, b, off, cap, ao1, b1, off1, cap1, ao2, b2, off2, cap2, h, h1, h2, h3⟩, hb⟩ he => ⟨⟨ao, b, off, cap, ao1, b1, off1, cap1, ao2, b2, off2, cap2, h, h1.evo0 he, h2.evo0 he, h3.evo0 he⟩, hb⟩
  pos := by decide
theorem term_at {w : World} {ao : Option Addr} {b off cap : Nat} {l : List TermL} (h : RowR w ao b off cap l) (k : Nat) (hk : k < l.length) :
    ∃ aoW bW offW capW aoQ bQ offQ capQ aoF bF offF capF, At w b (off + k * 3) [.slice aoW (l.getD k default).words.length capW, .slice aoQ (l.getD k default).req.length capQ, .slice aoF (l.getD k default).forb.length capF] ∧ RowE w aoW bW offW capW (l.getD k default).words ∧ RowE w aoQ bQ offQ capQ (l.getD k default).req ∧ RowE w aoF bF offF capF (l.getD k default).forb := by
  obtain ⟨cs, h1, ⟨ao, b, off, cap, ao1, b1, off1, cap1, ao2, b2, off2, cap2, h2, h3, h4, h5⟩, _⟩ := h.atD k hk
  exact ⟨_, _, _, _, _, _, _, _, _, _, _, _, h2 ▸ h1, h3, h4, h5⟩
theorem term_atK {w : World} {E : List Nat} {ao : Option Addr} {b off cap : Nat} {l : List TermL} (h : RowRK w E ao b off cap l) (k : Nat) (hk : k < l.length) :
    ∃ aoW bW offW capW aoQ bQ offQ capQ aoF bF offF capF, ∀ w', Evo w w' E → At w' b (off + k * 3) [.slice aoW (l.getD k default).words.length capW, .slice aoQ (l.getD k default).req.length capQ, .slice aoF (l.getD k default).forb.length capF] ∧ RowE w' aoW bW offW capW (l.getD k default).words ∧ RowE w' aoQ bQ offQ capQ (l.getD k default).req ∧ RowE w' aoF bF offF capF (l.getD k default).forb := by
  obtain ⟨cs, h1⟩ := h.atD k hk
  obtain ⟨ao, b, off, cap, ao1, b1, off1, cap1, ao2, b2, off2, cap2, h2, h3, h4, h5⟩ := (h1 w (Evo.refl _ _)).2.1
  refine ⟨ao, b, off, cap, ao1, b1, off1, cap1, ao2, b2, off2, cap2, fun w' he => ⟨h2 ▸ (h1 w' he).1, ?_⟩⟩
  obtain ⟨ao', b', off', cap', ao1', b1', off1', cap1', ao2', b2', off2', cap2', h2', h3', h4', h5'⟩ := (h1 w' he).2.1
  rw [h2] at h2'
  simp only [List.cons.injEq, Value.slice.injEq, and_true, true_and] at h2'
  obtain ⟨⟨rfl, rfl⟩, ⟨rfl, rfl⟩, rfl, rfl⟩ := h2'
  exact ⟨rowE_same h3' h3, rowE_same h4' h4, rowE_same h5' h5⟩
theorem term_bd {w : World} {ao : Option Addr} {b off cap : Nat} {l : List TermL} (h : RowR w ao b off cap l) : ∀ x ∈ l, x.words.length ≤ 4398046510976 ∧ ∀ y ∈ x.words, BdE y := fun x hx => by
  obtain ⟨css, _, hl, hr⟩ := h
  obtain ⟨i, hi⟩ := List.getElem?_of_mem hx
  have hi2 : i < l.length := (List.getElem?_eq_some_iff.1 hi).1
  exact (hr i (css[i]'(by omega)) x (by simp [hl, hi2]) hi).2
structure SetS where
  ks : List Str
deriving Inhabited
def eU : Unit → Value := fun _ => Value.agg #[]
def SetIs (w : World) (b : Nat) (ks : List Str) : Prop := ∃ m : List (Str × Unit), MapIs w b S eU m ∧ ∀ s, (getM m s).isSome = true ↔ s ∈ ks
theorem SetIs.evo {w w' : World} {b : Nat} {ks : List Str} {E : List Nat} (h : SetIs w b ks) (he : Evo w w' E) (hn : b ∉ E) : SetIs w' b ks := by
  obtain ⟨m, h1, h2⟩ := h; exact ⟨m, h1.evo he hn, h2⟩
theorem SetIs.evo0 {w w' : World} {b : Nat} {ks : List Str} (h : SetIs w b ks) (he : Evo w w' []) : SetIs w' b ks := h.evo he (by simp)
theorem SetIs.lt {w : World} {b : Nat} {ks : List Str} (h : SetIs w b ks) : b < w.heap.size := by obtain ⟨m, h1, _⟩ := h; exact h1.lt
theorem SetIs.bd {w : World} {b : Nat} {ks : List Str} (_ : SetIs w b ks) : True := trivial
instance : Rep SetS where
  n := 1
  rep w cs x := ∃ b, cs = [.map (some b)] ∧ SetIs w b x.ks
  len := fun ⟨_, h, _⟩ => by rw [h]; rfl
  evo0 := fun ⟨b, h, hm⟩ he => ⟨b, h, hm.evo0 he⟩
  pos := by decide
theorem set_atK {w : World} {E : List Nat} {ao : Option Addr} {b off cap : Nat} {l : List SetS} (h : RowRK w E ao b off cap l) (k : Nat) (hk : k < l.length) :
    ∃ bM, ∀ w', Evo w w' E → At w' b (off + k * 1) [.map (some bM)] ∧ SetIs w' bM (l.getD k default).ks := by
  obtain ⟨cs, h1⟩ := h.atD k hk
  obtain ⟨bM, h2, _⟩ := (h1 w (Evo.refl _ _)).2
  refine ⟨bM, fun w' he => ⟨h2 ▸ (h1 w' he).1, ?_⟩⟩
  obtain ⟨b', h4, h5⟩ := (h1 w' he).2
  rw [h2] at h4
  simp only [List.cons.injEq, Value.map.injEq, Option.some.injEq, and_true] at h4
  rw [h4]; exact h5
end Go.Vc
namespace Go.Vc
open Go Go.RowKit Go.IntWalk
def FRow (w : World) (bt : Nat) (v : Value) (l : List (List Str)) : Prop := ∀ w', Evo w w' [bt] → ∃ ao b off cap, v = .slice ao (l.map SetS.mk).length cap ∧ RowR w' ao b off cap (l.map SetS.mk)
theorem FRow.evo {w w' : World} {bt : Nat} {v : Value} {l : List (List Str)} (h : FRow w bt v l) (he : Evo w w' [bt]) : FRow w' bt v l := fun w2 h2 => h w2 (Evo.trans he h2 (fun x hx _ => hx))
theorem FRow.of {w : World} {base E bt : Nat} {v : Value} {l : List (List Str)} (h : OwnR w base E [bt] v (l.map SetS.mk)) (hb : bt < base) : FRow w bt v l := fun w' he => by
  obtain ⟨ao, g, cap, hv, hr⟩ := (h.evoY he (fun y hy => by have e : y = bt := (by simpa using hy); omega)).rowOf
  exact ⟨ao, g, 0, cap, hv, hr⟩
theorem nth_mk (l : List (List Str)) : (l.map SetS.mk).map (·.ks) = l := by rw [List.map_map]; exact List.map_id' l
end Go.Vc
namespace Go.Vc
open Go Go.RowKit Go.IntWalk Go.Deep
structure TmsL where
  ts : List TermL
deriving Inhabited
instance : Rep TmsL where
  n := 1
  rep w cs x := ∃ ao b off cap, cs = [.slice ao x.ts.length cap] ∧ RowR w ao b off cap x.ts
  len := fun ⟨_, _, _, _, h, _⟩ => by rw [h]; rfl
  evo0 := fun ⟨ao, b, off, cap, h, h1⟩ he => ⟨ao, b, off, cap, h, h1.evo0 he⟩
  pos := by decide
theorem tms_rep {w : World} {ao : Option Addr} {b off cap : Nat} {l : List TermL} (h : RowR w ao b off cap l) : Rep.rep w [.slice ao l.length cap] (⟨l⟩ : TmsL) := ⟨ao, b, off, cap, rfl, h⟩
theorem tms_at {w : World} {ao : Option Addr} {b off cap : Nat} {l : List TmsL} (h : RowR w ao b off cap l) (k : Nat) (hk : k < l.length) :
    ∃ ao1 b1 off1 cap1, At w b (off + k * 1) [.slice ao1 (l.getD k default).ts.length cap1] ∧ RowR w ao1 b1 off1 cap1 (l.getD k default).ts := by
  obtain ⟨cs, h1, ao1, b1, off1, cap1, h2, h3⟩ := h.atD k hk
  exact ⟨_, _, _, _, h2 ▸ h1, h3⟩
theorem term_reps {w : World} {ao ao1 ao2 : Option Addr} {b off cap b1 off1 cap1 b2 off2 cap2 : Nat} {x : TermL} (h : RowE w ao b off cap x.words) (h1 : RowE w ao1 b1 off1 cap1 x.req) (h2 : RowE w ao2 b2 off2 cap2 x.forb) (hb : x.words.length ≤ 4398046510976 ∧ ∀ y ∈ x.words, BdE y) :
    Rep.rep w [.slice ao x.words.length cap, .slice ao1 x.req.length cap1, .slice ao2 x.forb.length cap2] x := ⟨⟨_, _, _, _, _, _, _, _, _, _, _, _, rfl, h, h1, h2⟩, hb⟩
end Go.Vc
