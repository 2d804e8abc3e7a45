/-
  Library, plain laws and walks that the statements reach (joined by a program out of smaller texts).
-/
import Derived.Test.YtkklomiipkipnaaGreatDoorUc
import Derived.Test.YtkklomiipkipnaaGreatDoorUb
import Derived.Deep.Strs
namespace Go.Vc
open Go Go.RowKit Go.IntWalk Go.Deep
instance : Enc Ende := ⟨2, fun x => [S x.strip, S x.add], fun _ => rfl, fun _ => rfl, by decide⟩
def BdE (x : Ende) : Prop := x.strip.length ≤ 140737488351232 ∧ x.add.length ≤ 140737488351232
def BdC (x : Clas) : Prop := x.name.length ≤ 140737488351232 ∧ (∀ y ∈ x.ends, BdE y) ∧ x.ends.length ≤ 4398046510976
instance : Rep Clas where
  n := 2
  rep w cs x := (∃ ao b off cap, cs = [S x.name, .slice ao x.ends.length cap] ∧ RowE w ao b off cap x.ends) ∧ BdC x
  len := fun ⟨⟨_, _, _, _, h, _⟩, _⟩ => by rw [h]; rfl
  evo0 := fun ⟨⟨ao, b, off, cap, h, hr⟩, hb⟩ he => ⟨⟨ao, b, off, cap, h, hr.evo0 he⟩, hb⟩
  pos := by decide
theorem clas_atK {w : World} {E : List Nat} {ao : Option Addr} {b off cap : Nat} {l : List Clas} (h : RowRK w E ao b off cap l) (k : Nat) (hk : k < l.length) :
    ∃ ao' b' off' cap', ∀ w', Evo w w' E → At w' b (off + k * 2) [S (l.getD k default).name, .slice ao' (l.getD k default).ends.length cap'] ∧ RowE w' ao' b' off' cap' (l.getD k default).ends := by
  obtain ⟨cs, h1⟩ := h.atD k hk
  obtain ⟨ao', b', off', cap', h2, h3⟩ := (h1 w (Evo.refl _ _)).2.1
  refine ⟨ao', b', off', cap', fun w' he => ⟨h2 ▸ (h1 w' he).1, ?_⟩⟩
  obtain ⟨ao2, b2, off2, cap2, h4, h5⟩ := (h1 w' he).2.1
  rw [h2] at h4
  simp only [List.cons.injEq, Value.slice.injEq, and_true, true_and] at h4
  obtain ⟨rfl, rfl⟩ := h4
  exact rowE_same h5 h3
theorem clas_bd {w : World} {ao : Option Addr} {b off cap : Nat} {l : List Clas} (h : RowR w ao b off cap l) : ∀ x ∈ l, BdC x := fun x hx => by
  obtain ⟨css, _, hl, hr⟩ := h
  obtain ⟨i, hi⟩ := List.getElem?_of_mem hx
  have hi2 : i < l.length := (List.getElem?_eq_some_iff.1 hi).1
  exact (hr i (css[i]'(by omega)) x (by simp [hl, hi2]) hi).2
theorem elem_ende {P : Program} {e : TypeId} {f0 f1 : Field} (ht : P.underlying e = some (.struct #[f0, f1])) (h2 : P.cellsOf e = 2) (o0 : f0.offset = 0) (c0 : P.cellsOf f0.type = 1) (o1 : f1.offset = 1) (c1 : P.cellsOf f1.type = 1)
    (u0 : P.underlying f0.type = some .string) (u1 : P.underlying f1.type = some .string) {H : Type} {enc : TypeId × Value → H} {w : World} {base : Nat} {sp : Nat → Bool} {hd : Bool} {n : Nat} {cs : List Value} {d : DataW H} {pl : List MemPlace}
    (h : DataW.trod enc P w base sp hd n e cs = some (d, pl)) (hw : ∀ m ∈ d.weights P e, m ≤ reachBytes) : ∃ x : Ende, cs = Enc.enc x ∧ BdE x := by
  obtain ⟨y0, y1, m, hxd, hl, h3, h4⟩ := ChangeShapes.trod_struct2 ht h
  rw [o0, c0] at h3
  rw [o1, c1] at h4
  rw [h2] at hl
  match cs, hl with
  | [v0, v1], _ =>
    obtain ⟨s, e0, e0a, _⟩ := DataW.trod_string u0 (by simpa using h3)
    obtain ⟨t, e1, e1a, _⟩ := DataW.trod_string u1 (by simpa using h4)
    simp only [List.cons.injEq, and_true] at e0 e1
    subst e0; subst e1
    have hd2 : d = .agg [y0.1, y1.1] := congrArg Prod.fst hxd
    have hy0 : y0.1 = .lit (.string s.data.toList) := congrArg Prod.fst e0a
    have hy1 : y1.1 = .lit (.string t.data.toList) := congrArg Prod.fst e1a
    have h5 : reachBytes = 140737488351232 := rfl
    have h6 := hw s.data.toList.length (by rw [hd2, hy0]; simp [DataW.weights, ht, DataW.weightsEach])
    have h7 := hw t.data.toList.length (by rw [hd2, hy1]; simp [DataW.weights, ht, DataW.weightsEach])
    exact ⟨⟨s.data.toList, t.data.toList⟩, by cases s; cases t; rfl, by show s.data.toList.length ≤ _; omega, by show t.data.toList.length ≤ _; omega⟩
theorem open_len {P : Program} {H : Type} {enc : TypeId × Value → H} {w : World} {base : Nat} {sp : Nat → Bool} {hd : Bool} {t e : TypeId} (hu : P.underlying t = some (.slice e)) {fuel : Nat} {ao : Option Addr} {len cap : Nat} {d : DataW H} {pl : List MemPlace}
    (h : DataW.trod enc P w base sp hd fuel t [.slice ao len cap] = some (d, pl)) (hw : ∀ m ∈ d.weights P t, m ≤ reachBytes) : len * P.bytesOf e ≤ reachBytes := by
  rcases open_slice hu h with ⟨h1, _⟩ | ⟨a, len', cap', m, n, D, Pl, h1, _, hl, _, hm, hx, hall⟩
  · simp only [List.cons.injEq, Value.slice.injEq, and_true] at h1
    obtain ⟨rfl, rfl, rfl⟩ := h1
    simp
  · simp only [List.cons.injEq, Value.slice.injEq, and_true] at h1
    obtain ⟨rfl, rfl, rfl⟩ := h1
    have hd2 : d = _ := congrArg Prod.fst hx
    have h3 := hw ((((List.range len).map D).length + ((List.range (m - len)).map fun j => D (len + j)).length) * P.bytesOf e) (by rw [hd2]; simp [DataW.weights, hu])
    simp only [List.length_map, List.length_range] at h3
    exact Nat.le_trans (Nat.mul_le_mul (by omega) (Nat.le_refl _)) h3
theorem elem_clas {P : Program} {e se : TypeId} {f0 f1 g0 g1 : Field} (ht : P.underlying e = some (.struct #[f0, f1])) (h2 : P.cellsOf e = 2) (o0 : f0.offset = 0) (c0 : P.cellsOf f0.type = 1) (o1 : f1.offset = 1) (c1 : P.cellsOf f1.type = 1)
    (u0 : P.underlying f0.type = some .string) (u1 : P.underlying f1.type = some (.slice se)) (cs0 : P.cellsOf se = 2) (bs0 : P.bytesOf se = 32)
    (ht2 : P.underlying se = some (.struct #[g0, g1])) (o2 : g0.offset = 0) (c2 : P.cellsOf g0.type = 1) (o3 : g1.offset = 1) (c3 : P.cellsOf g1.type = 1) (u2 : P.underlying g0.type = some .string) (u3 : P.underlying g1.type = some .string) : ElemR Clas P e := by
  intro H enc w base sp hd n cs d pl h hw
  obtain ⟨y0, y1, m, hx, hl, h3, h4⟩ := ChangeShapes.trod_struct2 ht h
  rw [o0, c0] at h3
  rw [o1, c1] at h4
  rw [h2] at hl
  match cs, hl with
  | [v, u], _ =>
    obtain ⟨s, h5, h5a, _⟩ := DataW.trod_string u0 (by simpa using h3)
    simp only [List.cons.injEq, and_true] at h5
    subst h5
    simp only [List.drop_succ_cons, List.drop_zero, List.take_succ_cons, List.take_zero] at h4
    have hd2 : d = .agg [y0.1, y1.1] := congrArg Prod.fst hx
    have hy0 : y0.1 = .lit (.string s.data.toList) := congrArg Prod.fst h5a
    have h8 : reachBytes = 140737488351232 := rfl
    have h9 := hw s.data.toList.length (by rw [hd2, hy0]; simp [DataW.weights, ht, DataW.weightsEach])
    have hw1 : ∀ q ∈ y1.1.weights P f1.type, q ≤ reachBytes := fun q hq => hw q (by rw [hd2]; simp [DataW.weights, ht, DataW.weightsEach, hq])
    rcases open_slice u1 h4 with ⟨h6, _⟩ | ⟨a, len, cap, _, _, _, _, h6, _⟩
    · simp only [List.cons.injEq, and_true] at h6
      subst h6
      exact ⟨⟨s.data.toList, []⟩, ⟨none, 0, 0, 0, by cases s; rfl, RowE.nil _ _ _ _ _⟩, by show s.data.toList.length ≤ _; omega, by simp, Nat.zero_le _⟩
    · simp only [List.cons.injEq, and_true] at h6
      subst h6
      have hln := open_len u1 (d := y1.1) (pl := y1.2) (by simpa using h4) hw1
      rw [bs0] at hln
      obtain ⟨b, off, l, rfl, hr, hq⟩ := openEQ (α := Ende) u1 cs0 (by omega) (fun n cs d pl h hw => elem_ende ht2 cs0 o2 c2 o3 c3 u2 u3 h hw) (d := y1.1) (pl := y1.2) (by simpa using h4) hw1
      exact ⟨⟨s.data.toList, l⟩, ⟨_, b, off, cap, by cases s; rfl, hr⟩, by show s.data.toList.length ≤ _; omega, hq, by show l.length ≤ _; omega⟩
theorem getD_in {α : Type} [Inhabited α] {l : List α} {k : Nat} (h : k < l.length) : l.getD k default ∈ l := by
  have e : l.getD k default = l[k] := by simp [List.getD, h]
  rw [e]; exact List.getElem_mem _
theorem ends_bd {c : List Clas} (h : ∀ x ∈ c, BdC x) (n : Str) (k : Nat) : BdE ((endsL c n).getD k default) := by
  have h0 : BdE default := ⟨Nat.zero_le _, Nat.zero_le _⟩
  by_cases h1 : 0 ≤ findC c n
  · rw [ends_at h1]
    rcases Nat.lt_or_ge k (c.getD (findC c n).toNat default).ends.length with h2 | h2
    · have h3 := findC_lt c n
      have h4 : (findC c n).toNat < c.length := by omega
      exact (h _ (getD_in h4)).2.1 _ (getD_in h2)
    · rw [List.getD_eq_getElem?_getD, List.getElem?_eq_none h2]; exact h0
  · rw [ends_none h1]; exact h0
theorem ends_len {c : List Clas} (h : ∀ x ∈ c, BdC x) (n : Str) : (endsL c n).length ≤ 4398046510976 := by
  by_cases h1 : 0 ≤ findC c n
  · rw [ends_at h1]
    have h3 := findC_lt c n
    exact (h _ (getD_in (by omega : (findC c n).toNat < c.length))).2.2
  · rw [ends_none h1]; exact Nat.zero_le _
theorem ends_ifbd {c : List Clas} {q : Str} (h : ∀ k, BdE ((endsL c q).getD k default)) (k : Nat) : BdE ((if q = [] then ([] : List Ende) else endsL c q).getD k default) := by
  by_cases hq : q = []
  · rw [if_pos hq]; exact ⟨Nat.zero_le _, Nat.zero_le _⟩
  · rw [if_neg hq]; exact h k
theorem ends_iflen {c : List Clas} {q : Str} {n : Nat} (h : (endsL c q).length ≤ n) : (if q = [] then ([] : List Ende) else endsL c q).length ≤ n := by
  by_cases hq : q = []
  · rw [if_pos hq]; exact Nat.zero_le _
  · rw [if_neg hq]; exact h
end Go.Vc
namespace Go.Vc
open Go Go.RowKit Go.IntWalk
section
variable {P : Program} {w : World} {f : Fr} {o : Oper}
theorem equalIn_str (d : Nat) {T : TypeId} (u : P.underlying T = some .string) (a b : Str) : (Op.equalIn (d + 1) T (S a) (S b)).run P w = .ok (a == b) w := by
  have := run_equalIn_string (P := P) w d T ⟨a.toArray⟩ ⟨b.toArray⟩ u
  rw [toList_S, toList_S] at this
  exact this
theorem equalIn_ende (d : Nat) {T : TypeId} {f0 f1 : Field} (hu : P.underlying T = some (.struct #[f0, f1])) (hp : P.stoodInHeld T = false) (n0 : f0.name ≠ "_") (n1 : f1.name ≠ "_")
    (o0 : f0.offset = 0) (o1 : f1.offset = 1) (u0 : P.underlying f0.type = some .string) (u1 : P.underlying f1.type = some .string)
    (a0 : aggP P f0.type = some false) (a1 : aggP P f1.type = some false) (x y : Ende) :
    (Op.equalIn (d + 2) T (.agg (Enc.enc x).toArray) (.agg (Enc.enc y).toArray)).run P w = .ok (decide (x = y)) w := by
  have hf : P.fieldsOf T = #[f0, f1] := by simp [Program.fieldsOf, hu]
  rw [run_equalIn_struct (P := P) w (d + 1) T _ _ (by rw [hf]; exact hu) hp, hf]
  have p0 : ∀ (z : Ende), (part f0.type (Enc.enc z).toArray 0).run P w = .ok (S z.strip) w := fun z => run_part1 a0 rfl
  have p1 : ∀ (z : Ende), (part f1.type (Enc.enc z).toArray 1).run P w = .ok (S z.add) w := fun z => run_part1 a1 rfl
  have e0 := equalIn_str (P := P) (w := w) d u0 x.strip y.strip
  have e1 := equalIn_str (P := P) (w := w) d u1 x.add y.add
  have key : (Op.eqFields (d + 1) (Enc.enc x).toArray (Enc.enc y).toArray [f0, f1]).run P w = .ok ((x.strip == y.strip) && (x.add == y.add)) w := by
    simp only [Op.eqFields, n0, n1, o0, o1, ne_eq, not_false_eq_true, if_true, Sem.run_bind, p0, e0, Result.andThen_ok]
    cases (x.strip == y.strip) with
    | false => simp
    | true =>
      simp only [Bool.not_true, Bool.false_eq_true, if_false, Sem.run_bind, p1, e1, Result.andThen_ok, Bool.true_and]
      cases (x.add == y.add) with
      | false => simp
      | true => simp
  have e3 : ((x.strip == y.strip) && (x.add == y.add)) = decide (x = y) := by
    obtain ⟨k1, t1⟩ := x
    obtain ⟨k2, t2⟩ := y
    rw [Bool.eq_iff_iff]
    simp
  rw [← e3]
  exact key
theorem run_eqlG {α : Type} [Enc α] [DecidableEq α] {T T2 : TypeId} {x y : Operand} (a b : α) (ho : o.op = .binOp .eql T x y T2) (hg : P.eqGuardType P.depth T = false) (he : ∀ (w : World) (x y : α), (Op.equalIn 10000 T (.agg (Enc.enc x).toArray) (.agg (Enc.enc y).toArray)).run P w = .ok (decide (x = y)) w)
    (hx : opv f x = .agg (Enc.enc a).toArray) (hy : opv f y = .agg (Enc.enc b).toArray) : (execOp (opv f) o).run P w = .ok (.value (.bool (decide (a = b)))) w := by
  unfold execOp; rw [ho]; simp only []; rw [hx, hy]
  simp only [Sem.run_bind, run_eqGuard_agg w .eql T x y _ _ hg, Result.andThen_ok, run_eql_struct, he, Sem.run_pure]
end
end Go.Vc
namespace Go.Vc
open Go Go.RowKit Go.IntWalk Go.Deep
def decW (n : Nat) (s : Str) : Str := if n / 10 = 0 then UInt8.ofNat (48 + n % 10) :: s else decW (n / 10) (UInt8.ofNat (48 + n % 10) :: s)
termination_by n
decreasing_by omega
theorem decW_stop {n : Nat} (s : Str) (h : n / 10 = 0) : decW n s = UInt8.ofNat (48 + n % 10) :: s := by rw [decW, if_pos h]
theorem decW_go {n : Nat} (s : Str) (h : ¬ n / 10 = 0) : decW n s = decW (n / 10) (UInt8.ofNat (48 + n % 10) :: s) := by rw [decW, if_neg h]
theorem decW_len : ∀ (k n : Nat) (s : Str), n < 10 ^ (k + 1) → (decW n s).length ≤ s.length + (k + 1)
  | 0, n, s, h => by rw [decW_stop s (by omega)]; simp
  | k + 1, n, s, h => by
    by_cases h1 : n / 10 = 0
    · rw [decW_stop s h1]; simp
    · rw [decW_go s h1]
      have := decW_len k (n / 10) (UInt8.ofNat (48 + n % 10) :: s) (by rw [Nat.pow_succ] at h; omega)
      simp only [List.length_cons] at this
      omega
theorem dig_wrap {n : Nat} {z : Int} (h : z = (n : Int)) : Go.IntKind.u8.wrap (48 + z.tmod 10) = (((UInt8.ofNat (48 + n % 10)).toNat : Nat) : Int) := by
  subst h
  have h1 : ((n : Int)).tmod 10 = ((n % 10 : Nat) : Int) := by rw [Int.tmod_eq_emod_of_nonneg (by omega)]; omega
  have h2 : n % 10 < 10 := Nat.mod_lt _ (by decide)
  rw [h1]
  have h3 : (UInt8.ofNat (48 + n % 10)).toNat = 48 + n % 10 := by rw [UInt8.toNat_ofNat']; omega
  rw [h3]
  have : ∀ m, m < 10 → Go.IntKind.u8.wrap (48 + ((m : Nat) : Int)) = ((48 + m : Nat) : Int) := by decide
  exact this _ h2
theorem decW_ge (n : Nat) : ∀ s : Str, s.length + 1 ≤ (decW n s).length := by
  induction n using Nat.strongRecOn with
  | _ n ih =>
    intro s
    by_cases h : n / 10 = 0
    · rw [decW_stop s h]; simp
    · rw [decW_go s h]
      have := ih (n / 10) (by omega) (UInt8.ofNat (48 + n % 10) :: s)
      simp only [List.length_cons] at this
      omega
theorem clas_own {w : World} {base E : Nat} {Y : List Nat} {v vs : Value} {ls : List Ende} (m : Str) (h : OwnE w base E vs ls) (hY : ∀ y ∈ Y, y < base) (hv : ∀ g, v.ownBlock = some g → g < base) (hb : BdC ⟨m, ls⟩) :
    ∀ w', Evo w w' (Y ++ v.ownBlock.toList) → Rep.rep w' [S m, vs] (⟨m, ls⟩ : Clas) := fun w' he => by
  have h2 := h.evo he (fun g hg hm => by
    have hb := (h.block hg).1
    rcases List.mem_append.1 hm with h3 | h3
    · have := hY g h3; omega
    · have := hv g (by simpa using h3); omega)
  obtain ⟨ao, g, cap, hv2, hr, _⟩ := h2.rowOf
  exact ⟨⟨ao, g, 0, cap, by rw [hv2], hr⟩, hb⟩
theorem ret_str {a b : Str} (h : a = b) : Ending.returned (S a) = .returned (S b) := by rw [h]
theorem tdiv_nat (m k : Nat) : ((m : Int)).tdiv (k : Int) = ((m / k : Nat) : Int) := by
  rw [Int.tdiv_eq_ediv_of_nonneg (by omega)]; rfl
theorem tdiv_ten (m : Nat) : ((m : Int)).tdiv 10 = ((m / 10 : Nat) : Int) := tdiv_nat m 10
def stripsL : List Str := [[], [], [121], [115], [97]]
def addsL : List Str := [[115], [105, 101, 115], [], [101, 115], [97], [101, 114]]
def MadeE (es : List Ende) : Prop := es.Nodup ∧ ∀ e ∈ es, e.strip ∈ stripsL ∧ e.add ∈ addsL
def MadeP (cl : List Clas) (N i : Nat) : Prop := cl.length + i = N ∧ (∀ k, (h : k < cl.length) → (cl[k]'h).name = 99 :: decW (N - k) []) ∧ ∀ x ∈ cl, MadeE x.ends ∧ x.ends.length ≤ 3
theorem MadeE.nil : MadeE [] := ⟨List.nodup_nil, by simp⟩
theorem MadeE.snoc {es : List Ende} {x : Ende} (h : MadeE es) (hx : ¬ x ∈ es) (h1 : x.strip ∈ stripsL) (h2 : x.add ∈ addsL) : MadeE (es ++ [x]) := by
  refine ⟨?_, fun e he => ?_⟩
  · rw [List.nodup_append]
    refine ⟨h.1, by simp, fun a ha b hb => ?_⟩
    have : b = x := by simpa using hb
    intro hab
    exact hx (by rw [← this, ← hab]; exact ha)
  · rcases List.mem_append.1 he with h3 | h3
    · exact h.2 e h3
    · have : e = x := by simpa using h3
      rw [this]; exact ⟨h1, h2⟩
theorem MadeP.nil (N : Nat) : MadeP [] N N := ⟨by simp, by simp, by simp⟩
theorem MadeP.snoc {cl : List Clas} {N i : Nat} {es : List Ende} {m : Str} (h : MadeP cl N i) (hi : 0 < i) (hm : m = 99 :: decW i []) (he : MadeE es) (hl : es.length ≤ 3) : MadeP (cl ++ [⟨m, es⟩]) N (i - 1) := by
  obtain ⟨h1, h2, h3⟩ := h
  refine ⟨by simp; omega, fun k hk => ?_, fun x hx => ?_⟩
  · rcases Nat.lt_or_ge k cl.length with h4 | h4
    · rw [List.getElem_append_left h4]; exact h2 k h4
    · rw [List.getElem_append_right h4]
      simp only [List.length_append, List.length_cons, List.length_nil] at hk
      have h5 : k - cl.length = 0 := by omega
      have h6 : N - k = i := by omega
      simp only [h5, List.getElem_cons_zero]
      rw [h6]; exact hm
  · rcases List.mem_append.1 hx with h4 | h4
    · exact h3 x h4
    · have : x = ⟨m, es⟩ := by simpa using h4
      rw [this]; exact ⟨he, hl⟩
theorem strip_len {s : Str} (h : s ∈ stripsL) : s.length ≤ 1 := by
  have : ∀ s ∈ stripsL, s.length ≤ 1 := by decide
  exact this s h
theorem add_len {s : Str} (h : s ∈ addsL) : s.length ≤ 3 := by
  have : ∀ s ∈ addsL, s.length ≤ 3 := by decide
  exact this s h
theorem MadeE.bd {es : List Ende} (h : MadeE es) : ∀ e ∈ es, BdE e := fun e he => by
  have h1 := strip_len (h.2 e he).1
  have h2 := add_len (h.2 e he).2
  exact ⟨by omega, by omega⟩
theorem made_bdC {es : List Ende} {n : Nat} (h : MadeE es) (hl : es.length ≤ 3) (hn : n ≤ 9) : BdC ⟨99 :: decW n [], es⟩ := by
  have := decW_len 0 n [] (by omega)
  refine ⟨?_, h.bd, ?_⟩
  · simp only [List.length_cons, List.length_nil] at this ⊢; omega
  · show es.length ≤ _; omega
theorem MadeP.mem {cl : List Clas} {N i : Nat} (h : MadeP cl N i) {x : Clas} (hx : x ∈ cl) : MadeE x.ends ∧ x.ends.length ≤ 3 := h.2.2 x hx
theorem MadeP.bd {cl : List Clas} {N i : Nat} (h : MadeP cl N i) (hN : N ≤ 9) : ∀ x ∈ cl, BdC x := fun x hx => by
  obtain ⟨k, hk, rfl⟩ := List.mem_iff_getElem.1 hx
  have h1 := h.2.1 k hk
  have h2 := h.2.2 _ hx
  have h3 := made_bdC (n := N - k) h2.1 h2.2 (by omega)
  rw [← h1] at h3
  exact h3
end Go.Vc
namespace Go.Vc
open Go Go.RowKit Go.IntWalk
def M9 : List Nat := [9, 31, 32, 33, 34, 35, 36, 37, 38, 39, 40, 41]
def slot9 (j : Nat) : Nat := [31, 32, 33, 34, 35, 36, 37, 38, 39, 40, 41, 9].getD j 0
def cn9 (l : Array Bool) : Nat := (l.getD 2 false).toNat + (l.getD 7 false).toNat
def Phi9 (z bs EN : Nat) : Nat → Fr → World → Prop
  | 0, g, w => ∃ b, (z ≤ b ∧ b < w.heap.size) ∧ g 31 = .slice (some ⟨b, 0, none⟩) 5 5 ∧ RowE w (some ⟨b, 0, none⟩) b 0 5 stripsL
  | 1, g, _ => g 32 = .pointer (some ⟨bs, 0, none⟩)
  | 2, g, _ => ∃ r, g 33 = .int .i64 r ∧ 0 ≤ r ∧ r < 5
  | 3, g, w => ∃ b j s, (z ≤ b ∧ b < w.heap.size) ∧ g 34 = .pointer (some ⟨b, j, none⟩) ∧ At w b j [S s] ∧ s ∈ stripsL
  | 4, g, _ => ∃ s, g 35 = S s ∧ s ∈ stripsL
  | 5, g, w => ∃ b, (z ≤ b ∧ b < w.heap.size) ∧ g 36 = .slice (some ⟨b, 0, none⟩) 6 6 ∧ RowE w (some ⟨b, 0, none⟩) b 0 6 addsL
  | 6, g, _ => g 37 = .pointer (some ⟨bs, 0, none⟩)
  | 7, g, _ => ∃ r, g 38 = .int .i64 r ∧ 0 ≤ r ∧ r < 6
  | 8, g, w => ∃ b j s, (z ≤ b ∧ b < w.heap.size) ∧ g 39 = .pointer (some ⟨b, j, none⟩) ∧ At w b j [S s] ∧ s ∈ addsL
  | 9, g, _ => ∃ s, g 40 = S s ∧ s ∈ addsL
  | 10, g, _ => ∃ s t, g 41 = .agg #[S s, S t] ∧ s ∈ stripsL ∧ t ∈ addsL
  | 11, g, w => ∃ b, (z ≤ b ∧ b < w.heap.size) ∧ g 9 = .pointer (some ⟨b, 0, none⟩) ∧ ∃ s t, Blk w b EN [S s, S t]
  | _, _, _ => True
def Fin9 (z EN : Nat) (g : Fr) (w : World) : Prop := ∃ b s t, (z ≤ b ∧ b < w.heap.size) ∧ g 9 = .pointer (some ⟨b, 0, none⟩) ∧ Blk w b EN [S s, S t] ∧ s ∈ stripsL ∧ t ∈ addsL
def I9 (wR : World) (bs EN T N2 : Nat) (c : Value) (l : Array Bool) (g : Fr) (w : World) : Prop :=
  Evo wR w [bs] ∧ Blk w bs T [c, .int .i64 (N2 + cn9 l : Nat)] ∧ ((l.getD 12 false = false ∧ ∀ j, l.getD j false = true → Phi9 wR.heap.size bs EN j g w) ∨ (l.getD 12 false = true ∧ Fin9 wR.heap.size EN g w ∧ ∀ j, j < 12 → l.getD j false = true))
theorem stab9 {z bs EN d : Nat} (hbs : bs < z) {g g' : Fr} {w w' : World} (he : Evo w w' [bs]) (hfr : ∀ q, elemN q M9 = true → q ≠ d → g' q = g q) : ∀ j, slot9 j ≠ d → Phi9 z bs EN j g w → Phi9 z bs EN j g' w' := by
  have hsz := he.size
  intro j hj h
  match j with
  | 0 => obtain ⟨b, h1, h2, h3⟩ := h; exact ⟨b, by omega, by rw [hfr 31 rfl hj]; exact h2, h3.evo he (by simp; omega)⟩
  | 1 => show g' 32 = _; rw [hfr 32 rfl hj]; exact h
  | 2 => obtain ⟨r, h2, h3⟩ := h; exact ⟨r, by rw [hfr 33 rfl hj]; exact h2, h3⟩
  | 3 => obtain ⟨b, q, s, h1, h2, h3, h4⟩ := h; exact ⟨b, q, s, by omega, by rw [hfr 34 rfl hj]; exact h2, h3.evo he (by simp; omega), h4⟩
  | 4 => obtain ⟨r, h2, h3⟩ := h; exact ⟨r, by rw [hfr 35 rfl hj]; exact h2, h3⟩
  | 5 => obtain ⟨b, h1, h2, h3⟩ := h; exact ⟨b, by omega, by rw [hfr 36 rfl hj]; exact h2, h3.evo he (by simp; omega)⟩
  | 6 => show g' 37 = _; rw [hfr 37 rfl hj]; exact h
  | 7 => obtain ⟨r, h2, h3⟩ := h; exact ⟨r, by rw [hfr 38 rfl hj]; exact h2, h3⟩
  | 8 => obtain ⟨b, q, s, h1, h2, h3, h4⟩ := h; exact ⟨b, q, s, by omega, by rw [hfr 39 rfl hj]; exact h2, h3.evo he (by simp; omega), h4⟩
  | 9 => obtain ⟨r, h2, h3⟩ := h; exact ⟨r, by rw [hfr 40 rfl hj]; exact h2, h3⟩
  | 10 => obtain ⟨s, t, h2, h3⟩ := h; exact ⟨s, t, by rw [hfr 41 rfl hj]; exact h2, h3⟩
  | 11 => obtain ⟨b, h1, h2, s, t, h3⟩ := h; exact ⟨b, by omega, by rw [hfr 9 rfl hj]; exact h2, s, t, h3.evo he (by simp; omega)⟩
  | _ + 12 => trivial
theorem slot9_ne {i j : Nat} (hi : i < 12) (hj : j < 12) (h : j ≠ i) : slot9 j ≠ slot9 i := by
  have : ∀ i, i < 12 → ∀ j, j < 12 → j ≠ i → slot9 j ≠ slot9 i := by decide
  exact this i hi j hj h
theorem cn9_set {l : Array Bool} {i : Nat} (h2 : i ≠ 2) (h7 : i ≠ 7) : cn9 (l.setIfInBounds i true) = cn9 l := by
  unfold cn9; rw [set_ne (Ne.symm h2), set_ne (Ne.symm h7)]
theorem cn9_2 {l : Array Bool} (h : l.getD 2 true = false) : cn9 (l.setIfInBounds 2 true) = cn9 l + 1 := by
  have h1 := un_false h
  unfold cn9; rw [set_eq h1.2, set_ne (by decide), h1.1]; simp; omega
theorem cn9_7 {l : Array Bool} (h : l.getD 7 true = false) : cn9 (l.setIfInBounds 7 true) = cn9 l + 1 := by
  have h1 := un_false h
  unfold cn9; rw [set_eq h1.2, set_ne (by decide), h1.1]; simp
theorem cn9_le (l : Array Bool) : cn9 l ≤ 2 := by
  unfold cn9
  have := Bool.toNat_le (l.getD 2 false); have := Bool.toNat_le (l.getD 7 false)
  omega
theorem I9.deps {wR w : World} {bs EN T N2 : Nat} {c : Value} {l : Array Bool} {g : Fr} {i : Nat} (hi : i < 13) (hu : l.getD i true = false) (h : I9 wR bs EN T N2 c l g w) :
    Evo wR w [bs] ∧ Blk w bs T [c, .int .i64 (N2 + cn9 l : Nat)] ∧ l.getD 12 false = false ∧ ∀ j, l.getD j false = true → Phi9 wR.heap.size bs EN j g w := by
  obtain ⟨h1, h2, h3 | h3⟩ := h
  · exact ⟨h1, h2, h3.1, h3.2⟩
  · by_cases h12 : i = 12
    · subst h12
      rw [(un_false hu).1] at h3; exact absurd h3.1 (by simp)
    · have := h3.2.2 i (by omega); rw [(un_false hu).1] at this; cases this
theorem I9.step {wR w w' : World} {bs EN T N2 : Nat} {c : Value} {l : Array Bool} {g g' : Fr} {i : Nat} (hi : i < 12) (hu : l.getD i true = false) (hbs : bs < wR.heap.size) (h12 : l.getD 12 false = false) (hP : ∀ j, l.getD j false = true → Phi9 wR.heap.size bs EN j g w)
    (he1 : Evo w w' [bs]) (he : Evo wR w' [bs]) (hb : Blk w' bs T [c, .int .i64 (N2 + cn9 (l.setIfInBounds i true) : Nat)]) (hfr : ∀ q, elemN q M9 = true → q ≠ slot9 i → g' q = g q) (hn : Phi9 wR.heap.size bs EN i g' w') :
    I9 wR bs EN T N2 c (l.setIfInBounds i true) g' w' := by
  refine ⟨he, hb, .inl ⟨by rw [set_ne (by omega)]; exact h12, fun j hj => ?_⟩⟩
  by_cases hji : j = i
  · subst hji; exact hn
  · rw [set_ne hji] at hj
    by_cases hj12 : j < 12
    · exact stab9 hbs he1 hfr j (slot9_ne hi hj12 hji) (hP j hj)
    · match j, hj12 with
      | j + 12, _ => trivial
      | 0, h | 1, h | 2, h | 3, h | 4, h | 5, h | 6, h | 7, h | 8, h | 9, h | 10, h | 11, h => exact absurd (by decide) h
theorem I9.last {wR w' : World} {bs EN T N2 : Nat} {c : Value} {l : Array Bool} {g' : Fr} (hu : l.getD 12 true = false) (hall : ∀ j, j < 12 → l.getD j false = true)
    (he : Evo wR w' [bs]) (hb : Blk w' bs T [c, .int .i64 (N2 + cn9 (l.setIfInBounds 12 true) : Nat)]) (hn : Fin9 wR.heap.size EN g' w') : I9 wR bs EN T N2 c (l.setIfInBounds 12 true) g' w' :=
  ⟨he, hb, .inr ⟨set_eq (un_false hu).2, hn, fun j hj => by rw [set_ne (by omega)]; exact hall j hj⟩⟩
theorem I9.init {wR w : World} {bs EN T N2 : Nat} {c : Value} {g : Fr} (he : Evo wR w [bs]) (hb : Blk w bs T [c, .int .i64 (N2 : Nat)]) : I9 wR bs EN T N2 c (Array.replicate 13 false) g w :=
  ⟨he, hb, .inl ⟨rfl, fun j hj => by
    rcases Nat.lt_or_ge j 13 with h | h
    · simp [h] at hj
    · simp [Array.getElem?_eq_none (show (Array.replicate 13 false).size ≤ j by simpa using h)] at hj⟩⟩
theorem I9.done {wR w : World} {bs EN T N2 : Nat} {c : Value} {g : Fr} (h : I9 wR bs EN T N2 c (Array.replicate 13 true) g w) : Evo wR w [bs] ∧ Blk w bs T [c, .int .i64 (N2 + 2 : Nat)] ∧ Fin9 wR.heap.size EN g w := by
  obtain ⟨h1, h2, h3 | h3⟩ := h
  · exact absurd h3.1 (by decide)
  · exact ⟨h1, h2, h3.2.1⟩
theorem elem_in {w : World} {b j k : Nat} {l : List Str} {cap : Nat} (h : RowE w (some ⟨b, 0, none⟩) b 0 cap l) (hk : k < l.length) (hj : j = 0 + k * 1) : ∃ s, At w b j [S s] ∧ s ∈ l := by
  subst hj
  exact ⟨_, h.at k hk, List.getElem_mem hk⟩
theorem deps_all {o : Oper} {l : Array Bool} {m : Nat} (hd : ∀ e ∈ o.after, Region.binds .any e = true → l.getD e.on false = true) (h : (List.range m).all (depB o) = true) : ∀ j, j < m → l.getD j false = true := fun j hj =>
  dep_of hd j (List.all_eq_true.1 h j (List.mem_range.2 hj))
end Go.Vc
namespace Go.Vc
open Go Go.RowKit Go.IntWalk Go.Deep
structure Raw2 where
  a : Value
  b : Value
  ok : oneCells [a, b] = true
instance : Inhabited Raw2 := ⟨⟨S [], S [], rfl⟩⟩
instance : Enc Raw2 := ⟨2, fun x => [x.a, x.b], fun _ => rfl, fun x => x.ok, by decide⟩
end Go.Vc
namespace Go.Vc
open Go Go.RowKit Go.IntWalk Go.Deep
structure TermL where
  words : List Ende
  req : List Str
  forb : List Str
deriving Inhabited
instance : Rep TermL where
  n := 3
  rep w cs x := (∃ ao b off cap ao1 b1 off1 cap1 ao2 b2 off2 cap2, cs = [.slice ao x.words.length cap, .slice ao1 x.req.length cap1, .slice ao2 x.forb.length cap2] ∧ RowE w ao b off cap x.words ∧ RowE w ao1 b1 off1 cap1 x.req ∧ RowE w ao2 b2 off2 cap2 x.forb) ∧ (x.words.length ≤ 4398046510976 ∧ ∀ y ∈ x.words, BdE y)
  len := fun ⟨⟨_, _, _, _, _, _, _, _, _, _, _, _, h, _⟩, _⟩ => by rw [h]; rfl
  evo0 := fun ⟨⟨ao, b, off, cap, ao1, b1, off1, cap1, ao2, b2, off2, cap2, h, h1, h2, h3⟩, hb⟩ he => ⟨⟨ao, b, off, cap, ao1, b1, off1, cap1, ao2, b2, off2, cap2, h, h1.evo0 he, h2.evo0 he, h3.evo0 he⟩, hb⟩
  pos := by decide
theorem term_at {w : World} {ao : Option Addr} {b off cap : Nat} {l : List TermL} (h : RowR w ao b off cap l) (k : Nat) (hk : k < l.length) :
    ∃ aoW bW offW capW aoQ bQ offQ capQ aoF bF offF capF, At w b (off + k * 3) [.slice aoW (l.getD k default).words.length capW, .slice aoQ (l.getD k default).req.length capQ, .slice aoF (l.getD k default).forb.length capF] ∧ RowE w aoW bW offW capW (l.getD k default).words ∧ RowE w aoQ bQ offQ capQ (l.getD k default).req ∧ RowE w aoF bF offF capF (l.getD k default).forb := by
  obtain ⟨cs, h1, ⟨ao, b, off, cap, ao1, b1, off1, cap1, ao2, b2, off2, cap2, h2, h3, h4, h5⟩, _⟩ := h.atD k hk
  exact ⟨_, _, _, _, _, _, _, _, _, _, _, _, h2 ▸ h1, h3, h4, h5⟩
theorem term_atK {w : World} {E : List Nat} {ao : Option Addr} {b off cap : Nat} {l : List TermL} (h : RowRK w E ao b off cap l) (k : Nat) (hk : k < l.length) :
    ∃ aoW bW offW capW aoQ bQ offQ capQ aoF bF offF capF, ∀ w', Evo w w' E → At w' b (off + k * 3) [.slice aoW (l.getD k default).words.length capW, .slice aoQ (l.getD k default).req.length capQ, .slice aoF (l.getD k default).forb.length capF] ∧ RowE w' aoW bW offW capW (l.getD k default).words ∧ RowE w' aoQ bQ offQ capQ (l.getD k default).req ∧ RowE w' aoF bF offF capF (l.getD k default).forb := by
  obtain ⟨cs, h1⟩ := h.atD k hk
  obtain ⟨ao, b, off, cap, ao1, b1, off1, cap1, ao2, b2, off2, cap2, h2, h3, h4, h5⟩ := (h1 w (Evo.refl _ _)).2.1
  refine ⟨ao, b, off, cap, ao1, b1, off1, cap1, ao2, b2, off2, cap2, fun w' he => ⟨h2 ▸ (h1 w' he).1, ?_⟩⟩
  obtain ⟨ao', b', off', cap', ao1', b1', off1', cap1', ao2', b2', off2', cap2', h2', h3', h4', h5'⟩ := (h1 w' he).2.1
  rw [h2] at h2'
  simp only [List.cons.injEq, Value.slice.injEq, and_true, true_and] at h2'
  obtain ⟨⟨rfl, rfl⟩, ⟨rfl, rfl⟩, rfl, rfl⟩ := h2'
  exact ⟨rowE_same h3' h3, rowE_same h4' h4, rowE_same h5' h5⟩
theorem term_bd {w : World} {ao : Option Addr} {b off cap : Nat} {l : List TermL} (h : RowR w ao b off cap l) : ∀ x ∈ l, x.words.length ≤ 4398046510976 ∧ ∀ y ∈ x.words, BdE y := fun x hx => by
  obtain ⟨css, _, hl, hr⟩ := h
  obtain ⟨i, hi⟩ := List.getElem?_of_mem hx
  have hi2 : i < l.length := (List.getElem?_eq_some_iff.1 hi).1
  exact (hr i (css[i]'(by omega)) x (by simp [hl, hi2]) hi).2
structure SetS where
  ks : List Str
deriving Inhabited
def eU : Unit → Value := fun _ => Value.agg #[]
def SetIs (w : World) (b : Nat) (ks : List Str) : Prop := ∃ m : List (Str × Unit), MapIs w b S eU m ∧ ∀ s, (getM m s).isSome = true ↔ s ∈ ks
theorem SetIs.evo {w w' : World} {b : Nat} {ks : List Str} {E : List Nat} (h : SetIs w b ks) (he : Evo w w' E) (hn : b ∉ E) : SetIs w' b ks := by
  obtain ⟨m, h1, h2⟩ := h; exact ⟨m, h1.evo he hn, h2⟩
theorem SetIs.evo0 {w w' : World} {b : Nat} {ks : List Str} (h : SetIs w b ks) (he : Evo w w' []) : SetIs w' b ks := h.evo he (by simp)
theorem SetIs.lt {w : World} {b : Nat} {ks : List Str} (h : SetIs w b ks) : b < w.heap.size := by obtain ⟨m, h1, _⟩ := h; exact h1.lt
theorem SetIs.bd {w : World} {b : Nat} {ks : List Str} (_ : SetIs w b ks) : True := trivial
instance : Rep SetS where
  n := 1
  rep w cs x := ∃ b, cs = [.map (some b)] ∧ SetIs w b x.ks
  len := fun ⟨_, h, _⟩ => by rw [h]; rfl
  evo0 := fun ⟨b, h, hm⟩ he => ⟨b, h, hm.evo0 he⟩
  pos := by decide
theorem set_atK {w : World} {E : List Nat} {ao : Option Addr} {b off cap : Nat} {l : List SetS} (h : RowRK w E ao b off cap l) (k : Nat) (hk : k < l.length) :
    ∃ bM, ∀ w', Evo w w' E → At w' b (off + k * 1) [.map (some bM)] ∧ SetIs w' bM (l.getD k default).ks := by
  obtain ⟨cs, h1⟩ := h.atD k hk
  obtain ⟨bM, h2, _⟩ := (h1 w (Evo.refl _ _)).2
  refine ⟨bM, fun w' he => ⟨h2 ▸ (h1 w' he).1, ?_⟩⟩
  obtain ⟨b', h4, h5⟩ := (h1 w' he).2
  rw [h2] at h4
  simp only [List.cons.injEq, Value.map.injEq, Option.some.injEq, and_true] at h4
  rw [h4]; exact h5
end Go.Vc
namespace Go.Vc
open Go Go.RowKit Go.IntWalk
def FRow (w : World) (bt : Nat) (v : Value) (l : List (List Str)) : Prop := ∀ w', Evo w w' [bt] → ∃ ao b off cap, v = .slice ao (l.map SetS.mk).length cap ∧ RowR w' ao b off cap (l.map SetS.mk)
theorem FRow.evo {w w' : World} {bt : Nat} {v : Value} {l : List (List Str)} (h : FRow w bt v l) (he : Evo w w' [bt]) : FRow w' bt v l := fun w2 h2 => h w2 (Evo.trans he h2 (fun x hx _ => hx))
theorem FRow.of {w : World} {base E bt : Nat} {v : Value} {l : List (List Str)} (h : OwnR w base E [bt] v (l.map SetS.mk)) (hb : bt < base) : FRow w bt v l := fun w' he => by
  obtain ⟨ao, g, cap, hv, hr⟩ := (h.evoY he (fun y hy => by have e : y = bt := (by simpa using hy); omega)).rowOf
  exact ⟨ao, g, 0, cap, hv, hr⟩
theorem nth_mk (l : List (List Str)) : (l.map SetS.mk).map (·.ks) = l := by rw [List.map_map]; exact List.map_id' l
end Go.Vc
namespace Go.Vc
open Go Go.RowKit Go.IntWalk Go.Deep
structure TmsL where
  ts : List TermL
deriving Inhabited
instance : Rep TmsL where
  n := 1
  rep w cs x := ∃ ao b off cap, cs = [.slice ao x.ts.length cap] ∧ RowR w ao b off cap x.ts
  len := fun ⟨_, _, _, _, h, _⟩ => by rw [h]; rfl
  evo0 := fun ⟨ao, b, off, cap, h, h1⟩ he => ⟨ao, b, off, cap, h, h1.evo0 he⟩
  pos := by decide
theorem tms_rep {w : World} {ao : Option Addr} {b off cap : Nat} {l : List TermL} (h : RowR w ao b off cap l) : Rep.rep w [.slice ao l.length cap] (⟨l⟩ : TmsL) := ⟨ao, b, off, cap, rfl, h⟩
theorem tms_at {w : World} {ao : Option Addr} {b off cap : Nat} {l : List TmsL} (h : RowR w ao b off cap l) (k : Nat) (hk : k < l.length) :
    ∃ ao1 b1 off1 cap1, At w b (off + k * 1) [.slice ao1 (l.getD k default).ts.length cap1] ∧ RowR w ao1 b1 off1 cap1 (l.getD k default).ts := by
  obtain ⟨cs, h1, ao1, b1, off1, cap1, h2, h3⟩ := h.atD k hk
  exact ⟨_, _, _, _, h2 ▸ h1, h3⟩
theorem term_one (w : World) (cs : List Value) (x : TermL) (h : Rep.rep w cs x) : oneCells cs = true := by
  obtain ⟨⟨_, _, _, _, _, _, _, _, _, _, _, _, rfl, _⟩, _⟩ := h; rfl
theorem term_reps {w : World} {ao ao1 ao2 : Option Addr} {b off cap b1 off1 cap1 b2 off2 cap2 : Nat} {x : TermL} (h : RowE w ao b off cap x.words) (h1 : RowE w ao1 b1 off1 cap1 x.req) (h2 : RowE w ao2 b2 off2 cap2 x.forb) (hb : x.words.length ≤ 4398046510976 ∧ ∀ y ∈ x.words, BdE y) :
    Rep.rep w [.slice ao x.words.length cap, .slice ao1 x.req.length cap1, .slice ao2 x.forb.length cap2] x := ⟨⟨_, _, _, _, _, _, _, _, _, _, _, _, rfl, h, h1, h2⟩, hb⟩
end Go.Vc
