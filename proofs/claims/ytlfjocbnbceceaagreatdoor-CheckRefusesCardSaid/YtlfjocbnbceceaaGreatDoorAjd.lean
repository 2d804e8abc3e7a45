/-
  Library, plain laws and walks that the statements reach (joined by a program out of smaller texts).
-/
import Derived.Test.YtlfjocbnbceceaaGreatDoorAjc
import Derived.Test.YtlfjocbnbceceaaGreatDoorAja
import Derived.Scope
import Derived.Lib.Bytealg
import Derived.Shelf.LaysM
import Derived.Shelf.Strings.Search1
import Derived.Shelf.Strings.Search2
import Derived.Shelf.Strings.Search3
import Derived.Shelf.Strings.Count
import Derived.Shelf.Strings.Shaped
import Derived.Shelf.Sort.Plain
import Derived.Shelf.Unicode.DecodeSlow
import Derived.Shelf.Slices.In.SortNone
import Derived.Test.YtlfjocbnbceceaaGreatDoorProg
import Derived.Test.YtlfjocbnbceceaaGreatDoorAjb
import Derived.Lib.SlKeysI
import Derived.Shelf.SlIterI.Nil
import Derived.Shelf.SortM.Plain
import Derived.Shelf.SortM.SortNone
import Derived.Ground.GgzProg
import Derived.Ground.SlgmProg
import Derived.Shelf.SlSortCmp.NoneTotal
set_option linter.unusedVariables false
set_option linter.unusedSimpArgs false
namespace Go.Proofs.YtlfjocbnbceceaaGreatDoor
open Go.RowKit Go.Vc
theorem ag_83 : aggP Tryz.prog 83 = some false := ζ
theorem ag_88 : aggP Tryz.prog 88 = some true := ζ
theorem fo_85_0 : fieldP Tryz.prog 85 0 = some 0 := ζ
theorem ty_88 : tyP Tryz.prog 88 = some (2, 32, some (.agg #[(.string ⟨#[]⟩), (.string ⟨#[]⟩)])) := ζ
def formsT (c : List Clas) (ws : List Ende) : List (List Str) := ws.map (fun y => formsC c y.strip y.add)
theorem formsT_succ {c : List Clas} {ws : List Ende} {k : Nat} (hk : k < ws.length) : formsT c (ws.take (k + 1)) = formsT c (ws.take k) ++ [formsC c (ws.getD k default).strip (ws.getD k default).add] := by
  unfold formsT; rw [take_succD ws k hk, List.map_append]; rfl
theorem formsT_len (c : List Clas) (ws : List Ende) : (formsT c ws).length = ws.length := by unfold formsT; rw [List.length_map]
theorem ende_getD {ws : List Ende} (h : ∀ y ∈ ws, BdE y) (k : Nat) : BdE (ws.getD k default) := by
  rcases Nat.lt_or_ge k ws.length with h1 | h1
  · exact h _ (getD_in h1)
  · rw [List.getD_eq_getElem?_getD, List.getElem?_eq_none h1]; exact ⟨Nat.zero_le _, Nat.zero_le _⟩
end Go.Proofs.YtlfjocbnbceceaaGreatDoor
namespace Go.Proofs.YtlfjocbnbceceaaGreatDoor
open Go Go.RowKit Go.Vc
structure Spt where
  t : Int
  fr : Int
  to : Int
deriving DecidableEq, Inhabited
instance : Enc Spt := ⟨3, fun x => [.int .i64 x.t, .int .i64 x.fr, .int .i64 x.to], fun _ => rfl, fun _ => rfl, by decide⟩
section
variable (l : List Vc.Item)
theorem chainFG : ∀ (ss : List (List Str)) (i e : Int), i < l.length → (i < 0 ∨ isW (l.getD i.toNat default)) → chainF l i e ss = chainG l i e ss
  | [], _, _, _, _ => rfl
  | s :: r, i, e, hl, h => by
    by_cases h0 : i < 0
    · rw [chain_neg h0, chainG_no (.inl (.inl h0))]
    · have hw : isW (l.getD i.toNat default) := h.resolve_left h0
      by_cases h2 : lowS (l.getD i.toNat default).text ∈ s
      · rw [chain_go h0 h2, chainG_go (by rintro ((q | q) | q); exact h0 q; exact q hw; exact q h2)]
        rcases nextT_bd (l := l) (i := i.toNat) ω with h3 | ⟨h3, h4, h5⟩
        · exact chainFG r _ _ ω (.inl ω)
        · exact chainFG r _ _ h4 (.inr h5)
      · rw [chain_no h0 h2, chainG_no (.inr h2)]
theorem chainG_bd : ∀ (ss : List (List Str)) (i e : Int), i < l.length → chainG l i e ss = -1 ∨ chainG l i e ss = e ∨ (i + 1 ≤ chainG l i e ss ∧ chainG l i e ss ≤ l.length)
  | [], _, _, _ => .inr (.inl rfl)
  | s :: r, i, e, hl => by
    by_cases h : (i < 0 ∨ ¬ isW (l.getD i.toNat default)) ∨ ¬ lowS (l.getD i.toNat default).text ∈ s
    · exact .inl (chainG_no h)
    · rw [chainG_go h]
      have h0 : ¬ i < 0 := fun q => h (.inl (.inl q))
      rcases nextT_bd (l := l) (i := i.toNat) ω with h3 | ⟨h3, h4, h5⟩
      · rcases chainG_bd r (nextT l i.toNat) (i + 1) ω with h6 | h6 | ⟨h6, h7⟩
        · exact .inl h6
        · exact .inr (.inr ⟨by omega, by omega⟩)
        · cases r with
          | nil => exact .inr (.inr ⟨by show i + 1 ≤ i + 1; omega, by show i + 1 ≤ _; omega⟩)
          | cons s2 r2 => exact .inl (chainG_no (.inl (.inl ω)))
      · rcases chainG_bd r (nextT l i.toNat) (i + 1) h4 with h6 | h6 | ⟨h6, h7⟩
        · exact .inl h6
        · exact .inr (.inr ⟨by omega, by omega⟩)
        · exact .inr (.inr ⟨by omega, h7⟩)
def cT (i : Nat) (ss : List (List Str)) : Int := chainG l i (-1) ss
theorem cT_no {i : Nat} (h : ¬ isW (l.getD i default)) (ss : List (List Str)) : cT l i ss = -1 := by
  unfold cT
  cases ss with
  | nil => rfl
  | cons s r => exact chainG_no (.inl (.inr (by simpa using h)))
theorem cT_bd {i : Nat} (hi : i < l.length) (ss : List (List Str)) : cT l i ss = -1 ∨ ((i : Int) + 1 ≤ cT l i ss ∧ cT l i ss ≤ l.length) := by
  rcases chainG_bd l ss i (-1) ω with h | h | h
  · exact .inl h
  · exact .inl h
  · exact .inr h
variable (fs : List (List (List Str)))
def longer (o : Option (Nat × Int)) (k : Nat) : Bool := o.all fun q => decide ((fs.getD q.1 default).length < (fs.getD k default).length)
def bestK (i : Nat) : Nat → Option (Nat × Int)
  | 0 => none
  | k + 1 => if 0 ≤ cT l i (fs.getD k default) ∧ longer fs (bestK i k) k = true then some (k, cT l i (fs.getD k default)) else bestK i k
theorem best_yes {i k : Nat} (h : 0 ≤ cT l i (fs.getD k default) ∧ longer fs (bestK l fs i k) k = true) : bestK l fs i (k + 1) = some (k, cT l i (fs.getD k default)) := if_pos h
theorem best_no {i k : Nat} (h : ¬ (0 ≤ cT l i (fs.getD k default) ∧ longer fs (bestK l fs i k) k = true)) : bestK l fs i (k + 1) = bestK l fs i k := if_neg h
theorem best_none {i : Nat} (h : ¬ isW (l.getD i default)) : ∀ k, bestK l fs i k = none
  | 0 => rfl
  | k + 1 => by rw [best_no l fs (by rw [cT_no l h]; omega)]; exact best_none h k
theorem best_bd {i : Nat} (hi : i < l.length) : ∀ (k : Nat) (q : Nat × Int), bestK l fs i k = some q → q.1 < k ∧ (i : Int) + 1 ≤ q.2 ∧ q.2 ≤ l.length ∧ q.2 = cT l i (fs.getD q.1 default)
  | 0, q, h => by cases h
  | k + 1, q, h => by
    by_cases h1 : 0 ≤ cT l i (fs.getD k default) ∧ longer fs (bestK l fs i k) k = true
    · rw [best_yes l fs h1] at h
      cases h
      rcases cT_bd l hi (fs.getD k default) with h2 | h2
      · omega
      · exact ⟨Nat.lt_succ_self _, h2.1, h2.2, rfl⟩
    · rw [best_no l fs h1] at h
      have := best_bd hi k q h
      exact ⟨by omega, this.2⟩
def bestI (o : Option (Nat × Int)) : Int × Int := match o with | none => (-1, -1) | some q => ((q.1 : Int), q.2)
def bestF (i : Nat) (o : Option (Nat × Int)) : Int := match o with | none => 0 | some _ => (i : Int)
def bestE (o : Option (Nat × Int)) : Int := match o with | none => 0 | some q => q.2
theorem longer_iff (o : Option (Nat × Int)) (k : Nat) : longer fs o k = true ↔ ((bestI o).1 < 0 ∨ (fs.getD (bestI o).1.toNat default).length < (fs.getD k default).length) := by
  cases o with
  | none => simp [longer, bestI]
  | some q =>
    have h : ¬ ((q.1 : Nat) : Int) < 0 := by omega
    simp only [longer, bestI, Option.all_some, decide_eq_true_eq, h, false_or, Int.toNat_natCast]
def spotsG : Nat → Nat → List Spt
  | 0, _ => []
  | n + 1, i => match bestK l fs i fs.length with
    | none => spotsG n (i + 1)
    | some q => ⟨(q.1 : Int), i, q.2⟩ :: spotsG n q.2.toNat
def spotsF (i : Nat) : List Spt := spotsG l fs (l.length - i) i
theorem spotsG_out : ∀ (n i : Nat), l.length ≤ i → spotsG l fs n i = []
  | 0, _, _ => rfl
  | n + 1, i, h => by
    have hb := best_none l fs (i := i) (by rw [List.getD_eq_getElem?_getD, List.getElem?_eq_none h]; decide) fs.length
    unfold spotsG
    rw [hb]
    exact spotsG_out n (i + 1) ω
theorem spotsG_more : ∀ (n m i : Nat), l.length - i ≤ n → l.length - i ≤ m → spotsG l fs n i = spotsG l fs m i
  | 0, m, i, h1, h2 => by rw [spotsG_out l fs 0 i ω, spotsG_out l fs m i ω]
  | n + 1, 0, i, h1, h2 => by rw [spotsG_out l fs _ i ω, spotsG_out l fs _ i ω]
  | n + 1, m + 1, i, h1, h2 => by
    rcases Nat.lt_or_ge i l.length with hi | hi
    · unfold spotsG
      cases hb : bestK l fs i fs.length with
      | none => exact spotsG_more n m (i + 1) ω ω
      | some q =>
        have h3 := best_bd l fs hi _ _ hb
        exact congrArg _ (spotsG_more n m q.2.toNat ω ω)
    · rw [spotsG_out l fs _ i hi, spotsG_out l fs _ i hi]
theorem spots_none {i : Nat} (hi : i < l.length) (h : bestK l fs i fs.length = none) : spotsF l fs i = spotsF l fs (i + 1) := by
  unfold spotsF
  obtain ⟨n, hn⟩ : ∃ n, l.length - i = n + 1 := ⟨l.length - i - 1, by omega⟩
  rw [hn]
  conv => lhs; unfold spotsG
  rw [h]
  exact spotsG_more l fs _ _ _ ω ω
theorem spots_some {i : Nat} (hi : i < l.length) {q : Nat × Int} (h : bestK l fs i fs.length = some q) : spotsF l fs i = ⟨(q.1 : Int), i, q.2⟩ :: spotsF l fs q.2.toNat := by
  have h3 := best_bd l fs hi _ _ h
  unfold spotsF
  obtain ⟨n, hn⟩ : ∃ n, l.length - i = n + 1 := ⟨l.length - i - 1, by omega⟩
  rw [hn]
  conv => lhs; unfold spotsG
  rw [h]
  exact congrArg _ (spotsG_more l fs _ _ _ ω ω)
theorem spots_end {i : Nat} (h : l.length ≤ i) : spotsF l fs i = [] := spotsG_out l fs _ i h
end
theorem bestI_none {o : Option (Nat × Int)} (h : (bestI o).1 < 0) : o = none := by
  cases o with
  | none => rfl
  | some q => exact absurd h (by show ¬ ((q.1 : Nat) : Int) < 0; omega)
theorem ag_85 : aggP Tryz.prog 85 = some true := ζ
theorem pl_187 : placesP Tryz.prog 187 = some [(0, 1), (1, 1), (2, 1)] := ζ
theorem ty_187 : tyP Tryz.prog 187 = some (3, 24, some (.agg #[(.int .i64 0), (.int .i64 0), (.int .i64 0)])) := ζ
theorem ty_85 : tyP Tryz.prog 85 = some (3, 72, some (.agg #[(.slice none 0 0), (.slice none 0 0), (.slice none 0 0)])) := ζ
def fsT (c : List Clas) (ts : List TermL) : List (List (List Str)) := ts.map (fun t => formsT c t.words)
theorem fsT_len (c : List Clas) (ts : List TermL) : (fsT c ts).length = ts.length := by unfold fsT; rw [List.length_map]
theorem fsT_get {c : List Clas} {ts : List TermL} {k : Nat} (h : k < ts.length) : (fsT c ts).getD k default = formsT c (ts.getD k default).words := by
  unfold fsT; simp [List.getD, h]
theorem fsT_glen {c : List Clas} {ts : List TermL} {k : Nat} (h : k < ts.length) : ((fsT c ts).getD k default).length = (ts.getD k default).words.length := by rw [fsT_get h, formsT_len]
theorem termD_bd {ts : List TermL} (h : ∀ x ∈ ts, x.words.length ≤ 4398046510976 ∧ ∀ y ∈ x.words, BdE y) (k : Nat) : (ts.getD k default).words.length ≤ 4398046510976 ∧ ∀ y ∈ (ts.getD k default).words, BdE y := by
  rcases Nat.lt_or_ge k ts.length with h1 | h1
  · exact h _ (getD_in h1)
  · rw [List.getD_eq_getElem?_getD, List.getElem?_eq_none h1]; exact ⟨Nat.zero_le _, fun y hy => by cases hy⟩
theorem bestI_lt {l : List Vc.Item} {fs : List (List (List Str))} {i k n : Nat} (hi : i < l.length) (hk : k ≤ n) (hn : 0 < n) : (bestI (bestK l fs i k)).1.toNat < n := by
  cases h : bestK l fs i k with
  | none => exact hn
  | some q => have := (best_bd l fs hi k q h).1; show ((q.1 : Nat) : Int).toNat < n; omega
theorem bestI_bd {l : List Vc.Item} {fs : List (List (List Str))} {i k : Nat} (hi : i < l.length) : -1 ≤ (bestI (bestK l fs i k)).1 ∧ (bestI (bestK l fs i k)).1 < (k : Int) + 0 ∨ (bestI (bestK l fs i k)).1 = -1 := by
  cases h : bestK l fs i k with
  | none => exact .inr rfl
  | some q => have := (best_bd l fs hi k q h).1; exact .inl ⟨by show -1 ≤ ((q.1 : Nat) : Int); omega, by show ((q.1 : Nat) : Int) < _; omega⟩
end Go.Proofs.YtlfjocbnbceceaaGreatDoor
namespace Go.Vc
open Go Go.RowKit Go.IntWalk
def FRow (w : World) (bt : Nat) (v : Value) (l : List (List Str)) : Prop := ∀ w', Evo w w' [bt] → ∃ ao b off cap, v = .slice ao (l.map SetS.mk).length cap ∧ RowR w' ao b off cap (l.map SetS.mk)
theorem FRow.evo {w w' : World} {bt : Nat} {v : Value} {l : List (List Str)} (h : FRow w bt v l) (he : Evo w w' [bt]) : FRow w' bt v l := fun w2 h2 => h w2 (Evo.trans he h2 (fun x hx _ => hx))
theorem FRow.of {w : World} {base E bt : Nat} {v : Value} {l : List (List Str)} (h : OwnR w base E [bt] v (l.map SetS.mk)) (hb : bt < base) : FRow w bt v l := fun w' he => by
  obtain ⟨ao, g, cap, hv, hr⟩ := (h.evoY he (fun y hy => by have e : y = bt := (by simpa using hy); omega)).rowOf
  exact ⟨ao, g, 0, cap, hv, hr⟩
theorem nth_mk (l : List (List Str)) : (l.map SetS.mk).map (·.ks) = l := by rw [List.map_map]; exact List.map_id' l
section
variable {P : Program} {n : Nat} {f : Fr} {w : World}
theorem Kx_goto {B : Exit → Act → World → Prop} (hB : ∀ i a w, ¬ B (.goto i) a w) {i : Nat} {a : Act} {w : World} : ∀ k : List Kont, ¬ Kx P B k (.goto i) a w
  | [], h => hB i a w h
  | .code _ :: k, h => Kx_goto hB k h
  | .blk _ :: k, h => Kx_goto hB k h
  | .stop _ :: k, h => Kx_goto hB k h
theorem r_scope {fn : Func} {R : Ending → World → Prop} {c : Code} {k : List Kont} (h : KF P (bodyPost P fn R) n (.code c :: k) f w) : KF P (bodyPost P fn R) n (.code (.scope c) :: k) f w := by
  intro a ha
  show (Code.scope c).wp P (Kx P (bodyPost P fn R) k) a w
  refine wp_scope_straight (wp_mono (h a ha) fun e a w hq => ?_)
  cases e with
  | goto i => exact (Kx_goto (P := P) (fun _ _ _ h => h) k hq).elim
  | normal => exact hq
  | exit i => exact hq
  | ret => exact hq
  | panic c => exact hq
  | outgrown => exact hq
theorem r_label {B : Exit → Act → World → Prop} {l : Nat} {k : List Kont} (h : KF P B n k f w) : KF P B n (.code (.label l) :: k) f w := fun a ha => wp_label (h a ha)
end
theorem rowLitRK {α : Type} [Rep α] {w : World} {b : Nat} {T : TypeId} {cs : List Value} {x : α} (E : List Nat) (h : Blk w b T cs) (hb : b ∉ E) (hr : ∀ w', Evo w w' E → Rep.rep w' cs x) : RowRK w E (some ⟨b, 0, none⟩) b 0 1 [x] := by
  refine ⟨[cs], fun w' he => ⟨⟨by simp, fun _ => rfl, fun i c hi => ?_⟩, RepL.one (hr w' he)⟩⟩
  cases i with
  | zero =>
    simp at hi; subst hi
    refine ⟨Rep.len (hr w' he), ?_⟩
    have := (h.evo he hb).at
    simpa using this
  | succ i => simp at hi
section
variable {P : Program} {B : Exit → Act → World → Prop} {n : Nat} {k : List Kont} {f : Fr} {w : World} {ops : Array Oper} {rest : List Oper}
theorem r_makeB {T E d m bb len : Nat} {t : TypeId} {pos : String} {aft : Array Edge} {x y : Operand} {z : Value} {zs : List Value} {κ κ' : IntKind} {i j : Int}
    (hu : P.underlying T = some (.slice E)) (ht : tyP P E = some (m, bb, some z)) (hz : z.cells = zs.toArray) (hm : (Nat.beq zs.length m && Nat.ble 1 m) = true) (hd : Nat.blt d n = true)
    (hx : opv f x = .int κ i) (hy : opv f y = .int κ' j) (hi : i = (len : Int)) (hj : j = (len : Int)) (hlen : len ≤ 140737488355328) (hb : bb * len ≤ 281474976710656)
    (h : ∀ b w', b = w.heap.size → Evo w w' [] → FB w' b E m len (fun _ => zs) → w'.heap.size = b + 1 → KL P B n ops k rest (upd f d (.slice (some ⟨b, 0, none⟩) len len)) w') :
    KL P B n ops k (⟨some d, .makeSlice T x y, t, pos, aft, none⟩ :: rest) f w := by
  simp only [Bool.and_eq_true, Nat.ble_eq] at hm
  have hzl := Nat.eq_of_beq_eq_true hm.1
  obtain ⟨it, hit, h1, h2, h3⟩ := info_of ht
  have hll : len ≤ len * m := Nat.le_mul_of_pos_right len ω
  have hbb : (bb : Int) * (len : Int) = ((bb * len : Nat) : Int) := by simp
  have hrun := run_make (P := P) w T E it z hu hit h3 κ κ' (len : Int) (len : Int) ω (Int.le_refl _) (by rw [h2, hbb]; omega) ω
  simp only [Int.toNat_natCast, h1] at hrun
  rw [madeCells_flat hz hzl ω len] at hrun
  refine r_op (v := .slice (some ⟨w.heap.size, 0, none⟩) len len) (w' := w.alloc (.cells (flat len (fun _ => zs)).toArray E)) rfl rfl hd ?_ (h _ _ rfl (Evo.alloc _ _ _) ⟨heap_alloc_new w _, fun _ => hzl⟩ (by simp))
  subst hi
  subst hj
  simp [execOp, hx, hy, hrun]
end
end Go.Vc
namespace Go.Proofs.YtlfjocbnbceceaaGreatDoor
open Go.RowKit Go.Vc
theorem ag_187 : aggP Tryz.prog 187 = some true := ζ
theorem ag_200 : aggP Tryz.prog 200 = some false := ζ
theorem fo_187_0 : fieldP Tryz.prog 187 0 = some 0 := ζ
theorem fo_187_2 : fieldP Tryz.prog 187 2 = some 2 := ζ
theorem ty_200 : tyP Tryz.prog 200 = some (1, 24, some (.slice none 0 0)) := ζ
theorem ps_cond {l : List Vc.Item} {c : List Clas} {ts : List TermL} {i k : Nat} (hi : i < l.length) (hk : k < ts.length) {e : Int} (he : e = cT l i ((fsT c ts).getD k default)) : (0 ≤ e ∧ ((bestI (bestK l (fsT c ts) i k)).1 < 0 ∨ (((ts.getD (bestI (bestK l (fsT c ts) i k)).1.toNat default).words.length : Nat) : Int) < ((((formsT c (ts.getD k default).words).map SetS.mk).length : Nat) : Int))) ↔ (0 ≤ cT l i ((fsT c ts).getD k default) ∧ longer (fsT c ts) (bestK l (fsT c ts) i k) k = true) := by
  have hb := bestI_lt (l := l) (fs := fsT c ts) (i := i) (k := k) (n := ts.length) hi ω ω
  rw [longer_iff, fsT_glen hb, fsT_glen hk, List.length_map, formsT_len, he]
  omega
theorem set_one (w : World) (cs : List Value) (x : SetS) (h : Rep.rep w cs x) : oneCells cs = true := by obtain ⟨b, rfl, _⟩ := h; rfl
section
variable {l : List Vc.Item} {fs : List (List (List Str))} {i to9 : Nat}
theorem spots_skip (hi : i < l.length) (h : (i : Int) < (to9 : Int) ∨ ¬ isW (l.getD i default)) : spotsF l fs (max i to9) = spotsF l fs (max (i + 1) to9) := by
  by_cases h1 : i < to9
  · rw [show max i to9 = max (i + 1) to9 by omega]
  · have h2 : ¬ isW (l.getD i default) := h.resolve_left ω
    rw [show max i to9 = i by omega, show max (i + 1) to9 = i + 1 by omega]
    exact spots_none l fs hi (best_none l fs h2 _)
theorem spots_nob (hi : i < l.length) (h : ¬ ((i : Int) < (to9 : Int) ∨ ¬ isW (l.getD i default))) (hb : bestK l fs i fs.length = none) : spotsF l fs (max i to9) = spotsF l fs (max (i + 1) to9) := by
  have h1 : ¬ (i : Int) < (to9 : Int) := fun q => h (.inl q)
  rw [show max i to9 = i by omega, show max (i + 1) to9 = i + 1 by omega]
  exact spots_none l fs hi hb
theorem spots_yes (hi : i < l.length) (h : ¬ ((i : Int) < (to9 : Int) ∨ ¬ isW (l.getD i default))) {q : Nat × Int} (hb : bestK l fs i fs.length = some q) : spotsF l fs (max i to9) = ⟨(q.1 : Int), (i : Int), q.2⟩ :: spotsF l fs (max (i + 1) q.2.toNat) := by
  have h1 : ¬ (i : Int) < (to9 : Int) := fun q => h (.inl q)
  have h3 := best_bd l fs hi _ _ hb
  rw [show max i to9 = i by omega, show max (i + 1) q.2.toNat = q.2.toNat by omega]
  exact spots_some l fs hi hb
theorem bestC_some {o : Option (Nat × Int)} (h : ¬ (bestI o).1 < 0) : ∃ q, o = some q ∧ (bestI o).1 = (q.1 : Int) ∧ bestF i o = (i : Int) ∧ bestE o = q.2 := by
  cases o with
  | none => exact absurd (show (-1 : Int) < 0 by decide) h
  | some q => exact ⟨q, rfl, rfl, rfl, rfl⟩
end
set_option maxHeartbeats 1000000 in
theorem spots_calls {aot : Option Addr} {btt offt capt : Nat} {ts : List TermL} {ao : Option Addr} {b off cap : Nat} {c : List Clas} {aol : Option Addr} {bl offl capl : Nat} {l : List Vc.Item} {w0 : World} (ht : RowR w0 aot btt offt capt ts) (hc : RowR w0 ao b off cap c) (hl : RowE w0 aol bl offl capl l) (hq : ∀ x ∈ l, x.text.length ≤ 140737488355328) (hzl : l.length ≤ 4398046510976) (hzt : ts.length ≤ 1954687338760) :
    Calls Tryz.prog 187 #[.slice aot ts.length capt, .slice ao c.length cap, .slice aol l.length capl] w0 fun e w' => ∃ v, e = .returned v ∧ Evo w0 w' [] ∧ OwnE w' w0.heap.size 187 v (spotsF l (fsT c ts) 0) := by
 have hcb := clas_bd hc; have htb := term_bd ht
 refine calls_enter (n := 114) Tryz.func187 rfl Tryz.ntmps187 rfl ?_
 have hV : Evo w0 w0 [] := Evo.refl _ _
 have ht0 := ht.keep
 have hbd_ht := ht.bd
 have hc0 := hc.keep
 have hbd_hc := hc.bd
 have hl0 := keepE hl
 have hbd_hl := hl.bd
 refine Zs ?_
 refine Zn asS ?_
 refine r_scope ?_
 refine Zs ?_
 refine Zo mvS ?_
 refine Zo (run_lenSl rfl η Tryz.underlying25) ?_
 refine r_makeB (len := ts.length) (zs := [_]) Tryz.underlying213 ty_200 η rfl rfl η η ω ω ω ω ?_
 intro bt w1 hebt E1 hout hzbt
 have Q1 := E1.size
 replace hV := Z0 hV E1
 replace ht := ht0.now hV
 replace hc := hc0.now hV
 replace hl := hl0 _ hV
 refine Zn (run_asg (v := .slice (some ⟨bt, 0, none⟩) _ _) rfl η) ?_
 refine r_seq ?_
 refine Zs ?_
 refine Zo mvS ?_
 refine Zo (run_lenSl rfl η Tryz.underlying25) ?_
 refine Zn mvI ?_
 refine r_block ?_
 refine r_loop (α := Nat) [8, 9, 11, 24, 25, 26, 27, 28, 29, 30, 31, 32, 33, 34, 35, 36, 37, 38, 39, 40, 41, 42, 43, 44, 45, 46, 47, 48, 49, 50] (fun k g w => ∃ vs : Nat → Value, g 24 = .int .i64 (k : Nat) ∧ k ≤ ts.length ∧ FB w bt 200 1 ts.length (fun x => [vs x]) ∧ (∀ x, x < k → FRow w bt (vs x) (formsT c (ts.getD x default).words)) ∧ (∀ x, k ≤ x → vs x = .slice none 0 0) ∧ w1.heap.size ≤ w.heap.size ∧ Evo w0 w []) (fun k => ts.length - k) 0 ?_ ?_
 ·refine ⟨(fun _ => .slice none 0 0), σ, δ, hout, (fun x hx => absurd hx ω), (fun x hx => rfl), δ, hV⟩
 rintro k g w3 ⟨vs, hj4, hk_k, hfb, hrw, hnl, hzl2, hV⟩
 have hs_w3hV := hV.size
 have hlt5 := hfb.lt
 replace ht := ht0.now hV
 replace hc := hc0.now hV
 replace hl := hl0 _ hV
 refine Zk 24 (v := .int .i64 (k : Nat)) (by exact hj4) ?_
 refine Zs ?_
 refine Zn (run_lss rfl η η) ?_
 refine r_seq ?_
 refine r_cond η (fun hc6 => ?_) (fun hc6 => ?_)
 ·skip
  refine r_skip ?_
  refine r_seq ?_
  refine r_block ?_
  refine r_seq ?_
  have hB : Evo w3 w3 [bt] := Evo.refl _ _
  refine r_region ?_
  refine Zo mvI ?_
  refine Zo (run_ix (k) rfl Tryz.underlying25 ty_85 η η (by first | exact rfl | omega) ω (ht.addr (i := k) ω)) ?_
  obtain ⟨aoW7, bW7, offW7, capW7, aoQ7, bQ7, offQ7, capQ7, aoF7, bF7, offF7, capF7, hX⟩ := term_atK ht0 (k) ω
  have hA70 := fun (w' : World) (h : Evo w0 w' []) => (hX w' h).1
  have hA7 := hA70 _ hV
  have hW70 := fun (w' : World) (h : Evo w0 w' []) => (hX w' h).2.1
  have hW7 := hW70 _ hV
  have hQ70 := fun (w' : World) (h : Evo w0 w' []) => (hX w' h).2.2.1
  have hQ7 := hQ70 _ hV
  have hF70 := fun (w' : World) (h : Evo w0 w' []) => (hX w' h).2.2.2
  have hF7 := hF70 _ hV
  clear hX
  have hbd_hW7 := hW7.bd
  have hbd_hQ7 := hQ7.bd
  have hbd_hF7 := hF7.bd
  refine Zo (run_ldN rfl ag_85 ty_85 η rfl hA7) ?_
  refine r_alloc (zs := [_, _, _]) ty_85 η rfl ?_
  intro b8 w9 J8 E9 B8 Y8
  have Q9 := E9.size
  replace hV := Z0 hV E9
  replace hB := Z0 hB E9
  replace hfb := hfb.evo0 E9
  replace hA7 := hA70 _ hV
  refine Zo asI ?_
  refine r_store (v := .agg _) (vs := [_, _, _]) (cs' := [_, _, _]) η η B8 ty_85 η rfl η rfl η ?_
  intro w10 E10 V10 hb_new
  have Q10 := E10.size
  replace hV := Z1 hV E10 ε
  replace hB := Z1 hB E10 ε
  replace ht := ht0.now hV
  replace hc := hc0.now hV
  replace hl := hl0 _ hV
  replace hfb := hfb.evo E10 θ
  replace hW7 := hW70 _ hV
  replace hQ7 := hQ70 _ hV
  replace hF7 := hF70 _ hV
  replace B8 := hb_new
  clear hb_new
  refine r_nil ?_
  refine r_seq ?_
  have htk := termD_bd htb k
  refine r_region ?_
  refine Zo (run_fa rfl η fo_85_0) ?_
  refine Zo (run_ld1 rfl ag_83 η (B8.at.cell 0 η)) ?_
  refine Zo (run_lenSl rfl η Tryz.underlying83) ?_
  refine Zn mvI ?_
  refine r_block ?_
  refine r_loop (α := Nat) [11, 32, 33, 34, 35, 36, 37, 38, 39, 40, 41, 42, 43, 44, 45, 46, 47, 48, 49] (fun j g w => ∃ vc : Value, g 32 = .int .i64 (j : Nat) ∧ j ≤ (ts.getD k default).words.length ∧ OwnR w w10.heap.size 171 [bt] vc ((formsT c ((ts.getD k default).words.take j)).map SetS.mk) ∧ FB w bt 200 1 ts.length (fun x => if x = k then [vc] else [vs x]) ∧ w10.heap.size ≤ w.heap.size ∧ Evo w0 w [] ∧ Evo w3 w [bt]) (fun j => (ts.getD k default).words.length - j) 0 ?_ ?_
  ·refine ⟨(.slice none 0 0), σ, δ, (OwnR.nil _ _ _ _), (hfb.congr (fun x => by by_cases e9 : x = k; (subst e9; rw [if_pos rfl, hnl x (Nat.le_refl _)]); rw [if_neg e9])), δ, hV, hB⟩
  rintro j g w12 ⟨vc, hj13, hk_j, hoC, hfb, hzl11, hV, hB⟩
  have hs_w12hV := hV.size
  have hs_w12hB := hB.size
  have hlt14 := hfb.lt
  replace ht := ht0.now hV
  replace hc := hc0.now hV
  replace hl := hl0 _ hV
  replace hA7 := hA70 _ hV
  replace hW7 := hW70 _ hV
  replace hQ7 := hQ70 _ hV
  replace hF7 := hF70 _ hV
  refine Zk 32 (v := .int .i64 (j : Nat)) (by exact hj13) ?_
  refine Zs ?_
  refine Zn (run_lss rfl η η) ?_
  refine r_seq ?_
  refine r_cond η (fun hc15 => ?_) (fun hc15 => ?_)
  ·skip
   refine r_skip ?_
   refine r_seq ?_
   refine r_block ?_
   refine r_seq ?_
   have hoC_own := fun {g : Nat} (hg : vc.ownBlock = some g) => hoC.block (g := g) hg
   refine r_region ?_
   refine Zo (run_ix (j) rfl Tryz.underlying83 ty_88 η η (by first | exact rfl | omega) ω (hW7.addr (i := j) ω)) ?_
   have hA160 := fun (w' : World) (h : Evo w0 w' []) => (hW70 w' h).atD (j) ω
   have hA16 := hA160 _ hV
   refine Zo (run_ldN rfl ag_88 ty_88 η rfl hA16) ?_
   have hob17 := fun g hg => (hoC.block (g := g) hg).2
   refine r_var (zs := [_, _]) (vs := [_, _]) ty_88 η rfl η (fun _ => rfl) η rfl rfl η ?_
   intro b18 w19 J18 E19 B18 Y18
   have Q19 := E19.size
   replace hV := Z0 hV E19
   replace hB := Z0 hB E19
   replace hoC := hoC.evo0 E19
   replace hfb := hfb.evo0 E19
   refine r_nil ?_
   have hobC := fun g hg => (hoC.block (g := g) hg); have hbk := ende_getD htk.2 j; have hfl := formsT_len c ((ts.getD k default).words.take j); have hft := List.length_take_le j (ts.getD k default).words
   have hbtl := hfb.lt
   have hnb : bt ∉ vc.ownBlock.toList := fun hm => by have h9 := hobC _ (Option.mem_toList.1 hm); omega
   have hfb_q := hfb
   have hbb18_q := B18
   have hAb18_q := B18.at
   have hV_q := hV
   have hB_q := hB
   refine h_region (vc.ownBlock.toList) ζ ?_
   intro w20 F21 hC8x
   have Q20 := F21.size
   replace hV := Z0 hV F21
   replace hB := Z0 hB F21
   replace hc := hc0.now hV
   replace hoC := hoC.evo0 F21
   replace hfb := hfb.evo0 F21
   replace B18 := B18.evo0 F21
   refine Zt (i := 0) η (fun w' hC => run_mv (v := .slice (some ⟨bt, 0, none⟩) _ _) rfl η) hC8x ?_
   refine Zt (i := 1) η (fun w' hC => mvI) hC8x ?_
   refine Zt (i := 2) η (fun w' hC => run_mv (v := .slice (some ⟨bt, 0, none⟩) _ _) rfl η) hC8x ?_
   refine Zt (i := 3) η (fun w' hC => mvI) hC8x ?_
   refine Zt (i := 4) η (fun w' hC => run_ix (k) rfl Tryz.underlying213 ty_200 η η (by first | exact rfl | omega) ω rfl) hC8x ?_
   refine Zt (i := 5) η (fun w' hC => run_ld1 rfl ag_200 η ((hfb_q.evo hC hnb).cell0 (x := k) ω (v := vc) (r := []) (if_pos rfl))) hC8x ?_
   refine Zt (i := 6) η (fun w' hC => mvS) hC8x ?_
   refine Zt (i := 7) η (fun w' hC => run_ldN rfl ag_88 ty_88 η rfl (hAb18_q.evo hC (fun hg => by have h8 := hoC_own (Option.mem_toList.1 hg); omega))) hC8x ?_
   refine Zh (i := 8) ?_
   refine Zr [.slice _ _ _, .agg _] rfl η Tryz.func208 (oforms_calls hc (p := ((ts.getD k default).words.getD j default).strip) (q := ((ts.getD k default).words.getD j default).add) (ends_len hcb _) (ends_bd hcb _) (by have := hbk.1; omega) (by have := hbk.2; omega)) ?_
   rintro e w22 ⟨vf22, rfl, F22, hof22⟩
   refine ⟨_, rfl, ?_⟩
   have Q22 := F22.size
   replace hV := Z0 hV F22
   replace hB := Z0 hB F22
   replace hC8x := Z0 hC8x F22
   replace hoC := hoC.evo0 F22
   replace hfb := hfb.evo0 F22
   refine h_next hC8x ?_
   refine Zh (i := 9) ?_
   obtain ⟨ao23, g23, cp23, hv23, hr23, hg23⟩ := hof22.rowOf
   subst hv23
   refine Zr [.slice _ _ _] rfl η Tryz.func190 (set_calls hr23) ?_
   rintro e w24 ⟨bm24, rfl, F24, hsm24, hsb24⟩
   refine ⟨_, rfl, ?_⟩
   have Q24 := F24.size
   replace hV := Z0 hV F24
   replace hB := Z0 hB F24
   replace hC8x := Z0 hC8x F24
   replace hoC := hoC.evo0 F24
   replace hfb := hfb.evo0 F24
   replace hof22 := hof22.evo0 F24
   replace hr23 := hr23.evo0 F24
   refine h_next hC8x ?_
   refine Zh (i := 10) ?_
   refine r_bslice (pv := [(0, .map (some bm24))]) (zs := [_]) (cs := [_]) Tryz.underlying200 ty_171 η rfl η rfl η ?_
   intro b25 w26 J25 E26 B25 Y25
   have Q26 := E26.size
   replace hV := Z0 hV E26
   replace hB := Z0 hB E26
   replace hC8x := Z0 hC8x E26
   replace hoC := hoC.evo0 E26
   replace hfb := hfb.evo0 E26
   replace hof22 := hof22.evo0 E26
   replace hr23 := hr23.evo0 E26
   replace hsm24 := hsm24.evo0 E26
   have hKb25 : Evo w26 w26 ([bt] ++ vc.ownBlock.toList) := Evo.refl _ _
   have hrb250 := rowLitRK ([bt] ++ vc.ownBlock.toList) B25 (by intro hm; simp only [List.singleton_append, List.mem_cons] at hm; rcases hm with hm | hm; omega; have h8 := hobC _ (Option.mem_toList.1 hm); omega) (fun w9 h9 => ⟨bm24, rfl, hsm24.evo h9 (by intro hm; simp only [List.singleton_append, List.mem_cons] at hm; rcases hm with hm | hm; omega; have h8 := hobC _ (Option.mem_toList.1 hm); omega)⟩) (x := (⟨formsC c ((ts.getD k default).words.getD j default).strip ((ts.getD k default).words.getD j default).add⟩ : SetS))
   have hrb25 := hrb250.now hKb25
   have hbd_hrb25 := hrb25.bd
   refine h_next hC8x ?_
   refine Zh (i := 11) ?_
   refine r_appendR (w1 := w26) (E' := [bt] ++ vc.ownBlock.toList) rfl Tryz.underlying200 ty_171 η set_one hoC η η hrb250 ((fun w9 h9 => Evo.trans hKb25 h9 (fun x hx _ => hx))) rfl ((by simp only [List.length_map, List.length_cons, List.length_nil]; omega)) ((by simp only [List.length_map, List.length_cons, List.length_nil]; omega)) ω ?_
   intro v27 w28 E28 hov27 hlv27
   have Q28 := E28.size
   replace hV := evo_stepo hV E28 (fun g hg => .inl (by first | exact (hoC.block hg).1 | (have := hoC.block hg; omega)))
   replace hB := evo_stepo hB E28 (fun g hg => .inl (by first | exact (hoC.block hg).1 | (have := hoC.block hg; omega)))
   replace hC8x := evo_stepo hC8x E28 (fun g hg => .inr (Option.mem_toList.2 hg))
   replace hKb25 := evo_stepo hKb25 E28 (fun g hg => .inr (List.mem_append.2 (.inr (Option.mem_toList.2 hg))))
   replace hfb := hfb.evo E28 (by intro hm; have hm2 := Option.mem_toList.1 hm; first | (have := hoC.block hm2; omega) | (simp [Value.ownBlock] at hm2; omega))
   obtain ⟨aoZ, cpZ, hvZ⟩ := hov27.shape
   subst hvZ
   refine h_next hC8x ?_
   refine Zt (i := 12) η (fun w' hC => run_ix (k) rfl Tryz.underlying213 ty_200 η η (by first | exact rfl | omega) ω rfl) hC8x ?_
   refine Zh (i := 13) ?_
   refine r_storeF (v := (.slice aoZ _ cpZ)) (vs := [_]) (k) η rfl η hfb ω ty_200 η rfl η ?_
   intro w29 E29 V29 hb_new
   have Q29 := E29.size
   replace hV := Z1 hV E29 ε
   replace hB := Z1 hB E29 ε
   replace hKb25 := Z1 hKb25 E29 ε
   replace ht := ht0.now hV
   replace hc := hc0.now hV
   replace hl := hl0 _ hV
   replace hrb25 := hrb250.now hKb25
   replace hov27 := hov27.evo E29 (by simp) (by intro g hg hm; simp at hm; subst hm; have := hov27.block hg; omega)
   replace hfb := hb_new
   clear hb_new
   refine h_last ζ ?_
   refine h_done ζ ?_
   refine r_blk ?_
   refine r_region ?_
   refine Zo (run_add rfl η η ω ω) ?_
   refine Zn mvI ?_
   refine r_again (j + 1) ?_ ?_ ?_
   ·first | omega | (dsimp only; omega)
   ·refine ⟨_, σ, δ, (by rw [formsT_succ ω, List.map_append]; exact hov27), (hfb.congr (fun x => by by_cases e9 : x = k <;> simp [e9])), δ, hV, hB⟩
   exact ψ
  refine r_exit rfl ?_
  refine r_blk ?_
  refine r_region ?_
  refine Zo (run_add rfl η η ω ω) ?_
  refine Zn mvI ?_
  refine r_again (k + 1) ?_ ?_ ?_
  ·first | omega | (dsimp only; omega)
  ·refine ⟨(fun x => if x = k then vc else vs x), σ, δ, (hfb.congr (fun x => by by_cases e9 : x = k <;> simp [e9])), (fun x hx => by show FRow _ _ (if x = k then vc else vs x) _; by_cases e9 : x = k; (rw [if_pos e9, e9]; exact FRow.of (by have h8 := hoC; rw [List.take_of_length_le ω] at h8; exact h8) ω); (rw [if_neg e9]; exact (hrw x ω).evo hB)), (fun x hx => by show (if x = k then vc else vs x) = _; rw [if_neg ω]; exact hnl x ω), δ, hV⟩
  exact ψ
 refine r_exit rfl ?_
 refine r_seq ?_
 have hB2 : Evo w3 w3 [bt] := Evo.refl _ _
 have hrw2 : ∀ x, x < ts.length → FRow w3 bt (vs x) (formsT c (ts.getD x default).words) := fun x hx => hrw x ω
 have hbtl := hfb.lt
 refine r_region ?_
 refine Zn asS ?_
 refine Zs ?_
 refine Zn asI ?_
 refine r_seq ?_
 refine r_label ?_
 refine r_seq ?_
 refine Zs ?_
 refine Zo mvS ?_
 refine Zo (run_lenSl rfl η Tryz.underlying94) ?_
 refine Zn mvI ?_
 refine r_block ?_
 refine r_loop (α := Nat) [12, 13, 14, 15, 16, 17, 18, 53, 54, 55, 56, 57, 58, 59, 60, 61, 62, 63, 64, 65, 66, 67, 68, 69, 70, 71, 72, 73, 74, 75, 76, 77, 78, 79, 80, 81, 82, 83, 84, 85, 86, 87, 88, 89, 90, 91, 92, 93, 94, 95, 96, 97, 98, 99, 100, 101, 102, 103, 104, 105, 106, 107, 108, 109, 110, 111, 112] (fun i g w => ∃ to9 : Nat, ∃ vo : Value, ∃ sp : List Spt, g 53 = .int .i64 (i : Nat) ∧ g 13 = .int .i64 (to9 : Nat) ∧ g 12 = vo ∧ i ≤ l.length ∧ FB w bt 200 1 ts.length (fun x => [vs x]) ∧ OwnE w w3.heap.size 187 vo sp ∧ to9 ≤ l.length ∧ sp ++ spotsF l (fsT c ts) (max i to9) = spotsF l (fsT c ts) 0 ∧ sp.length ≤ i ∧ w3.heap.size ≤ w.heap.size ∧ Evo w0 w [] ∧ Evo w3 w [bt]) (fun i => l.length - i) 0 ?_ ?_
 ·refine ⟨0, _, [], σ, rfl, rfl, δ, hfb, (OwnE.nil _ _ _), δ, rfl, δ, δ, hV, hB2⟩
 rintro i g w31 ⟨to9, vo, sp, hj32, hj33, hj34, hk_i, hfb, hoo, hto, hsp, hsl, hzl30, hV, hB2⟩
 have hs_w31hV := hV.size
 have hs_w31hB2 := hB2.size
 have hlt35 := hfb.lt
 replace hl := hl0 _ hV
 refine Zk 53 (v := .int .i64 (i : Nat)) (by exact hj32) ?_
 refine Zk 13 (v := .int .i64 (to9 : Nat)) (by exact hj33) ?_
 refine Zk 12 (v := vo) (by exact hj34) ?_
 refine Zs ?_
 refine Zn (run_lss rfl η η) ?_
 refine r_seq ?_
 refine r_cond η (fun hc36 => ?_) (fun hc36 => ?_)
 ·skip
  refine r_skip ?_
  refine r_seq ?_
  refine r_block ?_
  refine Zs ?_
  refine Zo mvI ?_
  refine Zn asI ?_
  refine r_seq ?_
  refine r_seq ?_
  have hobO := fun g hg => (hoo.block (g := g) hg).2
  refine r_region ?_
  refine Zo mvI ?_
  refine Zo mvI ?_
  refine Zo (run_lss rfl η η) ?_
  refine Zo mvB ?_
  refine r_g rfl (wantF η) rfl (fun hg => mvS) ?_
  refine r_g rfl (wantF η) rfl (fun hg => mvI) ?_
  refine r_g rfl (wantF η) rfl (fun hg => run_ix (i) rfl Tryz.underlying94 ty_96 (glv η (fun h => h) hg) (glv η (fun h => h) hg) (by first | exact rfl | omega) ω (hl.addr (i := i) ω)) ?_
  refine r_g rfl (wantF η) rfl (fun hg => run_ldN rfl ag_96 ty_96 (glv η (fun h => h) hg) rfl (hl.atD (i) ω)) ?_
  refine r_gcall rfl (wantF η) rfl (fun hg => run_callf rfl (argcons (v := .agg _) (glv η (fun h => h) hg) (rfl)) Tryz.func191 rfl ζ) (fun hg => (tisword_calls (x := (l.getD i default))).mono (fun e w' h => ⟨h.1, h.2⟩)) (fun w37 F38 => ?_)
  have Q37 := F38.size
  replace hV := Z0 hV F38
  replace hB2 := Z0 hB2 F38
  replace ht := ht0.now hV
  replace hc := hc0.now hV
  replace hl := hl0 _ hV
  replace hfb := hfb.evo0 F38
  replace hoo := hoo.evo0 F38
  refine r_g rfl (wantF η) rfl (fun hg => run_not rfl (glv η (fun h => h) hg)) ?_
  refine Zn (run_pick_or rfl η rfl (fun hq => glv η (fun h => h) hq)) ?_
  refine r_cond η (fun hc39 => ?_) (fun hc39 => ?_)
  ·skip
   obtain ⟨nto, hnto⟩ : ∃ z, z = to9 := ⟨_, rfl⟩
   have hnsp : spotsF l (fsT c ts) (max i to9) = spotsF l (fsT c ts) (max (i + 1) nto) := by rw [hnto]; exact spots_skip ω hc39
   refine r_exit rfl ?_
   refine r_region ?_
   refine Zo (run_add rfl η η ω ω) ?_
   refine Zn mvI ?_
   refine r_again (i + 1) ?_ ?_ ?_
   ·first | omega | (dsimp only; omega)
   ·refine ⟨nto, _, _, σ, (congrArg (Value.int _) ω), rfl, δ, hfb, hoo, δ, (by first | (rw [← hsp, hnsp]; done) | (rw [← hsp, hnsp, List.append_assoc]; rfl)), (by first | omega | (simp; omega)), δ, hV, hB2⟩
   exact ψ
  have hc66 := hc39
  have hisw : isW (l.getD i default) := Classical.not_not.1 (fun q => hc39 (.inr q))
  refine r_skip ?_
  refine Zs ?_
  refine Zo (run_bld (pv := [(0, .int _ _)]) (zs := [_, _, _]) (cells := [_, _, _]) rfl ty_187 η pl_187 η η) ?_
  have hob40 := fun g hg => (hoo.block (g := g) hg).2
  refine r_var (zs := [_, _, _]) (vs := [_, _, _]) ty_187 η rfl η (fun _ => rfl) η rfl rfl η ?_
  intro b41 w42 J41 E42 B41 Y41
  have Q42 := E42.size
  replace hV := Z0 hV E42
  replace hB2 := Z0 hB2 E42
  replace ht := ht0.now hV
  replace hc := hc0.now hV
  replace hl := hl0 _ hV
  replace hfb := hfb.evo0 E42
  replace hoo := hoo.evo0 E42
  have hAb41 := B41.at
  refine r_nil ?_
  refine r_seq ?_
  refine Zs ?_
  refine Zo (run_mv (v := .slice (some ⟨bt, 0, none⟩) _ _) rfl η) ?_
  refine Zo (run_lenSl rfl η Tryz.underlying213) ?_
  refine Zn mvI ?_
  refine r_block ?_
  refine r_loop (α := Nat) [16, 17, 18, 70, 71, 72, 73, 74, 75, 76, 77, 78, 79, 80, 81, 82, 83, 84, 85, 86, 87, 88, 89, 90, 91, 92, 93, 94, 95, 96, 97, 98, 99, 100, 101, 102] (fun m9 g w => g 70 = .int .i64 (m9 : Nat) ∧ m9 ≤ ts.length ∧ FB w bt 200 1 ts.length (fun x => [vs x]) ∧ OwnE w w3.heap.size 187 vo sp ∧ Blk w b41 187 [.int .i64 (bestI (bestK l (fsT c ts) i m9)).1, .int .i64 (bestF i (bestK l (fsT c ts) i m9)), .int .i64 (bestE (bestK l (fsT c ts) i m9))] ∧ At w b41 0 [.int .i64 (bestI (bestK l (fsT c ts) i m9)).1, .int .i64 (bestF i (bestK l (fsT c ts) i m9)), .int .i64 (bestE (bestK l (fsT c ts) i m9))] ∧ w42.heap.size ≤ w.heap.size ∧ Evo w0 w [] ∧ Evo w3 w [bt]) (fun m9 => ts.length - m9) 0 ?_ ?_
  ·refine ⟨σ, δ, hfb, hoo, B41, B41.at, δ, hV, hB2⟩
  rintro m9 g w44 ⟨hj45, hk_m9, hfb, hoo, B41, hAb41, hzl43, hV, hB2⟩
  have hs_w44hV := hV.size
  have hs_w44hB2 := hB2.size
  have hlt46 := hfb.lt
  have hlt47 := B41.lt
  replace ht := ht0.now hV
  replace hc := hc0.now hV
  replace hl := hl0 _ hV
  refine Zk 70 (v := .int .i64 (m9 : Nat)) (by exact hj45) ?_
  refine Zs ?_
  refine Zn (run_lss rfl η η) ?_
  refine r_seq ?_
  refine r_cond η (fun hc48 => ?_) (fun hc48 => ?_)
  ·skip
   refine r_skip ?_
   refine r_seq ?_
   refine r_block ?_
   refine r_seq ?_
   obtain ⟨aoF, bF, offF, capF, hvF, hrF⟩ := hrw2 m9 ω _ hB2
   have hbd_hrF := hrF.bd
   have hbl := bestI_lt (l := l) (fs := (fsT c ts)) (i := i) (k := m9) (n := ts.length) ω ω ω; have hbI := bestI_bd (l := l) (fs := (fsT c ts)) (i := i) (k := m9) ω
   refine r_region ?_
   refine Zo mvI ?_
   refine Zo (run_ix (m9) rfl Tryz.underlying213 ty_200 η η (by first | exact rfl | omega) ω rfl) ?_
   refine Zo (run_ld1 rfl ag_200 η (by have h9 := hfb.cell0 (x := m9) ω (v := vs m9) (r := []) rfl; rw [hvF] at h9; exact h9)) ?_
   refine Zo asI ?_
   refine Zn asS ?_
   refine Zs ?_
   refine Zo mvS ?_
   refine Zo mvI ?_
   refine Zo mvS ?_
   refine Zr [.slice _ _ _, .int _ _, .slice _ _ _] rfl η Tryz.func192 (tchain_calls hl hrF (i := (i : Int)) hq ω ω) ?_
   rintro e w49 ⟨rfl, F49⟩
   refine ⟨_, rfl, ?_⟩
   have Q49 := F49.size
   replace hV := Z0 hV F49
   replace hB2 := Z0 hB2 F49
   replace ht := ht0.now hV
   replace hc := hc0.now hV
   replace hl := hl0 _ hV
   replace hfb := hfb.evo0 F49
   replace hoo := hoo.evo0 F49
   replace B41 := B41.evo0 F49
   replace hAb41 := hAb41.evo0 F49
   replace hrF := hrF.evo0 F49
   have hcte : chainF l (i : Int) (-1) (nth ((formsT c (ts.getD m9 default).words).map SetS.mk)) = cT l i ((fsT c ts).getD m9 default) := by rw [show nth ((formsT c (ts.getD m9 default).words).map SetS.mk) = formsT c (ts.getD m9 default).words from nth_mk _, fsT_get ω, chainFG l _ _ _ ω (.inr (by simpa using hisw))]; rfl
   refine Zn asI ?_
   refine r_seq ?_
   obtain ⟨z09, z19, z29, z39, z49, z59, z69, z79, z89, z99, z109, z119, hAB, _, _, _⟩ := term_at ht (bestI (bestK l (fsT c ts) i m9)).1.toNat hbl
   refine r_region ?_
   refine Zo mvI ?_
   refine Zo (run_geq rfl η η) ?_
   refine Zo mvB ?_
   refine r_g rfl (wantT η) rfl (fun hg => run_fa rfl η fo_187_0) ?_
   refine r_g rfl (wantT η) rfl (fun hg => run_ld1 rfl ag_3 (glv η (fun h => h) hg) (hAb41.cell 0 η)) ?_
   refine r_g rfl (wantT η) rfl (fun hg => run_lss rfl (glv η (fun h => h) hg) η) ?_
   refine r_g rfl (wantT η) rfl (fun hg => run_mv (v := .bool _) rfl (glv η (fun h => h) hg)) ?_
   refine r_g rfl (wantFg η) rfl (fun hg => mvS) ?_
   refine r_g rfl (wantFg η) rfl (fun hg => run_lenSl rfl (glv η (fun h => h) hg) Tryz.underlying200) ?_
   refine r_g rfl (wantFg η) rfl (fun hg => mvS) ?_
   refine r_g rfl (wantFg η) rfl (fun hg => run_fa rfl η fo_187_0) ?_
   refine r_g rfl (wantFg η) rfl (fun hg => run_ld1 rfl ag_3 (glv η (fun h => h) hg) (hAb41.cell 0 η)) ?_
   refine r_g rfl (wantFg η) rfl (fun hg => run_ix ((bestI (bestK l (fsT c ts) i m9)).1.toNat) rfl Tryz.underlying25 ty_85 (glv η (fun h => h) hg) (glv η (fun h => h) hg) ω ω (ht.addr (i := (bestI (bestK l (fsT c ts) i m9)).1.toNat) ω)) ?_
   refine r_g rfl (wantFg η) rfl (fun hg => run_fa rfl (glv η (fun h => h) hg) fo_85_0) ?_
   refine r_g rfl (wantFg η) rfl (fun hg => run_ld1 rfl ag_83 (glv η (fun h => h) hg) (hAB.cell 0 η)) ?_
   refine r_g rfl (wantFg η) rfl (fun hg => run_lenSl rfl (glv η (fun h => h) hg) Tryz.underlying83) ?_
   refine r_g rfl (wantFg η) rfl (fun hg => run_gtr rfl (glv η (fun h => h) hg) (glv η (fun h => h) hg)) ?_
   refine r_g rfl (wantT η) rfl (fun hg => run_pick_or rfl (glv η (fun h => h) hg) rfl (fun hq => glv η (fun h => h) (And.intro hg hq))) ?_
   refine Zn (run_pick_and rfl η (fun hq => glv η (fun h => h) hq) rfl) ?_
   refine r_cond η (fun hc50 => ?_) (fun hc50 => ?_)
   ·skip
    refine r_region ?_
    refine Zo mvI ?_
    refine Zo mvI ?_
    refine Zo mvI ?_
    refine Zo (run_bld (pv := [(0, .int _ _), (1, .int _ _), (2, .int _ _)]) (zs := [_, _, _]) (cells := [_, _, _]) rfl ty_187 η pl_187 η η) ?_
    refine r_store (v := .agg _) (vs := [_, _, _]) (cs' := [_, _, _]) η η B41 ty_187 η rfl η rfl η ?_
    intro w51 E51 V51 hb_new
    have Q51 := E51.size
    replace hV := Z1 hV E51 ε
    replace hB2 := Z1 hB2 E51 ε
    replace ht := ht0.now hV
    replace hc := hc0.now hV
    replace hl := hl0 _ hV
    replace hfb := hfb.evo E51 θ
    replace hoo := hoo.evo E51 (by intro g hg hm; simp at hm; subst hm; have h7 := hobO g hg; omega)
    replace B41 := hb_new
    have hAb41 := B41.at
    clear hb_new
    refine r_nil ?_
    refine r_blk ?_
    refine r_region ?_
    refine Zo (run_add rfl η η ω ω) ?_
    refine Zn mvI ?_
    refine r_again (m9 + 1) ?_ ?_ ?_
    ·first | omega | (dsimp only; omega)
    ·refine ⟨σ, δ, hfb, hoo, (by first | (rw [best_yes l _ ((ps_cond ω ω hcte).1 hc50)]; have h9 := B41; rw [hcte] at h9; exact h9) | (rw [best_no l _ (fun q9 => hc50 ((ps_cond ω ω hcte).2 q9))]; exact B41)), (by first | (rw [best_yes l _ ((ps_cond ω ω hcte).1 hc50)]; have h9 := B41; rw [hcte] at h9; exact h9.at) | (rw [best_no l _ (fun q9 => hc50 ((ps_cond ω ω hcte).2 q9))]; exact B41.at)), δ, hV, hB2⟩
    exact ψ
   refine r_skip ?_
   refine r_blk ?_
   refine r_region ?_
   refine Zo (run_add rfl η η ω ω) ?_
   refine Zn mvI ?_
   refine r_again (m9 + 1) ?_ ?_ ?_
   ·first | omega | (dsimp only; omega)
   ·refine ⟨σ, δ, hfb, hoo, (by first | (rw [best_yes l _ ((ps_cond ω ω hcte).1 hc50)]; have h9 := B41; rw [hcte] at h9; exact h9) | (rw [best_no l _ (fun q9 => hc50 ((ps_cond ω ω hcte).2 q9))]; exact B41)), (by first | (rw [best_yes l _ ((ps_cond ω ω hcte).1 hc50)]; have h9 := B41; rw [hcte] at h9; exact h9.at) | (rw [best_no l _ (fun q9 => hc50 ((ps_cond ω ω hcte).2 q9))]; exact B41.at)), δ, hV, hB2⟩
   exact ψ
  refine r_exit rfl ?_
  refine Zs ?_
  refine Zo (run_fa rfl η fo_187_0) ?_
  refine Zo (run_ld1 rfl ag_3 η (hAb41.cell 0 η)) ?_
  refine Zn (run_geq rfl η η) ?_
  refine r_cond η (fun hc52 => ?_) (fun hc52 => ?_)
  ·skip
   have hm9 : m9 = ts.length := by omega
   subst hm9
   obtain ⟨q9, hq9, hq1, hq2, hq3⟩ := bestC_some (i := i) (show ¬ (bestI (bestK l (fsT c ts) i ts.length)).1 < 0 by omega)
   have hqb := best_bd l (fsT c ts) ω _ _ hq9
   obtain ⟨nto, hnto⟩ : ∃ z, z = q9.2.toNat := ⟨_, rfl⟩
   have hnsp : spotsF l (fsT c ts) (max i to9) = ⟨(bestI (bestK l (fsT c ts) i ts.length)).1, bestF i (bestK l (fsT c ts) i ts.length), bestE (bestK l (fsT c ts) i ts.length)⟩ :: spotsF l (fsT c ts) (max (i + 1) nto) := by rw [hnto, hq1, hq2, hq3]; exact spots_yes ω hc66 (by rw [fsT_len]; exact hq9)
   refine Zs ?_
   refine Zo (run_mv (v := vo) rfl η) ?_
   refine Zo (run_ldN rfl ag_187 ty_187 η rfl hAb41) ?_
   refine r_append1E (u := .agg _) (y := ⟨_, _, _⟩) rfl rfl Tryz.underlying158 ty_187 η hoo (fun _ => η) η (by first | exact rfl | (show _ = List.toArray [_, _, _]; first | (dsimp only; done) | exact rfl | (dsimp only; exact rfl))) ((by first | omega | (simp; omega))) ((by first | omega | (simp; omega))) ω ?_
   intro q_v53 v53 w54 E54 hov53 hlv53
   have Q54 := E54.size
   replace hV := evo_stepo hV E54 (fun g hg => .inl (by first | exact (hoo.block hg).1 | (have := hoo.block hg; omega)))
   replace hB2 := evo_stepo hB2 E54 (fun g hg => .inl (by first | exact (hoo.block hg).1 | (have := hoo.block hg; omega)))
   replace ht := ht0.now hV
   replace hc := hc0.now hV
   replace hl := hl0 _ hV
   replace hfb := hfb.evo E54 (by intro hm; have hm2 := Option.mem_toList.1 hm; first | (have := hoo.block hm2; omega) | (simp [Value.ownBlock] at hm2; omega))
   replace B41 := B41.evo E54 (by intro hm; have h7 := hobO _ (Option.mem_toList.1 hm); omega)
   replace hAb41 := hAb41.evo E54 (by intro hm; have h7 := hobO _ (Option.mem_toList.1 hm); omega)
   refine Zn (run_asg (v := v53) rfl η) ?_
   refine r_region ?_
   refine Zo (run_fa rfl η fo_187_2) ?_
   refine Zo (run_ld1 rfl ag_3 η (hAb41.cell 2 η)) ?_
   refine Zn asI ?_
   refine r_blk ?_
   refine r_region ?_
   refine Zo (run_add rfl η η ω ω) ?_
   refine Zn mvI ?_
   refine r_again (i + 1) ?_ ?_ ?_
   ·first | omega | (dsimp only; omega)
   ·refine ⟨nto, _, _, σ, (congrArg (Value.int _) ω), rfl, δ, hfb, hov53, δ, (by first | (rw [← hsp, hnsp]; done) | (rw [← hsp, hnsp, List.append_assoc]; rfl)), (by first | omega | (simp; omega)), δ, hV, hB2⟩
   exact ψ
  have hm9 : m9 = ts.length := by omega
  subst hm9
  obtain ⟨nto, hnto⟩ : ∃ z, z = to9 := ⟨_, rfl⟩
  have hnsp : spotsF l (fsT c ts) (max i to9) = spotsF l (fsT c ts) (max (i + 1) nto) := by rw [hnto]; exact spots_nob ω hc66 (by rw [fsT_len]; exact bestI_none ω)
  refine r_skip ?_
  refine r_blk ?_
  refine r_region ?_
  refine Zo (run_add rfl η η ω ω) ?_
  refine Zn mvI ?_
  refine r_again (i + 1) ?_ ?_ ?_
  ·first | omega | (dsimp only; omega)
  ·refine ⟨nto, _, _, σ, (congrArg (Value.int _) ω), rfl, δ, hfb, hoo, δ, (by first | (rw [← hsp, hnsp]; done) | (rw [← hsp, hnsp, List.append_assoc]; rfl)), (by first | omega | (simp; omega)), δ, hV, hB2⟩
  exact ψ
 refine r_exit rfl ?_
 refine Zs ?_
 refine Zo (run_mv (v := vo) rfl η) ?_
 refine Zn (run_asg (v := vo) rfl η) ?_
 refine r_ret (res1 (v := vo) rfl η) ?_
 exact ⟨_, rfl, hV, by rw [spots_end l _ ω, List.append_nil] at hsp; rw [← hsp]; exact hoo.base_le ω⟩
end Go.Proofs.YtlfjocbnbceceaaGreatDoor
namespace Go.Proofs.YtlfjocbnbceceaaGreatDoor
open Go Go.RowKit Go.Vc
def splitS : Str → List Str
  | [] => [[]]
  | c :: r => if c = 32 then [] :: splitS r else match splitS r with | [] => [[c]] | w :: ws => (c :: w) :: ws
theorem splitS_ne : ∀ s, splitS s ≠ []
  | [] => by simp [splitS]
  | c :: r => by
    unfold splitS
    split
    · simp
    · split <;> simp
theorem idx_split : ∀ s : Str, (Lib.indexByte s 32 = -1 ∧ splitS s = [s] ∧ s.count 32 = 0) ∨ (∃ m : Nat, Lib.indexByte s 32 = (m : Int) ∧ m < s.length ∧ splitS s = s.take m :: splitS (s.drop (m + 1)) ∧ s.count 32 = 1 + (s.drop (m + 1)).count 32)
  | [] => .inl ⟨rfl, rfl, rfl⟩
  | c :: r => by
    by_cases hc : c = 32
    · subst hc
      refine .inr ⟨0, rfl, by simp, rfl, ?_⟩
      rw [List.count_cons_self]; simp; omega
    · have hb : (c == 32) = false := by simpa using hc
      have hct : (c :: r).count 32 = r.count 32 := by rw [List.count_cons, hb]; rfl
      rcases idx_split r with ⟨h1, h2, h3⟩ | ⟨m, h1, h2, h3, h4⟩
      · refine .inl ⟨?_, ?_, by rw [hct, h3]⟩
        · unfold Lib.indexByte; rw [hb, h1]; rfl
        · unfold splitS; rw [if_neg hc, h2]
      · refine .inr ⟨m + 1, ?_, by simp; omega, ?_, by rw [hct, h4]; rfl⟩
        · unfold Lib.indexByte
          rw [hb, h1]
          have h5 : (((m : Nat) : Int) == -1) = false := by simp
          rw [h5]; simp
        · conv => lhs; unfold splitS
          rw [if_neg hc, h3]; rfl
theorem split_len : ∀ s : Str, (splitS s).length = s.count 32 + 1
  | [] => rfl
  | c :: r => by
    have ih := split_len r
    by_cases hc : c = 32
    · subst hc
      unfold splitS
      rw [if_pos rfl, List.length_cons, ih, List.count_cons_self]
    · have hb : (c == 32) = false := by simpa using hc
      unfold splitS
      rw [if_neg hc, List.count_cons, hb]
      cases h : splitS r with
      | nil => exact absurd h (splitS_ne r)
      | cons w ws => rw [h] at ih; simpa using ih
theorem split_at : ∀ (s : Str) (j : Nat), j ≤ s.length → (∀ k, k < j → s.getD k default ≠ 32) → (j = s.length ∧ splitS s = [s]) ∨ (j < s.length ∧ (s.getD j default = 32 → splitS s = s.take j :: splitS (s.drop (j + 1))))
  | [], 0, _, _ => .inl ⟨rfl, rfl⟩
  | c :: r, 0, _, _ => by
    refine .inr ⟨by simp, fun h => ?_⟩
    have h' : c = 32 := h
    subst h'; rfl
  | c :: r, j + 1, hj, h => by
    have hc : ¬ c = 32 := h 0 ω
    rcases split_at r j (by simpa using hj) (fun k hk => h (k + 1) ω) with ⟨h1, h2⟩ | ⟨h1, h2⟩
    · refine .inl ⟨by simp [h1], ?_⟩
      unfold splitS; rw [if_neg hc, h2]
    · refine .inr ⟨by simpa using h1, fun h3 => ?_⟩
      conv => lhs; unfold splitS
      rw [if_neg hc, h2 h3]; rfl
theorem split_total : ∀ s : Str, ((splitS s).map (·.length)).sum + (splitS s).length = s.length + 1
  | [] => rfl
  | c :: r => by
    have ih := split_total r
    by_cases hc : c = 32
    · unfold splitS
      rw [if_pos hc]; simp; omega
    · unfold splitS
      rw [if_neg hc]
      cases hs : splitS r with
      | nil => exact absurd hs (splitS_ne r)
      | cons v vs => rw [hs] at ih; simp at ih ⊢; omega
def plainP (s : Str) : Prop := (s ≠ [] ∧ s.length ≤ 64) ∧ (∀ j, j < s.length → clsB (s.getD j default) = clsB (s.getD 0 default)) ∧ (clsB (s.getD 0 default) = 4 ∨ clsB (s.getD 0 default) = 3)
instance (s : Str) : Decidable (plainP s) := by unfold plainP; infer_instance
def phraseOk (s : Str) : Prop := (∀ w ∈ splitS s, plainP w) ∧ (splitS s).length ≤ 8
instance (s : Str) : Decidable (phraseOk s) := by unfold phraseOk; infer_instance
def wordsP (s : Str) : List Str := if phraseOk s then splitS s else []
theorem plain_sum : ∀ l : List Str, (∀ w ∈ l, plainP w) → (l.map (·.length)).sum ≤ 64 * l.length
  | [], _ => by simp
  | w :: l, h => by
    have h1 := (h w (by simp)).1.2
    have h2 := plain_sum l (fun x hx => h x (by simp [hx]))
    simp; omega
theorem ok_len {s : Str} (h : phraseOk s) : s.length ≤ 520 := by
  have h1 := split_total s
  have h2 := plain_sum _ h.1
  have h3 := h.2
  omega
theorem words_ok {s : Str} (h : phraseOk s) : wordsP s = splitS s := if_pos h
theorem words_no {s : Str} (h : ¬ phraseOk s) : wordsP s = [] := if_neg h
end Go.Proofs.YtlfjocbnbceceaaGreatDoor
namespace Go.Proofs
open Go.Shelf
def Tryz.lays143_ren : Go.Shelf.Ren := ⟨fun | 143 => 206 | 219 => 220 | 217 => 231 | 225 => 232 | 224 => 233 | 267 => 234 | 266 => 249 | 314 => 250 | n => n, fun | 9 => 9 | 3 => 3 | 4 => 4 | 5 => 5 | 46 => 105 | 146 => 245 | 51 => 151 | n => n, fun | 1 => 0 | n => n⟩
theorem Tryz.lays143 : Go.Proofs.Lays.n143 Tryz.prog Tryz.lays143_ren := {
  mixed := by kernel_rfl
  f143 := Tryz.func206.trans (congrArg some (by kernel_rfl))
  f217 := Tryz.func231.trans (congrArg some (by kernel_rfl))
  f219 := Tryz.func220.trans (congrArg some (by kernel_rfl))
  f224 := Tryz.func233.trans (congrArg some (by kernel_rfl))
  f225 := Tryz.func232.trans (congrArg some (by kernel_rfl))
  f266 := Tryz.func249.trans (congrArg some (by kernel_rfl))
  f267 := Tryz.func234.trans (congrArg some (by kernel_rfl))
  f314 := Tryz.func250.trans (congrArg some (by kernel_rfl))
  t3 := Tryz.underlying3
  a3 := Tryz.isAgg3
  z3 := Tryz.sizeOf3
  v3 := Tryz.zeroValue3
  t4 := Tryz.underlying4
  a4 := Tryz.isAgg4
  z4 := Tryz.sizeOf4
  v4 := Tryz.zeroValue4
  t5 := Tryz.underlying5
  a5 := Tryz.isAgg5
  z5 := Tryz.sizeOf5
  v5 := Tryz.zeroValue5
  t9 := Tryz.underlying9
  a9 := Tryz.isAgg9
  z9 := Tryz.sizeOf9
  v9 := Tryz.zeroValue9
  t46 := Tryz.underlying105
  a46 := Tryz.isAgg105
  z46 := Tryz.sizeOf105
  v46 := Tryz.zeroValue105
  t51 := Tryz.underlying151
  a51 := Tryz.isAgg151
  z51 := Tryz.sizeOf151
  v51 := Tryz.zeroValue151
  t146 := Tryz.underlying245
  a146 := Tryz.isAgg245
  z146 := Tryz.sizeOf245
  v146 := Tryz.zeroValue245
  g1 := by kernel_rfl }
open Go.RowKit Go.Lib in
theorem Tryz.strings_Index_one (s : ByteArray) (c : UInt8) (w : World) :
    Calls Tryz.prog 206 #[.string s, .string ⟨#[c]⟩] w fun e w' => e = .returned (.int .i64 (Lib.indexByte s.data.toList c)) ∧ w' = w := Any.strings_Index_one Tryz.lays143 s c w
def Tryz.lays138_ren : Go.Shelf.Ren := ⟨fun | 138 => 205 | 195 => 217 | 218 => 219 | 143 => 206 | 219 => 220 | 217 => 231 | 225 => 232 | 224 => 233 | 267 => 234 | 266 => 249 | 314 => 250 | n => n, fun | 9 => 9 | 3 => 3 | 4 => 4 | 5 => 5 | 0 => 0 | 46 => 105 | 146 => 245 | 51 => 151 | n => n, fun | 1 => 0 | n => n⟩
theorem Tryz.lays138 : Go.Proofs.Lays.n138 Tryz.prog Tryz.lays138_ren := {
  mixed := by kernel_rfl
  f138 := Tryz.func205.trans (congrArg some (by kernel_rfl))
  f143 := Tryz.func206.trans (congrArg some (by kernel_rfl))
  f195 := Tryz.func217.trans (congrArg some (by kernel_rfl))
  f217 := Tryz.func231.trans (congrArg some (by kernel_rfl))
  f218 := Tryz.func219.trans (congrArg some (by kernel_rfl))
  f219 := Tryz.func220.trans (congrArg some (by kernel_rfl))
  f224 := Tryz.func233.trans (congrArg some (by kernel_rfl))
  f225 := Tryz.func232.trans (congrArg some (by kernel_rfl))
  f266 := Tryz.func249.trans (congrArg some (by kernel_rfl))
  f267 := Tryz.func234.trans (congrArg some (by kernel_rfl))
  f314 := Tryz.func250.trans (congrArg some (by kernel_rfl))
  t0 := Tryz.underlying0
  a0 := Tryz.isAgg0
  z0 := Tryz.sizeOf0
  v0 := Tryz.zeroValue0
  t3 := Tryz.underlying3
  a3 := Tryz.isAgg3
  z3 := Tryz.sizeOf3
  v3 := Tryz.zeroValue3
  t4 := Tryz.underlying4
  a4 := Tryz.isAgg4
  z4 := Tryz.sizeOf4
  v4 := Tryz.zeroValue4
  t5 := Tryz.underlying5
  a5 := Tryz.isAgg5
  z5 := Tryz.sizeOf5
  v5 := Tryz.zeroValue5
  t9 := Tryz.underlying9
  a9 := Tryz.isAgg9
  z9 := Tryz.sizeOf9
  v9 := Tryz.zeroValue9
  t46 := Tryz.underlying105
  a46 := Tryz.isAgg105
  z46 := Tryz.sizeOf105
  v46 := Tryz.zeroValue105
  t51 := Tryz.underlying151
  a51 := Tryz.isAgg151
  z51 := Tryz.sizeOf151
  v51 := Tryz.zeroValue151
  t146 := Tryz.underlying245
  a146 := Tryz.isAgg245
  z146 := Tryz.sizeOf245
  v146 := Tryz.zeroValue245
  g1 := by kernel_rfl }
open Go.RowKit Go.Lib in
theorem Tryz.strings_Count_one (s : ByteArray) (c : UInt8) (w : World) :
    Calls Tryz.prog 205 #[.string s, .string ⟨#[c]⟩] w fun e w' => e = .returned (.int .i64 (Lib.countByte s.data.toList c)) ∧ w' = w := Any.strings_Count_one Tryz.lays138 s c w
def Tryz.lays189_ren : Go.Shelf.Ren := ⟨fun | 189 => 210 | 125 => 69 | 257 => 229 | 128 => 122 | 129 => 123 | 294 => 240 | 295 => 241 | 296 => 242 | 297 => 243 | 298 => 244 | 299 => 245 | 216 => 246 | 300 => 247 | 301 => 248 | 328 => 254 | 329 => 162 | 330 => 163 | 331 => 255 | 332 => 256 | 215 => 70 | 343 => 257 | n => n, fun | 28 => 22 | 3 => 3 | 46 => 105 | 0 => 0 | 51 => 151 | 53 => 153 | 4 => 4 | 183 => 144 | 182 => 143 | 131 => 148 | 5 => 5 | 9 => 9 | 218 => 177 | 222 => 181 | 228 => 204 | 229 => 131 | n => n, fun | n => n⟩
theorem Tryz.lays189 : Go.Proofs.Lays.n189 Tryz.prog Tryz.lays189_ren := {
  mixed := by kernel_rfl
  f125 := Tryz.func69.trans (congrArg some (by kernel_rfl))
  f128 := Tryz.func122.trans (congrArg some (by kernel_rfl))
  f129 := Tryz.func123.trans (congrArg some (by kernel_rfl))
  f189 := Tryz.func210.trans (congrArg some (by kernel_rfl))
  f215 := Tryz.func70.trans (congrArg some (by kernel_rfl))
  f216 := Tryz.func246.trans (congrArg some (by kernel_rfl))
  f257 := Tryz.func229.trans (congrArg some (by kernel_rfl))
  f294 := Tryz.func240.trans (congrArg some (by kernel_rfl))
  f295 := Tryz.func241.trans (congrArg some (by kernel_rfl))
  f296 := Tryz.func242.trans (congrArg some (by kernel_rfl))
  f297 := Tryz.func243.trans (congrArg some (by kernel_rfl))
  f298 := Tryz.func244.trans (congrArg some (by kernel_rfl))
  f299 := Tryz.func245.trans (congrArg some (by kernel_rfl))
  f300 := Tryz.func247.trans (congrArg some (by kernel_rfl))
  f301 := Tryz.func248.trans (congrArg some (by kernel_rfl))
  f328 := Tryz.func254.trans (congrArg some (by kernel_rfl))
  f329 := Tryz.func162.trans (congrArg some (by kernel_rfl))
  f330 := Tryz.func163.trans (congrArg some (by kernel_rfl))
  f331 := Tryz.func255.trans (congrArg some (by kernel_rfl))
  f332 := Tryz.func256.trans (congrArg some (by kernel_rfl))
  f343 := Tryz.func257.trans (congrArg some (by kernel_rfl))
  t0 := Tryz.underlying0
  a0 := Tryz.isAgg0
  z0 := Tryz.sizeOf0
  v0 := Tryz.zeroValue0
  t3 := Tryz.underlying3
  a3 := Tryz.isAgg3
  z3 := Tryz.sizeOf3
  v3 := Tryz.zeroValue3
  t4 := Tryz.underlying4
  a4 := Tryz.isAgg4
  z4 := Tryz.sizeOf4
  v4 := Tryz.zeroValue4
  t5 := Tryz.underlying5
  a5 := Tryz.isAgg5
  z5 := Tryz.sizeOf5
  v5 := Tryz.zeroValue5
  t9 := Tryz.underlying9
  a9 := Tryz.isAgg9
  z9 := Tryz.sizeOf9
  v9 := Tryz.zeroValue9
  t28 := Tryz.underlying22
  a28 := Tryz.isAgg22
  z28 := Tryz.sizeOf22
  v28 := Tryz.zeroValue22
  t46 := Tryz.underlying105
  a46 := Tryz.isAgg105
  z46 := Tryz.sizeOf105
  v46 := Tryz.zeroValue105
  t51 := Tryz.underlying151
  a51 := Tryz.isAgg151
  z51 := Tryz.sizeOf151
  v51 := Tryz.zeroValue151
  t53 := Tryz.underlying153
  a53 := Tryz.isAgg153
  z53 := Tryz.sizeOf153
  v53 := Tryz.zeroValue153
  t131 := Tryz.underlying148
  a131 := Tryz.isAgg148
  z131 := Tryz.sizeOf148
  v131 := Tryz.zeroValue148
  t182 := Tryz.underlying143
  a182 := Tryz.isAgg143
  z182 := Tryz.sizeOf143
  v182 := Tryz.zeroValue143
  t183 := Tryz.underlying144
  a183 := Tryz.isAgg144
  z183 := Tryz.sizeOf144
  v183 := Tryz.zeroValue144
  t218 := Tryz.underlying177
  a218 := Tryz.isAgg177
  z218 := Tryz.sizeOf177
  v218 := Tryz.zeroValue177
  t222 := Tryz.underlying181
  a222 := Tryz.isAgg181
  z222 := Tryz.sizeOf181
  v222 := Tryz.zeroValue181
  t228 := Tryz.underlying204
  a228 := Tryz.isAgg204
  z228 := Tryz.sizeOf204
  v228 := Tryz.zeroValue204
  t229 := Tryz.underlying131
  a229 := Tryz.isAgg131
  z229 := Tryz.sizeOf131
  v229 := Tryz.zeroValue131 }
open Go.Sort Go.RowKit in
theorem Tryz.slices_Sort_int (blk off cap : Nat) (zs : List Int) (w : World) (hH : Holds (Value.int .i64) w blk off zs.toArray) (hblk : blk < w.heap.size) (hsz : zs.length < 4611686018427387904) :
    Calls Tryz.prog 210 #[.slice (some ⟨blk, off, none⟩) zs.length cap] w fun e w' =>
      e = .returned (.tuple #[]) ∧ ∃ n os, w' = grow (putRow (Value.int .i64) (Sort.ahead w n) blk off (zs.mergeSort fun x y => decide (x ≤ y)).toArray) os := Any.slices_Sort_int Tryz.lays189 blk off cap zs w hH hblk hsz
def Tryz.lays190_ren : Go.Shelf.Ren := ⟨fun | 190 => 91 | 125 => 69 | 258 => 139 | 128 => 122 | 129 => 123 | 302 => 174 | 303 => 175 | 304 => 176 | 305 => 177 | 306 => 178 | 307 => 179 | 308 => 180 | 309 => 181 | 310 => 182 | 333 => 201 | 329 => 162 | 330 => 163 | 334 => 202 | 335 => 203 | 336 => 71 | 344 => 216 | n => n, fun | 31 => 77 | 9 => 9 | 3 => 3 | 46 => 105 | 0 => 0 | 51 => 151 | 53 => 153 | 4 => 4 | 183 => 144 | 182 => 143 | 131 => 148 | 5 => 5 | 218 => 177 | 222 => 181 | 228 => 204 | 229 => 131 | n => n, fun | n => n⟩
theorem Tryz.lays190 : Go.Proofs.Lays.n190 Tryz.prog Tryz.lays190_ren := {
  mixed := by kernel_rfl
  f125 := Tryz.func69.trans (congrArg some (by kernel_rfl))
  f128 := Tryz.func122.trans (congrArg some (by kernel_rfl))
  f129 := Tryz.func123.trans (congrArg some (by kernel_rfl))
  f190 := Tryz.func91.trans (congrArg some (by kernel_rfl))
  f258 := Tryz.func139.trans (congrArg some (by kernel_rfl))
  f302 := Tryz.func174.trans (congrArg some (by kernel_rfl))
  f303 := Tryz.func175.trans (congrArg some (by kernel_rfl))
  f304 := Tryz.func176.trans (congrArg some (by kernel_rfl))
  f305 := Tryz.func177.trans (congrArg some (by kernel_rfl))
  f306 := Tryz.func178.trans (congrArg some (by kernel_rfl))
  f307 := Tryz.func179.trans (congrArg some (by kernel_rfl))
  f308 := Tryz.func180.trans (congrArg some (by kernel_rfl))
  f309 := Tryz.func181.trans (congrArg some (by kernel_rfl))
  f310 := Tryz.func182.trans (congrArg some (by kernel_rfl))
  f329 := Tryz.func162.trans (congrArg some (by kernel_rfl))
  f330 := Tryz.func163.trans (congrArg some (by kernel_rfl))
  f333 := Tryz.func201.trans (congrArg some (by kernel_rfl))
  f334 := Tryz.func202.trans (congrArg some (by kernel_rfl))
  f335 := Tryz.func203.trans (congrArg some (by kernel_rfl))
  f336 := Tryz.func71.trans (congrArg some (by kernel_rfl))
  f344 := Tryz.func216.trans (congrArg some (by kernel_rfl))
  t0 := Tryz.underlying0
  a0 := Tryz.isAgg0
  z0 := Tryz.sizeOf0
  v0 := Tryz.zeroValue0
  t3 := Tryz.underlying3
  a3 := Tryz.isAgg3
  z3 := Tryz.sizeOf3
  v3 := Tryz.zeroValue3
  t4 := Tryz.underlying4
  a4 := Tryz.isAgg4
  z4 := Tryz.sizeOf4
  v4 := Tryz.zeroValue4
  t5 := Tryz.underlying5
  a5 := Tryz.isAgg5
  z5 := Tryz.sizeOf5
  v5 := Tryz.zeroValue5
  t9 := Tryz.underlying9
  a9 := Tryz.isAgg9
  z9 := Tryz.sizeOf9
  v9 := Tryz.zeroValue9
  t31 := Tryz.underlying77
  a31 := Tryz.isAgg77
  z31 := Tryz.sizeOf77
  v31 := Tryz.zeroValue77
  t46 := Tryz.underlying105
  a46 := Tryz.isAgg105
  z46 := Tryz.sizeOf105
  v46 := Tryz.zeroValue105
  t51 := Tryz.underlying151
  a51 := Tryz.isAgg151
  z51 := Tryz.sizeOf151
  v51 := Tryz.zeroValue151
  t53 := Tryz.underlying153
  a53 := Tryz.isAgg153
  z53 := Tryz.sizeOf153
  v53 := Tryz.zeroValue153
  t131 := Tryz.underlying148
  a131 := Tryz.isAgg148
  z131 := Tryz.sizeOf148
  v131 := Tryz.zeroValue148
  t182 := Tryz.underlying143
  a182 := Tryz.isAgg143
  z182 := Tryz.sizeOf143
  v182 := Tryz.zeroValue143
  t183 := Tryz.underlying144
  a183 := Tryz.isAgg144
  z183 := Tryz.sizeOf144
  v183 := Tryz.zeroValue144
  t218 := Tryz.underlying177
  a218 := Tryz.isAgg177
  z218 := Tryz.sizeOf177
  v218 := Tryz.zeroValue177
  t222 := Tryz.underlying181
  a222 := Tryz.isAgg181
  z222 := Tryz.sizeOf181
  v222 := Tryz.zeroValue181
  t228 := Tryz.underlying204
  a228 := Tryz.isAgg204
  z228 := Tryz.sizeOf204
  v228 := Tryz.zeroValue204
  t229 := Tryz.underlying131
  a229 := Tryz.isAgg131
  z229 := Tryz.sizeOf131
  v229 := Tryz.zeroValue131 }
open Go.Sort Go.RowKit in
theorem Tryz.slices_Sort_string (blk off cap : Nat) (ss : List (List UInt8)) (w : World) (hH : Holds encStr w blk off ss.toArray) (hblk : blk < w.heap.size) (hsz : ss.length < 4611686018427387904) :
    Calls Tryz.prog 91 #[.slice (some ⟨blk, off, none⟩) ss.length cap] w fun e w' =>
      e = .returned (.tuple #[]) ∧ ∃ n os, w' = grow (putRow encStr (Sort.ahead w n) blk off (ss.mergeSort fun x y => decide (x ≤ y)).toArray) os := Any.slices_Sort_string Tryz.lays190 blk off cap ss w hH hblk hsz
open Go.RowKit Go.Sort in
theorem Tryz.slices_Sort_string_none (p : Option Addr) (cap : Nat) (w : World) :
    Calls Tryz.prog 91 #[.slice p 0 cap] w fun e w' => e = .returned (.tuple #[]) ∧ w' = w := Any.slices_Sort_string_none Tryz.lays190 p cap w
open Go.RowKit Go.Sort in
theorem Tryz.slices_Sort_int_none (p : Option Addr) (cap : Nat) (w : World) :
    Calls Tryz.prog 210 #[.slice p 0 cap] w fun e w' => e = .returned (.tuple #[]) ∧ w' = w := Any.slices_Sort_int_none Tryz.lays189 p cap w
end Go.Proofs
namespace Go.Proofs.YtlfjocbnbceceaaGreatDoor
open Go.RowKit Go.Vc
theorem count1_calls {s : Str} {w : World} : Calls Tryz.prog 205 #[S s, S [32]] w fun e w' => e = .returned (.int .i64 ((s.count 32 : Nat) : Int)) ∧ w = w' :=
  (Tryz.strings_Count_one ⟨s.toArray⟩ 32 w).mono fun e w' ⟨h1, h2⟩ => ⟨by rw [h1]; rfl, h2.symm⟩
theorem index1_calls {s : Str} {w : World} : Calls Tryz.prog 206 #[S s, S [32]] w fun e w' => e = .returned (.int .i64 (Lib.indexByte s 32)) ∧ w = w' :=
  (Tryz.strings_Index_one ⟨s.toArray⟩ 32 w).mono fun e w' ⟨h1, h2⟩ => ⟨by rw [h1], h2.symm⟩
theorem fb_rowS {w : World} {b E n : Nat} {l : List Str} (h : FB w b E 1 n (fun x => [S (l.getD x default)])) (hl : l.length = n) (hn : n ≤ 140737488355328) : RowE w (some ⟨b, 0, none⟩) b 0 n l := by
  refine ⟨⟨by simp; omega, by simp; omega⟩, fun _ => rfl, fun i cs hi => ?_⟩
  have hil : i < l.length := by
    rcases Nat.lt_or_ge i l.length with h1 | h1
    · exact h1
    · rw [List.getElem?_eq_none (by simpa using h1)] at hi; cases hi
  simp [hil] at hi
  subst hi
  refine ⟨rfl, ?_⟩
  have h2 := h.at (x := i) ω
  have e : l.getD i default = l[i] := by simp [List.getD, hil]
  simp only [e] at h2
  exact h2
theorem getD_snocS {d : List Str} {x : Str} {i : Nat} (h : d.length = i) (y : Nat) : (if y = i then [S x] else [S (d.getD y default)]) = [S ((d ++ [x]).getD y default)] := by
  subst h
  by_cases e : y = d.length
  · subst e; rw [if_pos rfl]; simp [List.getD]
  · rw [if_neg e]
    rcases Nat.lt_or_ge y d.length with h1 | h1
    · simp [List.getD, h1, List.getElem?_append_left]
    · simp [List.getD, List.getElem?_eq_none h1, List.getElem?_append_right h1, List.getElem?_eq_none (show [x].length ≤ y - d.length by simp; omega)]
theorem gensplit_calls {s : Str} {w0 : World} (hs : s.length ≤ 1000) :
    Calls Tryz.prog 185 #[S s, S [32], .int .i64 0, .int .i64 (-1)] w0 fun e w' => ∃ ao b off cap, e = .returned (.slice ao (splitS s).length cap) ∧ Evo w0 w' [] ∧ RowE w' ao b off cap (splitS s) := by
 have hcl := List.count_le_length (a := (32 : UInt8)) (l := s); have h32 : List.length ([32] : List UInt8) = 1 := rfl
 refine calls_enter (n := 66) Tryz.func185 rfl Tryz.ntmps185 rfl ?_
 have hV : Evo w0 w0 [] := Evo.refl _ _
 refine Zs ?_
 refine Zn asS ?_
 refine r_seq ?_
 refine Zs ?_
 refine Zo mvI ?_
 refine Zn (run_eql rfl η η) ?_
 refine r_cond_no η ?_
 refine r_skip ?_
 refine r_seq ?_
 refine Zs ?_
 refine Zo mvT ?_
 refine Zn (run_seql rfl η η) ?_
 refine r_cond_no η ?_
 refine r_skip ?_
 refine r_seq ?_
 refine Zs ?_
 refine Zo mvI ?_
 refine Zn (run_lss rfl η η) ?_
 refine r_cond_yes η ?_
 refine r_region ?_
 refine Zo mvT ?_
 refine Zo mvT ?_
 refine Zr [S _, S _] rfl η Tryz.func205 count1_calls ?_
 rintro e w1 ⟨rfl, rfl⟩
 refine ⟨_, rfl, ?_⟩
 refine Zo (run_add rfl η η ω ω) ?_
 refine Zn asI ?_
 refine Zs ?_
 refine Zo mvI ?_
 refine Zo mvT ?_
 refine Zo (run_lenS rfl η Tryz.underlying9) ?_
 refine Zo (run_add rfl η η ω ω) ?_
 refine Zo (run_min rfl η η) ?_
 refine Zn asI ?_
 refine Zs ?_
 refine Zo mvI ?_
 refine r_make (len := (s.count 32 + 1)) (zs := [_]) Tryz.underlying77 ty_9 η rfl rfl η η ω ω ω ω ?_
 intro ba w2 heba E2 hout hzba
 have Q2 := E2.size
 replace hV := Z0 hV E2
 refine Zn (run_asg (v := .slice (some ⟨ba, 0, none⟩) _ _) rfl η) ?_
 refine Zs ?_
 refine Zo mvI ?_
 refine Zo (run_sub rfl η η ω ω) ?_
 refine Zn asI ?_
 refine Zs ?_
 refine Zn asI ?_
 refine r_seq ?_
 refine r_block ?_
 refine r_loop (α := Nat) [0, 10, 11, 34, 35, 36, 37, 38, 39, 40, 41, 42, 43, 44, 45, 46, 47, 48, 49, 50, 51, 52, 53, 54, 55, 56, 57] (fun i g w => ∃ r : Str, ∃ d : List Str, g 10 = .int .i64 (i : Nat) ∧ g 0 = S r ∧ FB w ba 9 1 (s.count 32 + 1) (fun x => [S (d.getD x default)]) ∧ splitS s = d ++ splitS r ∧ s.count 32 = i + r.count 32 ∧ d.length = i ∧ r.length ≤ s.length ∧ w2.heap.size ≤ w.heap.size ∧ Evo w0 w []) (fun i => (s.count 32 + 1) - i) 0 ?_ ?_
 ·refine ⟨s, [], rfl, rfl, hout, (List.nil_append _).symm, ω, rfl, δ, δ, hV⟩
 rintro i g w4 ⟨r, d, hj5, hj6, hfb, hsp, hcn, hdl, hrl, hzl3, hV⟩
 have hs_w4hV := hV.size
 have hlt7 := hfb.lt
 refine Zk 10 (v := .int .i64 (i : Nat)) (by exact hj5) ?_
 refine Zk 0 (v := S r) (by exact hj6) ?_
 refine r_seq ?_
 refine Zs ?_
 refine Zo mvI ?_
 refine Zo mvI ?_
 refine Zn (run_lss rfl η η) ?_
 refine r_cond η (fun hc8 => ?_) (fun hc8 => ?_)
 ·skip
  refine r_skip ?_
  refine r_block ?_
  refine r_seq ?_
  have hix := idx_split r
  refine r_region ?_
  refine Zo mvT ?_
  refine Zo mvT ?_
  refine Zr [S _, S _] rfl η Tryz.func206 index1_calls ?_
  rintro e w9 ⟨rfl, rfl⟩
  refine ⟨_, rfl, ?_⟩
  refine Zn asI ?_
  refine r_seq ?_
  refine Zs ?_
  refine Zo mvI ?_
  refine Zn (run_lss rfl η η) ?_
  refine r_cond η (fun hc10 => ?_) (fun hc10 => ?_)
  ·skip
   have hend : splitS r = [r] ∧ r.count 32 = 0 := by rcases hix with ⟨_, h1, h2⟩ | ⟨m9, h1, _⟩; exact ⟨h1, h2⟩; omega
   clear hix
   refine r_exit rfl ?_
   refine Zs ?_
   refine Zo (run_mv (v := .slice (some ⟨ba, 0, none⟩) _ _) rfl η) ?_
   refine Zo mvI ?_
   refine Zo mvT ?_
   refine Zo (run_ix (i) rfl Tryz.underlying77 ty_9 η η (by first | exact rfl | omega) ω rfl) ?_
   refine r_storeF (v := S _) (vs := [_]) (i) η rfl η hfb ω ty_9 η rfl η ?_
   intro w11 E11 V11 hb_new
   have Q11 := E11.size
   replace hV := Z1 hV E11 ε
   replace hfb := hb_new
   clear hb_new
   refine r_nil ?_
   refine r_seq ?_
   have hrS : RowE w11 (some ⟨ba, 0, none⟩) ba 0 (s.count 32 + 1) (splitS s) := by rw [hsp, hend.1]; exact fb_rowS (hfb.congr (fun y => by rw [← getD_snocS hdl y])) (by rw [List.length_append]; simp; omega) ω
   have hsl := split_len s
   have hbd_hrS := hrS.bd
   refine Zk 9 (v := .slice (some ⟨ba, 0, none⟩) (splitS s).length (s.count 32 + 1)) (by rw [hsl]; exact rfl) ?_
   refine r_region ?_
   refine Zo (run_mv (v := .slice (some ⟨ba, 0, none⟩) _ _) rfl η) ?_
   refine Zo mvI ?_
   refine Zo (run_add rfl η η ω ω) ?_
   refine Zo (by exact run_slE (0) ((i + 1)) rfl Tryz.underlying77 ty_9 η hrS lo0 (at1 η ω) (by first | omega | (simp; omega)) (by first | omega | (simp; omega)) List.drop_zero) ?_
   have hS12 := (by have h9 := (hrS.take ((i + 1))).drop (0); rw [List.drop_zero] at h9; exact h9)
   have hbd_hS12 := hS12.bd
   refine Zn asS ?_
   refine r_ret (res1 (v := .slice _ _ _) rfl η) ?_
   have e9 : (splitS s).take (i + 1) = splitS s := List.take_of_length_le ω
   exact ⟨_, _, _, _, by rw [e9], hV, by have h9 := hS12; rw [e9] at h9; exact h9⟩
  rcases hix with hix | ⟨m9, hm1, hm2, hm3, hm4⟩
  ·exact absurd (show Lib.indexByte r 32 < 0 by rw [hix.1]; decide) hc10
  have hrd := List.length_drop (i := m9 + 1) (l := r)
  refine r_skip ?_
  refine Zs ?_
  refine Zo (run_mv (v := .slice (some ⟨ba, 0, none⟩) _ _) rfl η) ?_
  refine Zo mvI ?_
  refine Zo mvT ?_
  refine Zo mvI ?_
  refine Zo mvI ?_
  refine Zo (run_add rfl η η ω ω) ?_
  refine Zo (by exact run_slS (0) (m9) rfl Tryz.underlying9 η lo0 (at1 η ω) (by first | omega | (simp; omega)) (by first | omega | (simp; omega))) ?_
  refine Zo (run_ix (i) rfl Tryz.underlying77 ty_9 η η (by first | exact rfl | omega) ω rfl) ?_
  refine r_storeF (v := S _) (vs := [_]) (i) η rfl η hfb ω ty_9 η rfl η ?_
  intro w13 E13 V13 hb_new
  have Q13 := E13.size
  replace hV := Z1 hV E13 ε
  replace hfb := hb_new
  clear hb_new
  refine r_nil ?_
  refine Zs ?_
  refine Zo mvT ?_
  refine Zo mvI ?_
  refine Zo mvT ?_
  refine Zo (run_lenS rfl η Tryz.underlying9) ?_
  refine Zo (run_add rfl η η ω ω) ?_
  refine Zo (by exact run_slS ((m9 + 1)) (_) rfl Tryz.underlying9 η (at1 η ω) hi0 (by first | omega | (simp; omega)) (by first | omega | (simp; omega))) ?_
  refine Zn asT ?_
  refine r_region ?_
  refine Zo mvI ?_
  refine Zo (run_add rfl η η ω ω) ?_
  refine Zn asI ?_
  refine r_blk ?_
  refine r_again (i + 1) ?_ ?_ ?_
  ·first | omega | (dsimp only; omega)
  ·refine ⟨(r.drop (m9 + 1)), (d ++ [r.take m9]), (congrArg (Value.int _) ω), (congrArg S (List.take_of_length_le (by rw [List.length_drop]; exact Nat.le_refl _))), (hfb.congr (fun y => by rw [← getD_snocS hdl y]; rfl)), (by rw [hsp, hm3, List.append_assoc]; rfl), ω, (by rw [List.length_append]; simp; omega), (by rw [List.length_drop]; omega), δ, hV⟩
  exact ψ
 have hend : splitS r = [r] ∧ r.count 32 = 0 := by rcases idx_split r with ⟨_, h1, h2⟩ | ⟨m9, h1, _, _, h2⟩; exact ⟨h1, h2⟩; omega
 refine r_exit rfl ?_
 refine Zs ?_
 refine Zo (run_mv (v := .slice (some ⟨ba, 0, none⟩) _ _) rfl η) ?_
 refine Zo mvI ?_
 refine Zo mvT ?_
 refine Zo (run_ix (i) rfl Tryz.underlying77 ty_9 η η (by first | exact rfl | omega) ω rfl) ?_
 refine r_storeF (v := S _) (vs := [_]) (i) η rfl η hfb ω ty_9 η rfl η ?_
 intro w14 E14 V14 hb_new
 have Q14 := E14.size
 replace hV := Z1 hV E14 ε
 replace hfb := hb_new
 clear hb_new
 refine r_nil ?_
 refine r_seq ?_
 have hrS : RowE w14 (some ⟨ba, 0, none⟩) ba 0 (s.count 32 + 1) (splitS s) := by rw [hsp, hend.1]; exact fb_rowS (hfb.congr (fun y => by rw [← getD_snocS hdl y])) (by rw [List.length_append]; simp; omega) ω
 have hsl := split_len s
 have hbd_hrS := hrS.bd
 refine Zk 9 (v := .slice (some ⟨ba, 0, none⟩) (splitS s).length (s.count 32 + 1)) (by rw [hsl]; exact rfl) ?_
 refine r_region ?_
 refine Zo (run_mv (v := .slice (some ⟨ba, 0, none⟩) _ _) rfl η) ?_
 refine Zo mvI ?_
 refine Zo (run_add rfl η η ω ω) ?_
 refine Zo (by exact run_slE (0) ((i + 1)) rfl Tryz.underlying77 ty_9 η hrS lo0 (at1 η ω) (by first | omega | (simp; omega)) (by first | omega | (simp; omega)) List.drop_zero) ?_
 have hS15 := (by have h9 := (hrS.take ((i + 1))).drop (0); rw [List.drop_zero] at h9; exact h9)
 have hbd_hS15 := hS15.bd
 refine Zn asS ?_
 refine r_ret (res1 (v := .slice _ _ _) rfl η) ?_
 have e9 : (splitS s).take (i + 1) = splitS s := List.take_of_length_le ω
 exact ⟨_, _, _, _, by rw [e9], hV, by have h9 := hS15; rw [e9] at h9; exact h9⟩
theorem split_calls {s : Str} {w0 : World} (hs : s.length ≤ 1000) :
    Calls Tryz.prog 146 #[S s, S [32]] w0 fun e w' => ∃ ao b off cap, e = .returned (.slice ao (splitS s).length cap) ∧ Evo w0 w' [] ∧ RowE w' ao b off cap (splitS s) := by
 refine calls_enter (n := 8) Tryz.func146 rfl Tryz.ntmps146 rfl ?_
 have hV : Evo w0 w0 [] := Evo.refl _ _
 refine Zs ?_
 refine Zn asS ?_
 refine Zs ?_
 refine Zo mvT ?_
 refine Zo mvT ?_
 refine Zr [S _, S _, .int _ _, .int _ _] rfl η Tryz.func185 (gensplit_calls (s := s) hs) ?_
 rintro e w1 ⟨ao1, bs1, off1, cap1, rfl, F1, hr1⟩
 refine ⟨_, rfl, ?_⟩
 have Q1 := F1.size
 replace hV := Z0 hV F1
 refine Zn asS ?_
 refine r_ret (res1 (v := .slice _ _ _) rfl η) ?_
 exact ⟨_, _, _, _, rfl, hV, hr1⟩
theorem plain_no1 {s : Str} (h : s = [] ∨ (64 : Int) < (s.length : Int)) : ¬ plainP s := fun q => by
  rcases h with h | h
  · exact q.1.1 h
  · have := q.1.2; omega
theorem plain_no2 {s : Str} {k : Nat} (hk : k < s.length) (h : ¬ clsB (s.getD k default) = clsB (s.getD 0 default)) : ¬ plainP s := fun q => h (q.2.1 k hk)
theorem plain_iff {s : Str} (h : ¬ (s = [] ∨ (64 : Int) < (s.length : Int))) (hall : ∀ j, j < s.length → clsB (s.getD j default) = clsB (s.getD 0 default)) : (clsB (s.getD 0 default) = 4 ∨ clsB (s.getD 0 default) = 3) ↔ plainP s :=
  ⟨fun q => ⟨⟨fun e => h (.inl e), Int.ofNat_le.1 (Int.not_lt.1 (fun e => h (.inr e)))⟩, hall, q⟩, fun q => q.2.2⟩
theorem tplain_calls {s : Str} {w0 : World}  :
    Calls Tryz.prog 96 #[S s] w0 fun e w' => e = .returned (.bool (decide (plainP s))) ∧ Evo w0 w' [] := by
 refine calls_enter (n := 33) Tryz.func96 rfl Tryz.ntmps96 rfl ?_
 have hV : Evo w0 w0 [] := Evo.refl _ _
 refine Zs ?_
 refine Zn asB ?_
 refine r_seq ?_
 refine Zs ?_
 refine Zo mvT ?_
 refine Zo (run_seql rfl η η) ?_
 refine Zo mvB ?_
 refine r_g rfl (wantF η) rfl (fun hg => mvT) ?_
 refine r_g rfl (wantF η) rfl (fun hg => run_lenS rfl (glv η (fun h => h) hg) Tryz.underlying9) ?_
 refine r_g rfl (wantF η) rfl (fun hg => run_gtr rfl (glv η (fun h => h) hg) η) ?_
 refine Zn (run_pick_or rfl η rfl (fun hq => glv η (fun h => h) hq)) ?_
 refine r_cond η (fun hc1 => ?_) (fun hc1 => ?_)
 ·skip
  refine Zs ?_
  refine Zn asB ?_
  refine r_ret (res1 (v := .bool _) rfl η) ?_
  first | exact ⟨ret_bool (decide_eq_false (plain_no1 hc1)).symm, hV⟩ | exact ⟨ret_bool (decide_eq_false (plain_no2 ω hc1)).symm, hV⟩ | exact ⟨ret_bool (decide_eq_decide.2 (plain_iff hne (fun j hj => hall j ω))), hV⟩
 refine r_skip ?_
 refine r_seq ?_
 have hne := hc1
 have hl0 : 0 < s.length := List.length_pos_iff.2 (fun e => hne (.inl e))
 refine r_region ?_
 refine Zo mvT ?_
 refine Zo (run_ixS (0) rfl Tryz.underlying9 η η (by first | exact rfl | omega) ω) ?_
 refine Zr [.int _ _] rfl η Tryz.func143 of_calls ?_
 rintro e w2 ⟨rfl, F2⟩
 refine ⟨_, rfl, ?_⟩
 have Q2 := F2.size
 replace hV := Z0 hV F2
 refine Zn asI ?_
 refine r_seq ?_
 refine Zs ?_
 refine Zo mvT ?_
 refine Zo (run_lenS rfl η Tryz.underlying9) ?_
 refine Zn mvI ?_
 refine r_block ?_
 refine r_loop (α := Nat) [2, 4, 17, 18, 19, 20, 21, 22, 23, 24, 25, 26] (fun k g w => g 17 = .int .i64 (k : Nat) ∧ k ≤ s.length ∧ (∀ j, j < k → clsB (s.getD j default) = clsB (s.getD 0 default)) ∧ w2.heap.size ≤ w.heap.size ∧ Evo w0 w []) (fun k => s.length - k) 0 ?_ ?_
 ·refine ⟨σ, δ, (fun j h => by omega), δ, hV⟩
 rintro k g w4 ⟨hj5, hk_k, hall, hzl3, hV⟩
 have hs_w4hV := hV.size
 refine Zk 17 (v := .int .i64 (k : Nat)) (by exact hj5) ?_
 refine Zs ?_
 refine Zn (run_lss rfl η η) ?_
 refine r_seq ?_
 refine r_cond η (fun hc6 => ?_) (fun hc6 => ?_)
 ·skip
  refine r_skip ?_
  refine r_seq ?_
  refine r_block ?_
  refine Zs ?_
  refine Zo mvI ?_
  refine Zn asI ?_
  refine Zs ?_
  refine Zo mvT ?_
  refine Zo mvI ?_
  refine Zo (run_ixS (k) rfl Tryz.underlying9 η η (by first | exact rfl | omega) ω) ?_
  refine Zr [.int _ _] rfl η Tryz.func143 of_calls ?_
  rintro e w7 ⟨rfl, F7⟩
  refine ⟨_, rfl, ?_⟩
  have Q7 := F7.size
  replace hV := Z0 hV F7
  refine Zo mvI ?_
  refine Zn (run_neq rfl η η) ?_
  refine r_cond η (fun hc8 => ?_) (fun hc8 => ?_)
  ·skip
   refine Zs ?_
   refine Zn asB ?_
   refine r_ret (res1 (v := .bool _) rfl η) ?_
   first | exact ⟨ret_bool (decide_eq_false (plain_no1 hc8)).symm, hV⟩ | exact ⟨ret_bool (decide_eq_false (plain_no2 ω hc8)).symm, hV⟩ | exact ⟨ret_bool (decide_eq_decide.2 (plain_iff hne (fun j hj => hall j ω))), hV⟩
  refine r_skip ?_
  refine r_blk ?_
  refine r_region ?_
  refine Zo (run_add rfl η η ω ω) ?_
  refine Zn mvI ?_
  refine r_again (k + 1) ?_ ?_ ?_
  ·first | omega | (dsimp only; omega)
  ·refine ⟨σ, δ, (upto0 hall (by first | exact Classical.not_not.1 hc8 | simpa using hc8)), δ, hV⟩
  exact ψ
 refine r_exit rfl ?_
 refine Zs ?_
 refine Zo mvI ?_
 refine Zo (run_eql rfl η η) ?_
 refine Zo mvB ?_
 refine r_g rfl (wantF η) rfl (fun hg => mvI) ?_
 refine r_g rfl (wantF η) rfl (fun hg => run_eql rfl (glv η (fun h => h) hg) η) ?_
 refine Zo (run_pick_or rfl η rfl (fun hq => glv η (fun h => h) hq)) ?_
 refine Zn asB ?_
 refine r_ret (res1 (v := .bool _) rfl η) ?_
 first | exact ⟨ret_bool (decide_eq_false (plain_no1 hc6)).symm, hV⟩ | exact ⟨ret_bool (decide_eq_false (plain_no2 ω hc6)).symm, hV⟩ | exact ⟨ret_bool (decide_eq_decide.2 (plain_iff hne (fun j hj => hall j ω))), hV⟩
end Go.Proofs.YtlfjocbnbceceaaGreatDoor
namespace Go.Proofs.YtlfjocbnbceceaaGreatDoor
open Go Go.RowKit Go.Vc
theorem allD {l : List Str} {Q : Str → Prop} (h : ∀ j, j < l.length → Q (l.getD j default)) : ∀ w ∈ l, Q w := fun w hw => by
  obtain ⟨j, hj, e⟩ := List.getElem_of_mem hw
  have h2 := h j hj
  rwa [show l.getD j default = w by simp [List.getD, hj, e]] at h2
def PhSt (s : Str) (i fr : Nat) (d : List Str) : Prop := (∀ w ∈ d, plainP w) ∧ ((fr ≤ i ∧ i ≤ s.length ∧ splitS s = d ++ splitS (s.drop fr) ∧ ∀ j, fr ≤ j → j < i → s.getD j default ≠ 32) ∨ (i = s.length + 1 ∧ fr = s.length + 1 ∧ splitS s = d))
def piece (s : Str) (fr i : Nat) : Str := (s.drop fr).take (i - fr)
theorem PhSt.start (s : Str) : PhSt s 0 0 [] := ⟨by simp, .inl ⟨Nat.le_refl _, Nat.zero_le _, rfl, fun j h1 h2 => by omega⟩⟩
theorem PhSt.fr {s : Str} {i fr : Nat} {d : List Str} (h : PhSt s i fr d) (hi : i ≤ s.length) : fr ≤ i ∧ splitS s = d ++ splitS (s.drop fr) ∧ ∀ j, fr ≤ j → j < i → s.getD j default ≠ 32 := by
  rcases h.2 with ⟨h1, h2, h3, h4⟩ | ⟨h1, _⟩
  · exact ⟨h1, h3, h4⟩
  · omega
theorem getD_dropS {s : Str} {fr k : Nat} : (s.drop fr).getD k default = s.getD (fr + k) default := by simp [List.getD, List.getElem?_drop]
theorem piece_split {s : Str} {i fr : Nat} {d : List Str} (h : PhSt s i fr d) (hi : i ≤ s.length) (hb : i = s.length ∨ s.getD i default = 32) : (i = s.length ∧ splitS s = d ++ [piece s fr i]) ∨ (i < s.length ∧ splitS s = d ++ [piece s fr i] ++ splitS (s.drop (i + 1))) := by
  obtain ⟨h1, h2, h3⟩ := h.fr hi
  have hl : (s.drop fr).length = s.length - fr := List.length_drop
  rcases split_at (s.drop fr) (i - fr) ω (fun k hk => by rw [getD_dropS]; exact h3 _ ω ω) with ⟨h4, h5⟩ | ⟨h4, h5⟩
  · refine .inl ⟨by omega, ?_⟩
    rw [h2, h5]; unfold piece; rw [List.take_of_length_le ω]
  · have hlt : i < s.length := by omega
    refine .inr ⟨hlt, ?_⟩
    have h6 : s.getD i default = 32 := hb.resolve_left ω
    rw [h2, h5 (by rw [getD_dropS, show fr + (i - fr) = i by omega]; exact h6), List.drop_drop, show fr + (i - fr + 1) = i + 1 by omega, List.append_assoc]; rfl
theorem PhSt.cut {s : Str} {i fr : Nat} {d : List Str} (h : PhSt s i fr d) (hi : i ≤ s.length) (hb : i = s.length ∨ s.getD i default = 32) (hp : plainP (piece s fr i)) : PhSt s (i + 1) (i + 1) (d ++ [piece s fr i]) := by
  refine ⟨fun w hw => (List.mem_append.1 hw).elim (h.1 w) (fun q => by rw [List.mem_singleton] at q; rw [q]; exact hp), ?_⟩
  rcases piece_split h hi hb with ⟨h1, h2⟩ | ⟨h1, h2⟩
  · exact .inr ⟨by omega, by omega, h2⟩
  · exact .inl ⟨Nat.le_refl _, by omega, h2, fun j h3 h4 => by omega⟩
def oneS (ws : List Str) : List (List Str) := ws.map (fun w => [lowS w])
def hasB (s : Str) (l : List Vc.Item) : Bool := (List.range l.length).any (fun i => decide (0 ≤ cT l i (oneS (wordsP s))))
theorem has_yes {s : Str} {l : List Vc.Item} {i : Nat} (hi : i < l.length) (h : 0 ≤ cT l i (oneS (wordsP s))) : hasB s l = true := by
  unfold hasB; rw [List.any_eq_true]; exact ⟨i, List.mem_range.2 hi, decide_eq_true h⟩
theorem has_no {s : Str} {l : List Vc.Item} (h : ∀ i, i < l.length → ¬ 0 ≤ cT l i (oneS (wordsP s))) : hasB s l = false := by
  unfold hasB; rw [List.any_eq_false]; intro i hi; simpa using h i (List.mem_range.1 hi)
theorem twords_calls {s : Str} {w0 : World}  :
    Calls Tryz.prog 98 #[S s] w0 fun e w' => ∃ ao b off cap, e = .returned (.slice ao (wordsP s).length cap) ∧ Evo w0 w' [] ∧ RowE w' ao b off cap (wordsP s) := by
 refine calls_enter (n := 25) Tryz.func98 rfl Tryz.ntmps98 rfl ?_
 have hV : Evo w0 w0 [] := Evo.refl _ _
 refine Zs ?_
 refine Zn asS ?_
 refine r_seq ?_
 refine Zs ?_
 refine Zo mvT ?_
 refine Zo (run_lenS rfl η Tryz.underlying9) ?_
 refine Zn (run_gtr rfl η η) ?_
 refine r_cond η (fun hc1 => ?_) (fun hc1 => ?_)
 ·skip
  refine Zs ?_
  refine Zn asS ?_
  refine r_ret (res1 (v := .slice _ _ _) rfl η) ?_
  exact ⟨none, 0, 0, 0, by rw [words_no (fun q => by have := ok_len q; omega)]; rfl, hV, by rw [words_no (fun q => by have := ok_len q; omega)]; exact RowE.nil _ _ _ _ _⟩
 refine r_skip ?_
 refine Zs ?_
 refine Zo mvT ?_
 refine Zr [S _, S _] rfl η Tryz.func146 (split_calls (s := s) ω) ?_
 rintro e w2 ⟨ao2, bs2, off2, cap2, rfl, F2, hr2⟩
 refine ⟨_, rfl, ?_⟩
 have Q2 := F2.size
 replace hV := Z0 hV F2
 refine Zn asS ?_
 refine r_seq ?_
 refine r_seq ?_
 have hI3 : Evo w2 w2 [] := Evo.refl _ _
 have hr20 := keepE hr2
 have hst9 := split_total s
 refine r_region ?_
 refine Zo mvS ?_
 refine Zo (run_lenSl rfl η Tryz.underlying77) ?_
 refine Zn mvI ?_
 refine r_block ?_
 refine r_loop (α := Nat) [2, 5, 13, 14, 15, 16, 17, 18, 19, 20] (fun k g w => g 13 = .int .i64 (k : Nat) ∧ k ≤ (splitS s).length ∧ (∀ j, j < k → plainP ((splitS s).getD j default)) ∧ w2.heap.size ≤ w.heap.size ∧ Evo w0 w [] ∧ Evo w2 w []) (fun k => (splitS s).length - k) 0 ?_ ?_
 ·refine ⟨σ, δ, (fun j h => by omega), δ, hV, hI3⟩
 rintro k g w5 ⟨hj6, hk_k, hall, hzl4, hV, hI3⟩
 have hs_w5hV := hV.size
 have hs_w5hI3 := hI3.size
 replace hr2 := hr20 _ hI3
 refine Zk 13 (v := .int .i64 (k : Nat)) (by exact hj6) ?_
 refine Zs ?_
 refine Zn (run_lss rfl η η) ?_
 refine r_seq ?_
 refine r_cond η (fun hc7 => ?_) (fun hc7 => ?_)
 ·skip
  refine r_skip ?_
  refine r_seq ?_
  refine r_block ?_
  refine Zs ?_
  refine Zo (run_ix (k) rfl Tryz.underlying77 ty_9 η η (by first | exact rfl | omega) ω (hr2.addr (i := k) ω)) ?_
  have hA80 := fun (w' : World) (h : Evo w2 w' []) => (hr20 w' h).atD (k) ω
  have hA8 := hA80 _ hI3
  refine Zo (run_ld1 rfl ag_9 η (hA8.cell 0 η)) ?_
  refine Zn asT ?_
  refine Zs ?_
  refine Zo mvT ?_
  refine Zr [S _] rfl η Tryz.func96 (tplain_calls (s := ((splitS s).getD k default))) ?_
  rintro e w9 ⟨rfl, F9⟩
  refine ⟨_, rfl, ?_⟩
  have Q9 := F9.size
  replace hV := Z0 hV F9
  replace hI3 := Z0 hI3 F9
  replace hr2 := hr20 _ hI3
  refine Zn (run_not rfl η) ?_
  refine r_cond η (fun hc10 => ?_) (fun hc10 => ?_)
  ·skip
   refine Zs ?_
   refine Zn asS ?_
   refine r_ret (res1 (v := .slice _ _ _) rfl η) ?_
   exact ⟨none, 0, 0, 0, by rw [words_no (fun q => hc10 (q.1 _ (getD_in ω)))]; rfl, hV, by rw [words_no (fun q => hc10 (q.1 _ (getD_in ω)))]; exact RowE.nil _ _ _ _ _⟩
  refine r_skip ?_
  refine r_blk ?_
  refine r_region ?_
  refine Zo (run_add rfl η η ω ω) ?_
  refine Zn mvI ?_
  refine r_again (k + 1) ?_ ?_ ?_
  ·first | omega | (dsimp only; omega)
  ·refine ⟨σ, δ, (upto0 hall (by first | exact Classical.not_not.1 hc10 | exact hc10)), δ, hV, hI3⟩
  exact ψ
 refine r_exit rfl ?_
 refine r_seq ?_
 refine Zs ?_
 refine Zo mvS ?_
 refine Zo (run_lenSl rfl η Tryz.underlying77) ?_
 refine Zn (run_gtr rfl η η) ?_
 refine r_cond η (fun hc11 => ?_) (fun hc11 => ?_)
 ·skip
  refine Zs ?_
  refine Zn asS ?_
  refine r_ret (res1 (v := .slice _ _ _) rfl η) ?_
  exact ⟨none, 0, 0, 0, by rw [words_no (fun q => by have := q.2; omega)]; rfl, hV, by rw [words_no (fun q => by have := q.2; omega)]; exact RowE.nil _ _ _ _ _⟩
 refine r_skip ?_
 refine Zs ?_
 refine Zo mvS ?_
 refine Zn asS ?_
 refine r_ret (res1 (v := .slice _ _ _) rfl η) ?_
 exact ⟨_, _, _, _, by rw [words_ok ⟨allD (fun j hj => hall j ω), by omega⟩], hV, by rw [words_ok ⟨allD (fun j hj => hall j ω), by omega⟩]; exact hr2⟩
theorem wordsP_len {s : Str} (k : Nat) : ((wordsP s).getD k default).length ≤ 64 := by
  rcases Nat.lt_or_ge k (wordsP s).length with h | h
  · have h1 := getD_in h
    by_cases ho : phraseOk s
    · rw [words_ok ho] at h1 ⊢; exact (ho.1 _ h1).1.2
    · rw [words_no ho] at h; simp at h
  · rw [List.getD_eq_getElem?_getD, List.getElem?_eq_none h]; exact Nat.zero_le _
theorem wordsP_cnt (s : Str) : (wordsP s).length ≤ 8 := by
  unfold wordsP
  split
  · rename_i h; exact h.2
  · exact Nat.zero_le _
theorem oneS_succ {ws : List Str} {k : Nat} (hk : k < ws.length) : oneS (ws.take (k + 1)) = oneS (ws.take k) ++ [[lowS (ws.getD k default)]] := by unfold oneS; rw [take_succD ws k hk, List.map_append]; rfl
theorem oneS_len (ws : List Str) : (oneS ws).length = ws.length := by unfold oneS; rw [List.length_map]
theorem has_iff {l : List Vc.Item} {i : Nat} {ss : List (List Str)} (hi : i < l.length) : (isW (l.getD i default) ∧ 0 ≤ chainF l (i : Int) (-1) (nth (ss.map SetS.mk))) ↔ 0 ≤ cT l i ss := by
  rw [show nth (ss.map SetS.mk) = ss from nth_mk _]
  constructor
  · rintro ⟨h1, h2⟩
    rw [chainFG l _ _ _ ω (.inr (by simpa using h1))] at h2; exact h2
  · intro h
    have h1 : isW (l.getD i default) := Classical.byContradiction fun q => by rw [cT_no l q] at h; omega
    refine ⟨h1, ?_⟩
    rw [chainFG l _ _ _ ω (.inr (by simpa using h1))]; exact h
set_option maxHeartbeats 1000000 in
theorem has_calls {s : Str} {ao : Option Addr} {b off cap : Nat} {l : List Vc.Item} {w0 : World} (hl : RowE w0 ao b off cap l) (hq : ∀ x ∈ l, x.text.length ≤ 140737488355328) (hzl : l.length ≤ 4398046510976) :
    Calls Tryz.prog 157 #[S s, .slice ao l.length cap] w0 fun e w' => e = .returned (.bool (hasB s l)) ∧ Evo w0 w' [] := by
 refine calls_enter (n := 42) Tryz.func157 rfl Tryz.ntmps157 rfl ?_
 have hV : Evo w0 w0 [] := Evo.refl _ _
 have hl0 := keepE hl
 have hbd_hl := hl.bd
 refine Zs ?_
 refine Zn asB ?_
 refine Zs ?_
 refine Zn asS ?_
 refine r_seq ?_
 refine Zs ?_
 refine Zo mvT ?_
 refine Zr [S _] rfl η Tryz.func98 twords_calls ?_
 rintro e w1 ⟨ao1, bs1, off1, cap1, rfl, F1, hr1⟩
 refine ⟨_, rfl, ?_⟩
 have Q1 := F1.size
 replace hV := Z0 hV F1
 replace hl := hl0 _ hV
 refine Zo (run_lenSl rfl η Tryz.underlying77) ?_
 refine Zn mvI ?_
 refine r_block ?_
 have hI2 : Evo w1 w1 [] := Evo.refl _ _
 have hr10 := keepE hr1
 refine r_loop (α := Nat) [5, 7, 12, 13, 14, 15, 16, 17, 18, 19, 20, 21, 22, 23] (fun k g w => ∃ vo : Value, g 12 = .int .i64 (k : Nat) ∧ g 5 = vo ∧ k ≤ (wordsP s).length ∧ OwnR w w1.heap.size 171 [] vo ((oneS ((wordsP s).take k)).map SetS.mk) ∧ w1.heap.size ≤ w.heap.size ∧ Evo w0 w [] ∧ Evo w1 w []) (fun k => (wordsP s).length - k) 0 ?_ ?_
 ·refine ⟨_, σ, rfl, δ, (OwnR.nil _ _ _ _), δ, hV, hI2⟩
 rintro k g w4 ⟨vo, hj5, hj6, hk_k, hoR, hzl3, hV, hI2⟩
 have hs_w4hV := hV.size
 have hs_w4hI2 := hI2.size
 replace hl := hl0 _ hV
 replace hr1 := hr10 _ hI2
 refine Zk 12 (v := .int .i64 (k : Nat)) (by exact hj5) ?_
 refine Zk 5 (v := vo) (by exact hj6) ?_
 refine Zs ?_
 refine Zn (run_lss rfl η η) ?_
 refine r_seq ?_
 refine r_cond η (fun hc7 => ?_) (fun hc7 => ?_)
 ·skip
  refine r_skip ?_
  refine r_seq ?_
  refine r_block ?_
  refine Zs ?_
  refine Zo (run_ix (k) rfl Tryz.underlying77 ty_9 η η (by first | exact rfl | omega) ω (hr1.addr (i := k) ω)) ?_
  have hA80 := fun (w' : World) (h : Evo w1 w' []) => (hr10 w' h).atD (k) ω
  have hA8 := hA80 _ hI2
  refine Zo (run_ld1 rfl ag_9 η (hA8.cell 0 η)) ?_
  refine Zn asT ?_
  have hobR : ∀ g, vo.ownBlock = some g → g < w4.heap.size := fun g hg => (hoR.block hg).2; have hwl := wordsP_len (s := s) k; have hol := oneS_len ((wordsP s).take k); have hot := List.length_take_le k (wordsP s); have hwc := wordsP_cnt s
  refine r_region ?_
  refine Zo (run_mv (v := vo) rfl η) ?_
  refine Zo mvT ?_
  refine Zr [S _] rfl η Tryz.func183 (lower_calls (by first | omega | (simp; omega))) ?_
  rintro e w9 ⟨rfl, F9⟩
  refine ⟨_, rfl, ?_⟩
  have Q9 := F9.size
  replace hV := Z0 hV F9
  replace hI2 := Z0 hI2 F9
  replace hoR := hoR.evo0 F9
  refine r_bslice (pv := [(0, S _)]) (zs := [_]) (cs := [_]) Tryz.underlying77 ty_9 η rfl η rfl η ?_
  intro b10 w11 J10 E11 B10 Y10
  have Q11 := E11.size
  replace hV := Z0 hV E11
  replace hI2 := Z0 hI2 E11
  replace hoR := hoR.evo0 E11
  have hrb10 : RowE w11 (some ⟨b10, 0, none⟩) b10 0 1 ([lowS ((wordsP s).getD k default)] : List Str) := rowLit ([lowS ((wordsP s).getD k default)] : List Str) B10 rfl rfl
  refine Zr [.slice (some ⟨b10, 0, none⟩) _ _] rfl η Tryz.func190 (set_calls hrb10) ?_
  rintro e w12 ⟨bm12, rfl, F12, hsm12, hsb12⟩
  refine ⟨_, rfl, ?_⟩
  have Q12 := F12.size
  replace hV := Z0 hV F12
  replace hI2 := Z0 hI2 F12
  replace hoR := hoR.evo0 F12
  replace hrb10 := hrb10.evo0 F12
  refine r_append1R (u := .map (some bm12)) (us := [_]) rfl rfl Tryz.underlying200 ty_171 η rfl rfl hoR (fun _ => η) η η rfl η (fun w9 h9 => ⟨bm12, rfl, hsm12.evo h9 (by intro hm; have h8 := hobR bm12 (Option.mem_toList.1 (by simpa using hm)); omega)⟩) ((by simp only [List.length_map]; omega)) ((by simp only [List.length_map]; omega)) ω ?_
  intro q_v13 v13 w14 E14 hov13 hlv13
  have Q14 := E14.size
  replace hV := evo_stepo hV E14 (fun g hg => .inl (by first | exact (hoR.block hg).1 | (have := hoR.block hg; omega)))
  replace hI2 := evo_stepo hI2 E14 (fun g hg => .inl (by first | exact (hoR.block hg).1 | (have := hoR.block hg; omega)))
  replace hl := hl0 _ hV
  replace hr1 := hr10 _ hI2
  refine Zn (run_asg (v := v13) rfl η) ?_
  refine r_blk ?_
  refine r_region ?_
  refine Zo (run_add rfl η η ω ω) ?_
  refine Zn mvI ?_
  refine r_again (k + 1) ?_ ?_ ?_
  ·first | omega | (dsimp only; omega)
  ·refine ⟨_, σ, rfl, δ, (by rw [oneS_succ ω, List.map_append]; exact hov13), δ, hV, hI2⟩
  exact ψ
 refine r_exit rfl ?_
 refine r_seq ?_
 refine r_seq ?_
 rw [List.take_of_length_le ω] at hoR
 obtain ⟨ao15, g15, cp15, hv15, hr15⟩ := hoR.rowOf
 subst hv15
 have hbd_hr15 := hr15.bd
 have hI16 : Evo w4 w4 [] := Evo.refl _ _
 have hr150 := hr15.keep
 have hbd_hr15 := hr15.bd
 refine r_region ?_
 refine Zo mvS ?_
 refine Zo (run_lenSl rfl η Tryz.underlying94) ?_
 refine Zn mvI ?_
 refine r_block ?_
 refine r_loop (α := Nat) [4, 8, 26, 27, 28, 29, 30, 31, 32, 33, 34, 35, 36, 37, 38, 39, 40, 41] (fun i g w => g 26 = .int .i64 (i : Nat) ∧ i ≤ l.length ∧ (∀ j, j < i → ¬ 0 ≤ cT l j (oneS (wordsP s))) ∧ w4.heap.size ≤ w.heap.size ∧ Evo w0 w [] ∧ Evo w1 w [] ∧ Evo w4 w []) (fun i => l.length - i) 0 ?_ ?_
 ·refine ⟨σ, δ, (fun j h => by omega), δ, hV, hI2, hI16⟩
 rintro i g w18 ⟨hj19, hk_i, hno, hzl17, hV, hI2, hI16⟩
 have hs_w18hV := hV.size
 have hs_w18hI2 := hI2.size
 have hs_w18hI16 := hI16.size
 replace hl := hl0 _ hV
 refine Zk 26 (v := .int .i64 (i : Nat)) (by exact hj19) ?_
 refine Zs ?_
 refine Zn (run_lss rfl η η) ?_
 refine r_seq ?_
 refine r_cond η (fun hc20 => ?_) (fun hc20 => ?_)
 ·skip
  refine r_skip ?_
  refine r_seq ?_
  refine r_block ?_
  refine Zs ?_
  refine Zo mvI ?_
  refine Zn asI ?_
  refine Zs ?_
  refine Zo mvS ?_
  refine Zo mvI ?_
  refine Zo (run_ix (i) rfl Tryz.underlying94 ty_96 η η (by first | exact rfl | omega) ω (hl.addr (i := i) ω)) ?_
  have hA210 := fun (w' : World) (h : Evo w0 w' []) => (hl0 w' h).atD (i) ω
  have hA21 := hA210 _ hV
  refine Zo (run_ldN rfl ag_96 ty_96 η rfl hA21) ?_
  refine Zr [.agg _] rfl η Tryz.func191 (tisword_calls (x := (l.getD i default))) ?_
  rintro e w22 ⟨rfl, F22⟩
  refine ⟨_, rfl, ?_⟩
  have Q22 := F22.size
  replace hV := Z0 hV F22
  replace hI2 := Z0 hI2 F22
  replace hI16 := Z0 hI16 F22
  replace hl := hl0 _ hV
  replace hr15 := hr150.now hI16
  refine Zo mvB ?_
  refine r_g rfl (wantT η) rfl (fun hg => mvS) ?_
  refine r_g rfl (wantT η) rfl (fun hg => mvI) ?_
  refine r_g rfl (wantT η) rfl (fun hg => mvS) ?_
  refine r_gcall rfl (wantT η) rfl (fun hg => run_callf rfl (argcons (v := .slice _ _ _) (glv η (fun h => h) hg) (argcons (v := .int _ _) (glv η (fun h => h) hg) (argcons (v := .slice _ _ _) (glv η (fun h => h) hg) (rfl)))) Tryz.func192 rfl ζ) (fun hg => (tchain_calls hl hr15 (i := (i : Int)) hq ω ω).mono (fun e w' h => ⟨h.1, h.2⟩)) (fun w23 F24 => ?_)
  have Q23 := F24.size
  replace hV := Z0 hV F24
  replace hI2 := Z0 hI2 F24
  replace hI16 := Z0 hI16 F24
  replace hl := hl0 _ hV
  replace hr1 := hr10 _ hI2
  replace hr15 := hr150.now hI16
  refine r_g rfl (wantT η) rfl (fun hg => run_geq rfl (glv η (fun h => h) hg) η) ?_
  refine Zn (run_pick_and rfl η (fun hq => glv η (fun h => h) hq) rfl) ?_
  refine r_cond η (fun hc25 => ?_) (fun hc25 => ?_)
  ·skip
   refine Zs ?_
   refine Zn asB ?_
   refine r_ret (res1 (v := .bool _) rfl η) ?_
   exact ⟨ret_bool (has_yes ω ((has_iff ω).1 hc25)).symm, hV⟩
  refine r_skip ?_
  refine r_blk ?_
  refine r_region ?_
  refine Zo (run_add rfl η η ω ω) ?_
  refine Zn mvI ?_
  refine r_again (i + 1) ?_ ?_ ?_
  ·first | omega | (dsimp only; omega)
  ·refine ⟨σ, δ, (upto0 hno (fun q9 => hc25 ((has_iff ω).2 q9))), δ, hV, hI2, hI16⟩
  exact ψ
 refine r_exit rfl ?_
 refine Zs ?_
 refine Zn asB ?_
 refine r_ret (res1 (v := .bool _) rfl η) ?_
 exact ⟨ret_bool (has_no (fun j hj => hno j ω)).symm, hV⟩
end Go.Proofs.YtlfjocbnbceceaaGreatDoor
namespace Go.Vc
open Go Go.RowKit Go.Maps Go.ChangeMaps Go.MapKept
theorem keyOf_I {P : Program} {K : TypeId} (hk : P.underlying K = some (.int .i64)) {x : Int} (hx : (Lit.int .i64 x).wf = true) : keyOf P K (Value.int .i64 x) = some (.int .i64 x) := by
  simp [keyOf, hk, mapKey]; exact hx
theorem map_ownsI {β : Type} {P : Program} {K : TypeId} (hk : P.underlying K = some (.int .i64)) {w : World} {b : Nat} {ev : β → Value} {m : List (Int × β)} (h : MapIs w b (Value.int .i64) ev m) (hm : m.length ≤ maxLen) (hl : ∀ p ∈ m, (Lit.int .i64 p.1).wf = true) :
    ∃ D : DataW Unit, w.ownsMap P K R0 b m.length D ∧ Maps.size D = m.length ∧ (intKeys D).Perm (m.map (·.1)) := by
  obtain ⟨es, clock, hb, he, h1, h2, h3⟩ := h.ex
  have hsz : es.size = m.length := by have := congrArg List.length he; simpa using this
  have hkeys : es.toList.map (·.key) = m.map (fun p => Value.int .i64 p.1) := by
    have := congrArg (List.map Prod.fst) he
    simpa [Function.comp_def] using this
  have hrd : ∀ x ∈ es.toList, ∃ s : Int, x.key = Value.int .i64 s ∧ WideElems.rd P K R0 x = some (.int .i64 s, .nil) := fun x hx => by
    have : x.key ∈ m.map (fun p => Value.int .i64 p.1) := hkeys ▸ List.mem_map.2 ⟨x, hx, rfl⟩
    obtain ⟨p, hpm, hp⟩ := List.mem_map.1 this
    exact ⟨p.1, hp.symm, by unfold WideElems.rd; rw [← hp, keyOf_I hk (hl p hpm)]; rfl⟩
  have hstr : es.toList.map (fun x => intOf (WideElems.rg P K R0 x).1) = m.map (·.1) := by
    have e1 : es.toList.map (fun x => intOf (WideElems.rg P K R0 x).1) = (es.toList.map (·.key)).map (fun v => match v with | .int _ b => b | _ => 0) := by
      rw [List.map_map]
      refine List.map_congr_left (fun x hx => ?_)
      obtain ⟨s, h5, h6⟩ := hrd x hx
      show intOf (WideElems.rg P K R0 x).1 = _
      unfold WideElems.rg; rw [h6]; simp [h5, intOf]
    rw [e1, hkeys, List.map_map]
    exact List.map_congr_left (fun p _ => rfl)
  refine ⟨_, ⟨es, clock, hb, ⟨by omega, ⟨h2, h1, ?_⟩, fun x hx => ?_⟩, by omega, rfl⟩, ?_, ?_⟩
  · rw [hkeys]
    have e : m.map (fun p => Value.int .i64 p.1) = (m.map (·.1)).map (Value.int .i64) := by rw [List.map_map]; rfl
    rw [e]
    exact List.pairwise_map.2 (h3.imp (fun hne h9 => hne (by injection h9)))
  · obtain ⟨s, _, h6⟩ := hrd x hx
    exact ⟨_, h6⟩
  · show ((es.toList.map _).foldr DataW.insert []).length = _
    rw [length_sorted, List.length_map, Array.length_toList, hsz]
  · show (((es.toList.map (WideElems.rg P K R0)).foldr DataW.insert []).map (fun p => intOf p.1)).Perm _
    refine ((Go.WideShapes.sorted_perm _).map _).trans ?_
    rw [List.map_map]
    have e : (fun p : Lit × DataW Unit => intOf p.1) ∘ WideElems.rg P K R0 = fun x => intOf (WideElems.rg P K R0 x).1 := rfl
    rw [e, hstr]
def sortI (l : List Int) : List Int := l.mergeSort leI
theorem sortI_eq {ks l : List Int} (hn : ks.Nodup) (hl : l.Pairwise (fun a b => a < b)) (h : ∀ x, x ∈ ks ↔ x ∈ l) : sortI ks = l := by
  have hp : l.Perm ks := (List.perm_ext_iff_of_nodup (hl.imp (fun {a b} h e => by omega)) hn).2 (fun x => (h x).symm)
  have h3 := mergeSort_of_perm_i hp
  have h4 : l.mergeSort leI = l := List.mergeSort_of_pairwise (hl.imp (fun h => by simpa [leI] using Int.le_of_lt h))
  show ks.mergeSort leI = _
  rw [← h3, h4]
end Go.Vc
namespace Go.Proofs.YtlfjocbnbceceaaGreatDoor
open Go Go.RowKit Go.Vc
def standsS (sp : List Spt) (k : Nat) : Bool := decide (∃ x ∈ sp, x.t = (k : Int))
def foundN (n : Nat) (sp : List Spt) : List Nat := (List.range n).filter (fun k => standsS sp k)
def natI (l : List Nat) : List Int := l.map Int.ofNat
theorem natI_len (l : List Nat) : (natI l).length = l.length := by unfold natI; rw [List.length_map]
theorem natI_get {l : List Nat} {k : Nat} (hk : k < l.length) : (natI l).getD k default = ((l.getD k default : Nat) : Int) := by
  unfold natI
  simp [List.getD, hk]
theorem natI_app (l : List Nat) (x : Nat) : natI (l ++ [x]) = natI l ++ [(x : Int)] := by unfold natI; rw [List.map_append]; rfl
theorem foundN_lt {n : Nat} {sp : List Spt} {k : Nat} (h : k ∈ foundN n sp) : k < n := List.mem_range.1 (List.mem_filter.1 h).1
theorem foundN_get {n : Nat} {sp : List Spt} {k : Nat} (h : k < (foundN n sp).length) : (foundN n sp).getD k default < n := foundN_lt (getD_in h)
theorem foundN_len (n : Nat) (sp : List Spt) : (foundN n sp).length ≤ n := by
  have := List.length_filter_le (fun k => standsS sp k) (List.range n)
  rw [List.length_range] at this; exact this
theorem foundN_sorted (n : Nat) (sp : List Spt) : (natI (foundN n sp)).Pairwise (fun a b => a < b) := by
  refine List.pairwise_map.2 ?_
  exact (List.pairwise_lt_range.filter _).imp (fun h => by show ((_ : Nat) : Int) < ((_ : Nat) : Int); omega)
def SeenI (m : List (Int × Unit)) (sp : List Spt) : Prop := (m.map (·.1)).Nodup ∧ ∀ x, x ∈ m.map (·.1) ↔ ∃ s ∈ sp, s.t = x
theorem setI_eq (m : List (Int × Unit)) (a : Int) : (setM m a ()).map (·.1) = if a ∈ m.map (·.1) then m.map (·.1) else m.map (·.1) ++ [a] := by
  unfold setM
  by_cases h : a ∈ m.map (·.1)
  · have h1 : m.any (fun p => decide (p.1 = a)) = true := by
      obtain ⟨p, hp, e⟩ := List.mem_map.1 h
      exact List.any_eq_true.2 ⟨p, hp, decide_eq_true e⟩
    rw [if_pos h, if_pos h1, List.map_map]
    refine List.map_congr_left (fun p _ => ?_)
    show (if p.1 = a then (a, ()) else p).1 = p.1
    split
    · rename_i e; exact e.symm
    · rfl
  · have h1 : ¬ m.any (fun p => decide (p.1 = a)) = true := fun q => by
      obtain ⟨p, hp, e⟩ := List.any_eq_true.1 q
      exact h (List.mem_map.2 ⟨p, hp, of_decide_eq_true e⟩)
    rw [if_neg h, if_neg h1, List.map_append]; rfl
theorem setI_keys (m : List (Int × Unit)) (a : Int) (h : (m.map (·.1)).Nodup) : ((setM m a ()).map (·.1)).Nodup ∧ ∀ x, x ∈ (setM m a ()).map (·.1) ↔ (x ∈ m.map (·.1) ∨ x = a) := by
  rw [setI_eq]
  by_cases h1 : a ∈ m.map (·.1)
  · rw [if_pos h1]
    exact ⟨h, fun x => ⟨.inl, fun q => q.elim id (fun e => e ▸ h1)⟩⟩
  · rw [if_neg h1]
    exact ⟨List.nodup_append.2 ⟨h, by simp, fun x hx y hy e => by rw [List.mem_singleton] at hy; exact h1 (by rw [← hy, ← e]; exact hx)⟩, fun x => by rw [List.mem_append, List.mem_singleton]⟩
theorem SeenI.nil : SeenI [] [] := ⟨by simp, fun x => by simp⟩
theorem SeenI.add {m : List (Int × Unit)} {sp : List Spt} (h : SeenI m sp) (x : Spt) : SeenI (setM m x.t ()) (sp ++ [x]) := by
  obtain ⟨h1, h2⟩ := setI_keys m x.t h.1
  refine ⟨h1, fun y => ?_⟩
  rw [h2, h.2]
  constructor
  · rintro (⟨s, hs, e⟩ | e)
    · exact ⟨s, List.mem_append.2 (.inl hs), e⟩
    · exact ⟨x, List.mem_append.2 (.inr (by simp)), e.symm⟩
  · rintro ⟨s, hs, e⟩
    rcases List.mem_append.1 hs with q | q
    · exact .inl ⟨s, q, e⟩
    · rw [List.mem_singleton] at q; exact .inr (by rw [← e, q])
theorem SeenI.mem {m : List (Int × Unit)} {sp : List Spt} (h : SeenI m sp) {n : Nat} (hb : ∀ s ∈ sp, 0 ≤ s.t ∧ s.t < (n : Int)) (x : Int) : x ∈ m.map (·.1) ↔ x ∈ natI (foundN n sp) := by
  rw [h.2]
  unfold natI foundN
  constructor
  · rintro ⟨s, hs, e⟩
    have := hb s hs
    exact List.mem_map.2 ⟨x.toNat, List.mem_filter.2 ⟨List.mem_range.2 ω, by unfold standsS; exact decide_eq_true ⟨s, hs, by omega⟩⟩, by show ((_ : Nat) : Int) = x; omega⟩
  · intro h9
    obtain ⟨k, hk, e⟩ := List.mem_map.1 h9
    obtain ⟨s, hs, e2⟩ := of_decide_eq_true (List.mem_filter.1 hk).2
    exact ⟨s, hs, by rw [e2]; exact e⟩
theorem SeenI.len {m : List (Int × Unit)} {sp : List Spt} (h : SeenI m sp) {n : Nat} (hb : ∀ s ∈ sp, 0 ≤ s.t ∧ s.t < (n : Int)) : m.length ≤ n := by
  have hp := ((List.perm_ext_iff_of_nodup h.1 ((foundN_sorted n sp).imp (fun {a b} h e => by omega))).2 (h.mem hb)).length_eq
  rw [List.length_map, natI_len] at hp
  have := foundN_len n sp
  omega
theorem SeenI.wf {m : List (Int × Unit)} {sp : List Spt} (h : SeenI m sp) {n : Nat} (hn : n ≤ 9000000000000000) (hb : ∀ s ∈ sp, 0 ≤ s.t ∧ s.t < (n : Int)) : ∀ p ∈ m, (Lit.int .i64 p.1).wf = true := fun p hp => by
  obtain ⟨s, hs, e⟩ := (h.2 p.1).1 (List.mem_map.2 ⟨p, hp, rfl⟩)
  have h2 := hb s hs
  rw [e] at h2
  show (decide (_ ≤ _) && decide (_ ≤ _)) = true
  rw [Bool.and_eq_true, decide_eq_true_eq, decide_eq_true_eq]
  show (-9223372036854775808 : Int) ≤ p.1 ∧ p.1 ≤ 9223372036854775807
  omega
theorem SeenI.sorted {m : List (Int × Unit)} {sp : List Spt} (h : SeenI m sp) {n : Nat} (hb : ∀ s ∈ sp, 0 ≤ s.t ∧ s.t < (n : Int)) : sortI (m.map (·.1)) = natI (foundN n sp) := sortI_eq h.1 (foundN_sorted n sp) (h.mem hb)
section
variable (l : List Vc.Item) (fs : List (List (List Str)))
theorem spotsG_bd : ∀ (n i : Nat), ∀ s ∈ spotsG l fs n i, 0 ≤ s.t ∧ s.t < (fs.length : Int) ∧ (i : Int) ≤ s.fr ∧ s.fr < s.to ∧ s.to ≤ (l.length : Int)
  | 0, i, s, h => by cases h
  | n + 1, i, s, h => by
    rcases Nat.lt_or_ge i l.length with hi | hi
    · unfold spotsG at h
      cases hb : bestK l fs i fs.length with
      | none =>
        rw [hb] at h
        have := spotsG_bd n (i + 1) s h
        omega
      | some q =>
        rw [hb] at h
        have h3 := best_bd l fs hi _ _ hb
        rcases List.mem_cons.1 h with rfl | h
        · show 0 ≤ (q.1 : Int) ∧ (q.1 : Int) < _ ∧ (i : Int) ≤ (i : Int) ∧ (i : Int) < q.2 ∧ q.2 ≤ _
          omega
        · have := spotsG_bd n q.2.toNat s h
          omega
    · rw [spotsG_out l fs _ i hi] at h; cases h
theorem spots_bd {i : Nat} : ∀ s ∈ spotsF l fs i, 0 ≤ s.t ∧ s.t < (fs.length : Int) ∧ (i : Int) ≤ s.fr ∧ s.fr < s.to ∧ s.to ≤ (l.length : Int) := spotsG_bd l fs _ i
theorem spots_len : ∀ (n i : Nat), (spotsG l fs n i).length ≤ l.length - i
  | 0, i => by simp [spotsG]
  | n + 1, i => by
    rcases Nat.lt_or_ge i l.length with hi | hi
    · unfold spotsG
      cases hb : bestK l fs i fs.length with
      | none => have := spots_len n (i + 1); show (spotsG l fs n (i + 1)).length ≤ _; omega
      | some q =>
        have h3 := best_bd l fs hi _ _ hb
        have := spots_len n q.2.toNat
        show ((⟨_, _, _⟩ : Spt) :: spotsG l fs n q.2.toNat).length ≤ _
        rw [List.length_cons]; omega
    · rw [spotsG_out l fs _ i hi]; simp
end
variable (tg : List Vc.Item) (ts : List TermL)
def missT (x : TermL) : Bool := !(x.req.isEmpty) && !(x.req.any (fun s => hasB s tg))
def missN (ks : List Nat) : List Nat := ks.filter (fun k => missT tg (ts.getD k default))
theorem missN_yes {ks : List Nat} {k : Nat} (hk : k < ks.length) (h : missT tg (ts.getD (ks.getD k default) default) = true) : missN tg ts (ks.take (k + 1)) = missN tg ts (ks.take k) ++ [ks.getD k default] := by
  unfold missN; rw [take_succD ks k hk, List.filter_append, List.filter_cons, if_pos h]; rfl
theorem missN_no {ks : List Nat} {k : Nat} (hk : k < ks.length) (h : missT tg (ts.getD (ks.getD k default) default) = false) : missN tg ts (ks.take (k + 1)) = missN tg ts (ks.take k) := by
  unfold missN; rw [take_succD ks k hk, List.filter_append, List.filter_cons, if_neg (by rw [h]; decide)]; simp
theorem missN_len (ks : List Nat) : (missN tg ts ks).length ≤ ks.length := List.length_filter_le _ _
def addH (o : List Str) (fs : List Str) : List Str := fs.foldl (fun o s => if hasB s tg then addS o s else o) o
def wrongK (o : List Str) (ks : List Nat) : List Str := ks.foldl (fun o k => addH tg o (ts.getD k default).forb) o
theorem addH_succ {o fs : List Str} {k : Nat} (hk : k < fs.length) : addH tg o (fs.take (k + 1)) = if hasB (fs.getD k default) tg then addS (addH tg o (fs.take k)) (fs.getD k default) else addH tg o (fs.take k) := by
  unfold addH; rw [take_succD fs k hk, List.foldl_append]; rfl
theorem wrongK_succ {o : List Str} {ks : List Nat} {k : Nat} (hk : k < ks.length) : wrongK tg ts o (ks.take (k + 1)) = addH tg (wrongK tg ts o (ks.take k)) (ts.getD (ks.getD k default) default).forb := by
  unfold wrongK; rw [take_succD ks k hk, List.foldl_append]; rfl
theorem addH_sorted : ∀ (fs o : List Str), o.Pairwise (fun a b => a < b) → (addH tg o fs).Pairwise (fun a b => a < b)
  | [], _, h => h
  | s :: r, o, h => by
    show (addH tg (if hasB s tg then addS o s else o) r).Pairwise _
    refine addH_sorted r _ ?_
    split
    · exact addS_sorted s h
    · exact h
theorem wrongK_sorted : ∀ (ks : List Nat) (o : List Str), o.Pairwise (fun a b => a < b) → (wrongK tg ts o ks).Pairwise (fun a b => a < b)
  | [], _, h => h
  | k :: r, o, h => wrongK_sorted r _ (addH_sorted tg _ _ h)
theorem addS_lenle (s : Str) : ∀ o : List Str, (addS o s).length ≤ o.length + 1 := fun o => addS_len o s
theorem addH_len : ∀ (fs o : List Str), (addH tg o fs).length ≤ o.length + fs.length
  | [], o => by simp [addH]
  | s :: r, o => by
    have h := addH_len r (if hasB s tg then addS o s else o)
    show (addH tg (if hasB s tg then addS o s else o) r).length ≤ _
    rw [List.length_cons]
    have h2 := addS_lenle s o
    have h3 : (if hasB s tg then addS o s else o).length ≤ o.length + 1 := by split <;> omega
    omega
theorem wrongK_len {B : Nat} (hB : ∀ k, (ts.getD k default).forb.length ≤ B) : ∀ (ks : List Nat) (o : List Str), (wrongK tg ts o ks).length ≤ o.length + ks.length * B
  | [], o => by simp [wrongK]
  | k :: r, o => by
    have h := wrongK_len hB r (addH tg o (ts.getD k default).forb)
    have h2 := addH_len tg (ts.getD k default).forb o
    have h3 := hB k
    show (wrongK tg ts (addH tg o (ts.getD k default).forb) r).length ≤ _
    rw [List.length_cons, Nat.add_mul]; omega
theorem addH_mem {fs o : List Str} {x : Str} (h : x ∈ addH tg o fs) : x ∈ o ∨ x ∈ fs := by
  induction fs generalizing o with
  | nil => exact .inl h
  | cons s r ih =>
    rcases ih (o := if hasB s tg then addS o s else o) h with q | q
    · split at q
      · rcases addS_mem.1 q with q | q
        · exact .inl q
        · exact .inr (by rw [q]; simp)
      · exact .inl q
    · exact .inr (List.mem_cons_of_mem _ q)
theorem wrongK_mem {ks : List Nat} {o : List Str} {x : Str} (h : x ∈ wrongK tg ts o ks) : x ∈ o ∨ ∃ k ∈ ks, x ∈ (ts.getD k default).forb := by
  induction ks generalizing o with
  | nil => exact .inl h
  | cons k r ih =>
    rcases ih (o := addH tg o (ts.getD k default).forb) h with q | ⟨j, hj, q⟩
    · rcases addH_mem tg q with q | q
      · exact .inl q
      · exact .inr ⟨k, by simp, q⟩
    · exact .inr ⟨j, List.mem_cons_of_mem _ hj, q⟩
end Go.Proofs.YtlfjocbnbceceaaGreatDoor
namespace Go.Proofs
open Go.RowKit Go.Maps Go.Sort Go.Shelf
def Tryz.keys189_ren : Go.Shelf.Ren := ⟨fun | 7 => 189 | 10 => 211 | n => n, fun | 23 => 195 | 26 => 3 | 3 => 172 | 28 => 198 | 0 => 0 | 27 => 197 | 33 => 106 | 4 => 4 | n => n, fun | n => n⟩
theorem Tryz.keys189 : Go.Proofs.SlLaysZI.n7 Tryz.prog Tryz.keys189_ren := {
  mixed := by kernel_rfl
  f7 := ⟨Tryz.f189.name, by decide, Tryz.func189.trans (congrArg some (by kernel_rfl))⟩
  f10 := ⟨Tryz.f211.name, by decide, Tryz.func211.trans (congrArg some (by kernel_rfl))⟩
  t0 := Tryz.underlying0
  a0 := Tryz.isAgg0
  z0 := Tryz.sizeOf0
  v0 := Tryz.zeroValue0
  t4 := Tryz.underlying4
  a4 := Tryz.isAgg4
  z4 := Tryz.sizeOf4
  v4 := Tryz.zeroValue4
  t23 := Tryz.underlying195
  a23 := Tryz.isAgg195
  z23 := Tryz.sizeOf195
  v23 := Tryz.zeroValue195
  t26 := Tryz.underlying3
  a26 := Tryz.isAgg3
  z26 := Tryz.sizeOf3
  v26 := Tryz.zeroValue3
  t27 := Tryz.underlying197
  a27 := Tryz.isAgg197
  z27 := Tryz.sizeOf197
  v27 := Tryz.zeroValue197
  t28 := Tryz.underlying198
  a28 := Tryz.isAgg198
  z28 := Tryz.sizeOf198
  v28 := Tryz.zeroValue198
  t33 := Tryz.underlying106
  a33 := Tryz.isAgg106
  z33 := Tryz.sizeOf106
  v33 := Tryz.zeroValue106 }
def Tryz.sorted188_ren : Go.Shelf.Ren := ⟨fun | 6 => 188 | 8 => 209 | 9 => 210 | 11 => 228 | 13 => 69 | 12 => 229 | 23 => 122 | 24 => 123 | 14 => 240 | 15 => 241 | 16 => 242 | 17 => 243 | 18 => 244 | 19 => 245 | 20 => 246 | 21 => 247 | 22 => 248 | 25 => 254 | 26 => 162 | 27 => 163 | 28 => 255 | 29 => 256 | 30 => 70 | 31 => 257 | n => n, fun | 26 => 3 | 28 => 198 | 24 => 22 | 0 => 0 | 3 => 3 | 37 => 105 | 48 => 151 | 50 => 153 | 4 => 4 | 40 => 144 | 39 => 143 | 45 => 148 | 5 => 5 | 9 => 9 | 51 => 177 | 55 => 181 | 57 => 204 | 58 => 131 | 33 => 106 | n => n, fun | n => n⟩
theorem Tryz.sorted188 : Go.Proofs.SlLaysZI.n6 Tryz.prog Tryz.sorted188_ren := {
  mixed := by kernel_rfl
  f6 := ⟨Tryz.f188.name, by decide, Tryz.func188.trans (congrArg some (by kernel_rfl))⟩
  f8 := ⟨Tryz.f209.name, by decide, Tryz.func209.trans (congrArg some (by kernel_rfl))⟩
  f11 := ⟨Tryz.f228.name, by decide, Tryz.func228.trans (congrArg some (by kernel_rfl))⟩
  t0 := Tryz.underlying0
  a0 := Tryz.isAgg0
  z0 := Tryz.sizeOf0
  v0 := Tryz.zeroValue0
  t24 := Tryz.underlying22
  a24 := Tryz.isAgg22
  z24 := Tryz.sizeOf22
  v24 := Tryz.zeroValue22
  t26 := Tryz.underlying3
  a26 := Tryz.isAgg3
  z26 := Tryz.sizeOf3
  v26 := Tryz.zeroValue3
  t28 := Tryz.underlying198
  a28 := Tryz.isAgg198
  z28 := Tryz.sizeOf198
  v28 := Tryz.zeroValue198
  i26 := by kernel_rfl }
def Tryz.sort210_ren : Go.Shelf.Ren := ⟨fun | 5 => 210 | 8 => 69 | 7 => 229 | 19 => 122 | 20 => 123 | 10 => 240 | 11 => 241 | 12 => 242 | 13 => 243 | 14 => 244 | 15 => 245 | 16 => 246 | 17 => 247 | 18 => 248 | 30 => 254 | 31 => 162 | 32 => 163 | 33 => 255 | 34 => 256 | 35 => 70 | 40 => 257 | n => n, fun | 23 => 22 | 25 => 3 | 3 => 3 | 32 => 105 | 22 => 22 | 0 => 0 | 44 => 151 | 46 => 153 | 4 => 4 | 36 => 144 | 35 => 143 | 41 => 148 | 5 => 5 | 9 => 9 | 53 => 177 | 57 => 181 | 63 => 204 | 64 => 131 | n => n, fun | n => n⟩
theorem Tryz.sort210 : Go.Proofs.SlLaysM.n5 Tryz.prog Tryz.sort210_ren := {
  mixed := by kernel_rfl
  f5 := ⟨Tryz.f210.name, by decide, Tryz.func210.trans (congrArg some (by kernel_rfl))⟩
  f7 := ⟨Tryz.f229.name, by decide, Tryz.func229.trans (congrArg some (by kernel_rfl))⟩
  f8 := Tryz.func69.trans (congrArg some (by kernel_rfl))
  f10 := ⟨Tryz.f240.name, by decide, Tryz.func240.trans (congrArg some (by kernel_rfl))⟩
  f11 := ⟨Tryz.f241.name, by decide, Tryz.func241.trans (congrArg some (by kernel_rfl))⟩
  f12 := ⟨Tryz.f242.name, by decide, Tryz.func242.trans (congrArg some (by kernel_rfl))⟩
  f13 := ⟨Tryz.f243.name, by decide, Tryz.func243.trans (congrArg some (by kernel_rfl))⟩
  f14 := ⟨Tryz.f244.name, by decide, Tryz.func244.trans (congrArg some (by kernel_rfl))⟩
  f15 := ⟨Tryz.f245.name, by decide, Tryz.func245.trans (congrArg some (by kernel_rfl))⟩
  f16 := ⟨Tryz.f246.name, by decide, Tryz.func246.trans (congrArg some (by kernel_rfl))⟩
  f17 := ⟨Tryz.f247.name, by decide, Tryz.func247.trans (congrArg some (by kernel_rfl))⟩
  f18 := ⟨Tryz.f248.name, by decide, Tryz.func248.trans (congrArg some (by kernel_rfl))⟩
  f19 := Tryz.func122.trans (congrArg some (by kernel_rfl))
  f20 := Tryz.func123.trans (congrArg some (by kernel_rfl))
  f30 := ⟨Tryz.f254.name, by decide, Tryz.func254.trans (congrArg some (by kernel_rfl))⟩
  f31 := Tryz.func162.trans (congrArg some (by kernel_rfl))
  f32 := Tryz.func163.trans (congrArg some (by kernel_rfl))
  f33 := ⟨Tryz.f255.name, by decide, Tryz.func255.trans (congrArg some (by kernel_rfl))⟩
  f34 := ⟨Tryz.f256.name, by decide, Tryz.func256.trans (congrArg some (by kernel_rfl))⟩
  f35 := ⟨Tryz.f70.name, by decide, Tryz.func70.trans (congrArg some (by kernel_rfl))⟩
  f40 := ⟨Tryz.f257.name, by decide, Tryz.func257.trans (congrArg some (by kernel_rfl))⟩
  t0 := Tryz.underlying0
  a0 := Tryz.isAgg0
  z0 := Tryz.sizeOf0
  v0 := Tryz.zeroValue0
  t3 := Tryz.underlying3
  a3 := Tryz.isAgg3
  z3 := Tryz.sizeOf3
  v3 := Tryz.zeroValue3
  t4 := Tryz.underlying4
  a4 := Tryz.isAgg4
  z4 := Tryz.sizeOf4
  v4 := Tryz.zeroValue4
  t5 := Tryz.underlying5
  a5 := Tryz.isAgg5
  z5 := Tryz.sizeOf5
  v5 := Tryz.zeroValue5
  t9 := Tryz.underlying9
  a9 := Tryz.isAgg9
  z9 := Tryz.sizeOf9
  v9 := Tryz.zeroValue9
  t22 := Tryz.underlying22
  a22 := Tryz.isAgg22
  z22 := Tryz.sizeOf22
  v22 := Tryz.zeroValue22
  t23 := Tryz.underlying22
  a23 := Tryz.isAgg22
  z23 := Tryz.sizeOf22
  v23 := Tryz.zeroValue22
  t25 := Tryz.underlying3
  a25 := Tryz.isAgg3
  z25 := Tryz.sizeOf3
  v25 := Tryz.zeroValue3
  t32 := Tryz.underlying105
  a32 := Tryz.isAgg105
  z32 := Tryz.sizeOf105
  v32 := Tryz.zeroValue105
  t35 := Tryz.underlying143
  a35 := Tryz.isAgg143
  z35 := Tryz.sizeOf143
  v35 := Tryz.zeroValue143
  t36 := Tryz.underlying144
  a36 := Tryz.isAgg144
  z36 := Tryz.sizeOf144
  v36 := Tryz.zeroValue144
  t41 := Tryz.underlying148
  a41 := Tryz.isAgg148
  z41 := Tryz.sizeOf148
  v41 := Tryz.zeroValue148
  t44 := Tryz.underlying151
  a44 := Tryz.isAgg151
  z44 := Tryz.sizeOf151
  v44 := Tryz.zeroValue151
  t46 := Tryz.underlying153
  a46 := Tryz.isAgg153
  z46 := Tryz.sizeOf153
  v46 := Tryz.zeroValue153
  t53 := Tryz.underlying177
  a53 := Tryz.isAgg177
  z53 := Tryz.sizeOf177
  v53 := Tryz.zeroValue177
  t57 := Tryz.underlying181
  a57 := Tryz.isAgg181
  z57 := Tryz.sizeOf181
  v57 := Tryz.zeroValue181
  t63 := Tryz.underlying204
  a63 := Tryz.isAgg204
  z63 := Tryz.sizeOf204
  v63 := Tryz.zeroValue204
  t64 := Tryz.underlying131
  a64 := Tryz.isAgg131
  z64 := Tryz.sizeOf131
  v64 := Tryz.zeroValue131 }
theorem Tryz.sorts188 (m : Nat) : AnyZI.SortsIn Tryz.prog Tryz.sorted188_ren Fence.wide m :=
  ⟨fun blk off cap ss W hH hblk hsz => callsIn_wide.2 (AnyM.slices_Sort_int Tryz.sort210 blk off cap ss W hH hblk hsz),
   fun p cap W => callsIn_wide.2 (AnyM.slices_Sort_int_none Tryz.sort210 p cap W)⟩
theorem Tryz.maps_Keys_189 (mb : Option Nat) (W : World) : CallsIn Fence.wide 5 Tryz.prog 189 #[.map mb] W fun e w' => e = .returned (.func (.func 211) #[] #[.pointer (some ⟨W.heap.size, 0, none⟩)]) ∧ w' = W.alloc (.cells #[.map mb] 195) :=
  AnyZI.keys_in Tryz.keys189 Fence.wide 5 trivial rfl mb W
set_option maxHeartbeats 1000000 in
theorem Tryz.slices_Sorted_keys_188_189 {H : Type} (b nn : Nat) (D0 : DataW H) (R : Value → Option (DataW H × List MemPlace)) (w : World) (hown : w.ownsMap Tryz.prog 3 R b nn D0) (hmax : Maps.size D0 ≤ maxLen) (hbytes : Maps.size D0 * 8 ≤ 140737488355328) :
    CallsIn Fence.wide 5 Tryz.prog 188 #[.func (.func 211) #[] #[.pointer (some ⟨w.heap.size, 0, none⟩)]] (w.alloc (.cells #[.map (some b)] 195)) fun e w' => ∃ (v : Value) (ss : List Int), e = .returned v ∧ ss.Perm (intKeys D0) ∧
      w'.ownsRow (w.alloc (.cells #[.map (some b)] 195)).heap.size 3 1 v ss.length ((ss.mergeSort (fun x y => decide (x ≤ y))).map encZ) ∧ (v = .slice none 0 0 ↔ ss = []) ∧ Below (w.alloc (.cells #[.map (some b)] 195)).heap.size (w.alloc (.cells #[.map (some b)] 195)) w' := by
  have hbl := hown.lt
  have hseq : SeqGives Fence.wide 2 Tryz.prog 211 #[.pointer (some ⟨w.heap.size, 0, none⟩)] encZ (fun ss => ss.Perm (intKeys D0)) (Maps.size D0) (w.alloc (.cells #[.map (some b)] 195)) :=
    AnyZI.keys_gives (ρ := Tryz.keys189_ren) { Tryz.keys189 with } Fence.wide _ trivial rfl (by omega) w.heap.size b nn D0 _ (by simp) (by simp) (by
      obtain ⟨es, clock, hb, Ft, hs, hD⟩ := hown
      exact ⟨es, clock, (Below.heap_alloc _ _ b hbl).trans hb, Ft, hs, hD⟩)
  exact AnyZI.sorted_in Tryz.sorted188 Fence.wide 5 trivial trivial trivial trivial rfl (by omega) (Tryz.sorts188 _) (enters_of Tryz.func210 (by kernel_rfl) rfl) 211 #[.pointer (some ⟨w.heap.size, 0, none⟩)] trivial (enters_of Tryz.func211 (by kernel_rfl) rfl) _ _ hmax hbytes _ hseq
end Go.Proofs
namespace Go.Proofs.YtlfjocbnbceceaaGreatDoor
open Go.RowKit Go.Vc
theorem keysi_calls {w : World} {b : Nat} : Calls Tryz.prog 189 #[.map (some b)] w fun e w' => e = .returned (.func (.func 211) #[] #[.pointer (some ⟨w.heap.size, 0, none⟩)]) ∧ Evo w w' [] ∧ w' = w.alloc (.cells #[.map (some b)] 195) :=
  (callsIn_wide.1 (Tryz.maps_Keys_189 (some b) w)).mono fun e w' ⟨h1, h2⟩ => ⟨h1, by subst h2; exact evo_below (Below.refl _ _ |>.alloc (Nat.le_refl _) _), h2⟩
theorem sortedi_calls {w w1 : World} {b : Nat} {β : Type} {ev : β → Value} {m : List (Int × β)} (hm : MapIs w b (Value.int .i64) ev m) (hk : w1 = w.alloc (.cells #[.map (some b)] 195)) (hl : ∀ p ∈ m, (Lit.int .i64 p.1).wf = true) (hb : m.length * 8 ≤ 140737488355328) :
    Calls Tryz.prog 188 #[.func (.func 211) #[] #[.pointer (some ⟨w.heap.size, 0, none⟩)]] w1 fun e w' => ∃ v, e = .returned v ∧ Evo w1 w' [] ∧ OwnE w' w1.heap.size 3 v (sortI (m.map (·.1))) := by
  subst hk
  obtain ⟨D, hD, hz, hp⟩ := map_ownsI (P := Tryz.prog) (K := 3) Tryz.underlying3 hm (by unfold maxLen; omega) hl
  refine (callsIn_wide.1 (Tryz.slices_Sorted_keys_188_189 b m.length D R0 w hD (by rw [hz]; unfold maxLen; omega) (by rw [hz]; exact hb))).mono ?_
  rintro e w' ⟨v, ss, rfl, hS, hrow, _, hbl⟩
  have hlen : ss.length = m.length := by have := (hS.trans hp).length_eq; simpa using this
  have hst : sortI (m.map (·.1)) = ss.mergeSort (fun x y => decide (x ≤ y)) := (mergeSort_of_perm_i (hS.trans hp)).symm
  refine ⟨v, rfl, evo_below hbl, ?_⟩
  rw [hst]
  exact OwnE.of1 (enc1 := encZ) rfl (fun _ => rfl) θ (by rw [show (ss.mergeSort (fun x y => decide (x ≤ y))).length = ss.length from by simp]; exact hrow)
set_option maxHeartbeats 1000000 in
theorem found_calls {aot : Option Addr} {btt offt capt : Nat} {ts : List TermL} {ao : Option Addr} {b off cap : Nat} {c : List Clas} {aol : Option Addr} {bl offl capl : Nat} {l : List Vc.Item} {w0 : World} (ht : RowR w0 aot btt offt capt ts) (hc : RowR w0 ao b off cap c) (hl : RowE w0 aol bl offl capl l) (hq : ∀ x ∈ l, x.text.length ≤ 140737488355328) (hzl : l.length ≤ 4398046510976) (hzt : ts.length ≤ 1954687338760) :
    Calls Tryz.prog 155 #[.slice aot ts.length capt, .slice ao c.length cap, .slice aol l.length capl] w0 fun e w' => ∃ v, e = .returned v ∧ Evo w0 w' [] ∧ OwnE w' w0.heap.size 3 v (natI (foundN ts.length (spotsF l (fsT c ts) 0))) := by
 refine calls_enter (n := 28) Tryz.func155 rfl Tryz.ntmps155 rfl ?_
 have hV : Evo w0 w0 [] := Evo.refl _ _
 have ht0 := ht.keep
 have hbd_ht := ht.bd
 have hc0 := hc.keep
 have hbd_hc := hc.bd
 have hl0 := keepE hl
 have hbd_hl := hl.bd
 refine Zs ?_
 refine Zn asS ?_
 refine Zs ?_
 refine r_makeMap (α := Int) (β := Unit) (Value.int .i64) eU rfl ?_
 intro b1 w2 J1 E2 hmb1 Y1
 have Q2 := E2.size
 replace hV := Z0 hV E2
 replace ht := ht0.now hV
 replace hc := hc0.now hV
 replace hl := hl0 _ hV
 refine Zn asM ?_
 refine r_seq ?_
 refine Zs ?_
 refine Zo mvS ?_
 refine Zo mvS ?_
 refine Zo mvS ?_
 refine Zr [.slice _ _ _, .slice _ _ _, .slice _ _ _] rfl η Tryz.func187 (spots_calls ht hc hl hq hzl hzt) ?_
 rintro e w3 ⟨vS3, rfl, F3, hoS3⟩
 refine ⟨_, rfl, ?_⟩
 have Q3 := F3.size
 replace hV := Z0 hV F3
 replace ht := ht0.now hV
 replace hc := hc0.now hV
 replace hl := hl0 _ hV
 replace hmb1 := hmb1.evo0 F3
 refine Zo (run_lenOE rfl η Tryz.underlying158 hoS3) ?_
 refine Zn mvI ?_
 refine r_block ?_
 have hI4 : Evo w3 w3 [b1] := Evo.refl _ _
 obtain ⟨ao5, g5, cp5, hv5, hr5, hg5⟩ := hoS3.rowOf
 subst hv5
 have hr50 := fun w9 (h9 : Evo w3 w9 [b1]) => row_keep hr5 h9 (fun hne hm => by have h2 := (hg5 hne).2; simp at hm; omega)
 have hsl := spots_len l (fsT c ts) l.length 0; have hsl2 : (spotsF l (fsT c ts) 0).length ≤ l.length := hsl
 refine r_loop (α := Nat) [9, 16, 17, 18, 19, 20, 21, 22, 23, 24] (fun k g w => ∃ m : List (Int × Unit), g 16 = .int .i64 (k : Nat) ∧ k ≤ (spotsF l (fsT c ts) 0).length ∧ MapIs w b1 (Value.int .i64) eU m ∧ SeenI m ((spotsF l (fsT c ts) 0).take k) ∧ w3.heap.size ≤ w.heap.size ∧ Evo w0 w [] ∧ Evo w3 w [b1]) (fun k => (spotsF l (fsT c ts) 0).length - k) 0 ?_ ?_
 ·refine ⟨_, σ, δ, hmb1, SeenI.nil, δ, hV, hI4⟩
 rintro k g w7 ⟨m, hj8, hk_k, hmb1, hks, hzl6, hV, hI4⟩
 have hs_w7hV := hV.size
 have hs_w7hI4 := hI4.size
 have hlt9 := hmb1.lt
 replace hr5 := hr50 _ hI4
 refine Zk 16 (v := .int .i64 (k : Nat)) (by exact hj8) ?_
 refine Zs ?_
 refine Zn (run_lss rfl η η) ?_
 refine r_seq ?_
 refine r_cond η (fun hc10 => ?_) (fun hc10 => ?_)
 ·skip
  refine r_skip ?_
  refine r_seq ?_
  refine r_block ?_
  refine Zs ?_
  refine Zo (run_ix (k) rfl Tryz.underlying158 ty_187 η η (by first | exact rfl | omega) ω (hr5.addr (i := k) ω)) ?_
  have hA110 := fun (w' : World) (h : Evo w3 w' [b1]) => (hr50 w' h).atD (k) ω
  have hA11 := hA110 _ hI4
  refine Zo (run_ldN rfl ag_187 ty_187 η rfl hA11) ?_
  refine r_var (zs := [_, _, _]) (vs := [_, _, _]) ty_187 η rfl η (fun _ => rfl) η rfl rfl η ?_
  intro b12 w13 J12 E13 B12 Y12
  have Q13 := E13.size
  replace hV := Z0 hV E13
  replace hI4 := Z0 hI4 E13
  replace hmb1 := hmb1.evo0 E13
  refine r_nil ?_
  refine r_region ?_
  refine Zo mvM ?_
  refine Zo (run_fa rfl η fo_187_0) ?_
  refine Zo (run_ld1 rfl ag_3 η (B12.at.cell 0 η)) ?_
  refine Zo (run_bld (pv := []) (zs := []) (cells := []) rfl ty_172 η pl_172 η η) ?_
  refine r_mapset (a := _) (v := ()) (key_int Tryz.underlying3) Tryz.underlying195 η η η hmb1 ?_
  intro w14 E14 V14 hm_new
  have Q14 := E14.size
  replace hV := Z1 hV E14 ε
  replace hI4 := Z1 hI4 E14 ε
  replace ht := ht0.now hV
  replace hc := hc0.now hV
  replace hl := hl0 _ hV
  replace hr5 := hr50 _ hI4
  replace hmb1 := hm_new
  clear hm_new
  refine r_nil ?_
  refine r_blk ?_
  refine r_region ?_
  refine Zo (run_add rfl η η ω ω) ?_
  refine Zn mvI ?_
  refine r_again (k + 1) ?_ ?_ ?_
  ·first | omega | (dsimp only; omega)
  ·refine ⟨_, σ, δ, hmb1, (by rw [take_succD _ k ω]; exact hks.add _), δ, hV, hI4⟩
  exact ψ
 refine r_exit rfl ?_
 refine r_seq ?_
 rw [List.take_of_length_le ω] at hks; have hsb : ∀ s ∈ (spotsF l (fsT c ts) 0), 0 ≤ s.t ∧ s.t < (ts.length : Int) := fun s hs => by have h9 := spots_bd l (fsT c ts) s hs; rw [fsT_len] at h9; omega
 refine r_region ?_
 refine Zo mvM ?_
 have hmK := hmb1
 refine Zr [.map _] rfl η Tryz.func189 keysi_calls ?_
 rintro e w15 ⟨rfl, F15, hky15⟩
 refine ⟨_, rfl, ?_⟩
 have Q15 := F15.size
 replace hV := Z0 hV F15
 refine Zr [.func _ _ _] rfl η Tryz.func188 (sortedi_calls hmK hky15 (hks.wf ω hsb) (by have h9 := hks.len hsb; omega)) ?_
 rintro e w16 ⟨vs16, rfl, F16, hsr16⟩
 refine ⟨_, rfl, ?_⟩
 have Q16 := F16.size
 replace hV := Z0 hV F16
 refine Zn (run_asg (v := vs16) rfl η) ?_
 refine r_ret (res1 (v := vs16) rfl η) ?_
 exact ⟨_, rfl, hV, by rw [← hks.sorted hsb]; exact hsr16.base_le ω⟩
theorem ag_94 : aggP Tryz.prog 94 = some false := ζ
theorem fo_85_1 : fieldP Tryz.prog 85 1 = some 1 := ζ
theorem ms_cond {tg : List Vc.Item} {x : TermL} (h : (0 : Int) < ((x.req.length : Nat) : Int) ∧ (!(x.req.any fun s => hasB s tg)) = true) : missT tg x = true := by
  unfold missT; rw [Bool.and_eq_true, Bool.not_eq_true', Bool.not_eq_true']; exact ⟨by cases h1 : x.req with | nil => rw [h1] at h; simp at h | cons a b => rfl, by simpa using h.2⟩
theorem ms_cond2 {tg : List Vc.Item} {x : TermL} (h : ¬ ((0 : Int) < ((x.req.length : Nat) : Int) ∧ (!(x.req.any fun s => hasB s tg)) = true)) : missT tg x = false := by
  rcases hm : missT tg x with _ | _
  · rfl
  · refine absurd ?_ h
    unfold missT at hm; rw [Bool.and_eq_true, Bool.not_eq_true', Bool.not_eq_true'] at hm; refine ⟨?_, by simpa using hm.2⟩
    cases h1 : x.req with | nil => rw [h1] at hm; exact absurd hm.1 (by decide) | cons a b => rw [List.length_cons]; omega
theorem any_yes {qs : List Str} {p : Str → Bool} {k : Nat} (hk : k < qs.length) (h : p (qs.getD k default) = true) : qs.any p = true := List.any_eq_true.2 ⟨_, getD_in hk, h⟩
theorem any_no {qs : List Str} {p : Str → Bool} (h : ∀ j, j < qs.length → ¬ p (qs.getD j default) = true) : ¬ qs.any p = true := fun q => by
  obtain ⟨x, hx, h2⟩ := List.any_eq_true.1 q
  obtain ⟨i, hi, rfl⟩ := List.mem_iff_getElem.1 hx
  exact h i hi (by rw [List.getD_eq_getElem?_getD, List.getElem?_eq_getElem hi]; exact h2)
theorem miss1_calls {aog : Option Addr} {bg offg capg : Nat} {tg : List Vc.Item} {m : Str} {bn : Nat} {w0 : World} (htg : RowE w0 aog bg offg capg tg) (hqg : ∀ x ∈ tg, x.text.length ≤ 140737488355328) (hzg : tg.length ≤ 4398046510976) (hn : Blk w0 bn 94 [.slice aog tg.length capg]) :
    Calls Tryz.prog 156 #[S m, .pointer (some ⟨bn, 0, none⟩)] w0 fun e w' => e = .returned (.bool (hasB m tg)) ∧ Evo w0 w' [] := by
 have hAn := hn.at; have hnlt := hn.lt
 refine calls_enter (n := 7) Tryz.func156 rfl Tryz.ntmps156 rfl ?_
 have hV : Evo w0 w0 [] := Evo.refl _ _
 have htg0 := keepE htg
 have hbd_htg := htg.bd
 refine Zs ?_
 refine Zn asB ?_
 refine Zs ?_
 refine Zo mvT ?_
 refine Zo (run_ld1 rfl ag_94 η (hAn.cell 0 η)) ?_
 refine Zr [S _, .slice aog tg.length capg] rfl η Tryz.func157 (has_calls htg hqg hzg) ?_
 rintro e w1 ⟨rfl, F1⟩
 refine ⟨_, rfl, ?_⟩
 have Q1 := F1.size
 replace hV := Z0 hV F1
 refine Zn asB ?_
 refine r_ret (res1 (v := .bool _) rfl η) ?_
 exact ⟨rfl, hV⟩
theorem indexs_calls {aoq : Option Addr} {bq offq capq : Nat} {qs : List Str} {aog : Option Addr} {bg offg capg : Nat} {tg : List Vc.Item} {bn : Nat} {w0 : World} (hqs : RowE w0 aoq bq offq capq qs) (htg : RowE w0 aog bg offg capg tg) (hqg : ∀ x ∈ tg, x.text.length ≤ 140737488355328) (hzg : tg.length ≤ 4398046510976) (hn : Blk w0 bn 94 [.slice aog tg.length capg]) :
    Calls Tryz.prog 193 #[.slice aoq qs.length capq, .func (.func 156) #[] #[.pointer (some ⟨bn, 0, none⟩)]] w0 fun e w' => ∃ r : Int, e = .returned (.int .i64 r) ∧ Evo w0 w' [] ∧ (0 ≤ r ↔ qs.any (fun s => hasB s tg) = true) := by
 have hAn := hn.at; have hnlt := hn.lt
 refine calls_enter (n := 19) Tryz.func193 rfl Tryz.ntmps193 rfl ?_
 have hV : Evo w0 w0 [] := Evo.refl _ _
 have hqs0 := keepE hqs
 have hbd_hqs := hqs.bd
 have htg0 := keepE htg
 have hbd_htg := htg.bd
 refine Zs ?_
 refine Zn asI ?_
 refine r_seq ?_
 refine Zs ?_
 refine Zo mvS ?_
 refine Zo (run_lenSl rfl η Tryz.underlying77) ?_
 refine Zn mvI ?_
 refine r_block ?_
 refine r_loop (α := Nat) [4, 5, 8, 9, 10, 11, 12, 13, 14, 15, 16, 17, 18] (fun k g w => g 8 = .int .i64 (k : Nat) ∧ k ≤ qs.length ∧ Blk w bn 94 [.slice aog tg.length capg] ∧ (∀ j, j < k → ¬ hasB (qs.getD j default) tg = true) ∧ w0.heap.size ≤ w.heap.size ∧ Evo w0 w []) (fun k => qs.length - k) 0 ?_ ?_
 ·refine ⟨σ, δ, hn, (fun j h => by omega), δ, hV⟩
 rintro k g w2 ⟨hj3, hk_k, hn, hno, hzl1, hV⟩
 have hs_w2hV := hV.size
 have hlt4 := hn.lt
 replace hqs := hqs0 _ hV
 replace htg := htg0 _ hV
 refine Zk 8 (v := .int .i64 (k : Nat)) (by exact hj3) ?_
 refine Zs ?_
 refine Zn (run_lss rfl η η) ?_
 refine r_seq ?_
 refine r_cond η (fun hc5 => ?_) (fun hc5 => ?_)
 ·skip
  refine r_skip ?_
  refine r_seq ?_
  refine r_block ?_
  refine Zs ?_
  refine Zo mvI ?_
  refine Zn asI ?_
  refine Zs ?_
  refine Zo (run_mv (v := .func _ _ _) rfl η) ?_
  refine Zo mvS ?_
  refine Zo mvI ?_
  refine Zo (run_ix (k) rfl Tryz.underlying77 ty_9 η η (by first | exact rfl | omega) ω (hqs.addr (i := k) ω)) ?_
  have hA60 := fun (w' : World) (h : Evo w0 w' []) => (hqs0 w' h).atD (k) ω
  have hA6 := hA60 _ hV
  refine Zo (run_ld1 rfl ag_9 η (hA6.cell 0 η)) ?_
  refine r_opcall rfl rfl rfl (run_callfn (vs := [S _]) (cs := [.pointer (some ⟨bn, 0, none⟩)]) rfl η η Tryz.func156 rfl ζ) (miss1_calls htg hqg hzg hn) ?_
  rintro e w7 ⟨rfl, F7⟩
  refine ⟨_, rfl, ?_⟩
  have Q7 := F7.size
  replace hV := Z0 hV F7
  replace hqs := hqs0 _ hV
  replace htg := htg0 _ hV
  replace hn := hn.evo0 F7
  refine r_nil ?_
  refine r_condb η (fun hc8 => ?_) (fun hc8 => ?_)
  ·skip
   refine Zs ?_
   refine Zo mvI ?_
   refine Zn asI ?_
   refine r_ret (res1 (v := .int _ _) rfl η) ?_
   exact ⟨_, rfl, hV, ⟨fun _ => any_yes ω hc8, fun _ => by omega⟩⟩
  refine r_skip ?_
  refine r_blk ?_
  refine r_region ?_
  refine Zo (run_add rfl η η ω ω) ?_
  refine Zn mvI ?_
  refine r_again (k + 1) ?_ ?_ ?_
  ·first | omega | (dsimp only; omega)
  ·refine ⟨σ, δ, hn, (upto0 hno (by rw [hc8]; decide)), δ, hV⟩
  exact ψ
 refine r_exit rfl ?_
 refine Zs ?_
 refine Zn asI ?_
 refine r_ret (res1 (v := .int _ _) rfl η) ?_
 exact ⟨_, rfl, hV, ⟨fun h9 => absurd h9 ω, fun h9 => absurd h9 (any_no (fun j hj => hno j ω))⟩⟩
theorem contains_calls {aoq : Option Addr} {bq offq capq : Nat} {qs : List Str} {aog : Option Addr} {bg offg capg : Nat} {tg : List Vc.Item} {bn : Nat} {w0 : World} (hqs : RowE w0 aoq bq offq capq qs) (htg : RowE w0 aog bg offg capg tg) (hqg : ∀ x ∈ tg, x.text.length ≤ 140737488355328) (hzg : tg.length ≤ 4398046510976) (hn : Blk w0 bn 94 [.slice aog tg.length capg]) :
    Calls Tryz.prog 158 #[.slice aoq qs.length capq, .func (.func 156) #[] #[.pointer (some ⟨bn, 0, none⟩)]] w0 fun e w' => e = .returned (.bool (qs.any (fun s => hasB s tg))) ∧ Evo w0 w' [] := by
 refine calls_enter (n := 9) Tryz.func158 rfl Tryz.ntmps158 rfl ?_
 have hV : Evo w0 w0 [] := Evo.refl _ _
 have hqs0 := keepE hqs
 have hbd_hqs := hqs.bd
 have htg0 := keepE htg
 have hbd_htg := htg.bd
 refine Zs ?_
 refine Zn asB ?_
 refine Zs ?_
 refine Zo mvS ?_
 refine Zo (run_mv (v := .func _ _ _) rfl η) ?_
 refine Zr [.slice _ _ _, .func _ _ _] rfl η Tryz.func193 (indexs_calls hqs htg hqg hzg hn) ?_
 rintro e w1 ⟨r1, rfl, F1, hri1⟩
 refine ⟨_, rfl, ?_⟩
 have Q1 := F1.size
 replace hV := Z0 hV F1
 replace hqs := hqs0 _ hV
 replace htg := htg0 _ hV
 replace hn := hn.evo0 F1
 refine Zo (run_geq rfl η η) ?_
 refine Zn asB ?_
 refine r_ret (res1 (v := .bool _) rfl η) ?_
 exact ⟨ret_bool (by have h9 := hri1; cases h8 : qs.any (fun s => hasB s tg) <;> simp_all), hV⟩
set_option maxHeartbeats 1000000 in
theorem missing_calls {aot : Option Addr} {btt offt capt : Nat} {ts : List TermL} {ao : Option Addr} {b off cap : Nat} {c : List Clas} {aol : Option Addr} {bl offl capl : Nat} {l : List Vc.Item} {aog : Option Addr} {bg offg capg : Nat} {tg : List Vc.Item} {w0 : World} (ht : RowR w0 aot btt offt capt ts) (hc : RowR w0 ao b off cap c) (hl : RowE w0 aol bl offl capl l) (hq : ∀ x ∈ l, x.text.length ≤ 140737488355328) (hzl : l.length ≤ 4398046510976) (hzt : ts.length ≤ 1954687338760) (htg : RowE w0 aog bg offg capg tg) (hqg : ∀ x ∈ tg, x.text.length ≤ 140737488355328) (hzg : tg.length ≤ 4398046510976) :
    Calls Tryz.prog 112 #[.slice aot ts.length capt, .slice ao c.length cap, .slice aol l.length capl, .slice aog tg.length capg] w0 fun e w' => ∃ v, e = .returned v ∧ Evo w0 w' [] ∧ OwnE w' w0.heap.size 3 v (natI (missN tg ts (foundN ts.length (spotsF l (fsT c ts) 0)))) := by
 refine calls_enter (n := 46) Tryz.func112 rfl Tryz.ntmps112 rfl ?_
 have hV : Evo w0 w0 [] := Evo.refl _ _
 have ht0 := ht.keep
 have hbd_ht := ht.bd
 have hc0 := hc.keep
 have hbd_hc := hc.bd
 have hl0 := keepE hl
 have hbd_hl := hl.bd
 have htg0 := keepE htg
 have hbd_htg := htg.bd
 refine Zs ?_
 refine r_box (vs := [_]) η η rfl ?_
 intro b1 w2 J1 E2 B1 Y1
 have Q2 := E2.size
 replace hV := Z0 hV E2
 replace ht := ht0.now hV
 replace hc := hc0.now hV
 replace hl := hl0 _ hV
 refine Zn asS ?_
 refine Zs ?_
 refine Zn asS ?_
 refine r_seq ?_
 refine Zs ?_
 refine Zo mvS ?_
 refine Zo mvS ?_
 refine Zo mvS ?_
 refine Zr [.slice _ _ _, .slice _ _ _, .slice _ _ _] rfl η Tryz.func155 (found_calls ht hc hl hq hzl hzt) ?_
 rintro e w3 ⟨vF3, rfl, F3, hoF3⟩
 refine ⟨_, rfl, ?_⟩
 have Q3 := F3.size
 replace hV := Z0 hV F3
 replace ht := ht0.now hV
 replace hc := hc0.now hV
 replace hl := hl0 _ hV
 replace htg := htg0 _ hV
 replace B1 := B1.evo0 F3
 refine Zo (run_lenOE rfl η Tryz.underlying22 hoF3) ?_
 refine Zn mvI ?_
 refine r_block ?_
 have hI4 : Evo w3 w3 [] := Evo.refl _ _
 obtain ⟨ao5, g5, cp5, hv5, hr5, hg5⟩ := hoF3.rowOf
 subst hv5
 have hr50 := keepE hr5
 have hfl := foundN_len ts.length (spotsF l (fsT c ts) 0); have hnl := natI_len (foundN ts.length (spotsF l (fsT c ts) 0))
 refine r_loop (α := Nat) [9, 11, 12, 18, 19, 20, 21, 22, 23, 24, 25, 26, 27, 28, 29, 30, 31, 32, 33, 34, 35, 36, 37, 38, 39, 40, 41, 42, 43, 44] (fun k g w => ∃ vo : Value, g 18 = .int .i64 (k : Nat) ∧ g 9 = vo ∧ k ≤ (natI (foundN ts.length (spotsF l (fsT c ts) 0))).length ∧ OwnE w w3.heap.size 3 vo (natI (missN tg ts ((foundN ts.length (spotsF l (fsT c ts) 0)).take k))) ∧ Blk w b1 94 [.slice aog tg.length capg] ∧ w3.heap.size ≤ w.heap.size ∧ Evo w0 w [] ∧ Evo w3 w []) (fun k => (natI (foundN ts.length (spotsF l (fsT c ts) 0))).length - k) 0 ?_ ?_
 ·refine ⟨_, σ, rfl, δ, (OwnE.nil _ _ _), B1, δ, hV, hI4⟩
 rintro k g w7 ⟨vo, hj8, hj9, hk_k, hoo, B1, hzl6, hV, hI4⟩
 have hs_w7hV := hV.size
 have hs_w7hI4 := hI4.size
 have hlt10 := B1.lt
 replace ht := ht0.now hV
 replace htg := htg0 _ hV
 replace hr5 := hr50 _ hI4
 refine Zk 18 (v := .int .i64 (k : Nat)) (by exact hj8) ?_
 refine Zk 9 (v := vo) (by exact hj9) ?_
 refine Zs ?_
 refine Zn (run_lss rfl η η) ?_
 refine r_seq ?_
 refine r_cond η (fun hc11 => ?_) (fun hc11 => ?_)
 ·skip
  refine r_skip ?_
  refine r_seq ?_
  refine r_block ?_
  refine Zs ?_
  refine Zo (run_ix (k) rfl Tryz.underlying22 ty_3 η η (by first | exact rfl | omega) ω (hr5.addr (i := k) ω)) ?_
  have hA120 := fun (w' : World) (h : Evo w3 w' []) => (hr50 w' h).atD (k) ω
  have hA12 := hA120 _ hI4
  refine Zo (run_ld1 rfl ag_3 η (hA12.cell 0 η)) ?_
  refine Zn asI ?_
  refine r_seq ?_
  have hml := missN_len tg ts ((foundN ts.length (spotsF l (fsT c ts) 0)).take k); have hmI := natI_len (missN tg ts ((foundN ts.length (spotsF l (fsT c ts) 0)).take k)); have htl := List.length_take_le k (foundN ts.length (spotsF l (fsT c ts) 0)); have hkk := natI_get (l := (foundN ts.length (spotsF l (fsT c ts) 0))) (k := k) ω; have hkt := foundN_get (sp := (spotsF l (fsT c ts) 0)) (n := ts.length) (k := k) ω
  obtain ⟨z09, z19, z29, z39, z49, z59, z69, z79, z89, z99, z109, z119, hAB, hWB, hQB, hFB⟩ := term_at ht ((foundN ts.length (spotsF l (fsT c ts) 0)).getD k default) hkt
  refine r_region ?_
  refine Zo (run_mkF (vs := [.pointer _]) rfl η) ?_
  refine Zn (run_asg (v := .func _ _ _) rfl η) ?_
  refine Zs ?_
  refine Zo mvS ?_
  refine Zo mvI ?_
  refine Zo (run_ix (((foundN ts.length (spotsF l (fsT c ts) 0)).getD k default)) rfl Tryz.underlying25 ty_85 η η hkk hkt (ht.addr (i := ((foundN ts.length (spotsF l (fsT c ts) 0)).getD k default)) hkt)) ?_
  obtain ⟨aoW13, bW13, offW13, capW13, aoQ13, bQ13, offQ13, capQ13, aoF13, bF13, offF13, capF13, hX⟩ := term_atK ht0 (((foundN ts.length (spotsF l (fsT c ts) 0)).getD k default)) hkt
  have hA130 := fun (w' : World) (h : Evo w0 w' []) => (hX w' h).1
  have hA13 := hA130 _ hV
  have hW130 := fun (w' : World) (h : Evo w0 w' []) => (hX w' h).2.1
  have hW13 := hW130 _ hV
  have hQ130 := fun (w' : World) (h : Evo w0 w' []) => (hX w' h).2.2.1
  have hQ13 := hQ130 _ hV
  have hF130 := fun (w' : World) (h : Evo w0 w' []) => (hX w' h).2.2.2
  have hF13 := hF130 _ hV
  clear hX
  have hbd_hW13 := hW13.bd
  have hbd_hQ13 := hQ13.bd
  have hbd_hF13 := hF13.bd
  refine Zo (run_fa rfl η fo_85_1) ?_
  refine Zo (run_ld1 rfl ag_77 η (hA13.cell 1 η)) ?_
  refine Zo (run_lenSl rfl η Tryz.underlying77) ?_
  refine Zo (run_gtr rfl η η) ?_
  refine Zo mvB ?_
  refine r_g rfl (wantT η) rfl (fun hg => mvS) ?_
  refine r_g rfl (wantT η) rfl (fun hg => mvI) ?_
  refine r_g rfl (wantT η) rfl (fun hg => run_ix (((foundN ts.length (spotsF l (fsT c ts) 0)).getD k default)) rfl Tryz.underlying25 ty_85 (glv η (fun h => h) hg) (glv η (fun h => h) hg) hkk hkt (ht.addr (i := ((foundN ts.length (spotsF l (fsT c ts) 0)).getD k default)) hkt)) ?_
  refine r_g rfl (wantT η) rfl (fun hg => run_fa rfl (glv η (fun h => h) hg) fo_85_1) ?_
  refine r_g rfl (wantT η) rfl (fun hg => run_ld1 rfl ag_77 (glv η (fun h => h) hg) (hAB.cell 1 η)) ?_
  refine r_g rfl (wantT η) rfl (fun hg => run_mv (v := .func _ _ _) rfl η) ?_
  refine r_gcall rfl (wantT η) rfl (fun hg => run_callf rfl (argcons (v := .slice _ _ _) (glv η (fun h => h) hg) (argcons (v := .func _ _ _) (glv η (fun h => h) hg) (rfl))) Tryz.func158 rfl ζ) (fun hg => (contains_calls hQB htg hqg hzg B1).mono (fun e w' h => ⟨h.1, h.2⟩)) (fun w14 F15 => ?_)
  have Q14 := F15.size
  replace hV := Z0 hV F15
  replace hI4 := Z0 hI4 F15
  replace ht := ht0.now hV
  replace hc := hc0.now hV
  replace hl := hl0 _ hV
  replace htg := htg0 _ hV
  replace hr5 := hr50 _ hI4
  replace hoo := hoo.evo0 F15
  replace B1 := B1.evo0 F15
  replace hQB := hQB.evo0 F15
  refine r_g rfl (wantT η) rfl (fun hg => run_notb rfl (glv η (fun h => h) hg)) ?_
  refine Zn (run_pick_andB rfl η (fun hq => glv η (fun h => h) hq) rfl) ?_
  refine r_cond η (fun hc16 => ?_) (fun hc16 => ?_)
  ·skip
   refine r_region ?_
   refine Zo (run_mv (v := vo) rfl η) ?_
   refine Zo mvI ?_
   refine r_append1E (u := .int _ _) (y := _) rfl rfl Tryz.underlying22 ty_3 η hoo (fun _ => η) η (by first | exact rfl | (show _ = List.toArray [_]; first | (dsimp only; done) | exact rfl | (dsimp only; exact rfl))) ((by first | omega | (simp; omega))) ((by first | omega | (simp; omega))) ω ?_
   intro q_v17 v17 w18 E18 hov17 hlv17
   have Q18 := E18.size
   replace hV := evo_stepo hV E18 (fun g hg => .inl (by first | exact (hoo.block hg).1 | (have := hoo.block hg; omega)))
   replace hI4 := evo_stepo hI4 E18 (fun g hg => .inl (by first | exact (hoo.block hg).1 | (have := hoo.block hg; omega)))
   replace ht := ht0.now hV
   replace hc := hc0.now hV
   replace hl := hl0 _ hV
   replace htg := htg0 _ hV
   replace hr5 := hr50 _ hI4
   replace B1 := B1.evo E18 (by intro hm; have hm2 := Option.mem_toList.1 hm; first | (have := hoo.block hm2; omega) | (simp [Value.ownBlock] at hm2; omega))
   refine Zn (run_asg (v := v17) rfl η) ?_
   refine r_blk ?_
   refine r_region ?_
   refine Zo (run_add rfl η η ω ω) ?_
   refine Zn mvI ?_
   refine r_again (k + 1) ?_ ?_ ?_
   ·first | omega | (dsimp only; omega)
   ·refine ⟨_, σ, rfl, δ, (by first | (rw [missN_yes tg ts ω (ms_cond (tg := tg) (x := (ts.getD ((foundN ts.length (spotsF l (fsT c ts) 0)).getD k default) default)) hc16), natI_app, ← natI_get (l := (foundN ts.length (spotsF l (fsT c ts) 0))) (k := k) ω]; exact hov17) | (rw [missN_no tg ts ω (ms_cond2 (tg := tg) (x := (ts.getD ((foundN ts.length (spotsF l (fsT c ts) 0)).getD k default) default)) hc16)]; exact hov17)), B1, δ, hV, hI4⟩
   exact ψ
  refine r_skip ?_
  refine r_blk ?_
  refine r_region ?_
  refine Zo (run_add rfl η η ω ω) ?_
  refine Zn mvI ?_
  refine r_again (k + 1) ?_ ?_ ?_
  ·first | omega | (dsimp only; omega)
  ·refine ⟨_, σ, rfl, δ, (by first | (rw [missN_yes tg ts ω (ms_cond (tg := tg) (x := (ts.getD ((foundN ts.length (spotsF l (fsT c ts) 0)).getD k default) default)) hc16), natI_app, ← natI_get (l := (foundN ts.length (spotsF l (fsT c ts) 0))) (k := k) ω]; exact hoo) | (rw [missN_no tg ts ω (ms_cond2 (tg := tg) (x := (ts.getD ((foundN ts.length (spotsF l (fsT c ts) 0)).getD k default) default)) hc16)]; exact hoo)), B1, δ, hV, hI4⟩
  exact ψ
 refine r_exit rfl ?_
 refine Zs ?_
 refine Zo (run_mv (v := vo) rfl η) ?_
 refine Zn (run_asg (v := vo) rfl η) ?_
 refine r_ret (res1 (v := vo) rfl η) ?_
 exact ⟨_, rfl, hV, by rw [List.take_of_length_le ω] at hoo; exact hoo.base_le ω⟩
theorem fo_85_2 : fieldP Tryz.prog 85 2 = some 2 := ζ
def JudT (x : TermL) : Prop := x.req.length ≤ 1048576 ∧ x.forb.length ≤ 1048576 ∧ (∀ s ∈ x.req, s.length ≤ 1000000000) ∧ ∀ s ∈ x.forb, s.length ≤ 1000000000
theorem jud_get {ts : List TermL} (h : ∀ x ∈ ts, JudT x) (k : Nat) : JudT (ts.getD k default) := by
  rcases Nat.lt_or_ge k ts.length with h1 | h1
  · exact h _ (getD_in h1)
  · rw [List.getD_eq_getElem?_getD, List.getElem?_eq_none h1]; exact ⟨Nat.zero_le _, Nat.zero_le _, (fun s hs => absurd hs List.not_mem_nil), (fun s hs => absurd hs List.not_mem_nil)⟩
theorem keyis_len {m : List (Str × Unit)} {o : List Str} (h : KeyIs m o) {B : Nat} (hB : ∀ s ∈ o, s.length ≤ B) : ∀ p ∈ m, p.1.length ≤ B := fun p hp => hB _ ((h.2 _).1 (List.mem_map.2 ⟨p, hp, rfl⟩))
theorem wr_yes {tg : List Vc.Item} {m : List (Str × Unit)} {o fs : List Str} {j : Nat} (h : KeyIs m (addH tg o (fs.take j))) (hj : j < fs.length) (hc : hasB (fs.getD j default) tg = true) : KeyIs (setM m (fs.getD j default) ()) (addH tg o (fs.take (j + 1))) := by rw [addH_succ tg hj, if_pos hc]; exact h.add _
theorem wr_no {tg : List Vc.Item} {m : List (Str × Unit)} {o fs : List Str} {j : Nat} (h : KeyIs m (addH tg o (fs.take j))) (hj : j < fs.length) (hc : ¬ hasB (fs.getD j default) tg = true) : KeyIs m (addH tg o (fs.take (j + 1))) := by rw [addH_succ tg hj, if_neg hc]; exact h
theorem wrongK_str {tg : List Vc.Item} {ts : List TermL} (h : ∀ x ∈ ts, JudT x) {ks : List Nat} : ∀ s ∈ wrongK tg ts [] ks, s.length ≤ 1000000000 := fun s hs => by
  rcases wrongK_mem tg ts hs with q | ⟨k, _, q⟩
  · cases q
  · exact (jud_get h k).2.2.2 s q
set_option maxHeartbeats 1000000 in
theorem wrong_calls {aot : Option Addr} {btt offt capt : Nat} {ts : List TermL} {ao : Option Addr} {b off cap : Nat} {c : List Clas} {aol : Option Addr} {bl offl capl : Nat} {l : List Vc.Item} {aog : Option Addr} {bg offg capg : Nat} {tg : List Vc.Item} {w0 : World} (ht : RowR w0 aot btt offt capt ts) (hc : RowR w0 ao b off cap c) (hl : RowE w0 aol bl offl capl l) (hq : ∀ x ∈ l, x.text.length ≤ 140737488355328) (hzl : l.length ≤ 4398046510976) (hzt : ts.length ≤ 1048576) (htg : RowE w0 aog bg offg capg tg) (hqg : ∀ x ∈ tg, x.text.length ≤ 140737488355328) (hzg : tg.length ≤ 4398046510976) (hjb : ∀ x ∈ ts, JudT x) :
    Calls Tryz.prog 113 #[.slice aot ts.length capt, .slice ao c.length cap, .slice aol l.length capl, .slice aog tg.length capg] w0 fun e w' => ∃ v, e = .returned v ∧ Evo w0 w' [] ∧ OwnE w' w0.heap.size 9 v (wrongK tg ts [] (foundN ts.length (spotsF l (fsT c ts) 0))) := by
 refine calls_enter (n := 45) Tryz.func113 rfl Tryz.ntmps113 rfl ?_
 have hV : Evo w0 w0 [] := Evo.refl _ _
 have ht0 := ht.keep
 have hbd_ht := ht.bd
 have hc0 := hc.keep
 have hbd_hc := hc.bd
 have hl0 := keepE hl
 have hbd_hl := hl.bd
 have htg0 := keepE htg
 have hbd_htg := htg.bd
 refine Zs ?_
 refine Zn asS ?_
 refine Zs ?_
 refine r_makeMap (α := Str) (β := Unit) S eU rfl ?_
 intro b1 w2 J1 E2 hmb1 Y1
 have Q2 := E2.size
 replace hV := Z0 hV E2
 replace ht := ht0.now hV
 replace hc := hc0.now hV
 replace hl := hl0 _ hV
 refine Zn asM ?_
 refine r_seq ?_
 refine Zs ?_
 refine Zo mvS ?_
 refine Zo mvS ?_
 refine Zo mvS ?_
 refine Zr [.slice _ _ _, .slice _ _ _, .slice _ _ _] rfl η Tryz.func155 (found_calls ht hc hl hq hzl ω) ?_
 rintro e w3 ⟨vF3, rfl, F3, hoF3⟩
 refine ⟨_, rfl, ?_⟩
 have Q3 := F3.size
 replace hV := Z0 hV F3
 replace ht := ht0.now hV
 replace hc := hc0.now hV
 replace hl := hl0 _ hV
 replace htg := htg0 _ hV
 replace hmb1 := hmb1.evo0 F3
 refine Zo (run_lenOE rfl η Tryz.underlying22 hoF3) ?_
 refine Zn mvI ?_
 refine r_block ?_
 have hI4 : Evo w3 w3 [b1] := Evo.refl _ _
 obtain ⟨ao5, g5, cp5, hv5, hr5, hg5⟩ := hoF3.rowOf
 subst hv5
 have hr50 := fun w9 (h9 : Evo w3 w9 [b1]) => row_keep hr5 h9 (fun hne hm => by have h2 := (hg5 hne).2; simp at hm; omega)
 have hfl := foundN_len ts.length (spotsF l (fsT c ts) 0); have hnl := natI_len (foundN ts.length (spotsF l (fsT c ts) 0))
 refine r_loop (α := Nat) [11, 13, 20, 21, 22, 23, 24, 25, 26, 27, 28, 29, 30, 31, 32, 33, 34, 35, 36, 37, 38, 39, 40, 41] (fun k g w => ∃ m : List (Str × Unit), g 20 = .int .i64 (k : Nat) ∧ k ≤ (natI (foundN ts.length (spotsF l (fsT c ts) 0))).length ∧ MapIs w b1 S eU m ∧ KeyIs m (wrongK tg ts [] ((foundN ts.length (spotsF l (fsT c ts) 0)).take k)) ∧ w3.heap.size ≤ w.heap.size ∧ Evo w0 w [] ∧ Evo w3 w [b1]) (fun k => (natI (foundN ts.length (spotsF l (fsT c ts) 0))).length - k) 0 ?_ ?_
 ·refine ⟨_, σ, δ, hmb1, ⟨by simp, fun x => by simp [wrongK]⟩, δ, hV, hI4⟩
 rintro k g w7 ⟨m, hj8, hk_k, hmb1, hks, hzl6, hV, hI4⟩
 have hs_w7hV := hV.size
 have hs_w7hI4 := hI4.size
 have hlt9 := hmb1.lt
 replace ht := ht0.now hV
 replace hc := hc0.now hV
 replace hl := hl0 _ hV
 replace htg := htg0 _ hV
 replace hr5 := hr50 _ hI4
 refine Zk 20 (v := .int .i64 (k : Nat)) (by exact hj8) ?_
 refine Zs ?_
 refine Zn (run_lss rfl η η) ?_
 refine r_seq ?_
 refine r_cond η (fun hc10 => ?_) (fun hc10 => ?_)
 ·skip
  refine r_skip ?_
  refine r_seq ?_
  refine r_block ?_
  refine Zs ?_
  refine Zo (run_ix (k) rfl Tryz.underlying22 ty_3 η η (by first | exact rfl | omega) ω (hr5.addr (i := k) ω)) ?_
  have hA110 := fun (w' : World) (h : Evo w3 w' [b1]) => (hr50 w' h).atD (k) ω
  have hA11 := hA110 _ hI4
  refine Zo (run_ld1 rfl ag_3 η (hA11.cell 0 η)) ?_
  refine Zn asI ?_
  refine r_seq ?_
  have hkk := natI_get (l := (foundN ts.length (spotsF l (fsT c ts) 0))) (k := k) ω; have hkt := foundN_get (sp := (spotsF l (fsT c ts) 0)) (n := ts.length) (k := k) ω
  refine r_region ?_
  refine Zo mvS ?_
  refine Zo mvI ?_
  refine Zo (run_ix (((foundN ts.length (spotsF l (fsT c ts) 0)).getD k default)) rfl Tryz.underlying25 ty_85 η η hkk hkt (ht.addr (i := ((foundN ts.length (spotsF l (fsT c ts) 0)).getD k default)) hkt)) ?_
  obtain ⟨aoW12, bW12, offW12, capW12, aoQ12, bQ12, offQ12, capQ12, aoF12, bF12, offF12, capF12, hX⟩ := term_atK ht0 (((foundN ts.length (spotsF l (fsT c ts) 0)).getD k default)) hkt
  have hA120 := fun (w' : World) (h : Evo w0 w' []) => (hX w' h).1
  have hA12 := hA120 _ hV
  have hW120 := fun (w' : World) (h : Evo w0 w' []) => (hX w' h).2.1
  have hW12 := hW120 _ hV
  have hQ120 := fun (w' : World) (h : Evo w0 w' []) => (hX w' h).2.2.1
  have hQ12 := hQ120 _ hV
  have hF120 := fun (w' : World) (h : Evo w0 w' []) => (hX w' h).2.2.2
  have hF12 := hF120 _ hV
  clear hX
  have hbd_hW12 := hW12.bd
  have hbd_hQ12 := hQ12.bd
  have hbd_hF12 := hF12.bd
  refine Zo (run_fa rfl η fo_85_2) ?_
  refine Zo (run_ld1 rfl ag_77 η (hA12.cell 2 η)) ?_
  refine Zo (run_lenSl rfl η Tryz.underlying77) ?_
  refine Zn mvI ?_
  refine r_block ?_
  refine r_loop (α := Nat) [13, 30, 31, 32, 33, 34, 35, 36, 37, 38, 39, 40] (fun j g w => ∃ m : List (Str × Unit), g 30 = .int .i64 (j : Nat) ∧ j ≤ (ts.getD ((foundN ts.length (spotsF l (fsT c ts) 0)).getD k default) default).forb.length ∧ MapIs w b1 S eU m ∧ KeyIs m (addH tg (wrongK tg ts [] ((foundN ts.length (spotsF l (fsT c ts) 0)).take k)) ((ts.getD ((foundN ts.length (spotsF l (fsT c ts) 0)).getD k default) default).forb.take j)) ∧ w7.heap.size ≤ w.heap.size ∧ Evo w0 w [] ∧ Evo w3 w [b1]) (fun j => (ts.getD ((foundN ts.length (spotsF l (fsT c ts) 0)).getD k default) default).forb.length - j) 0 ?_ ?_
  ·refine ⟨_, σ, δ, hmb1, hks, δ, hV, hI4⟩
  rintro j g w14 ⟨m, hj15, hk_j, hmb1, hks, hzl13, hV, hI4⟩
  have hs_w14hV := hV.size
  have hs_w14hI4 := hI4.size
  have hlt16 := hmb1.lt
  replace ht := ht0.now hV
  replace hc := hc0.now hV
  replace hl := hl0 _ hV
  replace htg := htg0 _ hV
  replace hr5 := hr50 _ hI4
  replace hA11 := hA110 _ hI4
  replace hA12 := hA120 _ hV
  replace hW12 := hW120 _ hV
  replace hQ12 := hQ120 _ hV
  replace hF12 := hF120 _ hV
  refine Zk 30 (v := .int .i64 (j : Nat)) (by exact hj15) ?_
  refine Zs ?_
  refine Zn (run_lss rfl η η) ?_
  refine r_seq ?_
  refine r_cond η (fun hc17 => ?_) (fun hc17 => ?_)
  ·skip
   refine r_skip ?_
   refine r_seq ?_
   refine r_block ?_
   refine Zs ?_
   refine Zo (run_ix (j) rfl Tryz.underlying77 ty_9 η η (by first | exact rfl | omega) ω (hF12.addr (i := j) ω)) ?_
   have hA180 := fun (w' : World) (h : Evo w0 w' []) => (hF120 w' h).atD (j) ω
   have hA18 := hA180 _ hV
   refine Zo (run_ld1 rfl ag_9 η (hA18.cell 0 η)) ?_
   refine Zn asT ?_
   refine Zs ?_
   refine Zo mvT ?_
   refine Zo mvS ?_
   refine Zr [S _, .slice _ _ _] rfl η Tryz.func157 (has_calls htg hqg hzg) ?_
   rintro e w19 ⟨rfl, F19⟩
   refine ⟨_, rfl, ?_⟩
   have Q19 := F19.size
   replace hV := Z0 hV F19
   replace hI4 := Z0 hI4 F19
   replace ht := ht0.now hV
   replace hc := hc0.now hV
   replace hl := hl0 _ hV
   replace htg := htg0 _ hV
   replace hr5 := hr50 _ hI4
   replace hmb1 := hmb1.evo0 F19
   refine r_nil ?_
   refine r_condb η (fun hc20 => ?_) (fun hc20 => ?_)
   ·skip
    refine r_region ?_
    refine Zo mvM ?_
    refine Zo mvT ?_
    refine Zo (run_bld (pv := []) (zs := []) (cells := []) rfl ty_172 η pl_172 η η) ?_
    refine r_mapset (a := _) (v := ()) (key_str Tryz.underlying9) Tryz.underlying171 η η η hmb1 ?_
    intro w21 E21 V21 hm_new
    have Q21 := E21.size
    replace hV := Z1 hV E21 ε
    replace hI4 := Z1 hI4 E21 ε
    replace ht := ht0.now hV
    replace hc := hc0.now hV
    replace hl := hl0 _ hV
    replace htg := htg0 _ hV
    replace hr5 := hr50 _ hI4
    replace hmb1 := hm_new
    clear hm_new
    refine r_nil ?_
    refine r_blk ?_
    refine r_region ?_
    refine Zo (run_add rfl η η ω ω) ?_
    refine Zn mvI ?_
    refine r_again (j + 1) ?_ ?_ ?_
    ·first | omega | (dsimp only; omega)
    ·refine ⟨_, σ, δ, hmb1, (by first | exact wr_yes hks ω hc20 | exact wr_no hks ω (by rw [hc20]; decide)), δ, hV, hI4⟩
    exact ψ
   refine r_skip ?_
   refine r_blk ?_
   refine r_region ?_
   refine Zo (run_add rfl η η ω ω) ?_
   refine Zn mvI ?_
   refine r_again (j + 1) ?_ ?_ ?_
   ·first | omega | (dsimp only; omega)
   ·refine ⟨_, σ, δ, hmb1, (by first | exact wr_yes hks ω hc20 | exact wr_no hks ω (by rw [hc20]; decide)), δ, hV, hI4⟩
   exact ψ
  refine r_exit rfl ?_
  refine r_blk ?_
  rw [List.take_of_length_le (l := (ts.getD ((foundN ts.length (spotsF l (fsT c ts) 0)).getD k default) default).forb) ω] at hks
  refine r_region ?_
  refine Zo (run_add rfl η η ω ω) ?_
  refine Zn mvI ?_
  refine r_again (k + 1) ?_ ?_ ?_
  ·first | omega | (dsimp only; omega)
  ·refine ⟨_, σ, δ, hmb1, (by rw [wrongK_succ tg ts ω]; exact hks), δ, hV, hI4⟩
  exact ψ
 refine r_exit rfl ?_
 refine r_seq ?_
 rw [List.take_of_length_le (l := (foundN ts.length (spotsF l (fsT c ts) 0))) ω] at hks; have hwl := wrongK_len tg ts (B := 1048576) (fun k => (jud_get hjb k).2.1) (foundN ts.length (spotsF l (fsT c ts) 0)) []; have hwm := key_cnt hks (wrongK_sorted tg ts _ _ List.Pairwise.nil); have hml : m.length ≤ 1099511627776 := by rw [hwm]; refine Nat.le_trans hwl ?_; rw [List.length_nil, Nat.zero_add]; exact Nat.le_trans (Nat.mul_le_mul_right _ (Nat.le_trans hfl hzt)) (by decide)
 refine r_region ?_
 refine Zo mvM ?_
 have hmK := hmb1
 refine Zr [.map _] rfl η Tryz.func160 keys_calls ?_
 rintro e w22 ⟨rfl, F22, hky22⟩
 refine ⟨_, rfl, ?_⟩
 have Q22 := F22.size
 replace hV := Z0 hV F22
 refine Zr [.func _ _ _] rfl η Tryz.func159 (sortedk_calls hmK hky22 (fun p hp => Nat.le_trans (keyis_len hks (wrongK_str hjb) p hp) (by unfold maxLen; omega)) ω) ?_
 rintro e w23 ⟨vs23, rfl, F23, hsr23⟩
 refine ⟨_, rfl, ?_⟩
 have Q23 := F23.size
 replace hV := Z0 hV F23
 refine Zn (run_asg (v := vs23) rfl η) ?_
 refine r_ret (res1 (v := vs23) rfl η) ?_
 exact ⟨_, rfl, hV, by rw [← hks.sorted (wrongK_sorted tg ts _ _ List.Pairwise.nil)]; exact hsr23.base_le ω⟩
end Go.Proofs.YtlfjocbnbceceaaGreatDoor
namespace Go.Proofs.YtlfjocbnbceceaaGreatDoor
open Go Go.RowKit Go.Vc
def phrW : List Str := [[114, 101, 100], [99, 97, 114], [99, 97, 114, 115], [83, 97, 118, 101], [50, 50], [114, 111, 116], [97], [100, 97, 115]]
def stemW : List Str := [[114, 101, 100], [99, 97, 114], [83, 97, 118, 101], [50, 50], [99, 105, 116], [97]]
def joinS : List Str → Str → Str
  | [], o => o
  | w :: r, o => joinS r ((if o = [] then o else o ++ [32]) ++ w)
theorem joinS_snoc (ws : List Str) (w : Str) : ∀ o, joinS (ws ++ [w]) o = (if joinS ws o = [] then joinS ws o else joinS ws o ++ [32]) ++ w := by
  induction ws with
  | nil => intro o; rfl
  | cons x r ih => intro o; exact ih _
def MadePh (s : Str) : Prop := ∃ ws : List Str, (1 ≤ ws.length ∧ ws.length ≤ 3 ∧ ∀ x ∈ ws, x ∈ phrW) ∧ s = joinS ws []
theorem phr_len {x : Str} (h : x ∈ phrW) : 1 ≤ x.length ∧ x.length ≤ 4 := by
  simp only [phrW, List.mem_cons, List.not_mem_nil, or_false] at h
  rcases h with rfl | rfl | rfl | rfl | rfl | rfl | rfl | rfl <;> decide
theorem stem_len {x : Str} (h : x ∈ stemW) : 1 ≤ x.length ∧ x.length ≤ 4 := by
  simp only [stemW, List.mem_cons, List.not_mem_nil, or_false] at h
  rcases h with rfl | rfl | rfl | rfl | rfl | rfl <;> decide
theorem joinS_len : ∀ (ws : List Str) (o : Str), (∀ x ∈ ws, x ∈ phrW) → (joinS ws o).length ≤ o.length + 5 * ws.length
  | [], o, _ => by simp [joinS]
  | w :: r, o, h => by
    have h1 := joinS_len r ((if o = [] then o else o ++ [32]) ++ w) (fun x hx => h x (List.mem_cons_of_mem _ hx))
    have h2 := (phr_len (h w (by simp))).2
    have h3 : (if o = [] then o else o ++ [32]).length ≤ o.length + 1 := by split <;> simp
    show (joinS r _).length ≤ _
    rw [List.length_append] at h1
    rw [List.length_cons]; omega
theorem MadePh.len {s : Str} (h : MadePh s) : s.length ≤ 15 := by
  obtain ⟨ws, ⟨h1, h2, h3⟩, rfl⟩ := h
  have := joinS_len ws [] h3
  simp at this; omega
def PhR (m n : Nat) (o : Str) : Prop := ∃ ws : List Str, (ws.length + n = m ∧ ∀ x ∈ ws, x ∈ phrW) ∧ o = joinS ws []
theorem PhR.nil (m : Nat) : PhR m m [] := ⟨[], ⟨by simp, by simp⟩, rfl⟩
theorem PhR.len {m n : Nat} {o : Str} (h : PhR m n o) : o.length ≤ 5 * m := by
  obtain ⟨ws, ⟨h1, h2⟩, rfl⟩ := h
  have := joinS_len ws [] h2
  simp at this; omega
theorem phrD_in {k : Nat} (h : k < 8) : phrW.getD k default ∈ phrW := getD_in (show k < phrW.length from h)
theorem stemD_in {k : Nat} (h : k < 6) : stemW.getD k default ∈ stemW := getD_in (show k < stemW.length from h)
theorem PhR.more {m n : Nat} {o w : Str} (h : PhR m (n + 1) o) (hw : w ∈ phrW) : PhR m n ((if o = [] then o else o ++ [32]) ++ w) := by
  obtain ⟨ws, ⟨h1, h2⟩, rfl⟩ := h
  refine ⟨ws ++ [w], ⟨by rw [List.length_append, List.length_singleton]; omega, fun x hx => ?_⟩, (joinS_snoc ws w []).symm⟩
  rcases List.mem_append.1 hx with q | q
  · exact h2 x q
  · rw [List.mem_singleton] at q; rw [q]; exact hw
theorem PhR.more1 {m n : Nat} {o w : Str} (h : PhR m (n + 1) o) (hw : w ∈ phrW) (ho : ¬ o = []) : PhR m n (o ++ [32] ++ w) := by
  have := h.more hw; rw [if_neg ho] at this; exact this
theorem PhR.more2 {m n : Nat} {o w : Str} (h : PhR m (n + 1) o) (hw : w ∈ phrW) (ho : o = []) : PhR m n (o ++ w) := by
  have := h.more hw; rw [if_pos ho] at this; exact this
theorem PhR.made {m : Nat} {o : Str} (h : PhR m 0 o) (h1 : 1 ≤ m) (h3 : m ≤ 3) : MadePh o := by
  obtain ⟨ws, ⟨h4, h5⟩, h6⟩ := h
  exact ⟨ws, ⟨by omega, by omega, h5⟩, h6⟩
def MadeTm (x : TermL) : Prop := (1 ≤ x.words.length ∧ x.words.length ≤ 3 ∧ ∀ y ∈ x.words, y.strip ∈ stemW ∧ y.add.length ≤ 1000) ∧ (x.req.length ≤ 2 ∧ ∀ s ∈ x.req, MadePh s) ∧ (x.forb.length ≤ 2 ∧ ∀ s ∈ x.forb, MadePh s)
theorem MadeTm.jud {x : TermL} (h : MadeTm x) : JudT x := by
  obtain ⟨_, ⟨h1, h2⟩, h3, h4⟩ := h
  exact ⟨by omega, by omega, fun s hs => Nat.le_trans (h2 s hs).len (by decide), fun s hs => Nat.le_trans (h4 s hs).len (by decide)⟩
theorem MadeTm.bd {x : TermL} (h : MadeTm x) : x.words.length ≤ 4398046510976 ∧ ∀ y ∈ x.words, BdE y := by
  obtain ⟨⟨_, h1, h2⟩, _⟩ := h
  refine ⟨by omega, fun y hy => ?_⟩
  have h3 := (stem_len (h2 y hy).1).2
  have h4 := (h2 y hy).2
  exact ⟨by omega, by omega⟩
theorem mem_snoc {α : Type} {P : α → Prop} {l : List α} {x : α} (h : ∀ y ∈ l, P y) (hx : P x) : ∀ y ∈ l ++ [x], P y := fun y hy => by
  rcases List.mem_append.1 hy with q | q
  · exact h y q
  · rw [List.mem_singleton] at q; rw [q]; exact hx
def firstM {α : Type} [Inhabited α] (f : α → Int) : List α → Int
  | [] => 0
  | x :: r => if f x ≠ 0 then f x else firstM f r
theorem firstM_at {α : Type} [Inhabited α] {f : α → Int} : ∀ {l : List α} {k : Nat} {e : Int}, k < l.length → (∀ j, j < k → f (l.getD j default) = 0) → f (l.getD k default) = e → e ≠ 0 → firstM f l = e
  | [], k, e, h, _, _, _ => by simp at h
  | x :: r, 0, e, _, _, he, h0 => by
    have he2 : f x = e := he
    unfold firstM; rw [if_pos (by rw [he2]; exact h0), he2]
  | x :: r, k + 1, e, h, hn, he, h0 => by
    have h1 : f x = 0 := hn 0 ω
    unfold firstM; rw [if_neg (by rw [h1]; exact fun q => q rfl)]
    exact firstM_at (k := k) (by simpa using h) (fun j hj => by have := hn (j + 1) ω; simpa using this) (by simpa using he) h0
theorem firstM_ok {α : Type} [Inhabited α] {f : α → Int} : ∀ {l : List α}, (∀ j, j < l.length → f (l.getD j default) = 0) → firstM f l = 0
  | [], _ => rfl
  | x :: r, h => by
    have h1 : f x = 0 := h 0 (by simp)
    unfold firstM; rw [if_neg (by rw [h1]; exact fun q => q rfl)]
    exact firstM_ok (fun j hj => by have := h (j + 1) (by simpa using hj); simpa using this)
def wordE (c : List Clas) (w : Ende) : Int := if ¬ plainP w.strip then 1 else if w.add ≠ [] ∧ findC c w.add < 0 then 4 else 0
def phrE (s : Str) : Int := if phraseOk s then 0 else 1
def limT (x : TermL) : Prop := ((x.words.length = 0 ∨ 8 < x.words.length) ∨ 8 < x.req.length) ∨ 8 < x.forb.length
instance (x : TermL) : Decidable (limT x) := by unfold limT; infer_instance
def termE (c : List Clas) (x : TermL) : Int := if limT x then 3 else if firstM (wordE c) x.words ≠ 0 then firstM (wordE c) x.words else firstM (firstM phrE) [x.req, x.forb]
def validT (ts : List TermL) (c : List Clas) : Int := if validC c ≠ 0 then validC c else if 128 < ts.length then 3 else firstM (termE c) ts
theorem limT_z {x : TermL} (h : (((x.words.length : Int) = 0 ∨ (x.words.length : Int) > 8) ∨ (x.req.length : Int) > 8) ∨ (x.forb.length : Int) > 8) : limT x := by unfold limT; omega
theorem limT_n {x : TermL} (h : ¬ ((((x.words.length : Int) = 0 ∨ (x.words.length : Int) > 8) ∨ (x.req.length : Int) > 8) ∨ (x.forb.length : Int) > 8)) : ¬ limT x := by unfold limT; omega
theorem wordE_1 {c : List Clas} {w : Ende} (h : ¬ plainP w.strip) : wordE c w = 1 := if_pos h
theorem wordE_4 {c : List Clas} {w : Ende} (h : plainP w.strip) (h2 : w.add ≠ [] ∧ findC c w.add < 0) : wordE c w = 4 := by unfold wordE; rw [if_neg (fun q => q h), if_pos h2]
theorem wordE_0 {c : List Clas} {w : Ende} (h : plainP w.strip) (h2 : ¬ (w.add ≠ [] ∧ findC c w.add < 0)) : wordE c w = 0 := by unfold wordE; rw [if_neg (fun q => q h), if_neg h2]
theorem phrE_1 {s : Str} (h : ¬ phraseOk s) : phrE s = 1 := if_neg h
theorem phrE_0 {s : Str} (h : phraseOk s) : phrE s = 0 := if_pos h
theorem words_zero {s : Str} : (((wordsP s).length : Nat) : Int) = 0 ↔ ¬ phraseOk s := by
  constructor
  · intro h q
    rw [words_ok q] at h
    have := splitS_ne s
    have h2 : (splitS s).length ≠ 0 := fun e => this (List.length_eq_zero_iff.1 e)
    omega
  · intro h; rw [words_no h]; rfl
theorem termE_lim {c : List Clas} {x : TermL} (h : limT x) : termE c x = 3 := if_pos h
theorem termE_word {c : List Clas} {x : TermL} {k : Nat} {e : Int} (h : ¬ limT x) (hk : k < x.words.length) (hn : ∀ j, j < k → wordE c (x.words.getD j default) = 0) (he : wordE c (x.words.getD k default) = e) (h0 : e ≠ 0) : termE c x = e := by
  have h1 := firstM_at hk hn he h0
  unfold termE; rw [if_neg h, if_pos (by rw [h1]; exact h0), h1]
theorem termE_phr {c : List Clas} {x : TermL} {i k : Nat} (h : ¬ limT x) (hw : ∀ j, j < x.words.length → wordE c (x.words.getD j default) = 0) (hi : i < 2) (hn : ∀ j, j < i → firstM phrE ([x.req, x.forb].getD j default) = 0)
    (hk : k < ([x.req, x.forb].getD i default).length) (hp : ∀ j, j < k → phrE (([x.req, x.forb].getD i default).getD j default) = 0) (he : ¬ phraseOk (([x.req, x.forb].getD i default).getD k default)) : termE c x = 1 := by
  have h1 := firstM_ok hw
  have h2 := firstM_at hk hp (phrE_1 he) (by decide)
  unfold termE; rw [if_neg h, if_neg (by rw [h1]; exact fun q => q rfl)]
  exact firstM_at hi hn h2 (by decide)
theorem termE_ok {c : List Clas} {x : TermL} (h : ¬ limT x) (hw : ∀ j, j < x.words.length → wordE c (x.words.getD j default) = 0) (hn : ∀ j, j < 2 → firstM phrE ([x.req, x.forb].getD j default) = 0) : termE c x = 0 := by
  have h1 := firstM_ok hw
  unfold termE; rw [if_neg h, if_neg (by rw [h1]; exact fun q => q rfl)]
  exact firstM_ok hn
theorem validT_c {ts : List TermL} {c : List Clas} (h : validC c ≠ 0) : validT ts c = validC c := if_pos h
theorem validT_lim {ts : List TermL} {c : List Clas} (h : validC c = 0) (h2 : 128 < ts.length) : validT ts c = 3 := by unfold validT; rw [if_neg (fun q => q h), if_pos h2]
theorem validT_at {ts : List TermL} {c : List Clas} {k : Nat} {e : Int} (h : validC c = 0) (h2 : ¬ 128 < ts.length) (hk : k < ts.length) (hn : ∀ j, j < k → termE c (ts.getD j default) = 0) (he : termE c (ts.getD k default) = e) (h0 : e ≠ 0) : validT ts c = e := by
  unfold validT; rw [if_neg (fun q => q h), if_neg h2]; exact firstM_at hk hn he h0
theorem validT_ok {ts : List TermL} {c : List Clas} (h : validC c = 0) (h2 : ¬ 128 < ts.length) (hn : ∀ j, j < ts.length → termE c (ts.getD j default) = 0) : validT ts c = 0 := by
  unfold validT; rw [if_neg (fun q => q h), if_neg h2]; exact firstM_ok hn
end Go.Proofs.YtlfjocbnbceceaaGreatDoor
namespace Go.Vc
open Go Go.RowKit Go.IntWalk Go.Sort
section
variable {P : Program} {B : Exit → Act → World → Prop} {n : Nat} {k : List Kont} {f : Fr} {w : World} {ops : Array Oper} {rest : List Oper}
theorem r_boxD {T d : Nat} {t : TypeId} {pos : String} {aft : Array Edge} {x : Operand} {v : Value} {vs : List Value} (hx : opv f x = v) (hv : v.cells = vs.toArray) (hd : Nat.blt d n = true)
    (h : ∀ b w', b = w.heap.size → Evo w w' [] → Blk w' b T vs → w'.heap.size = b + 1 → w.drawn ≤ w'.drawn → KL P B n ops k rest (upd f d (.pointer (some ⟨b, 0, none⟩))) w') :
    KL P B n ops k (⟨some d, .box T x, t, pos, aft, none⟩ :: rest) f w := by
  refine r_op (v := .pointer (some ⟨w.heap.size, 0, none⟩)) (w' := w.alloc (.cells vs.toArray T)) rfl rfl hd ?_ (h _ _ rfl (Evo.alloc _ _ _) (heap_alloc_new w _) (by simp) (Nat.le_refl _))
  simp [execOp, hx, Instr.box, newVar, newRow, hv]
theorem h_regionD {id : Nat} {l : List Oper} (E : List Nat) (hm : P.follows .mixedOrders = true) (h : ∀ w1, Evo w w1 [] → Evo w w1 E → w.drawn ≤ w1.drawn → HA P B n k (fun w' => Evo w w' E) l.toArray l.toArray.size [] f w1) : KF P B n (.code (.region id l.toArray true) :: k) f w := by
  intro a ha
  show (Code.region id l.toArray true).wp P (Kx P B k) a w
  exact wp_region_noPanic (wp_region_any hm (any_of_F _ _ _ _ (h _ (Evo.drew _ _) (Evo.drew _ _) (Nat.le_succ _) a ha)))
theorem r_bsliceD {T E d len m bb : Nat} {t : TypeId} {pos : String} {aft : Array Edge} {ps : List (Nat × Operand)} {pv : List (Nat × Value)} {z : Value} {zs cs : List Value}
    (hu : P.underlying T = some (.slice E)) (ht : tyP P E = some (m, bb, some z)) (hz : z.cells = zs.toArray) (hd : Nat.blt d n = true) (hps : (ps.map fun p => (p.1, opv f p.2)) = pv) (hlen : (Nat.beq zs.length m && Nat.ble 1 m && Nat.ble (len * m) 10000) = true)
    (hf : fillL (fun i => some (i * m, m)) (List.replicate len zs).flatten pv = some cs)
    (h : ∀ b w', b = w.heap.size → Evo w w' [] → Blk w' b E cs → w'.heap.size = b + 1 → w.drawn ≤ w'.drawn → KL P B n ops k rest (upd f d (.slice (some ⟨b, 0, none⟩) len len)) w') :
    KL P B n ops k (⟨some d, .buildSlice T len ps.toArray, t, pos, aft, none⟩ :: rest) f w := by
  refine r_op (v := .slice (some ⟨w.heap.size, 0, none⟩) len len) (w' := w.alloc (.cells cs.toArray E)) rfl rfl hd ?_ (h _ _ rfl (Evo.alloc _ _ _) (heap_alloc_new w _) (by simp) (Nat.le_refl _))
  unfold execOp
  simp only []
  rw [map_parts, hps]
  simp only [Bool.and_eq_true, Nat.ble_eq] at hlen
  have hzl := Nat.eq_of_beq_eq_true hlen.1.1
  have h24 : ¬ (2 ^ 24 < len * m) := by have : (2:Nat) ^ 24 = 16777216 := by decide
                                        omega
  have hfill := fill_of _ _ _ hf
  rw [← zeros_cells hz hzl ω len] at hfill
  by_cases h0 : len * m = 0
  · have hl0 : len = 0 := by
      rcases Nat.mul_eq_zero.1 h0 with h1 | h1
      · exact h1
      · omega
    subst hl0
    have e0 : ∀ g : Nat → Value, (Array.range 0).map g = #[] := fun g => Array.eq_empty_of_size_eq_zero (by simp)
    have hfill' : Instr.fill (fun i => some (i * m, m)) #[] pv = some cs.toArray := by
      rw [show 0 * m = 0 by omega, e0] at hfill
      exact hfill
    simp [Instr.buildSlice, run_underlying hu, run_sizeOf ht, newRow, e0, hfill']
  · simp [Instr.buildSlice, run_underlying hu, run_sizeOf ht, run_zero ht, h24, h0, newRow]
    rw [hfill]
    simp
end
theorem growD_of {w w' : World} (h : Evo w w' []) (hd : w.drawn ≤ w'.drawn) : ∃ q os', w' = grow (w.drewN q) os' := by
  obtain ⟨h1, h2, h3, h4, h5⟩ := h
  refine ⟨w'.drawn - w.drawn, w'.heap.extract w.heap.size w'.heap.size, ?_⟩
  have hh : w'.heap = w.heap ++ w'.heap.extract w.heap.size w'.heap.size := by
    apply Array.ext_getElem?
    intro i
    rcases Nat.lt_or_ge i w.heap.size with hi | hi
    · rw [Array.getElem?_append_left hi]; exact h5 i hi (by simp)
    · rw [Array.getElem?_append_right hi, Array.getElem?_extract]
      split
      · congr 1; omega
      · rw [Array.getElem?_eq_none ω]
  cases w; cases w'
  simp only [grow, World.drewN] at *
  subst h1; subst h2; subst h3
  simp only [World.mk.injEq, true_and]
  refine ⟨hh, ?_, trivial⟩
  omega
end Go.Vc
namespace Go.Vc
open Go Go.RowKit Go.IntWalk Go.Sort Go.Proofs
section
variable {α : Type} [Enc α] [Inhabited α] {w : World} {base : Nat} {E : TypeId} {v : Value} {l : List α}
theorem flatK_list (l : List α) : (flatK (Enc.enc : α → List Value) (Enc.n α) l.toArray).toList = (l.map Enc.enc).flatten := by
  have hall : ∀ cs ∈ l.map (Enc.enc : α → List Value), cs.length = Enc.n α := fun cs hcs => by
    obtain ⟨x, _, rfl⟩ := List.mem_map.1 hcs; exact Enc.len x
  have hp := Enc.pos (α := α)
  have hfl := flatten_length _ _ hall
  rw [List.length_map] at hfl
  apply List.ext_getElem?
  intro t
  rcases Nat.lt_or_ge t (l.length * Enc.n α) with ht | ht
  · have hi : t / Enc.n α < l.length := (Nat.div_lt_iff_lt_mul hp).2 ht
    have hj : t % Enc.n α < Enc.n α := Nat.mod_lt _ hp
    have h1 := flatten_at (l.map Enc.enc) (Enc.n α) (t / Enc.n α) (t % Enc.n α) (Enc.enc l[t / Enc.n α]) hall (by simp [hi]) hj
    have e : t / Enc.n α * Enc.n α + t % Enc.n α = t := by rw [Nat.mul_comm]; exact Nat.div_add_mod _ _
    rw [e] at h1
    rw [h1, Array.getElem?_toList]
    have hlen : (Enc.enc l[t / Enc.n α]).length = Enc.n α := Enc.len _
    simp [flatK, ht, hi, getElem!_pos, hlen, hj]
  · rw [List.getElem?_eq_none (by simpa using ht), List.getElem?_eq_none (by rw [hfl]; exact ht)]
theorem holdsK_of {g cur : _} (hb : w.heap[g]? = some (.cells cur E (0, 0))) (ht : cur.toList.take (l.length * Enc.n α) = (l.map Enc.enc).flatten) : HoldsK (Enc.enc : α → List Value) (Enc.n α) w g 0 l.toArray := by
  intro j hj
  have hj' : j < l.length * Enc.n α := by simpa using hj
  refine ⟨?_, by simp [World.frozen?, hb]⟩
  have h1 : (cur.toList.take (l.length * Enc.n α))[j]? = (flatK (Enc.enc : α → List Value) (Enc.n α) l.toArray).toList[j]? := by rw [ht, flatK_list]
  rw [List.getElem?_take_of_lt hj'] at h1
  simp only [World.cell?, hb, Nat.zero_add]
  simp only [Option.isSome_none, Bool.false_eq_true, if_false]
  rw [← Array.getElem?_toList, h1, Array.getElem?_toList]
  simp [hj']
theorem heap_sortedK {g n : Nat} {os : Array Obj} {cur : Array Value} (d : Array α) (hb : w.heap[g]? = some (.cells cur E (0, 0))) :
    (sortWorldK (Enc.enc : α → List Value) (Enc.n α) w g 0 n d os).heap[g]? = some (.cells (putCells id 0 (flatK Enc.enc (Enc.n α) d) cur) E (0, 0)) := by
  have hg : g < w.heap.size := (Array.getElem?_eq_some_iff.1 hb).1
  unfold sortWorldK putRowK
  rw [heap_grow_old _ _ (by simpa [putRow, mapBlock, Sort.ahead] using hg)]
  simp [putRow, mapBlock, Sort.ahead, Array.getElem?_modify, hb, onCells]
theorem evo_sortedK {g n : Nat} {os : Array Obj} (d : Array α) : Evo w (sortWorldK (Enc.enc : α → List Value) (Enc.n α) w g 0 n d os) [g] := by
  unfold sortWorldK putRowK
  refine ⟨rfl, rfl, rfl, by simp [putRow, mapBlock, Sort.ahead], fun k hk hne => ?_⟩
  rw [heap_grow_old _ _ (by simpa [putRow, mapBlock, Sort.ahead] using hk)]
  have : g ≠ k := fun e => hne (by simp [e])
  simp [putRow, mapBlock, Sort.ahead, Array.getElem?_modify, this]
theorem take_putK (cur : Array Value) (F : Array Value) (h : F.size ≤ cur.size) : (putCells id 0 F cur).toList.take F.size = F.toList := by
  apply List.ext_getElem?
  intro j
  by_cases hj : j < F.size
  · rw [List.getElem?_take_of_lt hj, Array.getElem?_toList]
    simp [putCells, hj, show j < cur.size by omega]
  · rw [List.getElem?_take_eq_none ω, List.getElem?_eq_none θ]
theorem own_sortedK {g n cap : Nat} {os : Array Obj} {cur : Array Value} {l' : List α} (hl : l'.length = l.length) (hb : base ≤ g) (hg : w.heap[g]? = some (.cells cur E (0, 0))) (h1 : l.length ≤ cap) (h2 : cap ≤ maxLen) (h3 : cur.size = cap * Enc.n α) (hbd : l.length ≤ 140737488355328) :
    OwnE (sortWorldK (Enc.enc : α → List Value) (Enc.n α) w g 0 n l'.toArray os) base E (.slice (some ⟨g, 0, none⟩) l.length cap) l' := by
  have hall : ∀ cs ∈ l'.map (Enc.enc : α → List Value), cs.length = Enc.n α := fun cs hcs => by
    obtain ⟨x, _, rfl⟩ := List.mem_map.1 hcs; exact Enc.len x
  have hle : l.length * Enc.n α ≤ cap * Enc.n α := Nat.mul_le_mul_right _ h1
  refine ⟨⟨?_, .inr ⟨g, cap, _, by rw [List.length_map, hl], hb, heap_sortedK _ hg, by rw [List.length_map, hl]; exact h1, h2, by simp [putCells, h3], ?_⟩⟩, hall, by rw [List.length_map, hl]; exact hbd⟩
  · rw [flatten_length _ _ hall]
  · rw [List.length_map, hl, ← flatK_list]
    have hs : (flatK (Enc.enc : α → List Value) (Enc.n α) l'.toArray).size = l.length * Enc.n α := by simp [hl]
    rw [← hs]
    exact take_putK cur _ (by rw [hs, h3]; exact hle)
theorem sortf_of {P : Program} {fn g : FuncId} {cb : Array Value} {R : List α → List α → Prop} (hs : ∀ l l', R l l' → l'.length = l.length) (hs0 : R [] [])
    (c : ∀ (blk off cap : Nat) (d : Array α) (w : World), HoldsK (Enc.enc : α → List Value) (Enc.n α) w blk off d → blk < w.heap.size → d.size < 4611686018427387904 →
      Calls P fn #[.slice (some ⟨blk, off, none⟩) d.size cap, .func (.func g) #[] cb] w fun e w' => e = .returned (.tuple #[]) ∧ ∃ (d' : Array α) (n : Nat) (os : Array Obj), R d.toList d'.toList ∧ w' = sortWorldK (Enc.enc : α → List Value) (Enc.n α) w blk off n d' os)
    (c0 : ∀ w : World, Calls P fn #[.slice none 0 0, .func (.func g) #[] cb] w fun e w' => e = .returned (.tuple #[]) ∧ w' = w)
    (h : OwnE w base E v l) : Calls P fn #[v, .func (.func g) #[] cb] w fun e w' => e = .returned (.tuple #[]) ∧ Evo w w' v.ownBlock.toList ∧ ∃ l', R l l' ∧ OwnE w' base E v l' := by
  have h0 : Own w base E (Enc.n α) v (l.map Enc.enc) := h
  rcases h0.row.2 with ⟨hv, hl⟩ | ⟨g2, cap, cur, hv, hb, hg, h2, h3, h4, h5⟩
  · have hln : l = [] := List.eq_nil_of_length_eq_zero (by simpa using hl)
    subst hln; subst hv
    refine (c0 w).mono ?_
    rintro e w' ⟨rfl, rfl⟩
    exact ⟨rfl, Evo.refl _ _, [], hs0, h⟩
  · rw [List.length_map] at hv h2 h5
    have hbd := h.bd
    subst hv
    refine (c g2 0 cap l.toArray w (holdsK_of hg h5) (Array.getElem?_eq_some_iff.1 hg).1 θ).mono ?_
    rintro e w' ⟨rfl, d', n, os, hR, rfl⟩
    exact ⟨rfl, evo_sortedK _, d'.toList, hR, own_sortedK (l' := d'.toList) (hs _ _ hR) hb hg h2 h3 h4 hbd⟩
end
def SortR {α : Type} (lt : α → α → Bool) (l l' : List α) : Prop := l'.Perm l ∧ l'.Pairwise (fun x y => lt y x = false)
theorem sortR_of {α : Type} [Inhabited α] {lt : α → α → Bool} {d d' : Array α} (hp : PermIn 0 d.size d d') (hs : SortedIn lt 0 d.size d') : SortR lt d.toList d'.toList := by
  obtain ⟨h1, _, h2⟩ := hp
  refine ⟨?_, List.pairwise_iff_getElem.2 fun i j hi hj hij => ?_⟩
  · have e : d'.extract 0 d.size = d' := by rw [← h1]; simp
    rw [e] at h2; simpa using h2
  · have := hs i j (Nat.zero_le _) hij (by rw [← h1]; simpa using hj)
    simp at hi hj
    rwa [getElem!_pos d' j hj, getElem!_pos d' i hi] at this
section
variable {P : Program} {f : Fr} {w : World} {o : Oper}
theorem run_sgtrD {t t2 : TypeId} {x y : Operand} {a b : List UInt8} (ho : o.op = .binOp .gtr t x y t2) (hx : opv f x = S a) (hy : opv f y = S b) :
    (execOp (opv f) o).run P w = .ok (.value (.bool (decide (¬ (blt a b || a == b) = true)))) w := run_binS ho hx hy (by
  simp only [Op.stringOp, toList_S, blt, Sem.run_pure]
  congr 2
  rw [Bool.eq_iff_iff]; simp)
end
def cmpS (a b : Str) : Int := if a < b then -1 else if b < a then 1 else 0
def orI (a b : Int) : Int := if ¬ a = 0 then a else b
theorem slt_irrefl (a : Str) : ¬ a < a := List.lt_irrefl a
theorem slt_trans {a b c : Str} (h : a < b) (h2 : b < c) : a < c := List.lt_trans h h2
theorem slt_tri {a b : Str} (h : ¬ a < b) (h2 : ¬ b < a) : a = b := List.le_antisymm (List.not_lt.1 h2) (List.not_lt.1 h)
def ltP (x y : Str × Str) : Prop := x.1 < y.1 ∨ (x.1 = y.1 ∧ x.2 < y.2)
instance (x y : Str × Str) : Decidable (ltP x y) := by unfold ltP; infer_instance
def prG (x : Gram) : Str × Str := (x.fst, x.snd)
theorem cmpS_neg {a b : Str} : cmpS a b < 0 ↔ a < b := by
  unfold cmpS
  by_cases h : a < b
  · simp [h]
  · by_cases h2 : b < a <;> simp [h, h2]
theorem cmpS_zero {a b : Str} : cmpS a b = 0 ↔ a = b := by
  unfold cmpS
  by_cases h : a < b
  · simp [h]; intro e; exact slt_irrefl _ (e ▸ h)
  · by_cases h2 : b < a
    · simp [h, h2]; intro e; exact slt_irrefl _ (e ▸ h2)
    · simp [h, h2]; exact slt_tri h h2
def AscG (g : List Gram) : Prop := g.Pairwise (fun x y => ltP (prG x) (prG y))
def GramsOk (ps : List (Str × Str)) (g : List Gram) : Prop := AscG g ∧ (∀ x ∈ g, 0 < ps.count (prG x) ∧ x.count = ((ps.count (prG x) : Nat) : Int)) ∧ ∀ p ∈ ps, ∃ x ∈ g, prG x = p
theorem GramsOk.nil : GramsOk [] [] := ⟨List.Pairwise.nil, by simp, by simp⟩
open Go.ChangeMaps (setBlock)
theorem asking_hit {P : Program} {K : TypeId} {α : Type} [DecidableEq α] {ek : α → Value} (heq : ∀ (w : World) (x y : α), (Op.equal K (ek x) (ek y)).run P w = .ok (decide (x = y)) w) (x : α) (w : World) :
    ∀ (es : List MapEntry) (i k : Nat) (e : MapEntry), (∀ e ∈ es, ∃ y, e.key = ek y) → es[i]? = some e → e.key = ek x → (∀ j e', j < i → es[j]? = some e' → e'.key ≠ ek x) → (Instr.findAsking K (ek x) es k).run P w = .ok (some (k + i, e.val)) w
  | [], i, k, e, _, h, _, _ => by simp at h
  | a :: es, 0, k, e, _, h, hk, _ => by
    simp at h; subst h
    simp only [Instr.findAsking, Sem.run_bind, hk, heq, Result.andThen_ok, decide_true, if_true, Sem.run_pure, Nat.add_zero]
  | a :: es, i + 1, k, e, hall, h, hk, hne => by
    obtain ⟨y, hy⟩ := hall a (by simp)
    have h0 := hne 0 a ω (by simp)
    have ih := asking_hit heq x w es i (k + 1) e (fun e he => hall e (by simp [he])) (by simpa using h) hk (fun j e' hj he' => hne (j + 1) e' ω (by simpa using he'))
    have hd : decide (x = y) = false := by simp; intro h; exact h0 (by rw [hy, h])
    simp only [Instr.findAsking, Sem.run_bind, hy, heq, hd, Result.andThen_ok, Bool.false_eq_true, if_false]
    rw [ih, show k + 1 + i = k + (i + 1) by omega]
theorem asking_miss {P : Program} {K : TypeId} {α : Type} [DecidableEq α] {ek : α → Value} (heq : ∀ (w : World) (x y : α), (Op.equal K (ek x) (ek y)).run P w = .ok (decide (x = y)) w) (x : α) (w : World) :
    ∀ (es : List MapEntry) (k : Nat), (∀ e ∈ es, ∃ y, e.key = ek y) → (∀ e ∈ es, e.key ≠ ek x) → (Instr.findAsking K (ek x) es k).run P w = .ok none w
  | [], _, _, _ => rfl
  | a :: es, k, hall, hne => by
    obtain ⟨y, hy⟩ := hall a (by simp)
    have h0 := hne a (by simp)
    have ih := asking_miss heq x w es (k + 1) (fun e he => hall e (by simp [he])) (fun e he => hne e (by simp [he]))
    have hd : decide (x = y) = false := by simp; intro h; exact h0 (by rw [hy, h])
    simp only [Instr.findAsking, Sem.run_bind, hy, heq, hd, Result.andThen_ok, Bool.false_eq_true, if_false]
    exact ih
theorem KeyLaw.asked {P : Program} {K : TypeId} {D : TypeDesc} {α : Type} [DecidableEq α] {ek : α → Value} (hu : P.underlying K = some D) (inj : ∀ x y, ek x = ek y → x = y) (hno : ∀ x y, Instr.sameNow D (ek x) (ek y) = none)
    (heq : ∀ (w : World) (x y : α), (Op.equal K (ek x) (ek y)).run P w = .ok (decide (x = y)) w) (check : ∀ w e x, (Instr.checkKey e 10000 K (ek x)).run P w = .ok () w) (same : ∀ x, Instr.sameBits 10000 (ek x) (ek x) = true) : KeyLaw P K ek where
  inj := inj
  check := check
  same := same
  hit w x es i e hall h hk hne := by
    have h1 := asking_hit heq x w es i 0 e hall h hk hne
    rw [Nat.zero_add] at h1
    cases es with
    | nil => simp at h
    | cons a es =>
      obtain ⟨y, hy⟩ := hall a (by simp)
      have h2 : Instr.findNow D (ek x) (a :: es) 0 = none := by simp only [Instr.findNow, hy, hno]
      simp only [Instr.findKey, Sem.run_bind, run_underlying hu, Result.andThen_ok, h2]
      exact h1
  miss w x es hall hne := by
    have h1 := asking_miss heq x w es 0 hall hne
    cases es with
    | nil => simp only [Instr.findKey, Sem.run_bind, run_underlying hu, Result.andThen_ok, Instr.findNow]; rfl
    | cons a es =>
      obtain ⟨y, hy⟩ := hall a (by simp)
      have h2 : Instr.findNow D (ek x) (a :: es) 0 = none := by simp only [Instr.findNow, hy, hno]
      simp only [Instr.findKey, Sem.run_bind, run_underlying hu, Result.andThen_ok, h2]
      exact h1
theorem key_item {P : Program} {T : TypeId} {f0 f1 f2 : Field} (hu : P.underlying T = some (.struct #[f0, f1, f2])) (n0 : f0.name ≠ "_") (n1 : f1.name ≠ "_") (n2 : f2.name ≠ "_")
    (o0 : f0.offset = 0) (o1 : f1.offset = 1) (o2 : f2.offset = 2) (u0 : P.underlying f0.type = some (.int .i64)) (u1 : P.underlying f1.type = some .string) (u2 : P.underlying f2.type = some (.int .i64))
    (a0 : aggP P f0.type = some false) (a1 : aggP P f1.type = some false) (a2 : aggP P f2.type = some false)
    (he : ∀ (w : World) (x y : Item), (Op.equalIn 10000 T (.agg (Enc.enc x).toArray) (.agg (Enc.enc y).toArray)).run P w = .ok (decide (x = y)) w) : KeyLaw P T (fun x : Item => Value.agg (Enc.enc x).toArray) := by
  refine KeyLaw.asked hu (fun x y h => ?_) (fun x y => rfl) (fun w x y => he w x y) (fun w e x => ?_) (fun x => ?_)
  · obtain ⟨k1, t1, i1⟩ := x
    obtain ⟨k2, t2, i2⟩ := y
    have h1 : [Value.int .i64 k1, S t1, Value.int .i64 i1] = [Value.int .i64 k2, S t2, Value.int .i64 i2] := by
      have h2 := Value.agg.inj h
      exact List.toArray_inj h2
    simp only [List.cons.injEq, Value.int.injEq, true_and, and_true] at h1
    rw [h1.1, S_inj h1.2.1, h1.2.2]
  · have p0 : ∀ (z : Item), (part f0.type (Enc.enc z).toArray 0).run P w = .ok (.int .i64 z.kind) w := fun z => run_part1 a0 rfl
    have p1 : ∀ (z : Item), (part f1.type (Enc.enc z).toArray 1).run P w = .ok (S z.text) w := fun z => run_part1 a1 rfl
    have p2 : ∀ (z : Item), (part f2.type (Enc.enc z).toArray 2).run P w = .ok (.int .i64 z.id) w := fun z => run_part1 a2 rfl
    have c0 := check_scalar u0 w e 9998 (.int .i64 x.kind) (.inr ⟨_, _, rfl, rfl⟩)
    have c1 := check_scalar u1 w e 9998 (S x.text) (.inl ⟨rfl, _, rfl⟩)
    have c2 := check_scalar u2 w e 9998 (.int .i64 x.id) (.inr ⟨_, _, rfl, rfl⟩)
    unfold Instr.checkKey
    simp only [Sem.run_bind, run_underlying hu, Result.andThen_ok]
    simp [n0, n1, n2, o0, o1, o2, p0, p1, p2, c0, c1, c2, Sem.run_bind]
  · show Instr.sameBits 10000 (.agg #[.int .i64 x.kind, S x.text, .int .i64 x.id]) (.agg #[.int .i64 x.kind, S x.text, .int .i64 x.id]) = true
    have h1 := bits_str 9999 ⟨x.text.toArray⟩
    have h0 := bits_int 9999 .i64 x.kind
    have h2 := bits_int 9999 .i64 x.id
    unfold Instr.sameBits
    simp only [S] at *
    simp [h0, h1, h2]
def StampIs {α : Type} (w : World) (b : Nat) (ek : α → Value) (a : α) (s : Int) : Prop := ∃ (es : Array MapEntry) (clock i : Nat) (e : MapEntry), w.heap[b]? = some (.map es clock) ∧ es[i]? = some e ∧ (e.born : Int) = s ∧ e.key = ek a
section
variable {P : Program} {B : Exit → Act → World → Prop} {n : Nat} {k : List Kont} {f : Fr} {w : World} {ops : Array Oper} {rest : List Oper}
variable {α β : Type} {ek : α → Value} {ev : β → Value} {b : Nat} {m : List (α × β)} {K E : TypeId}
theorem StampIs.evo {w' : World} {a : α} {s : Int} {X : List Nat} (h : StampIs w b ek a s) (he : Evo w w' X) (hb : b < w.heap.size) (hn : b ∉ X) : StampIs w' b ek a s := by
  obtain ⟨es, c, i, e, h1, h2⟩ := h
  exact ⟨es, c, i, e, (he.same b hb hn).trans h1, h2⟩
theorem run_mapEntry [DecidableEq α] (L : KeyLaw P K ek) {T : TypeId} {z : β} {s0 bb : Nat} (hu : P.underlying T = some (.map K E)) (hz : tyP P E = some (s0, bb, some (ev z))) (a : α) (h : MapIs w b ek ev m) :
    ∃ w' s, (Instr.mapEntry T (.map (some b)) (ek a)).run P w = .ok (.tuple #[ev ((getM m a).getD z), .int .i64 s]) w' ∧ Evo w w' [b] ∧ w'.heap.size = w.heap.size ∧ MapIs w' b ek ev (setM m a ((getM m a).getD z)) ∧ StampIs w' b ek a s := by
  obtain ⟨es, c, hb, he, hbn, hlt, hnd⟩ := h.ex
  have hbl := h.lt
  obtain ⟨es', c', hb', hf⟩ := h.find L a
  rw [hb] at hb'
  injection hb' with hb'
  injection hb' with e1 e2
  subst e1; subst e2
  rcases hf with ⟨hg, hf⟩ | ⟨i, u, hg, hi, hne, hf⟩
  · have hmiss : ∀ p ∈ m, p.1 ≠ a := by
      intro p hp e
      unfold getM at hg
      have hg' := hg
      simp only [Option.map_eq_none_iff, List.find?_eq_none, decide_eq_true_eq] at hg'
      exact hg' p hp e
    refine ⟨setBlock w b (.map (es.push { key := ek a, val := ev z, born := c }) (c + 1)), (c : Int), ?_, Evo.setB _ _ _, by simp [setBlock], ⟨_, _, heap_setB hbl _, ?_, ?_, ?_, keys_setM a _ m hnd⟩, ⟨_, _, es.size, { key := ek a, val := ev z, born := c }, heap_setB hbl _, by simp, rfl, rfl⟩⟩
    · rw [hg]
      simp only [Instr.mapEntry, getObj, Sem.run_bind, run_underlying hu, Result.andThen_ok, Sem.run, hb, L.check, hf, setObj, setBlock, run_zero hz, goInt]
      rfl
    · rw [hg, setM_miss hmiss]; simp [he]
    · simp only [Array.toList_push, List.map_append, List.map_cons, List.map_nil]
      rw [List.nodup_append]
      refine ⟨hbn, by simp, fun x hx y hy => ?_⟩
      simp at hy
      subst hy
      obtain ⟨e, hem, rfl⟩ := List.mem_map.1 hx
      have := hlt e hem
      omega
    · intro e hem
      simp only [Array.toList_push, List.mem_append, List.mem_singleton] at hem
      rcases hem with hem | rfl
      · have := hlt e hem; omega
      · simp
  · have hent := entry_at he i
    rw [hi] at hent
    cases hes : es.toList[i]? with
    | none => rw [hes] at hent; simp at hent
    | some e =>
      rw [hes] at hent
      simp only [Option.map_some, Option.some.injEq, Prod.mk.injEq] at hent
      have hes' : es[i]? = some e := by simpa using hes
      have hstay : (Instr.keyThatStays (((es[i]?).map (·.key)).getD (ek a)) (ek a)).run P w = .ok (ek a) w := by
        rw [hes']
        simp only [Option.map_some, Option.getD_some, hent.1, Instr.keyThatStays, L.same, if_true, Sem.run_pure]
      have hsame : (es.modify i fun e => { e with key := ek a }) = es := by
        apply Array.ext_getElem?
        intro j
        rw [Array.getElem?_modify]
        by_cases hij : i = j
        · subst hij
          rw [if_pos rfl, hes']
          obtain ⟨k0, v0, b0⟩ := e
          obtain rfl : k0 = ek a := hent.1
          rfl
        · rw [if_neg hij]
      have hset : setM m a ((getM m a).getD z) = m := by
        rw [hg, setM_hit hi hnd]
        apply List.ext_getElem?
        intro j
        rw [List.getElem?_set]
        by_cases hij : i = j
        · subst hij
          have hil : i < m.length := (List.getElem?_eq_some_iff.1 hi).1
          rw [if_pos rfl, if_pos hil, hi]; rfl
        · rw [if_neg hij]
      refine ⟨setBlock w b (.map es c), (e.born : Int), ?_, Evo.setB _ _ _, by simp [setBlock], ?_, ⟨es, c, i, e, heap_setB hbl _, hes', rfl, hent.1⟩⟩
      · rw [hg]
        simp only [Instr.mapEntry, getObj, Sem.run_bind, run_underlying hu, Result.andThen_ok, Sem.run, hb, L.check, hf, hstay, setObj, setBlock, hsame, goInt]
        rw [hes']
        rfl
      · rw [hset]
        exact ⟨es, c, heap_setB hbl _, he, hbn, hlt, hnd⟩
theorem run_entryStore [DecidableEq α] (L : KeyLaw P K ek) {T : TypeId} {a : α} {s : Int} (v : β) (h : MapIs w b ek ev m) (hs : StampIs w b ek a s) :
    ∃ w', (Instr.entryStore T (.map (some b)) (.int .i64 s) (ev v)).run P w = .ok () w' ∧ Evo w w' [b] ∧ w'.heap.size = w.heap.size ∧ MapIs w' b ek ev (setM m a v) := by
  obtain ⟨es, c, hb, he, hbn, hlt, hnd⟩ := h.ex
  have hbl := h.lt
  obtain ⟨es', c', i, e, hb', hes', hborn, hkey⟩ := hs
  rw [hb] at hb'
  injection hb' with hb'
  injection hb' with e1 e2
  subst e1; subst e2
  have hent := entry_at he i
  have hes : es.toList[i]? = some e := by simpa using hes'
  rw [hes] at hent
  cases hi : m[i]? with
  | none => rw [hi] at hent; simp at hent
  | some p =>
    rw [hi] at hent
    simp only [Option.map_some, Option.some.injEq, Prod.mk.injEq] at hent
    obtain ⟨a', u⟩ := p
    have ha : a' = a := L.inj _ _ (hent.1.symm.trans hkey)
    subst ha
    have hfind : es.findIdx? (fun e => (e.born : Int) == s) = some i := by
      cases hq : es.findIdx? (fun e => (e.born : Int) == s) with
      | none =>
        rw [Array.findIdx?_eq_none_iff] at hq
        have := hq e (by rw [← Array.mem_toList_iff]; exact List.mem_of_getElem? hes)
        simp [hborn] at this
      | some j =>
        obtain ⟨hj, hp, _⟩ := Array.findIdx?_eq_some_iff_getElem.1 hq
        have h1 : ((es[j]).born : Int) = s := by simpa using hp
        have h2 : (es.toList.map (·.born))[j]? = (es.toList.map (·.born))[i]? := by
          rw [List.getElem?_map, List.getElem?_map, hes, Array.getElem?_toList, Array.getElem?_eq_getElem hj]
          simp only [Option.map_some, Option.some.injEq]
          omega
        have h3 := (List.getElem?_inj (by simpa using hj) hbn).1 h2
        rw [h3]
    refine ⟨setBlock w b (.map (es.modify i fun e => { e with val := ev v }) c), ?_, Evo.setB _ _ _, by simp [setBlock], ⟨_, _, heap_setB hbl _, ?_, ?_, ?_, keys_setM a' v m hnd⟩⟩
    · have hint : (asInt (.int .i64 s)).run P w = .ok s w := rfl
      simp only [Instr.entryStore, getObj, Sem.run_bind, Result.andThen_ok, Sem.run, hb, hint, hfind, setObj, setBlock]
    · rw [setM_hit hi hnd]
      apply List.ext_getElem?
      intro j
      have hj := entry_at he j
      simp only [List.getElem?_map, Array.getElem?_toList, Array.getElem?_modify] at hj ⊢
      rw [List.getElem?_set]
      by_cases hij : i = j
      · subst hij
        have hil : i < m.length := (List.getElem?_eq_some_iff.1 hi).1
        simp [hes', hil, hkey]
      · simp [hij, hj]
    · have : (es.modify i fun e => { e with val := ev v }).toList.map (·.born) = es.toList.map (·.born) := by
        apply List.ext_getElem?
        intro j
        simp only [List.getElem?_map, Array.getElem?_toList, Array.getElem?_modify]
        by_cases hij : i = j
        · subst hij; simp [hes']
        · simp [hij]
      rw [this]; exact hbn
    · intro x hx
      obtain ⟨j, hj⟩ := List.getElem?_of_mem hx
      simp only [Array.getElem?_toList, Array.getElem?_modify] at hj
      by_cases hij : i = j
      · subst hij
        simp [hes'] at hj
        rw [← hj]
        exact hlt e (List.mem_of_getElem? hes)
      · simp only [hij, if_false] at hj
        exact hlt x (by rw [← Array.getElem?_toList] at hj; exact List.mem_of_getElem? hj)
theorem r_mapEntry [DecidableEq α] (L : KeyLaw P K ek) {T d : Nat} {z : β} {s0 bb : Nat} {t : TypeId} {pos : String} {aft : Array Edge} {x y : Operand} {a : α} (hd : Nat.blt d n = true) (hu : P.underlying T = some (.map K E)) (hz : tyP P E = some (s0, bb, some (ev z)))
    (hx : opv f x = .map (some b)) (hy : opv f y = ek a) (h : MapIs w b ek ev m)
    (h2 : ∀ s w', Evo w w' [b] → w'.heap.size = w.heap.size → MapIs w' b ek ev (setM m a ((getM m a).getD z)) → StampIs w' b ek a s → KL P B n ops k rest (upd f d (.tuple #[ev ((getM m a).getD z), .int .i64 s])) w') :
    KL P B n ops k (⟨some d, .mapEntry T x y, t, pos, aft, none⟩ :: rest) f w := by
  obtain ⟨w', s, hr, he, hs, hm, hst⟩ := run_mapEntry L hu hz a h
  refine r_op (w' := w') rfl rfl hd ?_ (h2 s w' he hs hm hst)
  simp [execOp, hx, hy, hr]
theorem r_entryStore [DecidableEq α] (L : KeyLaw P K ek) {T : TypeId} {t : TypeId} {pos : String} {aft : Array Edge} {x y u : Operand} {a : α} {s : Int} {v : β} (hx : opv f x = .map (some b)) (hy : opv f y = .int .i64 s) (hu : opv f u = ev v)
    (h : MapIs w b ek ev m) (hs : StampIs w b ek a s) (h2 : ∀ w', Evo w w' [b] → w'.heap.size = w.heap.size → MapIs w' b ek ev (setM m a v) → KL P B n ops k rest f w') :
    KL P B n ops k (⟨none, .entryStore T x y u, t, pos, aft, none⟩ :: rest) f w := by
  obtain ⟨w', hr, he, hsz, hm⟩ := run_entryStore (T := T) L v h hs
  refine r_op0 (w' := w') rfl rfl ?_ (h2 w' he hsz hm)
  simp [execOp, hx, hy, hu, hr]
end
instance : Enc (Str × Str) := ⟨2, fun x => [S x.1, S x.2], fun _ => rfl, fun _ => rfl, by decide⟩
theorem getM_of_memZ {α : Type} [DecidableEq α] : ∀ {m : List (α × Int)} {p : α × Int}, (m.map (·.1)).Nodup → p ∈ m → getM m p.1 = some p.2
  | q :: m, p, hn, hp => by
    obtain ⟨h1, h2⟩ := List.nodup_cons.1 hn
    rw [getM_cons]
    rcases List.mem_cons.1 hp with rfl | hp
    · rw [if_pos rfl]
    · rw [if_neg (fun e => h1 (by show q.1 ∈ _; rw [e]; exact List.mem_map_of_mem hp)), getM_of_memZ h2 hp]
theorem getM_mem_of {α : Type} [DecidableEq α] {m : List (α × Int)} {a : α} {v : Int} (h : getM m a = some v) : (a, v) ∈ m := by
  unfold getM at h
  cases e : m.find? (fun p => decide (p.1 = a)) with
  | none => rw [e] at h; cases h
  | some p =>
    rw [e] at h
    have h1 : p.2 = v := by simpa using h
    have h2 : p.1 = a := by simpa using List.find?_some e
    have h3 := List.mem_of_find?_eq_some e
    rw [← h1, ← h2]; exact h3
section
variable {α : Type} [DecidableEq α]
def Bump (m m2 : List (α × Int)) (a : α) (d : Int) : Prop := ∀ x, getM m2 x = if x = a then some ((getM m a).getD 0 + d) else getM m x
theorem bumpF {m : List (α × Int)} {a : α} (d : Int) : Bump m (setM (setM m a ((getM m a).getD 0)) a ((getM m a).getD 0 + d)) a d := fun x => by
  rw [getM_setM, getM_setM]
  by_cases e : x = a
  · subst e; simp
  · simp [e, Ne.symm e]
theorem bumpT {m : List (α × Int)} {a : α} (d : Int) : Bump m (setM (setM m a ((getM m a).getD 0)) a ((getM (setM m a ((getM m a).getD 0)) a).getD 0 + d)) a d := fun x => by
  rw [getM_setM, getM_setM, getM_setM, if_pos rfl]
  by_cases e : x = a
  · subst e; simp
  · simp [e, Ne.symm e]
end
section
variable {α : Type} [BEq α] [LawfulBEq α]
end
section
variable {α : Type} [DecidableEq α]
def dist (l : List α) : List α := l.foldl (fun acc x => if x ∈ acc then acc else acc ++ [x]) []
theorem dist_snoc (l : List α) (x : α) : dist (l ++ [x]) = if x ∈ dist l then dist l else dist l ++ [x] := by unfold dist; rw [List.foldl_append]; rfl
theorem dist_mem_nodup : ∀ (n : Nat) (l : List α), l.length = n → (∀ x, x ∈ dist l ↔ x ∈ l) ∧ (dist l).Nodup
  | 0, l, h => by
    have : l = [] := List.eq_nil_of_length_eq_zero h
    subst this; exact ⟨fun x => Iff.rfl, List.nodup_nil⟩
  | n + 1, l, h => by
    have hne : l ≠ [] := by intro e; subst e; simp at h
    obtain ⟨r, y, rfl⟩ : ∃ r y, l = r ++ [y] := ⟨l.dropLast, l.getLast hne, (List.dropLast_concat_getLast hne).symm⟩
    obtain ⟨h1, h2⟩ := dist_mem_nodup n r (by simpa using h)
    rw [dist_snoc]
    by_cases hy : y ∈ dist r
    · rw [if_pos hy]
      refine ⟨fun x => ?_, h2⟩
      rw [h1 x, List.mem_append]
      exact ⟨.inl, fun h => h.elim id (fun h => by have : x = y := by simpa using h
                                                   rw [this]; exact (h1 y).1 hy)⟩
    · rw [if_neg hy]
      refine ⟨fun x => by rw [List.mem_append, List.mem_append, h1 x], ?_⟩
      rw [List.nodup_append]
      exact ⟨h2, by simp, fun a ha b hb => by have : b = y := by simpa using hb
                                              rw [this]; intro e; exact hy (e ▸ ha)⟩
theorem dist_mem (l : List α) (x : α) : x ∈ dist l ↔ x ∈ l := (dist_mem_nodup _ l rfl).1 x
theorem dist_nodup (l : List α) : (dist l).Nodup := (dist_mem_nodup _ l rfl).2
end
def sumZ (l : List Int) : Int := l.foldr (· + ·) 0
theorem sumZ_cons (a : Int) (l : List Int) : sumZ (a :: l) = a + sumZ l := rfl
theorem sumZ_append : ∀ l m : List Int, sumZ (l ++ m) = sumZ l + sumZ m
  | [], m => by simp [sumZ]
  | a :: l, m => by rw [List.cons_append, sumZ_cons, sumZ_cons, sumZ_append l m]; omega
def clampI (c : Int) : Int := max (min c 1073741824) 0
def occL (l : List Gram) (p : Str × Str) : Int := sumZ (l.map (fun x => if prG x = p then clampI x.count else 0))
theorem occ_snoc {l : List Gram} {k : Nat} (hk : k < l.length) (p : Str × Str) : occL (l.take (k + 1)) p = occL (l.take k) p + if prG (l.getD k default) = p then clampI (l.getD k default).count else 0 := by
  unfold occL; rw [take_succD l k hk, List.map_append, sumZ_append]; simp [sumZ]
def OccM (l : List Gram) (m : List ((Str × Str) × Int)) : Prop := ∀ p, getM m p = if p ∈ l.map prG then some (occL l p) else none
theorem OccM.nil : OccM [] [] := fun p => by simp [getM]
theorem OccM.get {l : List Gram} {m : List ((Str × Str) × Int)} (h : OccM l m) (p : Str × Str) : (getM m p).getD 0 = occL l p := by
  rw [h p]
  by_cases hp : p ∈ l.map prG
  · rw [if_pos hp]; rfl
  · rw [if_neg hp]
    have : ∀ x ∈ l.map (fun x => if prG x = p then clampI x.count else 0), x = 0 := fun x hx => by
      obtain ⟨y, hy, rfl⟩ := List.mem_map.1 hx
      exact if_neg (fun e => hp (by rw [← e]; exact List.mem_map_of_mem hy))
    have h2 : ∀ {l : List Int}, (∀ x ∈ l, x = 0) → sumZ l = 0 := fun {l} => by
      induction l with
      | nil => intro _; rfl
      | cons a l ih => intro h; rw [sumZ_cons, h a (by simp), ih (fun x hx => h x (by simp [hx]))]; rfl
    exact (h2 this).symm
theorem OccM.step {l : List Gram} {m m2 : List ((Str × Str) × Int)} {k : Nat} (hk : k < l.length) (h : OccM (l.take k) m) (hb : Bump m m2 (prG (l.getD k default)) (clampI (l.getD k default).count)) : OccM (l.take (k + 1)) m2 := fun p => by
  rw [hb p]
  have e : (l.take (k + 1)).map prG = (l.take k).map prG ++ [prG (l.getD k default)] := by rw [take_succD l k hk, List.map_append]; rfl
  rw [e, occ_snoc hk]
  by_cases hp : p = prG (l.getD k default)
  · rw [if_pos hp, if_pos (by simp [hp]), if_pos hp.symm, ← hp, h.get]
  · have e2 : (if prG (l.getD k default) = p then clampI (l.getD k default).count else 0) = 0 := if_neg (fun q => hp q.symm)
    rw [if_neg hp, h p, e2, Int.add_zero]
    by_cases h2 : p ∈ (l.take k).map prG
    · rw [if_pos h2, if_pos (List.mem_append_left _ h2)]
    · rw [if_neg h2, if_neg (fun q => (List.mem_append.1 q).elim h2 (fun q => hp (by simpa using q)))]
def cmpI (a b : Int) : Int := if a < b then -1 else if b < a then 1 else 0
theorem cmpI_neg {a b : Int} : cmpI a b < 0 ↔ a < b := by
  unfold cmpI; split
  · simp_all
  · split <;> simp_all
theorem cmpI_zero {a b : Int} : cmpI a b = 0 ↔ a = b := by
  unfold cmpI; split
  · simp; omega
  · split
    · simp; omega
    · simp; omega
def cmpF (x y : Item) : Int := orI (cmpI x.kind y.kind) (orI (cmpS x.text y.text) (cmpI x.id y.id))
def ltF (x y : Item) : Prop := x.kind < y.kind ∨ (x.kind = y.kind ∧ (x.text < y.text ∨ (x.text = y.text ∧ x.id < y.id)))
instance (x y : Item) : Decidable (ltF x y) := by unfold ltF; infer_instance
theorem ltF_irrefl (x : Item) : ¬ ltF x x := fun h => by
  rcases h with h | ⟨_, h | ⟨_, h⟩⟩
  · omega
  · exact slt_irrefl _ h
  · omega
theorem ltF_trans {x y z : Item} (h : ltF x y) (h2 : ltF y z) : ltF x z := by
  rcases h with h | ⟨h, h'⟩ <;> rcases h2 with h2 | ⟨h2, h2'⟩
  · exact .inl ω
  · exact .inl ω
  · exact .inl ω
  · refine .inr ⟨h.trans h2, ?_⟩
    rcases h' with h' | ⟨h', h''⟩ <;> rcases h2' with h2' | ⟨h2', h2''⟩
    · exact .inl (slt_trans h' h2')
    · exact .inl (h2' ▸ h')
    · exact .inl (h' ▸ h2')
    · exact .inr ⟨h'.trans h2', by omega⟩
theorem ltF_tri {x y : Item} (h : ¬ ltF x y) (h2 : ¬ ltF y x) : x = y := by
  have e1 : x.kind = y.kind := by
    rcases Int.lt_trichotomy x.kind y.kind with q | q | q
    · exact absurd (.inl q) h
    · exact q
    · exact absurd (.inl q) h2
  have e2 : x.text = y.text := slt_tri (fun q => h (.inr ⟨e1, .inl q⟩)) (fun q => h2 (.inr ⟨e1.symm, .inl q⟩))
  have e3 : x.id = y.id := by
    rcases Int.lt_trichotomy x.id y.id with q | q | q
    · exact absurd (.inr ⟨e1, .inr ⟨e2, q⟩⟩) h
    · exact q
    · exact absurd (.inr ⟨e1.symm, .inr ⟨e2.symm, q⟩⟩) h2
  cases x; cases y; simp_all
theorem cmpF_neg {x y : Item} : cmpF x y < 0 ↔ ltF x y := by
  unfold cmpF orI ltF
  by_cases h : cmpI x.kind y.kind = 0
  · rw [if_neg (by simpa using h)]
    have e := cmpI_zero.1 h
    by_cases h2 : cmpS x.text y.text = 0
    · rw [if_neg (by simpa using h2), cmpI_neg]
      have e2 := cmpS_zero.1 h2
      constructor
      · exact fun h3 => .inr ⟨e, .inr ⟨e2, h3⟩⟩
      · rintro (h3 | ⟨_, h3 | h3⟩)
        · omega
        · exact absurd (e2 ▸ h3) (slt_irrefl _)
        · exact h3.2
    · rw [if_pos h2, cmpS_neg]
      constructor
      · exact fun h3 => .inr ⟨e, .inl h3⟩
      · rintro (h3 | ⟨_, h3 | h3⟩)
        · omega
        · exact h3
        · exact absurd (cmpS_zero.2 h3.1) h2
  · rw [if_pos h, cmpI_neg]
    constructor
    · exact fun h2 => .inl h2
    · rintro (h2 | h2)
      · exact h2
      · exact absurd (cmpI_zero.2 h2.1) h
theorem ltOf_F (x y : Item) : Go.Proofs.ltOf cmpF x y = decide (ltF x y) := by unfold Go.Proofs.ltOf; exact decide_eq_decide.2 cmpF_neg
theorem swo_F : Go.Sort.SWO (Go.Proofs.ltOf cmpF) where
  irrefl x := by rw [ltOf_F]; simpa using ltF_irrefl _
  trans x y z h1 h2 := by rw [ltOf_F] at *; simp only [decide_eq_true_eq] at *; exact ltF_trans h1 h2
  ntrans x y z h1 h2 := by
    rw [ltOf_F] at *
    simp only [decide_eq_false_iff_not] at *
    intro h3
    by_cases h4 : ltF y x
    · exact h2 (ltF_trans h4 h3)
    · have e := ltF_tri h1 h4
      rw [e] at h3; exact h2 h3
def SrtF (l : List Item) : Prop := l.Pairwise (fun x y => ¬ ltF y x)
def putF : List Item → Item → List Item
  | [], x => [x]
  | y :: l, x => if ltF x y then x :: y :: l else y :: putF l x
theorem putF_perm : ∀ (l : List Item) (x : Item), (putF l x).Perm (x :: l)
  | [], x => List.Perm.refl _
  | y :: l, x => by
    unfold putF; split
    · exact List.Perm.refl _
    · exact ((putF_perm l x).cons y).trans (List.Perm.swap x y l)
theorem putF_mem {l : List Item} {x z : Item} : z ∈ putF l x ↔ z = x ∨ z ∈ l := by rw [(putF_perm l x).mem_iff, List.mem_cons]
theorem putF_srt : ∀ {l : List Item} {x : Item}, SrtF l → SrtF (putF l x)
  | [], x, _ => List.pairwise_singleton _ _
  | y :: l, x, h => by
    obtain ⟨h1, h2⟩ := List.pairwise_cons.1 h
    unfold putF; split
    · rename_i hx
      refine List.pairwise_cons.2 ⟨fun z hz => ?_, h⟩
      rcases List.mem_cons.1 hz with rfl | hz
      · exact fun q => ltF_irrefl _ (ltF_trans hx q)
      · exact fun q => h1 z hz (ltF_trans q hx)
    · rename_i hx
      refine List.pairwise_cons.2 ⟨fun z hz => ?_, putF_srt h2⟩
      rcases putF_mem.1 hz with rfl | hz
      · exact hx
      · exact h1 z hz
def putsF (l xs : List Item) : List Item := xs.foldl putF l
theorem putsF_perm : ∀ (xs l : List Item), (putsF l xs).Perm (l ++ xs)
  | [], l => by rw [List.append_nil]; exact List.Perm.refl _
  | x :: xs, l => by
    refine (putsF_perm xs (putF l x)).trans ?_
    refine ((putF_perm l x).append_right xs).trans ?_
    exact List.perm_middle.symm
theorem putsF_srt : ∀ (xs : List Item) {l : List Item}, SrtF l → SrtF (putsF l xs)
  | [], _, h => h
  | _ :: xs, _, h => putsF_srt xs (putF_srt h)
def sortF (xs : List Item) : List Item := putsF [] xs
theorem sortF_perm (xs : List Item) : (sortF xs).Perm xs := putsF_perm xs []
theorem sortF_srt (xs : List Item) : SrtF (sortF xs) := putsF_srt xs List.Pairwise.nil
theorem srtF_unique {l l' : List Item} (h : SrtF l) (h' : SrtF l') (hp : l.Perm l') : l = l' :=
  hp.eq_of_pairwise (fun a b _ _ h1 h2 => ltF_tri h2 h1) h h'
theorem sortF_of {l l' : List Item} (h : SortR (Go.Proofs.ltOf cmpF) l l') {xs : List Item} (hp : l.Perm xs) : l' = sortF xs := by
  refine srtF_unique ?_ (sortF_srt xs) ((h.1.trans hp).trans (sortF_perm xs).symm)
  refine h.2.imp (fun {a b} q => ?_)
  rw [ltOf_F] at q; simpa using q
theorem srtF_filter {l : List Item} (p : Item → Bool) (h : SrtF l) : SrtF (l.filter p) := h.filter p
theorem sortF_filter (xs : List Item) (p : Item → Bool) : (sortF xs).filter p = sortF (xs.filter p) :=
  srtF_unique (srtF_filter p (sortF_srt xs)) (sortF_srt _) (((sortF_perm xs).filter p).trans (sortF_perm _).symm)
section
variable {α : Type} [DecidableEq α]
def dif (s t : List α) (x : α) : Int := ((t.count x : Nat) : Int) - ((s.count x : Nat) : Int)
def CntG (ps qs : List α) (m : List (α × Int)) : Prop := ∀ x, getM m x = if x ∈ ps ∨ x ∈ qs then some (dif qs ps x) else none
theorem CntG.nil : CntG ([] : List α) [] [] := fun x => by simp [getM]
theorem dif_out {ps qs : List α} {x : α} (h : ¬ (x ∈ ps ∨ x ∈ qs)) : dif qs ps x = 0 := by
  unfold dif; rw [List.count_eq_zero.2 (fun q => h (.inl q)), List.count_eq_zero.2 (fun q => h (.inr q))]; rfl
theorem CntG.get {ps qs : List α} {m : List (α × Int)} (h : CntG ps qs m) (x : α) : (getM m x).getD 0 = dif qs ps x := by
  rw [h x]
  by_cases hx : x ∈ ps ∨ x ∈ qs
  · rw [if_pos hx]; rfl
  · rw [if_neg hx, dif_out hx]; rfl
theorem CntG.inc {ps qs : List α} {m m2 : List (α × Int)} {a : α} (h : CntG ps qs m) (hb : Bump m m2 a 1) : CntG (ps ++ [a]) qs m2 := fun x => by
  rw [hb x]
  by_cases e : x = a
  · subst e
    rw [if_pos rfl, if_pos (.inl (by simp)), h.get]
    unfold dif; rw [List.count_append]; simp; omega
  · rw [if_neg e, h x]
    have e2 : (ps ++ [a]).count x = ps.count x := by rw [List.count_append, List.count_singleton]; simp [Ne.symm e]
    have e3 : (x ∈ ps ++ [a] ∨ x ∈ qs) ↔ (x ∈ ps ∨ x ∈ qs) := by simp [e]
    unfold dif; rw [e2]
    by_cases hx : x ∈ ps ∨ x ∈ qs
    · rw [if_pos hx, if_pos (e3.2 hx)]
    · rw [if_neg hx, if_neg (fun q => hx (e3.1 q))]
theorem CntG.dec {ps qs : List α} {m m2 : List (α × Int)} {a : α} (h : CntG ps qs m) (hb : Bump m m2 a (-1)) : CntG ps (qs ++ [a]) m2 := fun x => by
  rw [hb x]
  by_cases e : x = a
  · subst e
    rw [if_pos rfl, if_pos (.inr (by simp)), h.get]
    unfold dif; rw [List.count_append]; simp; omega
  · rw [if_neg e, h x]
    have e2 : (qs ++ [a]).count x = qs.count x := by rw [List.count_append, List.count_singleton]; simp [Ne.symm e]
    have e3 : (x ∈ ps ∨ x ∈ qs ++ [a]) ↔ (x ∈ ps ∨ x ∈ qs) := by simp [e]
    unfold dif; rw [e2]
    by_cases hx : x ∈ ps ∨ x ∈ qs
    · rw [if_pos hx, if_pos (e3.2 hx)]
    · rw [if_neg hx, if_neg (fun q => hx (e3.1 q))]
theorem dif_bd (s t : List α) (x : α) : -(s.length : Int) ≤ dif s t x ∧ dif s t x ≤ (t.length : Int) := by
  have h1 := List.count_le_length (a := x) (l := s)
  have h2 := List.count_le_length (a := x) (l := t)
  unfold dif; omega
def DifM (s t : List α) (m : List (α × Int)) : Prop := (m.map (·.1)).Nodup ∧ ∀ p, p ∈ m ↔ (p.2 = dif s t p.1 ∧ dif s t p.1 ≠ 0)
theorem DifM.len {s t : List α} {m : List (α × Int)} (h : DifM s t m) : m.length ≤ t.length + s.length := by
  have h1 := List.Nodup.length_le_of_subset h.1 (l₂ := t ++ s) (fun x hx => by
    obtain ⟨p, hp, rfl⟩ := List.mem_map.1 hx
    have h2 := ((h.2 p).1 hp).2
    rcases Classical.em (p.1 ∈ t ∨ p.1 ∈ s) with q | q
    · exact List.mem_append.2 q
    · exact absurd (dif_out q) h2)
  rw [List.length_map, List.length_append] at h1; exact h1
structure DelI (s t : List α) (m left : List (α × Int)) : Prop where
  nd : (m.map (·.1)).Nodup
  ndl : (left.map (·.1)).Nodup
  val : ∀ p ∈ m, p.2 = dif s t p.1
  has : ∀ x, dif s t x ≠ 0 → (x, dif s t x) ∈ m
  zer : ∀ p ∈ m, p.2 = 0 → p ∈ left
  sub : ∀ p ∈ left, p ∈ m
theorem CntG.mem {ps qs : List α} {m : List (α × Int)} (h : CntG ps qs m) (hn : (m.map (·.1)).Nodup) : DelI qs ps m m where
  nd := hn
  ndl := hn
  val p hp := by
    have h1 := getM_of_memZ hn hp
    rw [h] at h1
    split at h1
    · injection h1 with h1; exact h1.symm
    · cases h1
  has x hx := getM_mem_of (by rw [h x, if_pos (Classical.not_not.1 (fun q => hx (dif_out q)))])
  zer p hp _ := hp
  sub p hp := hp
theorem DelI.keep {s t : List α} {m l1 l2 : List (α × Int)} {p : α × Int} (h : DelI s t m (l1 ++ p :: l2)) (hz : ¬ p.2 = 0) : DelI s t m (l1 ++ l2) where
  nd := h.nd
  ndl := h.ndl.sublist (by simp)
  val := h.val
  has := h.has
  zer q hq h0 := by
    have h1 := h.zer q hq h0
    rcases List.mem_append.1 h1 with h2 | h2
    · exact List.mem_append_left _ h2
    · rcases List.mem_cons.1 h2 with h3 | h3
      · exact absurd (h3 ▸ h0) hz
      · exact List.mem_append_right _ h3
  sub q hq := h.sub q (by rcases List.mem_append.1 hq with h2 | h2; exact List.mem_append_left _ h2; exact List.mem_append_right _ (List.mem_cons_of_mem _ h2))
theorem mem_delM {m : List (α × Int)} {a : α} {p : α × Int} : p ∈ delM m a ↔ p ∈ m ∧ p.1 ≠ a := by unfold delM; rw [List.mem_filter]; simp
theorem DelI.strike {s t : List α} {m l1 l2 : List (α × Int)} {p : α × Int} (h : DelI s t m (l1 ++ p :: l2)) (hz : p.2 = 0) : DelI s t (delM m p.1) (l1 ++ l2) := by
  have hpm : p ∈ m := h.sub p (by simp)
  have hsub : ∀ q ∈ l1 ++ l2, q ∈ l1 ++ p :: l2 := fun q hq => by rcases List.mem_append.1 hq with h2 | h2; exact List.mem_append_left _ h2; exact List.mem_append_right _ (List.mem_cons_of_mem _ h2)
  have hne : ∀ q ∈ l1 ++ l2, q.1 ≠ p.1 := fun q hq e => by
    have h1 := h.ndl
    rw [List.map_append, List.map_cons] at h1
    have h2 := (List.perm_middle (a := p.1) (l₁ := l1.map (·.1)) (l₂ := l2.map (·.1))).nodup_iff.1 h1
    have h3 := (List.nodup_cons.1 h2).1
    exact h3 (by rw [← List.map_append, ← e]; exact List.mem_map_of_mem hq)
  refine ⟨h.nd.sublist (List.Sublist.map _ List.filter_sublist), h.ndl.sublist (by simp), fun q hq => h.val q (mem_delM.1 hq).1, fun x hx => ?_, fun q hq h0 => ?_, fun q hq => ?_⟩
  · refine mem_delM.2 ⟨h.has x hx, fun e => hx ?_⟩
    have h1 := h.val p hpm
    have e' : x = p.1 := e
    rw [e', ← h1]; exact hz
  · obtain ⟨h1, h2⟩ := mem_delM.1 hq
    have h3 := h.zer q h1 h0
    rcases List.mem_append.1 h3 with h4 | h4
    · exact List.mem_append_left _ h4
    · rcases List.mem_cons.1 h4 with h5 | h5
      · exact absurd (by rw [h5]) h2
      · exact List.mem_append_right _ h5
  · exact mem_delM.2 ⟨h.sub q (hsub q hq), hne q hq⟩
theorem DelI.done {s t : List α} {m : List (α × Int)} (h : DelI s t m []) : DifM s t m := ⟨h.nd, fun p => ⟨fun hp => ⟨h.val p hp, fun h0 => by
  have := h.zer p hp (by rw [h.val p hp]; exact h0)
  cases this⟩, fun hp => by have := h.has p.1 hp.2; rw [← hp.1] at this; exact this⟩⟩
def difs (u : List α) (s t : List α) (f : α → Int → Item) : List Item := (u.filter (fun x => decide (dif s t x ≠ 0))).map (fun x => f x (dif s t x))
theorem nodup_of_map {β γ : Type} (f : β → γ) {l : List β} (h : (l.map f).Nodup) : l.Nodup := by
  unfold List.Nodup at *; rw [List.pairwise_map] at h; exact h.imp (fun hne e => hne (by rw [e]))
theorem difs_perm {u s t : List α} {m : List (α × Int)} (h : DifM s t m) (hn : u.Nodup) (hu : ∀ x, x ∈ t ∨ x ∈ s → x ∈ u) (f : α → Int → Item) : (m.map (fun p => f p.1 p.2)).Perm (difs u s t f) := by
  have h1 : m.Perm ((u.filter (fun x => decide (dif s t x ≠ 0))).map (fun x => (x, dif s t x))) := by
    refine (List.perm_ext_iff_of_nodup ?_ ?_).2 (fun p => ?_)
    · exact nodup_of_map (fun q : α × Int => q.1) h.1
    · refine nodup_of_map (fun q : α × Int => q.1) ?_
      rw [List.map_map, show ((fun q : α × Int => q.1) ∘ fun x => (x, dif s t x)) = id from rfl, List.map_id]
      exact hn.filter _
    · rw [h.2 p, List.mem_map]
      constructor
      · rintro ⟨h2, h3⟩
        refine ⟨p.1, List.mem_filter.2 ⟨hu _ (Classical.not_not.1 (fun q => h3 (dif_out q))), by simpa using h3⟩, ?_⟩
        rw [← h2]
      · rintro ⟨x, hx, rfl⟩
        exact ⟨rfl, by simpa using (List.mem_filter.1 hx).2⟩
  have h2 := h1.map (fun p => f p.1 p.2)
  rw [List.map_map] at h2; exact h2
theorem difs_len (u s t : List α) (f : α → Int → Item) : (difs u s t f).length ≤ u.length := by unfold difs; rw [List.length_map]; exact List.length_filter_le _ _
theorem difs_nil {u s t : List α} {f : α → Int → Item} (h : ∀ x, dif s t x = 0) : difs u s t f = [] := by unfold difs; rw [List.filter_eq_nil_iff.2 (fun x _ => by simp [h x])]; rfl
end
end Go.Vc
namespace Go.Proofs.YtlfjocbnbceceaaGreatDoor
open Go Go.RowKit Go.Vc
theorem fLen_mem {l : List Vc.Item} {x : Vc.Item} (h : x ∈ l) : x.text.length ≤ fLen l := by
  induction l with
  | nil => cases h
  | cons y l ih =>
    have e : fLen (y :: l) = y.text.length + fLen l := by simp [fLen]
    rcases List.mem_cons.1 h with rfl | h
    · omega
    · have := ih h; omega
theorem cutT_text : ∀ (n : Nat) (s : Str), s.length = n → ∀ x ∈ cutT s, x.text.length ≤ s.length := by
  intro n
  induction n using Nat.strongRecOn with
  | ind n ih =>
    intro s hs x hx
    by_cases h : s = []
    · subst h; rw [cutT_nil] at hx; cases hx
    · have h1 := tokN_pos s
      have h2 : 0 < s.length := List.length_pos_iff.2 h
      rw [cutT_cons h] at hx
      rcases List.mem_cons.1 hx with rfl | hx
      · show (s.take _).length ≤ _; rw [List.length_take]; omega
      · have h3 := ih _ (by rw [← hs]; show (s.drop (tokN s).2).length < s.length; rw [List.length_drop]; omega) (s.drop (tokN s).2) rfl x hx
        rw [List.length_drop] at h3; omega
theorem toks_text {f : List Vc.Item} {x : Vc.Item} (h : x ∈ toks f) : x.text.length ≤ fLen f := by
  unfold toks at h
  obtain ⟨y, hy, hx⟩ := List.mem_flatMap.1 h
  have h1 := fLen_mem hy
  unfold tokI at hx
  split at hx
  · have := cutT_text _ y.text rfl x hx; omega
  · split at hx
    · have : x = y := by simpa using hx
      rw [this]; exact h1
    · cases hx
end Go.Proofs.YtlfjocbnbceceaaGreatDoor
