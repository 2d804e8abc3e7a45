/-
  Library, plain laws and walks that the statements reach (joined by a program out of smaller texts).
-/
import Derived.Test.YtkklomiipkipnaaGreatDoorUf
import Derived.Test.YtkklomiipkipnaaGreatDoorUd
import Derived.Test.YtkklomiipkipnaaGreatDoorUb
import Derived.Lib.Bytealg
import Derived.Test.YtkklomiipkipnaaGreatDoorShf
namespace Go.Proofs.YtkklomiipkipnaaGreatDoor
open Go Go.RowKit Go.Vc
structure Spt where
  t : Int
  fr : Int
  to : Int
deriving DecidableEq, Inhabited
instance : Enc Spt := ⟨3, fun x => [.int .i64 x.t, .int .i64 x.fr, .int .i64 x.to], fun _ => rfl, fun _ => rfl, by decide⟩
section
variable (l : List Vc.Item)
theorem chainFG : ∀ (ss : List (List Str)) (i e : Int), i < l.length → (i < 0 ∨ isW (l.getD i.toNat default)) → chainF l i e ss = chainG l i e ss
  | [], _, _, _, _ => rfl
  | s :: r, i, e, hl, h => by
    by_cases h0 : i < 0
    · rw [chain_neg h0, chainG_no (.inl (.inl h0))]
    · have hw : isW (l.getD i.toNat default) := h.resolve_left h0
      by_cases h2 : lowS (l.getD i.toNat default).text ∈ s
      · rw [chain_go h0 h2, chainG_go (by rintro ((q | q) | q); exact h0 q; exact q hw; exact q h2)]
        rcases nextT_bd (l := l) (i := i.toNat) (by omega) with h3 | ⟨h3, h4, h5⟩
        · exact chainFG r _ _ (by omega) (.inl (by omega))
        · exact chainFG r _ _ h4 (.inr h5)
      · rw [chain_no h0 h2, chainG_no (.inr h2)]
theorem chainG_bd : ∀ (ss : List (List Str)) (i e : Int), i < l.length → chainG l i e ss = -1 ∨ chainG l i e ss = e ∨ (i + 1 ≤ chainG l i e ss ∧ chainG l i e ss ≤ l.length)
  | [], _, _, _ => .inr (.inl rfl)
  | s :: r, i, e, hl => by
    by_cases h : (i < 0 ∨ ¬ isW (l.getD i.toNat default)) ∨ ¬ lowS (l.getD i.toNat default).text ∈ s
    · exact .inl (chainG_no h)
    · rw [chainG_go h]
      have h0 : ¬ i < 0 := fun q => h (.inl (.inl q))
      rcases nextT_bd (l := l) (i := i.toNat) (by omega) with h3 | ⟨h3, h4, h5⟩
      · rcases chainG_bd r (nextT l i.toNat) (i + 1) (by omega) with h6 | h6 | ⟨h6, h7⟩
        · exact .inl h6
        · exact .inr (.inr ⟨by omega, by omega⟩)
        · cases r with
          | nil => exact .inr (.inr ⟨by show i + 1 ≤ i + 1; omega, by show i + 1 ≤ _; omega⟩)
          | cons s2 r2 => exact .inl (chainG_no (.inl (.inl (by omega))))
      · rcases chainG_bd r (nextT l i.toNat) (i + 1) h4 with h6 | h6 | ⟨h6, h7⟩
        · exact .inl h6
        · exact .inr (.inr ⟨by omega, by omega⟩)
        · exact .inr (.inr ⟨by omega, h7⟩)
def cT (i : Nat) (ss : List (List Str)) : Int := chainG l i (-1) ss
theorem cT_no {i : Nat} (h : ¬ isW (l.getD i default)) (ss : List (List Str)) : cT l i ss = -1 := by
  unfold cT
  cases ss with
  | nil => rfl
  | cons s r => exact chainG_no (.inl (.inr (by simpa using h)))
theorem cT_bd {i : Nat} (hi : i < l.length) (ss : List (List Str)) : cT l i ss = -1 ∨ ((i : Int) + 1 ≤ cT l i ss ∧ cT l i ss ≤ l.length) := by
  rcases chainG_bd l ss i (-1) (by omega) with h | h | h
  · exact .inl h
  · exact .inl h
  · exact .inr h
variable (fs : List (List (List Str)))
def longer (o : Option (Nat × Int)) (k : Nat) : Bool := o.all fun q => decide ((fs.getD q.1 default).length < (fs.getD k default).length)
def bestK (i : Nat) : Nat → Option (Nat × Int)
  | 0 => none
  | k + 1 => if 0 ≤ cT l i (fs.getD k default) ∧ longer fs (bestK i k) k = true then some (k, cT l i (fs.getD k default)) else bestK i k
theorem best_yes {i k : Nat} (h : 0 ≤ cT l i (fs.getD k default) ∧ longer fs (bestK l fs i k) k = true) : bestK l fs i (k + 1) = some (k, cT l i (fs.getD k default)) := if_pos h
theorem best_no {i k : Nat} (h : ¬ (0 ≤ cT l i (fs.getD k default) ∧ longer fs (bestK l fs i k) k = true)) : bestK l fs i (k + 1) = bestK l fs i k := if_neg h
theorem best_none {i : Nat} (h : ¬ isW (l.getD i default)) : ∀ k, bestK l fs i k = none
  | 0 => rfl
  | k + 1 => by rw [best_no l fs (by rw [cT_no l h]; omega)]; exact best_none h k
theorem best_bd {i : Nat} (hi : i < l.length) : ∀ (k : Nat) (q : Nat × Int), bestK l fs i k = some q → q.1 < k ∧ (i : Int) + 1 ≤ q.2 ∧ q.2 ≤ l.length ∧ q.2 = cT l i (fs.getD q.1 default)
  | 0, q, h => by cases h
  | k + 1, q, h => by
    by_cases h1 : 0 ≤ cT l i (fs.getD k default) ∧ longer fs (bestK l fs i k) k = true
    · rw [best_yes l fs h1] at h
      cases h
      rcases cT_bd l hi (fs.getD k default) with h2 | h2
      · omega
      · exact ⟨Nat.lt_succ_self _, h2.1, h2.2, rfl⟩
    · rw [best_no l fs h1] at h
      have := best_bd hi k q h
      exact ⟨by omega, this.2⟩
def bestI (o : Option (Nat × Int)) : Int × Int := match o with | none => (-1, -1) | some q => ((q.1 : Int), q.2)
def bestF (i : Nat) (o : Option (Nat × Int)) : Int := match o with | none => 0 | some _ => (i : Int)
def bestE (o : Option (Nat × Int)) : Int := match o with | none => 0 | some q => q.2
theorem longer_iff (o : Option (Nat × Int)) (k : Nat) : longer fs o k = true ↔ ((bestI o).1 < 0 ∨ (fs.getD (bestI o).1.toNat default).length < (fs.getD k default).length) := by
  cases o with
  | none => simp [longer, bestI]
  | some q =>
    have h : ¬ ((q.1 : Nat) : Int) < 0 := by omega
    simp only [longer, bestI, Option.all_some, decide_eq_true_eq, h, false_or, Int.toNat_natCast]
def spotsG : Nat → Nat → List Spt
  | 0, _ => []
  | n + 1, i => match bestK l fs i fs.length with
    | none => spotsG n (i + 1)
    | some q => ⟨(q.1 : Int), i, q.2⟩ :: spotsG n q.2.toNat
def spotsF (i : Nat) : List Spt := spotsG l fs (l.length - i) i
theorem spotsG_out : ∀ (n i : Nat), l.length ≤ i → spotsG l fs n i = []
  | 0, _, _ => rfl
  | n + 1, i, h => by
    have hb := best_none l fs (i := i) (by rw [List.getD_eq_getElem?_getD, List.getElem?_eq_none h]; decide) fs.length
    unfold spotsG
    rw [hb]
    exact spotsG_out n (i + 1) (by omega)
theorem spotsG_more : ∀ (n m i : Nat), l.length - i ≤ n → l.length - i ≤ m → spotsG l fs n i = spotsG l fs m i
  | 0, m, i, h1, h2 => by rw [spotsG_out l fs 0 i (by omega), spotsG_out l fs m i (by omega)]
  | n + 1, 0, i, h1, h2 => by rw [spotsG_out l fs _ i (by omega), spotsG_out l fs _ i (by omega)]
  | n + 1, m + 1, i, h1, h2 => by
    rcases Nat.lt_or_ge i l.length with hi | hi
    · unfold spotsG
      cases hb : bestK l fs i fs.length with
      | none => exact spotsG_more n m (i + 1) (by omega) (by omega)
      | some q =>
        have h3 := best_bd l fs hi _ _ hb
        exact congrArg _ (spotsG_more n m q.2.toNat (by omega) (by omega))
    · rw [spotsG_out l fs _ i hi, spotsG_out l fs _ i hi]
theorem spots_none {i : Nat} (hi : i < l.length) (h : bestK l fs i fs.length = none) : spotsF l fs i = spotsF l fs (i + 1) := by
  unfold spotsF
  obtain ⟨n, hn⟩ : ∃ n, l.length - i = n + 1 := ⟨l.length - i - 1, by omega⟩
  rw [hn]
  conv => lhs; unfold spotsG
  rw [h]
  exact spotsG_more l fs _ _ _ (by omega) (by omega)
theorem spots_some {i : Nat} (hi : i < l.length) {q : Nat × Int} (h : bestK l fs i fs.length = some q) : spotsF l fs i = ⟨(q.1 : Int), i, q.2⟩ :: spotsF l fs q.2.toNat := by
  have h3 := best_bd l fs hi _ _ h
  unfold spotsF
  obtain ⟨n, hn⟩ : ∃ n, l.length - i = n + 1 := ⟨l.length - i - 1, by omega⟩
  rw [hn]
  conv => lhs; unfold spotsG
  rw [h]
  exact congrArg _ (spotsG_more l fs _ _ _ (by omega) (by omega))
theorem spots_end {i : Nat} (h : l.length ≤ i) : spotsF l fs i = [] := spotsG_out l fs _ i h
end
theorem bestI_none {o : Option (Nat × Int)} (h : (bestI o).1 < 0) : o = none := by
  cases o with
  | none => rfl
  | some q => exact absurd h (by show ¬ ((q.1 : Nat) : Int) < 0; omega)
end Go.Proofs.YtkklomiipkipnaaGreatDoor
namespace Go.Proofs.YtkklomiipkipnaaGreatDoor
open Go.RowKit Go.Vc
theorem ag_39 : aggP Tryz.prog 39 = some false := by kernel_rfl
theorem ag_60 : aggP Tryz.prog 60 = some true := by kernel_rfl
theorem fo_42_0 : fieldP Tryz.prog 42 0 = some 0 := by kernel_rfl
theorem ty_60 : tyP Tryz.prog 60 = some (2, 32, some (.agg #[(.string ⟨#[]⟩), (.string ⟨#[]⟩)])) := by kernel_rfl
def formsT (c : List Clas) (ws : List Ende) : List (List Str) := ws.map (fun y => formsC c y.strip y.add)
theorem formsT_succ {c : List Clas} {ws : List Ende} {k : Nat} (hk : k < ws.length) : formsT c (ws.take (k + 1)) = formsT c (ws.take k) ++ [formsC c (ws.getD k default).strip (ws.getD k default).add] := by
  unfold formsT; rw [take_succD ws k hk, List.map_append]; rfl
theorem formsT_len (c : List Clas) (ws : List Ende) : (formsT c ws).length = ws.length := by unfold formsT; rw [List.length_map]
theorem ende_getD {ws : List Ende} (h : ∀ y ∈ ws, BdE y) (k : Nat) : BdE (ws.getD k default) := by
  rcases Nat.lt_or_ge k ws.length with h1 | h1
  · exact h _ (getD_in h1)
  · rw [List.getD_eq_getElem?_getD, List.getElem?_eq_none h1]; exact ⟨Nat.zero_le _, Nat.zero_le _⟩
end Go.Proofs.YtkklomiipkipnaaGreatDoor
namespace Go.Proofs.YtkklomiipkipnaaGreatDoor
open Go.RowKit Go.Vc
theorem ag_42 : aggP Tryz.prog 42 = some true := by kernel_rfl
theorem pl_36 : placesP Tryz.prog 36 = some [(0, 1), (1, 1), (2, 1)] := by kernel_rfl
theorem ty_36 : tyP Tryz.prog 36 = some (3, 24, some (.agg #[(.int .i64 0), (.int .i64 0), (.int .i64 0)])) := by kernel_rfl
theorem ty_42 : tyP Tryz.prog 42 = some (3, 72, some (.agg #[(.slice none 0 0), (.slice none 0 0), (.slice none 0 0)])) := by kernel_rfl
def fsT (c : List Clas) (ts : List TermL) : List (List (List Str)) := ts.map (fun t => formsT c t.words)
theorem fsT_len (c : List Clas) (ts : List TermL) : (fsT c ts).length = ts.length := by unfold fsT; rw [List.length_map]
theorem fsT_get {c : List Clas} {ts : List TermL} {k : Nat} (h : k < ts.length) : (fsT c ts).getD k default = formsT c (ts.getD k default).words := by
  unfold fsT; simp [List.getD, h]
theorem fsT_glen {c : List Clas} {ts : List TermL} {k : Nat} (h : k < ts.length) : ((fsT c ts).getD k default).length = (ts.getD k default).words.length := by rw [fsT_get h, formsT_len]
theorem termD_bd {ts : List TermL} (h : ∀ x ∈ ts, x.words.length ≤ 4398046510976 ∧ ∀ y ∈ x.words, BdE y) (k : Nat) : (ts.getD k default).words.length ≤ 4398046510976 ∧ ∀ y ∈ (ts.getD k default).words, BdE y := by
  rcases Nat.lt_or_ge k ts.length with h1 | h1
  · exact h _ (getD_in h1)
  · rw [List.getD_eq_getElem?_getD, List.getElem?_eq_none h1]; exact ⟨Nat.zero_le _, fun y hy => by cases hy⟩
theorem bestI_lt {l : List Vc.Item} {fs : List (List (List Str))} {i k n : Nat} (hi : i < l.length) (hk : k ≤ n) (hn : 0 < n) : (bestI (bestK l fs i k)).1.toNat < n := by
  cases h : bestK l fs i k with
  | none => exact hn
  | some q => have := (best_bd l fs hi k q h).1; show ((q.1 : Nat) : Int).toNat < n; omega
theorem bestI_bd {l : List Vc.Item} {fs : List (List (List Str))} {i k : Nat} (hi : i < l.length) : -1 ≤ (bestI (bestK l fs i k)).1 ∧ (bestI (bestK l fs i k)).1 < (k : Int) + 0 ∨ (bestI (bestK l fs i k)).1 = -1 := by
  cases h : bestK l fs i k with
  | none => exact .inr rfl
  | some q => have := (best_bd l fs hi k q h).1; exact .inl ⟨by show -1 ≤ ((q.1 : Nat) : Int); omega, by show ((q.1 : Nat) : Int) < _; omega⟩
end Go.Proofs.YtkklomiipkipnaaGreatDoor
namespace Go.Proofs.YtkklomiipkipnaaGreatDoor
open Go.RowKit Go.Vc
theorem ag_36 : aggP Tryz.prog 36 = some true := by kernel_rfl
theorem ag_75 : aggP Tryz.prog 75 = some false := by kernel_rfl
theorem fo_36_0 : fieldP Tryz.prog 36 0 = some 0 := by kernel_rfl
theorem fo_36_2 : fieldP Tryz.prog 36 2 = some 2 := by kernel_rfl
theorem ty_75 : tyP Tryz.prog 75 = some (1, 24, some (.slice none 0 0)) := by kernel_rfl
theorem ps_cond {l : List Vc.Item} {c : List Clas} {ts : List TermL} {i k : Nat} (hi : i < l.length) (hk : k < ts.length) {e : Int} (he : e = cT l i ((fsT c ts).getD k default)) : (0 ≤ e ∧ ((bestI (bestK l (fsT c ts) i k)).1 < 0 ∨ (((ts.getD (bestI (bestK l (fsT c ts) i k)).1.toNat default).words.length : Nat) : Int) < ((((formsT c (ts.getD k default).words).map SetS.mk).length : Nat) : Int))) ↔ (0 ≤ cT l i ((fsT c ts).getD k default) ∧ longer (fsT c ts) (bestK l (fsT c ts) i k) k = true) := by
  have hb := bestI_lt (l := l) (fs := fsT c ts) (i := i) (k := k) (n := ts.length) hi (by omega) (by omega)
  rw [longer_iff, fsT_glen hb, fsT_glen hk, List.length_map, formsT_len, he]
  omega
theorem set_one (w : World) (cs : List Value) (x : SetS) (h : Rep.rep w cs x) : oneCells cs = true := by obtain ⟨b, rfl, _⟩ := h; rfl
section
variable {l : List Vc.Item} {fs : List (List (List Str))} {i to9 : Nat}
theorem spots_skip (hi : i < l.length) (h : (i : Int) < (to9 : Int) ∨ ¬ isW (l.getD i default)) : spotsF l fs (max i to9) = spotsF l fs (max (i + 1) to9) := by
  by_cases h1 : i < to9
  · rw [show max i to9 = max (i + 1) to9 by omega]
  · have h2 : ¬ isW (l.getD i default) := h.resolve_left (by omega)
    rw [show max i to9 = i by omega, show max (i + 1) to9 = i + 1 by omega]
    exact spots_none l fs hi (best_none l fs h2 _)
theorem spots_nob (hi : i < l.length) (h : ¬ ((i : Int) < (to9 : Int) ∨ ¬ isW (l.getD i default))) (hb : bestK l fs i fs.length = none) : spotsF l fs (max i to9) = spotsF l fs (max (i + 1) to9) := by
  have h1 : ¬ (i : Int) < (to9 : Int) := fun q => h (.inl q)
  rw [show max i to9 = i by omega, show max (i + 1) to9 = i + 1 by omega]
  exact spots_none l fs hi hb
theorem spots_yes (hi : i < l.length) (h : ¬ ((i : Int) < (to9 : Int) ∨ ¬ isW (l.getD i default))) {q : Nat × Int} (hb : bestK l fs i fs.length = some q) : spotsF l fs (max i to9) = ⟨(q.1 : Int), (i : Int), q.2⟩ :: spotsF l fs (max (i + 1) q.2.toNat) := by
  have h1 : ¬ (i : Int) < (to9 : Int) := fun q => h (.inl q)
  have h3 := best_bd l fs hi _ _ hb
  rw [show max i to9 = i by omega, show max (i + 1) q.2.toNat = q.2.toNat by omega]
  exact spots_some l fs hi hb
theorem bestC_some {o : Option (Nat × Int)} (h : ¬ (bestI o).1 < 0) : ∃ q, o = some q ∧ (bestI o).1 = (q.1 : Int) ∧ bestF i o = (i : Int) ∧ bestE o = q.2 := by
  cases o with
  | none => exact absurd (show (-1 : Int) < 0 by decide) h
  | some q => exact ⟨q, rfl, rfl, rfl, rfl⟩
end
set_option maxHeartbeats 1000000 in
theorem spots_calls {aot : Option Addr} {btt offt capt : Nat} {ts : List TermL} {ao : Option Addr} {b off cap : Nat} {c : List Clas} {aol : Option Addr} {bl offl capl : Nat} {l : List Vc.Item} {w0 : World} (ht : RowR w0 aot btt offt capt ts) (hc : RowR w0 ao b off cap c) (hl : RowE w0 aol bl offl capl l) (hq : ∀ x ∈ l, x.text.length ≤ 140737488355328) (hzl : l.length ≤ 4398046510976) (hzt : ts.length ≤ 1954687338760) :
    Calls Tryz.prog 16 #[.slice aot ts.length capt, .slice ao c.length cap, .slice aol l.length capl] w0 fun e w' => ∃ v, e = .returned v ∧ Evo w0 w' [] ∧ OwnE w' w0.heap.size 36 v (spotsF l (fsT c ts) 0) := by
 have hcb := clas_bd hc; have htb := term_bd ht
 refine calls_enter (n := 114) (args := [.slice aot ts.length capt, .slice ao c.length cap, .slice aol l.length capl]) Tryz.func16 rfl Tryz.ntmps16 rfl ?_
 have hV : Evo w0 w0 [] := Evo.refl _ _
 have ht0 := ht.keep
 have hbd_ht := ht.bd
 have hc0 := hc.keep
 have hbd_hc := hc.bd
 have hl0 := keepE hl
 have hbd_hl := hl.bd
 refine r_seq ?_
 refine r_region ?_
 refine r_op rfl rfl rfl (run_asg (v := .slice _ _ _) rfl (by exact rfl)) ?_
 refine r_nil ?_
 refine r_scope ?_
 refine r_seq ?_
 refine r_region ?_
 refine r_op rfl rfl rfl (run_mv (v := .slice _ _ _) rfl (by exact rfl)) ?_
 refine r_op rfl rfl rfl (run_lenSl rfl (by exact rfl) Tryz.underlying22) ?_
 refine r_makeB (len := ts.length) (zs := [_]) Tryz.underlying74 ty_75 (by exact rfl) rfl rfl (by exact rfl) (by exact rfl) (by omega) (by omega) (by omega) (by omega) ?_
 intro bt w1 hebt hEw1 hout hzbt
 have hs_w1 := (hEw1).size
 replace hV := evo_step0 hV hEw1
 replace ht := ht0.now hV
 replace hc := hc0.now hV
 replace hl := hl0 _ hV
 refine r_op rfl rfl rfl (run_asg (v := .slice (some ⟨bt, 0, none⟩) _ _) rfl (by exact rfl)) ?_
 refine r_nil ?_
 refine r_seq ?_
 refine r_seq ?_
 refine r_region ?_
 refine r_op rfl rfl rfl (run_mv (v := .slice _ _ _) rfl (by exact rfl)) ?_
 refine r_op rfl rfl rfl (run_lenSl rfl (by exact rfl) Tryz.underlying22) ?_
 refine r_op rfl rfl rfl (run_mv (v := .int _ _) rfl (by exact rfl)) ?_
 refine r_nil ?_
 refine r_block ?_
 refine r_loop (α := Nat) [8, 9, 11, 24, 25, 26, 27, 28, 29, 30, 31, 32, 33, 34, 35, 36, 37, 38, 39, 40, 41, 42, 43, 44, 45, 46, 47, 48, 49, 50] (fun k g w => ∃ vs : Nat → Value, g 24 = .int .i64 (k : Nat) ∧ k ≤ ts.length ∧ FB w bt 75 1 ts.length (fun x => [vs x]) ∧ (∀ x, x < k → FRow w bt (vs x) (formsT c (ts.getD x default).words)) ∧ (∀ x, k ≤ x → vs x = .slice none 0 0) ∧ w1.heap.size ≤ w.heap.size ∧ Evo w0 w []) (fun k => ts.length - k) 0 ?_ ?_
 ·refine ⟨(fun _ => .slice none 0 0), (by first | exact rfl | exact congrArg (Value.int _) (by omega) | exact congrArg (Value.int _) (by dsimp only; omega) | exact congrArg (Value.int _) (by simp) | exact congrArg S (by simp)), (by first | assumption | omega | (dsimp only; omega) | (simp; done)), hout, (fun x hx => absurd hx (by omega)), (fun x hx => rfl), (by first | assumption | omega | (dsimp only; omega) | (simp; done)), hV⟩
 ·rintro k g w3 ⟨vs, hj4, hk_k, hfb, hrw, hnl, hzl2, hV⟩
  have hs_w3hV := hV.size
  have hlt5 := hfb.lt
  replace ht := ht0.now hV
  replace hc := hc0.now hV
  replace hl := hl0 _ hV
  refine r_know (i := 24) (v := .int .i64 (k : Nat)) (by exact hj4) ?_
  refine r_seq ?_
  refine r_region ?_
  refine r_op rfl rfl rfl (run_lss rfl (by exact rfl) (by exact rfl)) ?_
  refine r_nil ?_
  refine r_seq ?_
  refine r_cond (by exact rfl) (fun hc6 => ?_) (fun hc6 => ?_)
  ·skip
   refine r_skip ?_
   refine r_seq ?_
   refine r_block ?_
   refine r_seq ?_
   have hB : Evo w3 w3 [bt] := Evo.refl _ _
   refine r_region ?_
   refine r_op rfl rfl rfl (run_mv (v := .int _ _) rfl (by exact rfl)) ?_
   refine r_op rfl rfl rfl (run_ix (k) rfl Tryz.underlying22 ty_42 (by exact rfl) (by exact rfl) (by first | exact rfl | omega) (by omega) (ht.addr (i := k) (by omega))) ?_
   obtain ⟨aoW7, bW7, offW7, capW7, aoQ7, bQ7, offQ7, capQ7, aoF7, bF7, offF7, capF7, hX⟩ := term_atK ht0 (k) (by omega)
   have hA70 := fun (w' : World) (h : Evo w0 w' []) => (hX w' h).1
   have hA7 := hA70 _ hV
   have hW70 := fun (w' : World) (h : Evo w0 w' []) => (hX w' h).2.1
   have hW7 := hW70 _ hV
   have hQ70 := fun (w' : World) (h : Evo w0 w' []) => (hX w' h).2.2.1
   have hQ7 := hQ70 _ hV
   have hF70 := fun (w' : World) (h : Evo w0 w' []) => (hX w' h).2.2.2
   have hF7 := hF70 _ hV
   clear hX
   have hbd_hW7 := hW7.bd
   have hbd_hQ7 := hQ7.bd
   have hbd_hF7 := hF7.bd
   refine r_op rfl rfl rfl (run_ldN rfl ag_42 ty_42 (by exact rfl) rfl hA7) ?_
   refine r_alloc (zs := [_, _, _]) ty_42 (by exact rfl) rfl ?_
   intro b8 w9 heb8 hEw9 hbb8 hzb8
   have hs_w9 := (hEw9).size
   replace hV := evo_step0 hV hEw9
   replace hB := evo_step0 hB hEw9
   replace ht := ht0.now hV
   replace hc := hc0.now hV
   replace hl := hl0 _ hV
   replace hfb := hfb.evo0 hEw9
   replace hA7 := hA70 _ hV
   replace hW7 := hW70 _ hV
   replace hQ7 := hQ70 _ hV
   replace hF7 := hF70 _ hV
   have hAb8 := hbb8.at
   refine r_op rfl rfl rfl (run_asg (v := .int _ _) rfl (by exact rfl)) ?_
   refine r_store (v := .agg _) (vs := [_, _, _]) (cs' := [_, _, _]) (by exact rfl) (by exact rfl) hbb8 ty_42 (by exact rfl) rfl (by exact rfl) rfl (by exact rfl) ?_
   intro w10 hEw10 hzw10 hb_new
   have hs_w10 := (hEw10).size
   replace hV := evo_step1 hV hEw10 (by first | exact .inl (by omega) | exact .inr (by simp))
   replace hB := evo_step1 hB hEw10 (by first | exact .inl (by omega) | exact .inr (by simp))
   replace ht := ht0.now hV
   replace hc := hc0.now hV
   replace hl := hl0 _ hV
   replace hfb := hfb.evo hEw10 (by simp; omega)
   replace hW7 := hW70 _ hV
   replace hQ7 := hQ70 _ hV
   replace hF7 := hF70 _ hV
   replace hbb8 := hb_new
   have hAb8 := hbb8.at
   clear hb_new
   refine r_nil ?_
   refine r_seq ?_
   have htk := termD_bd htb k
   refine r_region ?_
   refine r_op rfl rfl rfl (run_fa rfl (by exact rfl) fo_42_0) ?_
   refine r_op rfl rfl rfl (run_ld1 rfl ag_39 (by exact rfl) (hAb8.cell 0 (by exact rfl))) ?_
   refine r_op rfl rfl rfl (run_lenSl rfl (by exact rfl) Tryz.underlying39) ?_
   refine r_op rfl rfl rfl (run_mv (v := .int _ _) rfl (by exact rfl)) ?_
   refine r_nil ?_
   refine r_block ?_
   refine r_loop (α := Nat) [11, 32, 33, 34, 35, 36, 37, 38, 39, 40, 41, 42, 43, 44, 45, 46, 47, 48, 49] (fun j g w => ∃ vc : Value, g 32 = .int .i64 (j : Nat) ∧ j ≤ (ts.getD k default).words.length ∧ OwnR w w10.heap.size 76 [bt] vc ((formsT c ((ts.getD k default).words.take j)).map SetS.mk) ∧ FB w bt 75 1 ts.length (fun x => if x = k then [vc] else [vs x]) ∧ w10.heap.size ≤ w.heap.size ∧ Evo w0 w [] ∧ Evo w3 w [bt]) (fun j => (ts.getD k default).words.length - j) 0 ?_ ?_
   ·refine ⟨(.slice none 0 0), (by first | exact rfl | exact congrArg (Value.int _) (by omega) | exact congrArg (Value.int _) (by dsimp only; omega) | exact congrArg (Value.int _) (by simp) | exact congrArg S (by simp)), (by first | assumption | omega | (dsimp only; omega) | (simp; done)), (OwnR.nil _ _ _ _), (hfb.congr (fun x => by by_cases e9 : x = k; (subst e9; rw [if_pos rfl, hnl x (Nat.le_refl _)]); rw [if_neg e9])), (by first | assumption | omega | (dsimp only; omega) | (simp; done)), hV, hB⟩
   ·rintro j g w12 ⟨vc, hj13, hk_j, hoC, hfb, hzl11, hV, hB⟩
    have hs_w12hV := hV.size
    have hs_w12hB := hB.size
    have hlt14 := hfb.lt
    replace ht := ht0.now hV
    replace hc := hc0.now hV
    replace hl := hl0 _ hV
    replace hA7 := hA70 _ hV
    replace hW7 := hW70 _ hV
    replace hQ7 := hQ70 _ hV
    replace hF7 := hF70 _ hV
    refine r_know (i := 32) (v := .int .i64 (j : Nat)) (by exact hj13) ?_
    refine r_seq ?_
    refine r_region ?_
    refine r_op rfl rfl rfl (run_lss rfl (by exact rfl) (by exact rfl)) ?_
    refine r_nil ?_
    refine r_seq ?_
    refine r_cond (by exact rfl) (fun hc15 => ?_) (fun hc15 => ?_)
    ·skip
     refine r_skip ?_
     refine r_seq ?_
     refine r_block ?_
     refine r_seq ?_
     have hoC_own := fun {g : Nat} (hg : vc.ownBlock = some g) => hoC.block (g := g) hg
     refine r_region ?_
     refine r_op rfl rfl rfl (run_ix (j) rfl Tryz.underlying39 ty_60 (by exact rfl) (by exact rfl) (by first | exact rfl | omega) (by omega) (hW7.addr (i := j) (by omega))) ?_
     have hA160 := fun (w' : World) (h : Evo w0 w' []) => (hW70 w' h).atD (j) (by omega)
     have hA16 := hA160 _ hV
     refine r_op rfl rfl rfl (run_ldN rfl ag_60 ty_60 (by exact rfl) rfl hA16) ?_
     have hob17 := fun g hg => (hoC.block (g := g) hg).2
     refine r_var (zs := [_, _]) (vs := [_, _]) ty_60 (by exact rfl) rfl (by exact rfl) (fun _ => rfl) (by exact rfl) rfl rfl (by exact rfl) ?_
     intro b18 w19 heb18 hEw19 hbb18 hzb18
     have hs_w19 := (hEw19).size
     replace hV := evo_step0 hV hEw19
     replace hB := evo_step0 hB hEw19
     replace ht := ht0.now hV
     replace hc := hc0.now hV
     replace hl := hl0 _ hV
     replace hoC := hoC.evo0 hEw19
     replace hfb := hfb.evo0 hEw19
     have hAb18 := hbb18.at
     refine r_nil ?_
     have hobC := fun g hg => (hoC.block (g := g) hg); have hbk := ende_getD htk.2 j; have hfl := formsT_len c ((ts.getD k default).words.take j); have hft := List.length_take_le j (ts.getD k default).words
     have hbtl := hfb.lt
     have hnb : bt ∉ vc.ownBlock.toList := fun hm => by have h9 := hobC _ (Option.mem_toList.1 hm); omega
     have hfb_q := hfb
     have hbb18_q := hbb18
     have hAb18_q := hAb18
     have hV_q := hV
     have hB_q := hB
     refine h_region (vc.ownBlock.toList) (by kernel_rfl) ?_
     intro w20 hE21 hC8x
     have hs_w20 := (hE21).size
     replace hV := evo_step0 hV hE21
     replace hB := evo_step0 hB hE21
     replace ht := ht0.now hV
     replace hc := hc0.now hV
     replace hl := hl0 _ hV
     replace hoC := hoC.evo0 hE21
     replace hfb := hfb.evo0 hE21
     replace hbb18 := hbb18.evo0 hE21
     replace hAb18 := hAb18.evo0 hE21
     refine h_take (i := 0) (by exact rfl) rfl rfl rfl (by kernel_rfl) (fun w' hC => run_mv (v := .slice (some ⟨bt, 0, none⟩) _ _) rfl (by exact rfl)) hC8x ?_
     refine h_take (i := 1) (by exact rfl) rfl rfl rfl (by kernel_rfl) (fun w' hC => run_mv (v := .int _ _) rfl (by exact rfl)) hC8x ?_
     refine h_take (i := 2) (by exact rfl) rfl rfl rfl (by kernel_rfl) (fun w' hC => run_mv (v := .slice (some ⟨bt, 0, none⟩) _ _) rfl (by exact rfl)) hC8x ?_
     refine h_take (i := 3) (by exact rfl) rfl rfl rfl (by kernel_rfl) (fun w' hC => run_mv (v := .int _ _) rfl (by exact rfl)) hC8x ?_
     refine h_take (i := 4) (by exact rfl) rfl rfl rfl (by kernel_rfl) (fun w' hC => run_ix (k) rfl Tryz.underlying74 ty_75 (by exact rfl) (by exact rfl) (by first | exact rfl | omega) (by omega) rfl) hC8x ?_
     refine h_take (i := 5) (by exact rfl) rfl rfl rfl (by kernel_rfl) (fun w' hC => run_ld1 rfl ag_75 (by exact rfl) ((hfb_q.evo hC hnb).cell0 (x := k) (by omega) (v := vc) (r := []) (if_pos rfl))) hC8x ?_
     refine h_take (i := 6) (by exact rfl) rfl rfl rfl (by kernel_rfl) (fun w' hC => run_mv (v := .slice _ _ _) rfl (by exact rfl)) hC8x ?_
     refine h_take (i := 7) (by exact rfl) rfl rfl rfl (by kernel_rfl) (fun w' hC => run_ldN rfl ag_60 ty_60 (by exact rfl) rfl (hAb18_q.evo hC (fun hg => by have h8 := hoC_own (Option.mem_toList.1 hg); omega))) hC8x ?_
     refine h_one (i := 8) (by kernel_rfl) ?_
     refine h_do (by exact rfl) ?_
     refine r_opcall rfl rfl rfl (run_callf (vs := [.slice _ _ _, .agg _]) rfl (by exact rfl) Tryz.func36 rfl (by kernel_rfl)) (oforms_calls hc (p := ((ts.getD k default).words.getD j default).strip) (q := ((ts.getD k default).words.getD j default).add) (ends_len hcb _) (ends_bd hcb _) (by have := hbk.1; omega) (by have := hbk.2; omega)) ?_
     rintro e w22 ⟨vf22, rfl, hE22, hof22⟩
     refine ⟨_, rfl, ?_⟩
     have hs_w22 := (hE22).size
     replace hV := evo_step0 hV hE22
     replace hB := evo_step0 hB hE22
     replace hC8x := evo_step0 hC8x hE22
     replace ht := ht0.now hV
     replace hc := hc0.now hV
     replace hl := hl0 _ hV
     replace hoC := hoC.evo0 hE22
     replace hfb := hfb.evo0 hE22
     refine h_next hC8x ?_
     refine h_one (i := 9) (by kernel_rfl) ?_
     refine h_do (by exact rfl) ?_
     obtain ⟨ao23, g23, cp23, hv23, hr23, hg23⟩ := hof22.rowOf
     subst hv23
     refine r_opcall rfl rfl rfl (run_callf (vs := [.slice _ _ _]) rfl (by exact rfl) Tryz.func35 rfl (by kernel_rfl)) (set_calls hr23) ?_
     rintro e w24 ⟨bm24, rfl, hE24, hsm24, hsb24⟩
     refine ⟨_, rfl, ?_⟩
     have hs_w24 := (hE24).size
     replace hV := evo_step0 hV hE24
     replace hB := evo_step0 hB hE24
     replace hC8x := evo_step0 hC8x hE24
     replace ht := ht0.now hV
     replace hc := hc0.now hV
     replace hl := hl0 _ hV
     replace hoC := hoC.evo0 hE24
     replace hfb := hfb.evo0 hE24
     replace hof22 := hof22.evo0 hE24
     replace hr23 := hr23.evo0 hE24
     refine h_next hC8x ?_
     refine h_one (i := 10) (by kernel_rfl) ?_
     refine h_do (by exact rfl) ?_
     refine r_bslice (pv := [(0, .map (some bm24))]) (zs := [_]) (cs := [_]) Tryz.underlying75 ty_76 (by exact rfl) rfl (by exact rfl) rfl (by exact rfl) ?_
     intro b25 w26 heb25 hEw26 hbb25 hzb25
     have hs_w26 := (hEw26).size
     replace hV := evo_step0 hV hEw26
     replace hB := evo_step0 hB hEw26
     replace hC8x := evo_step0 hC8x hEw26
     replace ht := ht0.now hV
     replace hc := hc0.now hV
     replace hl := hl0 _ hV
     replace hoC := hoC.evo0 hEw26
     replace hfb := hfb.evo0 hEw26
     replace hof22 := hof22.evo0 hEw26
     replace hr23 := hr23.evo0 hEw26
     replace hsm24 := hsm24.evo0 hEw26
     have hAb25 := hbb25.at
     have hKb25 : Evo w26 w26 ([bt] ++ vc.ownBlock.toList) := Evo.refl _ _
     have hrb250 := rowLitRK ([bt] ++ vc.ownBlock.toList) hbb25 (by intro hm; simp only [List.singleton_append, List.mem_cons] at hm; rcases hm with hm | hm; omega; have h8 := hobC _ (Option.mem_toList.1 hm); omega) (fun w9 h9 => ⟨bm24, rfl, hsm24.evo h9 (by intro hm; simp only [List.singleton_append, List.mem_cons] at hm; rcases hm with hm | hm; omega; have h8 := hobC _ (Option.mem_toList.1 hm); omega)⟩) (x := (⟨formsC c ((ts.getD k default).words.getD j default).strip ((ts.getD k default).words.getD j default).add⟩ : SetS))
     have hrb25 := hrb250.now hKb25
     have hbd_hrb25 := hrb25.bd
     refine h_next hC8x ?_
     refine h_one (i := 11) (by kernel_rfl) ?_
     refine h_do (by exact rfl) ?_
     refine r_appendR (w1 := w26) (E' := [bt] ++ vc.ownBlock.toList) rfl Tryz.underlying75 ty_76 (by exact rfl) set_one hoC (by exact rfl) (by exact rfl) hrb250 ((fun w9 h9 => Evo.trans hKb25 h9 (fun x hx _ => hx))) rfl ((by simp only [List.length_map, List.length_cons, List.length_nil]; omega)) ((by simp only [List.length_map, List.length_cons, List.length_nil]; omega)) (by omega) ?_
     intro v27 w28 hEw28 hov27 hlv27
     have hs_w28 := (hEw28).size
     replace hV := evo_stepo hV hEw28 (fun g hg => .inl (by first | exact (hoC.block hg).1 | (have := hoC.block hg; omega)))
     replace hB := evo_stepo hB hEw28 (fun g hg => .inl (by first | exact (hoC.block hg).1 | (have := hoC.block hg; omega)))
     replace hC8x := evo_stepo hC8x hEw28 (fun g hg => .inr (Option.mem_toList.2 hg))
     replace hKb25 := evo_stepo hKb25 hEw28 (fun g hg => .inr (List.mem_append.2 (.inr (Option.mem_toList.2 hg))))
     replace ht := ht0.now hV
     replace hc := hc0.now hV
     replace hl := hl0 _ hV
     replace hfb := hfb.evo hEw28 (by intro hm; have hm2 := Option.mem_toList.1 hm; first | (have := hoC.block hm2; omega) | (simp [Value.ownBlock] at hm2; omega))
     replace hrb25 := hrb250.now hKb25
     obtain ⟨aoZ, cpZ, hvZ⟩ := hov27.shape
     subst hvZ
     refine h_next hC8x ?_
     refine h_take (i := 12) (by exact rfl) rfl rfl rfl (by kernel_rfl) (fun w' hC => run_ix (k) rfl Tryz.underlying74 ty_75 (by exact rfl) (by exact rfl) (by first | exact rfl | omega) (by omega) rfl) hC8x ?_
     refine h_one (i := 13) (by kernel_rfl) ?_
     refine h_do (by exact rfl) ?_
     refine r_storeF (v := (.slice aoZ _ cpZ)) (vs := [_]) (k) (by exact rfl) rfl (by exact rfl) hfb (by omega) ty_75 (by exact rfl) rfl (by exact rfl) ?_
     intro w29 hEw29 hzw29 hb_new
     have hs_w29 := (hEw29).size
     replace hV := evo_step1 hV hEw29 (by first | exact .inl (by omega) | exact .inr (by simp))
     replace hB := evo_step1 hB hEw29 (by first | exact .inl (by omega) | exact .inr (by simp))
     replace hKb25 := evo_step1 hKb25 hEw29 (by first | exact .inl (by omega) | exact .inr (by simp))
     replace ht := ht0.now hV
     replace hc := hc0.now hV
     replace hl := hl0 _ hV
     replace hrb25 := hrb250.now hKb25
     replace hov27 := hov27.evo hEw29 (by simp) (by intro g hg hm; simp at hm; subst hm; have := hov27.block hg; omega)
     replace hfb := hb_new
     clear hb_new
     refine h_last (by kernel_rfl) ?_
     refine h_done (by kernel_rfl) ?_
     refine r_blk ?_
     refine r_region ?_
     refine r_op rfl rfl rfl (run_add rfl (by exact rfl) (by exact rfl) (by omega) (by omega)) ?_
     refine r_op rfl rfl rfl (run_mv (v := .int _ _) rfl (by exact rfl)) ?_
     refine r_nil ?_
     refine r_again (j + 1) ?_ ?_ ?_
     ·first | omega | (dsimp only; omega)
     ·refine ⟨_, (by first | exact rfl | exact congrArg (Value.int _) (by omega) | exact congrArg (Value.int _) (by dsimp only; omega) | exact congrArg (Value.int _) (by simp) | exact congrArg S (by simp)), (by first | assumption | omega | (dsimp only; omega) | (simp; done)), (by rw [formsT_succ (by omega), List.map_append]; exact hov27), (hfb.congr (fun x => by by_cases e9 : x = k <;> simp [e9])), (by first | assumption | omega | (dsimp only; omega) | (simp; done)), hV, hB⟩
     ·repeat (first | (with_reducible exact Agree.merge _ _ _) | (with_reducible exact Agree.refl _ _) | (with_reducible refine Agree.upd ?_ _ _ rfl) | ((with_reducible refine Agree.inner ?_ ?_); (kernel_rfl)))
    ·skip
     refine r_exit rfl ?_
     refine r_blk ?_
     refine r_region ?_
     refine r_op rfl rfl rfl (run_add rfl (by exact rfl) (by exact rfl) (by omega) (by omega)) ?_
     refine r_op rfl rfl rfl (run_mv (v := .int _ _) rfl (by exact rfl)) ?_
     refine r_nil ?_
     refine r_again (k + 1) ?_ ?_ ?_
     ·first | omega | (dsimp only; omega)
     ·refine ⟨(fun x => if x = k then vc else vs x), (by first | exact rfl | exact congrArg (Value.int _) (by omega) | exact congrArg (Value.int _) (by dsimp only; omega) | exact congrArg (Value.int _) (by simp) | exact congrArg S (by simp)), (by first | assumption | omega | (dsimp only; omega) | (simp; done)), (hfb.congr (fun x => by by_cases e9 : x = k <;> simp [e9])), (fun x hx => by show FRow _ _ (if x = k then vc else vs x) _; by_cases e9 : x = k; (rw [if_pos e9, e9]; exact FRow.of (by have h8 := hoC; rw [List.take_of_length_le (by omega)] at h8; exact h8) (by omega)); (rw [if_neg e9]; exact (hrw x (by omega)).evo hB)), (fun x hx => by show (if x = k then vc else vs x) = _; rw [if_neg (by omega)]; exact hnl x (by omega)), (by first | assumption | omega | (dsimp only; omega) | (simp; done)), hV⟩
     ·repeat (first | (with_reducible exact Agree.merge _ _ _) | (with_reducible exact Agree.refl _ _) | (with_reducible refine Agree.upd ?_ _ _ rfl) | ((with_reducible refine Agree.inner ?_ ?_); (kernel_rfl)))
  ·skip
   refine r_exit rfl ?_
   refine r_seq ?_
   have hB2 : Evo w3 w3 [bt] := Evo.refl _ _
   have hrw2 : ∀ x, x < ts.length → FRow w3 bt (vs x) (formsT c (ts.getD x default).words) := fun x hx => hrw x (by omega)
   have hbtl := hfb.lt
   refine r_region ?_
   refine r_op rfl rfl rfl (run_asg (v := .slice _ _ _) rfl (by exact rfl)) ?_
   refine r_nil ?_
   refine r_seq ?_
   refine r_region ?_
   refine r_op rfl rfl rfl (run_asg (v := .int _ _) rfl (by exact rfl)) ?_
   refine r_nil ?_
   refine r_seq ?_
   refine r_label ?_
   refine r_seq ?_
   refine r_seq ?_
   refine r_region ?_
   refine r_op rfl rfl rfl (run_mv (v := .slice _ _ _) rfl (by exact rfl)) ?_
   refine r_op rfl rfl rfl (run_lenSl rfl (by exact rfl) Tryz.underlying24) ?_
   refine r_op rfl rfl rfl (run_mv (v := .int _ _) rfl (by exact rfl)) ?_
   refine r_nil ?_
   refine r_block ?_
   refine r_loop (α := Nat) [12, 13, 14, 15, 16, 17, 18, 53, 54, 55, 56, 57, 58, 59, 60, 61, 62, 63, 64, 65, 66, 67, 68, 69, 70, 71, 72, 73, 74, 75, 76, 77, 78, 79, 80, 81, 82, 83, 84, 85, 86, 87, 88, 89, 90, 91, 92, 93, 94, 95, 96, 97, 98, 99, 100, 101, 102, 103, 104, 105, 106, 107, 108, 109, 110, 111, 112] (fun i g w => ∃ to9 : Nat, ∃ vo : Value, ∃ sp : List Spt, g 53 = .int .i64 (i : Nat) ∧ g 13 = .int .i64 (to9 : Nat) ∧ g 12 = vo ∧ i ≤ l.length ∧ FB w bt 75 1 ts.length (fun x => [vs x]) ∧ OwnE w w3.heap.size 36 vo sp ∧ to9 ≤ l.length ∧ sp ++ spotsF l (fsT c ts) (max i to9) = spotsF l (fsT c ts) 0 ∧ sp.length ≤ i ∧ w3.heap.size ≤ w.heap.size ∧ Evo w0 w [] ∧ Evo w3 w [bt]) (fun i => l.length - i) 0 ?_ ?_
   ·refine ⟨0, _, [], (by first | exact rfl | exact congrArg (Value.int _) (by omega) | exact congrArg (Value.int _) (by dsimp only; omega) | exact congrArg (Value.int _) (by simp) | exact congrArg S (by simp)), rfl, rfl, (by first | assumption | omega | (dsimp only; omega) | (simp; done)), hfb, (OwnE.nil _ _ _), (by first | assumption | omega | (dsimp only; omega) | (simp; done)), rfl, (by first | assumption | omega | (dsimp only; omega) | (simp; done)), (by first | assumption | omega | (dsimp only; omega) | (simp; done)), hV, hB2⟩
   ·rintro i g w31 ⟨to9, vo, sp, hj32, hj33, hj34, hk_i, hfb, hoo, hto, hsp, hsl, hzl30, hV, hB2⟩
    have hs_w31hV := hV.size
    have hs_w31hB2 := hB2.size
    have hlt35 := hfb.lt
    replace ht := ht0.now hV
    replace hc := hc0.now hV
    replace hl := hl0 _ hV
    refine r_know (i := 53) (v := .int .i64 (i : Nat)) (by exact hj32) ?_
    refine r_know (i := 13) (v := .int .i64 (to9 : Nat)) (by exact hj33) ?_
    refine r_know (i := 12) (v := vo) (by exact hj34) ?_
    refine r_seq ?_
    refine r_region ?_
    refine r_op rfl rfl rfl (run_lss rfl (by exact rfl) (by exact rfl)) ?_
    refine r_nil ?_
    refine r_seq ?_
    refine r_cond (by exact rfl) (fun hc36 => ?_) (fun hc36 => ?_)
    ·skip
     refine r_skip ?_
     refine r_seq ?_
     refine r_block ?_
     refine r_seq ?_
     refine r_region ?_
     refine r_op rfl rfl rfl (run_mv (v := .int _ _) rfl (by exact rfl)) ?_
     refine r_op rfl rfl rfl (run_asg (v := .int _ _) rfl (by exact rfl)) ?_
     refine r_nil ?_
     refine r_seq ?_
     refine r_seq ?_
     have hobO := fun g hg => (hoo.block (g := g) hg).2
     refine r_region ?_
     refine r_op rfl rfl rfl (run_mv (v := .int _ _) rfl (by exact rfl)) ?_
     refine r_op rfl rfl rfl (run_mv (v := .int _ _) rfl (by exact rfl)) ?_
     refine r_op rfl rfl rfl (run_lss rfl (by exact rfl) (by exact rfl)) ?_
     refine r_op rfl rfl rfl (run_mv (v := .bool _) rfl (by exact rfl)) ?_
     refine r_g rfl (wantF (by exact rfl)) rfl (fun hg => run_mv (v := .slice _ _ _) rfl (by exact rfl)) ?_
     refine r_g rfl (wantF (by exact rfl)) rfl (fun hg => run_mv (v := .int _ _) rfl (by exact rfl)) ?_
     refine r_g rfl (wantF (by exact rfl)) rfl (fun hg => run_ix (i) rfl Tryz.underlying24 ty_38 (glv (by exact rfl) (fun h => h) hg) (glv (by exact rfl) (fun h => h) hg) (by first | exact rfl | omega) (by omega) (hl.addr (i := i) (by omega))) ?_
     refine r_g rfl (wantF (by exact rfl)) rfl (fun hg => run_ldN rfl ag_38 ty_38 (glv (by exact rfl) (fun h => h) hg) rfl (hl.atD (i) (by omega))) ?_
     refine r_gcall rfl (wantF (by exact rfl)) rfl (fun hg => run_callf rfl (argcons (v := .agg _) (glv (by exact rfl) (fun h => h) hg) (rfl)) Tryz.func37 rfl (by kernel_rfl)) (fun hg => (tisword_calls (x := (l.getD i default))).mono (fun e w' h => ⟨h.1, h.2⟩)) (fun w37 hE38 => ?_)
     have hs_w37 := (hE38).size
     replace hV := evo_step0 hV hE38
     replace hB2 := evo_step0 hB2 hE38
     replace ht := ht0.now hV
     replace hc := hc0.now hV
     replace hl := hl0 _ hV
     replace hfb := hfb.evo0 hE38
     replace hoo := hoo.evo0 hE38
     refine r_g rfl (wantF (by exact rfl)) rfl (fun hg => run_not rfl (glv (by exact rfl) (fun h => h) hg)) ?_
     refine r_op rfl rfl rfl (run_pick_or rfl (by exact rfl) rfl (fun hq => glv (by exact rfl) (fun h => h) hq)) ?_
     refine r_nil ?_
     refine r_cond (by exact rfl) (fun hc39 => ?_) (fun hc39 => ?_)
     ·skip
      obtain ⟨nto, hnto⟩ : ∃ z, z = to9 := ⟨_, rfl⟩
      have hnsp : spotsF l (fsT c ts) (max i to9) = spotsF l (fsT c ts) (max (i + 1) nto) := by rw [hnto]; exact spots_skip (by omega) hc39
      refine r_exit rfl ?_
      refine r_region ?_
      refine r_op rfl rfl rfl (run_add rfl (by exact rfl) (by exact rfl) (by omega) (by omega)) ?_
      refine r_op rfl rfl rfl (run_mv (v := .int _ _) rfl (by exact rfl)) ?_
      refine r_nil ?_
      refine r_again (i + 1) ?_ ?_ ?_
      ·first | omega | (dsimp only; omega)
      ·refine ⟨nto, _, _, (by first | exact rfl | exact congrArg (Value.int _) (by omega) | exact congrArg (Value.int _) (by dsimp only; omega) | exact congrArg (Value.int _) (by simp) | exact congrArg S (by simp)), (congrArg (Value.int _) (by omega)), rfl, (by first | assumption | omega | (dsimp only; omega) | (simp; done)), hfb, hoo, (by first | assumption | omega | (dsimp only; omega) | (simp; done)), (by first | (rw [← hsp, hnsp]; done) | (rw [← hsp, hnsp, List.append_assoc]; rfl)), (by first | omega | (simp; omega)), (by first | assumption | omega | (dsimp only; omega) | (simp; done)), hV, hB2⟩
      ·repeat (first | (with_reducible exact Agree.merge _ _ _) | (with_reducible exact Agree.refl _ _) | (with_reducible refine Agree.upd ?_ _ _ rfl) | ((with_reducible refine Agree.inner ?_ ?_); (kernel_rfl)))
     ·skip
      have hc66 := hc39
      have hisw : isW (l.getD i default) := Classical.not_not.1 (fun q => hc39 (.inr q))
      refine r_skip ?_
      refine r_seq ?_
      refine r_region ?_
      refine r_op rfl rfl rfl (run_bld (pv := [(0, .int _ _)]) (zs := [_, _, _]) (cells := [_, _, _]) rfl ty_36 (by exact rfl) pl_36 (by exact rfl) (by exact rfl)) ?_
      have hob40 := fun g hg => (hoo.block (g := g) hg).2
      refine r_var (zs := [_, _, _]) (vs := [_, _, _]) ty_36 (by exact rfl) rfl (by exact rfl) (fun _ => rfl) (by exact rfl) rfl rfl (by exact rfl) ?_
      intro b41 w42 heb41 hEw42 hbb41 hzb41
      have hs_w42 := (hEw42).size
      replace hV := evo_step0 hV hEw42
      replace hB2 := evo_step0 hB2 hEw42
      replace ht := ht0.now hV
      replace hc := hc0.now hV
      replace hl := hl0 _ hV
      replace hfb := hfb.evo0 hEw42
      replace hoo := hoo.evo0 hEw42
      have hAb41 := hbb41.at
      refine r_nil ?_
      refine r_seq ?_
      refine r_seq ?_
      refine r_region ?_
      refine r_op rfl rfl rfl (run_mv (v := .slice (some ⟨bt, 0, none⟩) _ _) rfl (by exact rfl)) ?_
      refine r_op rfl rfl rfl (run_lenSl rfl (by exact rfl) Tryz.underlying74) ?_
      refine r_op rfl rfl rfl (run_mv (v := .int _ _) rfl (by exact rfl)) ?_
      refine r_nil ?_
      refine r_block ?_
      refine r_loop (α := Nat) [16, 17, 18, 70, 71, 72, 73, 74, 75, 76, 77, 78, 79, 80, 81, 82, 83, 84, 85, 86, 87, 88, 89, 90, 91, 92, 93, 94, 95, 96, 97, 98, 99, 100, 101, 102] (fun m9 g w => g 70 = .int .i64 (m9 : Nat) ∧ m9 ≤ ts.length ∧ FB w bt 75 1 ts.length (fun x => [vs x]) ∧ OwnE w w3.heap.size 36 vo sp ∧ Blk w b41 36 [.int .i64 (bestI (bestK l (fsT c ts) i m9)).1, .int .i64 (bestF i (bestK l (fsT c ts) i m9)), .int .i64 (bestE (bestK l (fsT c ts) i m9))] ∧ At w b41 0 [.int .i64 (bestI (bestK l (fsT c ts) i m9)).1, .int .i64 (bestF i (bestK l (fsT c ts) i m9)), .int .i64 (bestE (bestK l (fsT c ts) i m9))] ∧ w42.heap.size ≤ w.heap.size ∧ Evo w0 w [] ∧ Evo w3 w [bt]) (fun m9 => ts.length - m9) 0 ?_ ?_
      ·refine ⟨(by first | exact rfl | exact congrArg (Value.int _) (by omega) | exact congrArg (Value.int _) (by dsimp only; omega) | exact congrArg (Value.int _) (by simp) | exact congrArg S (by simp)), (by first | assumption | omega | (dsimp only; omega) | (simp; done)), hfb, hoo, hbb41, hbb41.at, (by first | assumption | omega | (dsimp only; omega) | (simp; done)), hV, hB2⟩
      ·rintro m9 g w44 ⟨hj45, hk_m9, hfb, hoo, hbb41, hAb41, hzl43, hV, hB2⟩
       have hs_w44hV := hV.size
       have hs_w44hB2 := hB2.size
       have hlt46 := hfb.lt
       have hlt47 := hbb41.lt
       replace ht := ht0.now hV
       replace hc := hc0.now hV
       replace hl := hl0 _ hV
       refine r_know (i := 70) (v := .int .i64 (m9 : Nat)) (by exact hj45) ?_
       refine r_seq ?_
       refine r_region ?_
       refine r_op rfl rfl rfl (run_lss rfl (by exact rfl) (by exact rfl)) ?_
       refine r_nil ?_
       refine r_seq ?_
       refine r_cond (by exact rfl) (fun hc48 => ?_) (fun hc48 => ?_)
       ·skip
        refine r_skip ?_
        refine r_seq ?_
        refine r_block ?_
        refine r_seq ?_
        obtain ⟨aoF, bF, offF, capF, hvF, hrF⟩ := hrw2 m9 (by omega) _ hB2
        have hbd_hrF := hrF.bd
        have hbl := bestI_lt (l := l) (fs := (fsT c ts)) (i := i) (k := m9) (n := ts.length) (by omega) (by omega) (by omega); have hbI := bestI_bd (l := l) (fs := (fsT c ts)) (i := i) (k := m9) (by omega)
        refine r_region ?_
        refine r_op rfl rfl rfl (run_mv (v := .int _ _) rfl (by exact rfl)) ?_
        refine r_op rfl rfl rfl (run_ix (m9) rfl Tryz.underlying74 ty_75 (by exact rfl) (by exact rfl) (by first | exact rfl | omega) (by omega) rfl) ?_
        refine r_op rfl rfl rfl (run_ld1 rfl ag_75 (by exact rfl) (by have h9 := hfb.cell0 (x := m9) (by omega) (v := vs m9) (r := []) rfl; rw [hvF] at h9; exact h9)) ?_
        refine r_op rfl rfl rfl (run_asg (v := .int _ _) rfl (by exact rfl)) ?_
        refine r_op rfl rfl rfl (run_asg (v := .slice _ _ _) rfl (by exact rfl)) ?_
        refine r_nil ?_
        refine r_seq ?_
        refine r_region ?_
        refine r_op rfl rfl rfl (run_mv (v := .slice _ _ _) rfl (by exact rfl)) ?_
        refine r_op rfl rfl rfl (run_mv (v := .int _ _) rfl (by exact rfl)) ?_
        refine r_op rfl rfl rfl (run_mv (v := .slice _ _ _) rfl (by exact rfl)) ?_
        refine r_opcall rfl rfl rfl (run_callf (vs := [.slice _ _ _, .int _ _, .slice _ _ _]) rfl (by exact rfl) Tryz.func38 rfl (by kernel_rfl)) (tchain_calls hl hrF (i := (i : Int)) hq (by omega) (by omega)) ?_
        rintro e w49 ⟨rfl, hE49⟩
        refine ⟨_, rfl, ?_⟩
        have hs_w49 := (hE49).size
        replace hV := evo_step0 hV hE49
        replace hB2 := evo_step0 hB2 hE49
        replace ht := ht0.now hV
        replace hc := hc0.now hV
        replace hl := hl0 _ hV
        replace hfb := hfb.evo0 hE49
        replace hoo := hoo.evo0 hE49
        replace hbb41 := hbb41.evo0 hE49
        replace hAb41 := hAb41.evo0 hE49
        replace hrF := hrF.evo0 hE49
        have hcte : chainF l (i : Int) (-1) (nth ((formsT c (ts.getD m9 default).words).map SetS.mk)) = cT l i ((fsT c ts).getD m9 default) := by rw [show nth ((formsT c (ts.getD m9 default).words).map SetS.mk) = formsT c (ts.getD m9 default).words from nth_mk _, fsT_get (by omega), chainFG l _ _ _ (by omega) (.inr (by simpa using hisw))]; rfl
        refine r_op rfl rfl rfl (run_asg (v := .int _ _) rfl (by exact rfl)) ?_
        refine r_nil ?_
        refine r_seq ?_
        obtain ⟨z09, z19, z29, z39, z49, z59, z69, z79, z89, z99, z109, z119, hAB, _, _, _⟩ := term_at ht (bestI (bestK l (fsT c ts) i m9)).1.toNat hbl
        refine r_region ?_
        refine r_op rfl rfl rfl (run_mv (v := .int _ _) rfl (by exact rfl)) ?_
        refine r_op rfl rfl rfl (run_geq rfl (by exact rfl) (by exact rfl)) ?_
        refine r_op rfl rfl rfl (run_mv (v := .bool _) rfl (by exact rfl)) ?_
        refine r_g rfl (wantT (by exact rfl)) rfl (fun hg => run_fa rfl (by exact rfl) fo_36_0) ?_
        refine r_g rfl (wantT (by exact rfl)) rfl (fun hg => run_ld1 rfl ag_3 (glv (by exact rfl) (fun h => h) hg) (hAb41.cell 0 (by exact rfl))) ?_
        refine r_g rfl (wantT (by exact rfl)) rfl (fun hg => run_lss rfl (glv (by exact rfl) (fun h => h) hg) (by exact rfl)) ?_
        refine r_g rfl (wantT (by exact rfl)) rfl (fun hg => run_mv (v := .bool _) rfl (glv (by exact rfl) (fun h => h) hg)) ?_
        refine r_g rfl (wantFg (by exact rfl)) rfl (fun hg => run_mv (v := .slice _ _ _) rfl (by exact rfl)) ?_
        refine r_g rfl (wantFg (by exact rfl)) rfl (fun hg => run_lenSl rfl (glv (by exact rfl) (fun h => h) hg) Tryz.underlying75) ?_
        refine r_g rfl (wantFg (by exact rfl)) rfl (fun hg => run_mv (v := .slice _ _ _) rfl (by exact rfl)) ?_
        refine r_g rfl (wantFg (by exact rfl)) rfl (fun hg => run_fa rfl (by exact rfl) fo_36_0) ?_
        refine r_g rfl (wantFg (by exact rfl)) rfl (fun hg => run_ld1 rfl ag_3 (glv (by exact rfl) (fun h => h) hg) (hAb41.cell 0 (by exact rfl))) ?_
        refine r_g rfl (wantFg (by exact rfl)) rfl (fun hg => run_ix ((bestI (bestK l (fsT c ts) i m9)).1.toNat) rfl Tryz.underlying22 ty_42 (glv (by exact rfl) (fun h => h) hg) (glv (by exact rfl) (fun h => h) hg) (by omega) (by omega) (ht.addr (i := (bestI (bestK l (fsT c ts) i m9)).1.toNat) (by omega))) ?_
        refine r_g rfl (wantFg (by exact rfl)) rfl (fun hg => run_fa rfl (glv (by exact rfl) (fun h => h) hg) fo_42_0) ?_
        refine r_g rfl (wantFg (by exact rfl)) rfl (fun hg => run_ld1 rfl ag_39 (glv (by exact rfl) (fun h => h) hg) (hAB.cell 0 (by exact rfl))) ?_
        refine r_g rfl (wantFg (by exact rfl)) rfl (fun hg => run_lenSl rfl (glv (by exact rfl) (fun h => h) hg) Tryz.underlying39) ?_
        refine r_g rfl (wantFg (by exact rfl)) rfl (fun hg => run_gtr rfl (glv (by exact rfl) (fun h => h) hg) (glv (by exact rfl) (fun h => h) hg)) ?_
        refine r_g rfl (wantT (by exact rfl)) rfl (fun hg => run_pick_or rfl (glv (by exact rfl) (fun h => h) hg) rfl (fun hq => glv (by exact rfl) (fun h => h) (And.intro hg hq))) ?_
        refine r_op rfl rfl rfl (run_pick_and rfl (by exact rfl) (fun hq => glv (by exact rfl) (fun h => h) hq) rfl) ?_
        refine r_nil ?_
        refine r_cond (by exact rfl) (fun hc50 => ?_) (fun hc50 => ?_)
        ·skip
         refine r_region ?_
         refine r_op rfl rfl rfl (run_mv (v := .int _ _) rfl (by exact rfl)) ?_
         refine r_op rfl rfl rfl (run_mv (v := .int _ _) rfl (by exact rfl)) ?_
         refine r_op rfl rfl rfl (run_mv (v := .int _ _) rfl (by exact rfl)) ?_
         refine r_op rfl rfl rfl (run_bld (pv := [(0, .int _ _), (1, .int _ _), (2, .int _ _)]) (zs := [_, _, _]) (cells := [_, _, _]) rfl ty_36 (by exact rfl) pl_36 (by exact rfl) (by exact rfl)) ?_
         refine r_store (v := .agg _) (vs := [_, _, _]) (cs' := [_, _, _]) (by exact rfl) (by exact rfl) hbb41 ty_36 (by exact rfl) rfl (by exact rfl) rfl (by exact rfl) ?_
         intro w51 hEw51 hzw51 hb_new
         have hs_w51 := (hEw51).size
         replace hV := evo_step1 hV hEw51 (by first | exact .inl (by omega) | exact .inr (by simp))
         replace hB2 := evo_step1 hB2 hEw51 (by first | exact .inl (by omega) | exact .inr (by simp))
         replace ht := ht0.now hV
         replace hc := hc0.now hV
         replace hl := hl0 _ hV
         replace hfb := hfb.evo hEw51 (by simp; omega)
         replace hoo := hoo.evo hEw51 (by intro g hg hm; simp at hm; subst hm; have h7 := hobO g hg; omega)
         replace hbb41 := hb_new
         have hAb41 := hbb41.at
         clear hb_new
         refine r_nil ?_
         refine r_blk ?_
         refine r_region ?_
         refine r_op rfl rfl rfl (run_add rfl (by exact rfl) (by exact rfl) (by omega) (by omega)) ?_
         refine r_op rfl rfl rfl (run_mv (v := .int _ _) rfl (by exact rfl)) ?_
         refine r_nil ?_
         refine r_again (m9 + 1) ?_ ?_ ?_
         ·first | omega | (dsimp only; omega)
         ·refine ⟨(by first | exact rfl | exact congrArg (Value.int _) (by omega) | exact congrArg (Value.int _) (by dsimp only; omega) | exact congrArg (Value.int _) (by simp) | exact congrArg S (by simp)), (by first | assumption | omega | (dsimp only; omega) | (simp; done)), hfb, hoo, (by first | (rw [best_yes l _ ((ps_cond (by omega) (by omega) hcte).1 hc50)]; have h9 := hbb41; rw [hcte] at h9; exact h9) | (rw [best_no l _ (fun q9 => hc50 ((ps_cond (by omega) (by omega) hcte).2 q9))]; exact hbb41)), (by first | (rw [best_yes l _ ((ps_cond (by omega) (by omega) hcte).1 hc50)]; have h9 := hbb41; rw [hcte] at h9; exact h9.at) | (rw [best_no l _ (fun q9 => hc50 ((ps_cond (by omega) (by omega) hcte).2 q9))]; exact hbb41.at)), (by first | assumption | omega | (dsimp only; omega) | (simp; done)), hV, hB2⟩
         ·repeat (first | (with_reducible exact Agree.merge _ _ _) | (with_reducible exact Agree.refl _ _) | (with_reducible refine Agree.upd ?_ _ _ rfl) | ((with_reducible refine Agree.inner ?_ ?_); (kernel_rfl)))
        ·skip
         refine r_skip ?_
         refine r_blk ?_
         refine r_region ?_
         refine r_op rfl rfl rfl (run_add rfl (by exact rfl) (by exact rfl) (by omega) (by omega)) ?_
         refine r_op rfl rfl rfl (run_mv (v := .int _ _) rfl (by exact rfl)) ?_
         refine r_nil ?_
         refine r_again (m9 + 1) ?_ ?_ ?_
         ·first | omega | (dsimp only; omega)
         ·refine ⟨(by first | exact rfl | exact congrArg (Value.int _) (by omega) | exact congrArg (Value.int _) (by dsimp only; omega) | exact congrArg (Value.int _) (by simp) | exact congrArg S (by simp)), (by first | assumption | omega | (dsimp only; omega) | (simp; done)), hfb, hoo, (by first | (rw [best_yes l _ ((ps_cond (by omega) (by omega) hcte).1 hc50)]; have h9 := hbb41; rw [hcte] at h9; exact h9) | (rw [best_no l _ (fun q9 => hc50 ((ps_cond (by omega) (by omega) hcte).2 q9))]; exact hbb41)), (by first | (rw [best_yes l _ ((ps_cond (by omega) (by omega) hcte).1 hc50)]; have h9 := hbb41; rw [hcte] at h9; exact h9.at) | (rw [best_no l _ (fun q9 => hc50 ((ps_cond (by omega) (by omega) hcte).2 q9))]; exact hbb41.at)), (by first | assumption | omega | (dsimp only; omega) | (simp; done)), hV, hB2⟩
         ·repeat (first | (with_reducible exact Agree.merge _ _ _) | (with_reducible exact Agree.refl _ _) | (with_reducible refine Agree.upd ?_ _ _ rfl) | ((with_reducible refine Agree.inner ?_ ?_); (kernel_rfl)))
       ·skip
        refine r_exit rfl ?_
        refine r_seq ?_
        refine r_region ?_
        refine r_op rfl rfl rfl (run_fa rfl (by exact rfl) fo_36_0) ?_
        refine r_op rfl rfl rfl (run_ld1 rfl ag_3 (by exact rfl) (hAb41.cell 0 (by exact rfl))) ?_
        refine r_op rfl rfl rfl (run_geq rfl (by exact rfl) (by exact rfl)) ?_
        refine r_nil ?_
        refine r_cond (by exact rfl) (fun hc52 => ?_) (fun hc52 => ?_)
        ·skip
         have hm9 : m9 = ts.length := by omega
         subst hm9
         obtain ⟨q9, hq9, hq1, hq2, hq3⟩ := bestC_some (i := i) (show ¬ (bestI (bestK l (fsT c ts) i ts.length)).1 < 0 by omega)
         have hqb := best_bd l (fsT c ts) (by omega) _ _ hq9
         obtain ⟨nto, hnto⟩ : ∃ z, z = q9.2.toNat := ⟨_, rfl⟩
         have hnsp : spotsF l (fsT c ts) (max i to9) = ⟨(bestI (bestK l (fsT c ts) i ts.length)).1, bestF i (bestK l (fsT c ts) i ts.length), bestE (bestK l (fsT c ts) i ts.length)⟩ :: spotsF l (fsT c ts) (max (i + 1) nto) := by rw [hnto, hq1, hq2, hq3]; exact spots_yes (by omega) hc66 (by rw [fsT_len]; exact hq9)
         refine r_seq ?_
         refine r_region ?_
         refine r_op rfl rfl rfl (run_mv (v := vo) rfl (by exact rfl)) ?_
         refine r_op rfl rfl rfl (run_ldN rfl ag_36 ty_36 (by exact rfl) rfl hAb41) ?_
         refine r_append1E (u := .agg _) (y := ⟨_, _, _⟩) rfl rfl Tryz.underlying32 ty_36 (by exact rfl) hoo (fun _ => (by exact rfl)) (by exact rfl) (by first | exact rfl | (show _ = List.toArray [_, _, _]; first | (dsimp only; done) | exact rfl | (dsimp only; exact rfl))) ((by first | omega | (simp; omega))) ((by first | omega | (simp; omega))) (by omega) ?_
         intro q_v53 v53 w54 hEw54 hov53 hlv53
         have hs_w54 := (hEw54).size
         replace hV := evo_stepo hV hEw54 (fun g hg => .inl (by first | exact (hoo.block hg).1 | (have := hoo.block hg; omega)))
         replace hB2 := evo_stepo hB2 hEw54 (fun g hg => .inl (by first | exact (hoo.block hg).1 | (have := hoo.block hg; omega)))
         replace ht := ht0.now hV
         replace hc := hc0.now hV
         replace hl := hl0 _ hV
         replace hfb := hfb.evo hEw54 (by intro hm; have hm2 := Option.mem_toList.1 hm; first | (have := hoo.block hm2; omega) | (simp [Value.ownBlock] at hm2; omega))
         replace hbb41 := hbb41.evo hEw54 (by intro hm; have h7 := hobO _ (Option.mem_toList.1 hm); omega)
         replace hAb41 := hAb41.evo hEw54 (by intro hm; have h7 := hobO _ (Option.mem_toList.1 hm); omega)
         refine r_op rfl rfl rfl (run_asg (v := v53) rfl (by exact rfl)) ?_
         refine r_nil ?_
         refine r_region ?_
         refine r_op rfl rfl rfl (run_fa rfl (by exact rfl) fo_36_2) ?_
         refine r_op rfl rfl rfl (run_ld1 rfl ag_3 (by exact rfl) (hAb41.cell 2 (by exact rfl))) ?_
         refine r_op rfl rfl rfl (run_asg (v := .int _ _) rfl (by exact rfl)) ?_
         refine r_nil ?_
         refine r_blk ?_
         refine r_region ?_
         refine r_op rfl rfl rfl (run_add rfl (by exact rfl) (by exact rfl) (by omega) (by omega)) ?_
         refine r_op rfl rfl rfl (run_mv (v := .int _ _) rfl (by exact rfl)) ?_
         refine r_nil ?_
         refine r_again (i + 1) ?_ ?_ ?_
         ·first | omega | (dsimp only; omega)
         ·refine ⟨nto, _, _, (by first | exact rfl | exact congrArg (Value.int _) (by omega) | exact congrArg (Value.int _) (by dsimp only; omega) | exact congrArg (Value.int _) (by simp) | exact congrArg S (by simp)), (congrArg (Value.int _) (by omega)), rfl, (by first | assumption | omega | (dsimp only; omega) | (simp; done)), hfb, hov53, (by first | assumption | omega | (dsimp only; omega) | (simp; done)), (by first | (rw [← hsp, hnsp]; done) | (rw [← hsp, hnsp, List.append_assoc]; rfl)), (by first | omega | (simp; omega)), (by first | assumption | omega | (dsimp only; omega) | (simp; done)), hV, hB2⟩
         ·repeat (first | (with_reducible exact Agree.merge _ _ _) | (with_reducible exact Agree.refl _ _) | (with_reducible refine Agree.upd ?_ _ _ rfl) | ((with_reducible refine Agree.inner ?_ ?_); (kernel_rfl)))
        ·skip
         have hm9 : m9 = ts.length := by omega
         subst hm9
         obtain ⟨nto, hnto⟩ : ∃ z, z = to9 := ⟨_, rfl⟩
         have hnsp : spotsF l (fsT c ts) (max i to9) = spotsF l (fsT c ts) (max (i + 1) nto) := by rw [hnto]; exact spots_nob (by omega) hc66 (by rw [fsT_len]; exact bestI_none (by omega))
         refine r_skip ?_
         refine r_blk ?_
         refine r_region ?_
         refine r_op rfl rfl rfl (run_add rfl (by exact rfl) (by exact rfl) (by omega) (by omega)) ?_
         refine r_op rfl rfl rfl (run_mv (v := .int _ _) rfl (by exact rfl)) ?_
         refine r_nil ?_
         refine r_again (i + 1) ?_ ?_ ?_
         ·first | omega | (dsimp only; omega)
         ·refine ⟨nto, _, _, (by first | exact rfl | exact congrArg (Value.int _) (by omega) | exact congrArg (Value.int _) (by dsimp only; omega) | exact congrArg (Value.int _) (by simp) | exact congrArg S (by simp)), (congrArg (Value.int _) (by omega)), rfl, (by first | assumption | omega | (dsimp only; omega) | (simp; done)), hfb, hoo, (by first | assumption | omega | (dsimp only; omega) | (simp; done)), (by first | (rw [← hsp, hnsp]; done) | (rw [← hsp, hnsp, List.append_assoc]; rfl)), (by first | omega | (simp; omega)), (by first | assumption | omega | (dsimp only; omega) | (simp; done)), hV, hB2⟩
         ·repeat (first | (with_reducible exact Agree.merge _ _ _) | (with_reducible exact Agree.refl _ _) | (with_reducible refine Agree.upd ?_ _ _ rfl) | ((with_reducible refine Agree.inner ?_ ?_); (kernel_rfl)))
    ·skip
     refine r_exit rfl ?_
     refine r_seq ?_
     refine r_region ?_
     refine r_op rfl rfl rfl (run_mv (v := vo) rfl (by exact rfl)) ?_
     refine r_op rfl rfl rfl (run_asg (v := vo) rfl (by exact rfl)) ?_
     refine r_nil ?_
     refine r_ret (res1 (v := vo) rfl (by exact rfl)) ?_
     exact ⟨_, rfl, hV, by rw [spots_end l _ (by omega), List.append_nil] at hsp; rw [← hsp]; exact hoo.base_le (by omega)⟩
end Go.Proofs.YtkklomiipkipnaaGreatDoor
namespace Go.Proofs.YtkklomiipkipnaaGreatDoor
open Go Go.RowKit Go.Vc
def splitS : Str → List Str
  | [] => [[]]
  | c :: r => if c = 32 then [] :: splitS r else match splitS r with | [] => [[c]] | w :: ws => (c :: w) :: ws
theorem splitS_ne : ∀ s, splitS s ≠ []
  | [] => by simp [splitS]
  | c :: r => by
    unfold splitS
    split
    · simp
    · split <;> simp
theorem idx_split : ∀ s : Str, (Lib.indexByte s 32 = -1 ∧ splitS s = [s] ∧ s.count 32 = 0) ∨ (∃ m : Nat, Lib.indexByte s 32 = (m : Int) ∧ m < s.length ∧ splitS s = s.take m :: splitS (s.drop (m + 1)) ∧ s.count 32 = 1 + (s.drop (m + 1)).count 32)
  | [] => .inl ⟨rfl, rfl, rfl⟩
  | c :: r => by
    by_cases hc : c = 32
    · subst hc
      refine .inr ⟨0, rfl, by simp, rfl, ?_⟩
      rw [List.count_cons_self]; simp; omega
    · have hb : (c == 32) = false := by simpa using hc
      have hct : (c :: r).count 32 = r.count 32 := by rw [List.count_cons, hb]; rfl
      rcases idx_split r with ⟨h1, h2, h3⟩ | ⟨m, h1, h2, h3, h4⟩
      · refine .inl ⟨?_, ?_, by rw [hct, h3]⟩
        · unfold Lib.indexByte; rw [hb, h1]; rfl
        · unfold splitS; rw [if_neg hc, h2]
      · refine .inr ⟨m + 1, ?_, by simp; omega, ?_, by rw [hct, h4]; rfl⟩
        · unfold Lib.indexByte
          rw [hb, h1]
          have h5 : (((m : Nat) : Int) == -1) = false := by simp
          rw [h5]; simp
        · conv => lhs; unfold splitS
          rw [if_neg hc, h3]; rfl
theorem split_len : ∀ s : Str, (splitS s).length = s.count 32 + 1
  | [] => rfl
  | c :: r => by
    have ih := split_len r
    by_cases hc : c = 32
    · subst hc
      unfold splitS
      rw [if_pos rfl, List.length_cons, ih, List.count_cons_self]
    · have hb : (c == 32) = false := by simpa using hc
      unfold splitS
      rw [if_neg hc, List.count_cons, hb]
      cases h : splitS r with
      | nil => exact absurd h (splitS_ne r)
      | cons w ws => rw [h] at ih; simpa using ih
theorem split_at : ∀ (s : Str) (j : Nat), j ≤ s.length → (∀ k, k < j → s.getD k default ≠ 32) → (j = s.length ∧ splitS s = [s]) ∨ (j < s.length ∧ (s.getD j default = 32 → splitS s = s.take j :: splitS (s.drop (j + 1))))
  | [], 0, _, _ => .inl ⟨rfl, rfl⟩
  | c :: r, 0, _, _ => by
    refine .inr ⟨by simp, fun h => ?_⟩
    have h' : c = 32 := h
    subst h'; rfl
  | c :: r, j + 1, hj, h => by
    have hc : ¬ c = 32 := h 0 (by omega)
    rcases split_at r j (by simpa using hj) (fun k hk => h (k + 1) (by omega)) with ⟨h1, h2⟩ | ⟨h1, h2⟩
    · refine .inl ⟨by simp [h1], ?_⟩
      unfold splitS; rw [if_neg hc, h2]
    · refine .inr ⟨by simpa using h1, fun h3 => ?_⟩
      conv => lhs; unfold splitS
      rw [if_neg hc, h2 h3]; rfl
theorem split_total : ∀ s : Str, ((splitS s).map (·.length)).sum + (splitS s).length = s.length + 1
  | [] => rfl
  | c :: r => by
    have ih := split_total r
    by_cases hc : c = 32
    · unfold splitS
      rw [if_pos hc]; simp; omega
    · unfold splitS
      rw [if_neg hc]
      cases hs : splitS r with
      | nil => exact absurd hs (splitS_ne r)
      | cons v vs => rw [hs] at ih; simp at ih ⊢; omega
def plainP (s : Str) : Prop := (s ≠ [] ∧ s.length ≤ 64) ∧ (∀ j, j < s.length → clsB (s.getD j default) = clsB (s.getD 0 default)) ∧ (clsB (s.getD 0 default) = 4 ∨ clsB (s.getD 0 default) = 3)
instance (s : Str) : Decidable (plainP s) := by unfold plainP; infer_instance
def phraseOk (s : Str) : Prop := (∀ w ∈ splitS s, plainP w) ∧ (splitS s).length ≤ 8
instance (s : Str) : Decidable (phraseOk s) := by unfold phraseOk; infer_instance
def wordsP (s : Str) : List Str := if phraseOk s then splitS s else []
theorem plain_sum : ∀ l : List Str, (∀ w ∈ l, plainP w) → (l.map (·.length)).sum ≤ 64 * l.length
  | [], _ => by simp
  | w :: l, h => by
    have h1 := (h w (by simp)).1.2
    have h2 := plain_sum l (fun x hx => h x (by simp [hx]))
    simp; omega
theorem ok_len {s : Str} (h : phraseOk s) : s.length ≤ 520 := by
  have h1 := split_total s
  have h2 := plain_sum _ h.1
  have h3 := h.2
  omega
theorem words_ok {s : Str} (h : phraseOk s) : wordsP s = splitS s := if_pos h
theorem words_no {s : Str} (h : ¬ phraseOk s) : wordsP s = [] := if_neg h
end Go.Proofs.YtkklomiipkipnaaGreatDoor
namespace Go.Proofs.YtkklomiipkipnaaGreatDoor
open Go.RowKit Go.Vc
theorem count1_calls {s : Str} {w : World} : Calls Tryz.prog 111 #[S s, S [32]] w fun e w' => e = .returned (.int .i64 ((s.count 32 : Nat) : Int)) ∧ w = w' :=
  (Tryz.strings_Count_one ⟨s.toArray⟩ 32 w).mono fun e w' ⟨h1, h2⟩ => ⟨by rw [h1]; rfl, h2.symm⟩
theorem index1_calls {s : Str} {w : World} : Calls Tryz.prog 112 #[S s, S [32]] w fun e w' => e = .returned (.int .i64 (Lib.indexByte s 32)) ∧ w = w' :=
  (Tryz.strings_Index_one ⟨s.toArray⟩ 32 w).mono fun e w' ⟨h1, h2⟩ => ⟨by rw [h1], h2.symm⟩
theorem fb_rowS {w : World} {b E n : Nat} {l : List Str} (h : FB w b E 1 n (fun x => [S (l.getD x default)])) (hl : l.length = n) (hn : n ≤ 140737488355328) : RowE w (some ⟨b, 0, none⟩) b 0 n l := by
  refine ⟨⟨by simp; omega, by simp; omega⟩, fun _ => rfl, fun i cs hi => ?_⟩
  have hil : i < l.length := by
    rcases Nat.lt_or_ge i l.length with h1 | h1
    · exact h1
    · rw [List.getElem?_eq_none (by simpa using h1)] at hi; cases hi
  simp [hil] at hi
  subst hi
  refine ⟨rfl, ?_⟩
  have h2 := h.at (x := i) (by omega)
  have e : l.getD i default = l[i] := by simp [List.getD, hil]
  simp only [e] at h2
  exact h2
theorem getD_snocS {d : List Str} {x : Str} {i : Nat} (h : d.length = i) (y : Nat) : (if y = i then [S x] else [S (d.getD y default)]) = [S ((d ++ [x]).getD y default)] := by
  subst h
  by_cases e : y = d.length
  · subst e; rw [if_pos rfl]; simp [List.getD]
  · rw [if_neg e]
    rcases Nat.lt_or_ge y d.length with h1 | h1
    · simp [List.getD, h1, List.getElem?_append_left]
    · simp [List.getD, List.getElem?_eq_none h1, List.getElem?_append_right h1, List.getElem?_eq_none (show [x].length ≤ y - d.length by simp; omega)]
theorem gensplit_calls {s : Str} {w0 : World} (hs : s.length ≤ 1000) :
    Calls Tryz.prog 94 #[S s, S [32], .int .i64 0, .int .i64 (-1)] w0 fun e w' => ∃ ao b off cap, e = .returned (.slice ao (splitS s).length cap) ∧ Evo w0 w' [] ∧ RowE w' ao b off cap (splitS s) := by
 have hcl := List.count_le_length (a := (32 : UInt8)) (l := s); have h32 : List.length ([32] : List UInt8) = 1 := rfl
 refine calls_enter (n := 66) (args := [S s, S [32], .int .i64 0, .int .i64 (-1)]) Tryz.func94 rfl Tryz.ntmps94 rfl ?_
 have hV : Evo w0 w0 [] := Evo.refl _ _
 refine r_seq ?_
 refine r_region ?_
 refine r_op rfl rfl rfl (run_asg (v := .slice _ _ _) rfl (by exact rfl)) ?_
 refine r_nil ?_
 refine r_seq ?_
 refine r_seq ?_
 refine r_region ?_
 refine r_op rfl rfl rfl (run_mv (v := .int _ _) rfl (by exact rfl)) ?_
 refine r_op rfl rfl rfl (run_eql rfl (by exact rfl) (by exact rfl)) ?_
 refine r_nil ?_
 refine r_cond_no (by exact rfl) ?_
 refine r_skip ?_
 refine r_seq ?_
 refine r_seq ?_
 refine r_region ?_
 refine r_op rfl rfl rfl (run_mv (v := S _) rfl (by exact rfl)) ?_
 refine r_op rfl rfl rfl (run_seql rfl (by exact rfl) (by exact rfl)) ?_
 refine r_nil ?_
 refine r_cond_no (by exact rfl) ?_
 refine r_skip ?_
 refine r_seq ?_
 refine r_seq ?_
 refine r_region ?_
 refine r_op rfl rfl rfl (run_mv (v := .int _ _) rfl (by exact rfl)) ?_
 refine r_op rfl rfl rfl (run_lss rfl (by exact rfl) (by exact rfl)) ?_
 refine r_nil ?_
 refine r_cond_yes (by exact rfl) ?_
 refine r_region ?_
 refine r_op rfl rfl rfl (run_mv (v := S _) rfl (by exact rfl)) ?_
 refine r_op rfl rfl rfl (run_mv (v := S _) rfl (by exact rfl)) ?_
 refine r_opcall rfl rfl rfl (run_callf (vs := [S _, S _]) rfl (by exact rfl) Tryz.func111 rfl (by kernel_rfl)) count1_calls ?_
 rintro e w1 ⟨rfl, rfl⟩
 refine ⟨_, rfl, ?_⟩
 refine r_op rfl rfl rfl (run_add rfl (by exact rfl) (by exact rfl) (by omega) (by omega)) ?_
 refine r_op rfl rfl rfl (run_asg (v := .int _ _) rfl (by exact rfl)) ?_
 refine r_nil ?_
 refine r_seq ?_
 refine r_region ?_
 refine r_op rfl rfl rfl (run_mv (v := .int _ _) rfl (by exact rfl)) ?_
 refine r_op rfl rfl rfl (run_mv (v := S _) rfl (by exact rfl)) ?_
 refine r_op rfl rfl rfl (run_lenS rfl (by exact rfl) Tryz.underlying9) ?_
 refine r_op rfl rfl rfl (run_add rfl (by exact rfl) (by exact rfl) (by omega) (by omega)) ?_
 refine r_op rfl rfl rfl (run_min rfl (by exact rfl) (by exact rfl)) ?_
 refine r_op rfl rfl rfl (run_asg (v := .int _ _) rfl (by exact rfl)) ?_
 refine r_nil ?_
 refine r_seq ?_
 refine r_region ?_
 refine r_op rfl rfl rfl (run_mv (v := .int _ _) rfl (by exact rfl)) ?_
 refine r_make (len := (s.count 32 + 1)) (zs := [_]) Tryz.underlying40 ty_9 (by exact rfl) rfl rfl (by exact rfl) (by exact rfl) (by omega) (by omega) (by omega) (by omega) ?_
 intro ba w2 heba hEw2 hout hzba
 have hs_w2 := (hEw2).size
 replace hV := evo_step0 hV hEw2
 refine r_op rfl rfl rfl (run_asg (v := .slice (some ⟨ba, 0, none⟩) _ _) rfl (by exact rfl)) ?_
 refine r_nil ?_
 refine r_seq ?_
 refine r_region ?_
 refine r_op rfl rfl rfl (run_mv (v := .int _ _) rfl (by exact rfl)) ?_
 refine r_op rfl rfl rfl (run_sub rfl (by exact rfl) (by exact rfl) (by omega) (by omega)) ?_
 refine r_op rfl rfl rfl (run_asg (v := .int _ _) rfl (by exact rfl)) ?_
 refine r_nil ?_
 refine r_seq ?_
 refine r_region ?_
 refine r_op rfl rfl rfl (run_asg (v := .int _ _) rfl (by exact rfl)) ?_
 refine r_nil ?_
 refine r_seq ?_
 refine r_block ?_
 refine r_loop (α := Nat) [0, 10, 11, 34, 35, 36, 37, 38, 39, 40, 41, 42, 43, 44, 45, 46, 47, 48, 49, 50, 51, 52, 53, 54, 55, 56, 57] (fun i g w => ∃ r : Str, ∃ d : List Str, g 10 = .int .i64 (i : Nat) ∧ g 0 = S r ∧ FB w ba 9 1 (s.count 32 + 1) (fun x => [S (d.getD x default)]) ∧ splitS s = d ++ splitS r ∧ s.count 32 = i + r.count 32 ∧ d.length = i ∧ r.length ≤ s.length ∧ w2.heap.size ≤ w.heap.size ∧ Evo w0 w []) (fun i => (s.count 32 + 1) - i) 0 ?_ ?_
 ·refine ⟨s, [], rfl, rfl, hout, (List.nil_append _).symm, (by omega), rfl, (by first | assumption | omega | (dsimp only; omega) | (simp; done)), (by first | assumption | omega | (dsimp only; omega) | (simp; done)), hV⟩
 ·rintro i g w4 ⟨r, d, hj5, hj6, hfb, hsp, hcn, hdl, hrl, hzl3, hV⟩
  have hs_w4hV := hV.size
  have hlt7 := hfb.lt
  refine r_know (i := 10) (v := .int .i64 (i : Nat)) (by exact hj5) ?_
  refine r_know (i := 0) (v := S r) (by exact hj6) ?_
  refine r_seq ?_
  refine r_seq ?_
  refine r_region ?_
  refine r_op rfl rfl rfl (run_mv (v := .int _ _) rfl (by exact rfl)) ?_
  refine r_op rfl rfl rfl (run_mv (v := .int _ _) rfl (by exact rfl)) ?_
  refine r_op rfl rfl rfl (run_lss rfl (by exact rfl) (by exact rfl)) ?_
  refine r_nil ?_
  refine r_cond (by exact rfl) (fun hc8 => ?_) (fun hc8 => ?_)
  ·skip
   refine r_skip ?_
   refine r_block ?_
   refine r_seq ?_
   have hix := idx_split r
   refine r_region ?_
   refine r_op rfl rfl rfl (run_mv (v := S _) rfl (by exact rfl)) ?_
   refine r_op rfl rfl rfl (run_mv (v := S _) rfl (by exact rfl)) ?_
   refine r_opcall rfl rfl rfl (run_callf (vs := [S _, S _]) rfl (by exact rfl) Tryz.func112 rfl (by kernel_rfl)) index1_calls ?_
   rintro e w9 ⟨rfl, rfl⟩
   refine ⟨_, rfl, ?_⟩
   refine r_op rfl rfl rfl (run_asg (v := .int _ _) rfl (by exact rfl)) ?_
   refine r_nil ?_
   refine r_seq ?_
   refine r_seq ?_
   refine r_region ?_
   refine r_op rfl rfl rfl (run_mv (v := .int _ _) rfl (by exact rfl)) ?_
   refine r_op rfl rfl rfl (run_lss rfl (by exact rfl) (by exact rfl)) ?_
   refine r_nil ?_
   refine r_cond (by exact rfl) (fun hc10 => ?_) (fun hc10 => ?_)
   ·skip
    have hend : splitS r = [r] ∧ r.count 32 = 0 := by rcases hix with ⟨_, h1, h2⟩ | ⟨m9, h1, _⟩; exact ⟨h1, h2⟩; omega
    clear hix
    refine r_exit rfl ?_
    refine r_seq ?_
    refine r_region ?_
    refine r_op rfl rfl rfl (run_mv (v := .slice (some ⟨ba, 0, none⟩) _ _) rfl (by exact rfl)) ?_
    refine r_op rfl rfl rfl (run_mv (v := .int _ _) rfl (by exact rfl)) ?_
    refine r_op rfl rfl rfl (run_mv (v := S _) rfl (by exact rfl)) ?_
    refine r_op rfl rfl rfl (run_ix (i) rfl Tryz.underlying40 ty_9 (by exact rfl) (by exact rfl) (by first | exact rfl | omega) (by omega) rfl) ?_
    refine r_storeF (v := S _) (vs := [_]) (i) (by exact rfl) rfl (by exact rfl) hfb (by omega) ty_9 (by exact rfl) rfl (by exact rfl) ?_
    intro w11 hEw11 hzw11 hb_new
    have hs_w11 := (hEw11).size
    replace hV := evo_step1 hV hEw11 (by first | exact .inl (by omega) | exact .inr (by simp))
    replace hfb := hb_new
    clear hb_new
    refine r_nil ?_
    refine r_seq ?_
    have hrS : RowE w11 (some ⟨ba, 0, none⟩) ba 0 (s.count 32 + 1) (splitS s) := by rw [hsp, hend.1]; exact fb_rowS (hfb.congr (fun y => by rw [← getD_snocS hdl y])) (by rw [List.length_append]; simp; omega) (by omega)
    have hsl := split_len s
    have hbd_hrS := hrS.bd
    refine r_know (i := 9) (v := .slice (some ⟨ba, 0, none⟩) (splitS s).length (s.count 32 + 1)) (by rw [hsl]; exact rfl) ?_
    refine r_region ?_
    refine r_op rfl rfl rfl (run_mv (v := .slice (some ⟨ba, 0, none⟩) _ _) rfl (by exact rfl)) ?_
    refine r_op rfl rfl rfl (run_mv (v := .int _ _) rfl (by exact rfl)) ?_
    refine r_op rfl rfl rfl (run_add rfl (by exact rfl) (by exact rfl) (by omega) (by omega)) ?_
    refine r_op rfl rfl rfl (by exact run_slE (0) ((i + 1)) rfl Tryz.underlying40 ty_9 (by exact rfl) hrS lo0 (at1 (by exact rfl) (by omega)) (by first | omega | (simp; omega)) (by first | omega | (simp; omega)) List.drop_zero) ?_
    have hS12 := (by have h9 := (hrS.take ((i + 1))).drop (0); rw [List.drop_zero] at h9; exact h9)
    have hbd_hS12 := hS12.bd
    refine r_op rfl rfl rfl (run_asg (v := .slice _ _ _) rfl (by exact rfl)) ?_
    refine r_nil ?_
    refine r_ret (res1 (v := .slice _ _ _) rfl (by exact rfl)) ?_
    have e9 : (splitS s).take (i + 1) = splitS s := List.take_of_length_le (by omega)
    exact ⟨_, _, _, _, by rw [e9], hV, by have h9 := hS12; rw [e9] at h9; exact h9⟩
   ·skip
    rcases hix with hix | ⟨m9, hm1, hm2, hm3, hm4⟩
    ·exact absurd (show Lib.indexByte r 32 < 0 by rw [hix.1]; decide) hc10
    have hrd := List.length_drop (i := m9 + 1) (l := r)
    refine r_skip ?_
    refine r_seq ?_
    refine r_region ?_
    refine r_op rfl rfl rfl (run_mv (v := .slice (some ⟨ba, 0, none⟩) _ _) rfl (by exact rfl)) ?_
    refine r_op rfl rfl rfl (run_mv (v := .int _ _) rfl (by exact rfl)) ?_
    refine r_op rfl rfl rfl (run_mv (v := S _) rfl (by exact rfl)) ?_
    refine r_op rfl rfl rfl (run_mv (v := .int _ _) rfl (by exact rfl)) ?_
    refine r_op rfl rfl rfl (run_mv (v := .int _ _) rfl (by exact rfl)) ?_
    refine r_op rfl rfl rfl (run_add rfl (by exact rfl) (by exact rfl) (by omega) (by omega)) ?_
    refine r_op rfl rfl rfl (by exact run_slS (0) (m9) rfl Tryz.underlying9 (by exact rfl) lo0 (at1 (by exact rfl) (by omega)) (by first | omega | (simp; omega)) (by first | omega | (simp; omega))) ?_
    refine r_op rfl rfl rfl (run_ix (i) rfl Tryz.underlying40 ty_9 (by exact rfl) (by exact rfl) (by first | exact rfl | omega) (by omega) rfl) ?_
    refine r_storeF (v := S _) (vs := [_]) (i) (by exact rfl) rfl (by exact rfl) hfb (by omega) ty_9 (by exact rfl) rfl (by exact rfl) ?_
    intro w13 hEw13 hzw13 hb_new
    have hs_w13 := (hEw13).size
    replace hV := evo_step1 hV hEw13 (by first | exact .inl (by omega) | exact .inr (by simp))
    replace hfb := hb_new
    clear hb_new
    refine r_nil ?_
    refine r_seq ?_
    refine r_region ?_
    refine r_op rfl rfl rfl (run_mv (v := S _) rfl (by exact rfl)) ?_
    refine r_op rfl rfl rfl (run_mv (v := .int _ _) rfl (by exact rfl)) ?_
    refine r_op rfl rfl rfl (run_mv (v := S _) rfl (by exact rfl)) ?_
    refine r_op rfl rfl rfl (run_lenS rfl (by exact rfl) Tryz.underlying9) ?_
    refine r_op rfl rfl rfl (run_add rfl (by exact rfl) (by exact rfl) (by omega) (by omega)) ?_
    refine r_op rfl rfl rfl (by exact run_slS ((m9 + 1)) (_) rfl Tryz.underlying9 (by exact rfl) (at1 (by exact rfl) (by omega)) hi0 (by first | omega | (simp; omega)) (by first | omega | (simp; omega))) ?_
    refine r_op rfl rfl rfl (run_asg (v := S _) rfl (by exact rfl)) ?_
    refine r_nil ?_
    refine r_region ?_
    refine r_op rfl rfl rfl (run_mv (v := .int _ _) rfl (by exact rfl)) ?_
    refine r_op rfl rfl rfl (run_add rfl (by exact rfl) (by exact rfl) (by omega) (by omega)) ?_
    refine r_op rfl rfl rfl (run_asg (v := .int _ _) rfl (by exact rfl)) ?_
    refine r_nil ?_
    refine r_blk ?_
    refine r_again (i + 1) ?_ ?_ ?_
    ·first | omega | (dsimp only; omega)
    ·refine ⟨(r.drop (m9 + 1)), (d ++ [r.take m9]), (congrArg (Value.int _) (by omega)), (congrArg S (List.take_of_length_le (by rw [List.length_drop]; exact Nat.le_refl _))), (hfb.congr (fun y => by rw [← getD_snocS hdl y]; rfl)), (by rw [hsp, hm3, List.append_assoc]; rfl), (by omega), (by rw [List.length_append]; simp; omega), (by rw [List.length_drop]; omega), (by first | assumption | omega | (dsimp only; omega) | (simp; done)), hV⟩
    ·repeat (first | (with_reducible exact Agree.merge _ _ _) | (with_reducible exact Agree.refl _ _) | (with_reducible refine Agree.upd ?_ _ _ rfl) | ((with_reducible refine Agree.inner ?_ ?_); (kernel_rfl)))
  ·skip
   have hend : splitS r = [r] ∧ r.count 32 = 0 := by rcases idx_split r with ⟨_, h1, h2⟩ | ⟨m9, h1, _, _, h2⟩; exact ⟨h1, h2⟩; omega
   refine r_exit rfl ?_
   refine r_seq ?_
   refine r_region ?_
   refine r_op rfl rfl rfl (run_mv (v := .slice (some ⟨ba, 0, none⟩) _ _) rfl (by exact rfl)) ?_
   refine r_op rfl rfl rfl (run_mv (v := .int _ _) rfl (by exact rfl)) ?_
   refine r_op rfl rfl rfl (run_mv (v := S _) rfl (by exact rfl)) ?_
   refine r_op rfl rfl rfl (run_ix (i) rfl Tryz.underlying40 ty_9 (by exact rfl) (by exact rfl) (by first | exact rfl | omega) (by omega) rfl) ?_
   refine r_storeF (v := S _) (vs := [_]) (i) (by exact rfl) rfl (by exact rfl) hfb (by omega) ty_9 (by exact rfl) rfl (by exact rfl) ?_
   intro w14 hEw14 hzw14 hb_new
   have hs_w14 := (hEw14).size
   replace hV := evo_step1 hV hEw14 (by first | exact .inl (by omega) | exact .inr (by simp))
   replace hfb := hb_new
   clear hb_new
   refine r_nil ?_
   refine r_seq ?_
   have hrS : RowE w14 (some ⟨ba, 0, none⟩) ba 0 (s.count 32 + 1) (splitS s) := by rw [hsp, hend.1]; exact fb_rowS (hfb.congr (fun y => by rw [← getD_snocS hdl y])) (by rw [List.length_append]; simp; omega) (by omega)
   have hsl := split_len s
   have hbd_hrS := hrS.bd
   refine r_know (i := 9) (v := .slice (some ⟨ba, 0, none⟩) (splitS s).length (s.count 32 + 1)) (by rw [hsl]; exact rfl) ?_
   refine r_region ?_
   refine r_op rfl rfl rfl (run_mv (v := .slice (some ⟨ba, 0, none⟩) _ _) rfl (by exact rfl)) ?_
   refine r_op rfl rfl rfl (run_mv (v := .int _ _) rfl (by exact rfl)) ?_
   refine r_op rfl rfl rfl (run_add rfl (by exact rfl) (by exact rfl) (by omega) (by omega)) ?_
   refine r_op rfl rfl rfl (by exact run_slE (0) ((i + 1)) rfl Tryz.underlying40 ty_9 (by exact rfl) hrS lo0 (at1 (by exact rfl) (by omega)) (by first | omega | (simp; omega)) (by first | omega | (simp; omega)) List.drop_zero) ?_
   have hS15 := (by have h9 := (hrS.take ((i + 1))).drop (0); rw [List.drop_zero] at h9; exact h9)
   have hbd_hS15 := hS15.bd
   refine r_op rfl rfl rfl (run_asg (v := .slice _ _ _) rfl (by exact rfl)) ?_
   refine r_nil ?_
   refine r_ret (res1 (v := .slice _ _ _) rfl (by exact rfl)) ?_
   have e9 : (splitS s).take (i + 1) = splitS s := List.take_of_length_le (by omega)
   exact ⟨_, _, _, _, by rw [e9], hV, by have h9 := hS15; rw [e9] at h9; exact h9⟩
theorem split_calls {s : Str} {w0 : World} (hs : s.length ≤ 1000) :
    Calls Tryz.prog 71 #[S s, S [32]] w0 fun e w' => ∃ ao b off cap, e = .returned (.slice ao (splitS s).length cap) ∧ Evo w0 w' [] ∧ RowE w' ao b off cap (splitS s) := by
 refine calls_enter (n := 8) (args := [S s, S [32]]) Tryz.func71 rfl Tryz.ntmps71 rfl ?_
 have hV : Evo w0 w0 [] := Evo.refl _ _
 refine r_seq ?_
 refine r_region ?_
 refine r_op rfl rfl rfl (run_asg (v := .slice _ _ _) rfl (by exact rfl)) ?_
 refine r_nil ?_
 refine r_seq ?_
 refine r_region ?_
 refine r_op rfl rfl rfl (run_mv (v := S _) rfl (by exact rfl)) ?_
 refine r_op rfl rfl rfl (run_mv (v := S _) rfl (by exact rfl)) ?_
 refine r_opcall rfl rfl rfl (run_callf (vs := [S _, S _, .int _ _, .int _ _]) rfl (by exact rfl) Tryz.func94 rfl (by kernel_rfl)) (gensplit_calls (s := s) hs) ?_
 rintro e w1 ⟨ao1, bs1, off1, cap1, rfl, hE1, hr1⟩
 refine ⟨_, rfl, ?_⟩
 have hs_w1 := (hE1).size
 replace hV := evo_step0 hV hE1
 refine r_op rfl rfl rfl (run_asg (v := .slice _ _ _) rfl (by exact rfl)) ?_
 refine r_nil ?_
 refine r_ret (res1 (v := .slice _ _ _) rfl (by exact rfl)) ?_
 exact ⟨_, _, _, _, rfl, hV, hr1⟩
theorem plain_no1 {s : Str} (h : s = [] ∨ (64 : Int) < (s.length : Int)) : ¬ plainP s := fun q => by
  rcases h with h | h
  · exact q.1.1 h
  · have := q.1.2; omega
theorem plain_no2 {s : Str} {k : Nat} (hk : k < s.length) (h : ¬ clsB (s.getD k default) = clsB (s.getD 0 default)) : ¬ plainP s := fun q => h (q.2.1 k hk)
theorem plain_iff {s : Str} (h : ¬ (s = [] ∨ (64 : Int) < (s.length : Int))) (hall : ∀ j, j < s.length → clsB (s.getD j default) = clsB (s.getD 0 default)) : (clsB (s.getD 0 default) = 4 ∨ clsB (s.getD 0 default) = 3) ↔ plainP s :=
  ⟨fun q => ⟨⟨fun e => h (.inl e), Int.ofNat_le.1 (Int.not_lt.1 (fun e => h (.inr e)))⟩, hall, q⟩, fun q => q.2.2⟩
theorem tplain_calls {s : Str} {w0 : World}  :
    Calls Tryz.prog 72 #[S s] w0 fun e w' => e = .returned (.bool (decide (plainP s))) ∧ Evo w0 w' [] := by
 refine calls_enter (n := 33) (args := [S s]) Tryz.func72 rfl Tryz.ntmps72 rfl ?_
 have hV : Evo w0 w0 [] := Evo.refl _ _
 refine r_seq ?_
 refine r_region ?_
 refine r_op rfl rfl rfl (run_asg (v := .bool _) rfl (by exact rfl)) ?_
 refine r_nil ?_
 refine r_seq ?_
 refine r_seq ?_
 refine r_region ?_
 refine r_op rfl rfl rfl (run_mv (v := S _) rfl (by exact rfl)) ?_
 refine r_op rfl rfl rfl (run_seql rfl (by exact rfl) (by exact rfl)) ?_
 refine r_op rfl rfl rfl (run_mv (v := .bool _) rfl (by exact rfl)) ?_
 refine r_g rfl (wantF (by exact rfl)) rfl (fun hg => run_mv (v := S _) rfl (by exact rfl)) ?_
 refine r_g rfl (wantF (by exact rfl)) rfl (fun hg => run_lenS rfl (glv (by exact rfl) (fun h => h) hg) Tryz.underlying9) ?_
 refine r_g rfl (wantF (by exact rfl)) rfl (fun hg => run_gtr rfl (glv (by exact rfl) (fun h => h) hg) (by exact rfl)) ?_
 refine r_op rfl rfl rfl (run_pick_or rfl (by exact rfl) rfl (fun hq => glv (by exact rfl) (fun h => h) hq)) ?_
 refine r_nil ?_
 refine r_cond (by exact rfl) (fun hc1 => ?_) (fun hc1 => ?_)
 ·skip
  refine r_seq ?_
  refine r_region ?_
  refine r_op rfl rfl rfl (run_asg (v := .bool _) rfl (by exact rfl)) ?_
  refine r_nil ?_
  refine r_ret (res1 (v := .bool _) rfl (by exact rfl)) ?_
  first | exact ⟨ret_bool (decide_eq_false (plain_no1 hc1)).symm, hV⟩ | exact ⟨ret_bool (decide_eq_false (plain_no2 (by omega) hc1)).symm, hV⟩ | exact ⟨ret_bool (decide_eq_decide.2 (plain_iff hne (fun j hj => hall j (by omega)))), hV⟩
 ·skip
  refine r_skip ?_
  refine r_seq ?_
  have hne := hc1
  have hl0 : 0 < s.length := List.length_pos_iff.2 (fun e => hne (.inl e))
  refine r_region ?_
  refine r_op rfl rfl rfl (run_mv (v := S _) rfl (by exact rfl)) ?_
  refine r_op rfl rfl rfl (run_ixS (0) rfl Tryz.underlying9 (by exact rfl) (by exact rfl) (by first | exact rfl | omega) (by omega)) ?_
  refine r_opcall rfl rfl rfl (run_callf (vs := [.int _ _]) rfl (by exact rfl) Tryz.func95 rfl (by kernel_rfl)) of_calls ?_
  rintro e w2 ⟨rfl, hE2⟩
  refine ⟨_, rfl, ?_⟩
  have hs_w2 := (hE2).size
  replace hV := evo_step0 hV hE2
  refine r_op rfl rfl rfl (run_asg (v := .int _ _) rfl (by exact rfl)) ?_
  refine r_nil ?_
  refine r_seq ?_
  refine r_seq ?_
  refine r_region ?_
  refine r_op rfl rfl rfl (run_mv (v := S _) rfl (by exact rfl)) ?_
  refine r_op rfl rfl rfl (run_lenS rfl (by exact rfl) Tryz.underlying9) ?_
  refine r_op rfl rfl rfl (run_mv (v := .int _ _) rfl (by exact rfl)) ?_
  refine r_nil ?_
  refine r_block ?_
  refine r_loop (α := Nat) [2, 4, 17, 18, 19, 20, 21, 22, 23, 24, 25, 26] (fun k g w => g 17 = .int .i64 (k : Nat) ∧ k ≤ s.length ∧ (∀ j, j < k → clsB (s.getD j default) = clsB (s.getD 0 default)) ∧ w2.heap.size ≤ w.heap.size ∧ Evo w0 w []) (fun k => s.length - k) 0 ?_ ?_
  ·refine ⟨(by first | exact rfl | exact congrArg (Value.int _) (by omega) | exact congrArg (Value.int _) (by dsimp only; omega) | exact congrArg (Value.int _) (by simp) | exact congrArg S (by simp)), (by first | assumption | omega | (dsimp only; omega) | (simp; done)), (fun j h => by omega), (by first | assumption | omega | (dsimp only; omega) | (simp; done)), hV⟩
  ·rintro k g w4 ⟨hj5, hk_k, hall, hzl3, hV⟩
   have hs_w4hV := hV.size
   refine r_know (i := 17) (v := .int .i64 (k : Nat)) (by exact hj5) ?_
   refine r_seq ?_
   refine r_region ?_
   refine r_op rfl rfl rfl (run_lss rfl (by exact rfl) (by exact rfl)) ?_
   refine r_nil ?_
   refine r_seq ?_
   refine r_cond (by exact rfl) (fun hc6 => ?_) (fun hc6 => ?_)
   ·skip
    refine r_skip ?_
    refine r_seq ?_
    refine r_block ?_
    refine r_seq ?_
    refine r_region ?_
    refine r_op rfl rfl rfl (run_mv (v := .int _ _) rfl (by exact rfl)) ?_
    refine r_op rfl rfl rfl (run_asg (v := .int _ _) rfl (by exact rfl)) ?_
    refine r_nil ?_
    refine r_seq ?_
    refine r_region ?_
    refine r_op rfl rfl rfl (run_mv (v := S _) rfl (by exact rfl)) ?_
    refine r_op rfl rfl rfl (run_mv (v := .int _ _) rfl (by exact rfl)) ?_
    refine r_op rfl rfl rfl (run_ixS (k) rfl Tryz.underlying9 (by exact rfl) (by exact rfl) (by first | exact rfl | omega) (by omega)) ?_
    refine r_opcall rfl rfl rfl (run_callf (vs := [.int _ _]) rfl (by exact rfl) Tryz.func95 rfl (by kernel_rfl)) of_calls ?_
    rintro e w7 ⟨rfl, hE7⟩
    refine ⟨_, rfl, ?_⟩
    have hs_w7 := (hE7).size
    replace hV := evo_step0 hV hE7
    refine r_op rfl rfl rfl (run_mv (v := .int _ _) rfl (by exact rfl)) ?_
    refine r_op rfl rfl rfl (run_neq rfl (by exact rfl) (by exact rfl)) ?_
    refine r_nil ?_
    refine r_cond (by exact rfl) (fun hc8 => ?_) (fun hc8 => ?_)
    ·skip
     refine r_seq ?_
     refine r_region ?_
     refine r_op rfl rfl rfl (run_asg (v := .bool _) rfl (by exact rfl)) ?_
     refine r_nil ?_
     refine r_ret (res1 (v := .bool _) rfl (by exact rfl)) ?_
     first | exact ⟨ret_bool (decide_eq_false (plain_no1 hc8)).symm, hV⟩ | exact ⟨ret_bool (decide_eq_false (plain_no2 (by omega) hc8)).symm, hV⟩ | exact ⟨ret_bool (decide_eq_decide.2 (plain_iff hne (fun j hj => hall j (by omega)))), hV⟩
    ·skip
     refine r_skip ?_
     refine r_blk ?_
     refine r_region ?_
     refine r_op rfl rfl rfl (run_add rfl (by exact rfl) (by exact rfl) (by omega) (by omega)) ?_
     refine r_op rfl rfl rfl (run_mv (v := .int _ _) rfl (by exact rfl)) ?_
     refine r_nil ?_
     refine r_again (k + 1) ?_ ?_ ?_
     ·first | omega | (dsimp only; omega)
     ·refine ⟨(by first | exact rfl | exact congrArg (Value.int _) (by omega) | exact congrArg (Value.int _) (by dsimp only; omega) | exact congrArg (Value.int _) (by simp) | exact congrArg S (by simp)), (by first | assumption | omega | (dsimp only; omega) | (simp; done)), (upto0 hall (by first | exact Classical.not_not.1 hc8 | simpa using hc8)), (by first | assumption | omega | (dsimp only; omega) | (simp; done)), hV⟩
     ·repeat (first | (with_reducible exact Agree.merge _ _ _) | (with_reducible exact Agree.refl _ _) | (with_reducible refine Agree.upd ?_ _ _ rfl) | ((with_reducible refine Agree.inner ?_ ?_); (kernel_rfl)))
   ·skip
    refine r_exit rfl ?_
    refine r_seq ?_
    refine r_region ?_
    refine r_op rfl rfl rfl (run_mv (v := .int _ _) rfl (by exact rfl)) ?_
    refine r_op rfl rfl rfl (run_eql rfl (by exact rfl) (by exact rfl)) ?_
    refine r_op rfl rfl rfl (run_mv (v := .bool _) rfl (by exact rfl)) ?_
    refine r_g rfl (wantF (by exact rfl)) rfl (fun hg => run_mv (v := .int _ _) rfl (by exact rfl)) ?_
    refine r_g rfl (wantF (by exact rfl)) rfl (fun hg => run_eql rfl (glv (by exact rfl) (fun h => h) hg) (by exact rfl)) ?_
    refine r_op rfl rfl rfl (run_pick_or rfl (by exact rfl) rfl (fun hq => glv (by exact rfl) (fun h => h) hq)) ?_
    refine r_op rfl rfl rfl (run_asg (v := .bool _) rfl (by exact rfl)) ?_
    refine r_nil ?_
    refine r_ret (res1 (v := .bool _) rfl (by exact rfl)) ?_
    first | exact ⟨ret_bool (decide_eq_false (plain_no1 hc6)).symm, hV⟩ | exact ⟨ret_bool (decide_eq_false (plain_no2 (by omega) hc6)).symm, hV⟩ | exact ⟨ret_bool (decide_eq_decide.2 (plain_iff hne (fun j hj => hall j (by omega)))), hV⟩
theorem rplain_calls {s : Str} {w0 : World}  :
    Calls Tryz.prog 57 #[S s] w0 fun e w' => e = .returned (.bool (decide (plainP s))) ∧ Evo w0 w' [] := by
 refine calls_enter (n := 33) (args := [S s]) Tryz.func57 rfl Tryz.ntmps57 rfl ?_
 have hV : Evo w0 w0 [] := Evo.refl _ _
 refine r_seq ?_
 refine r_region ?_
 refine r_op rfl rfl rfl (run_asg (v := .bool _) rfl (by exact rfl)) ?_
 refine r_nil ?_
 refine r_seq ?_
 refine r_seq ?_
 refine r_region ?_
 refine r_op rfl rfl rfl (run_mv (v := S _) rfl (by exact rfl)) ?_
 refine r_op rfl rfl rfl (run_seql rfl (by exact rfl) (by exact rfl)) ?_
 refine r_op rfl rfl rfl (run_mv (v := .bool _) rfl (by exact rfl)) ?_
 refine r_g rfl (wantF (by exact rfl)) rfl (fun hg => run_mv (v := S _) rfl (by exact rfl)) ?_
 refine r_g rfl (wantF (by exact rfl)) rfl (fun hg => run_lenS rfl (glv (by exact rfl) (fun h => h) hg) Tryz.underlying9) ?_
 refine r_g rfl (wantF (by exact rfl)) rfl (fun hg => run_gtr rfl (glv (by exact rfl) (fun h => h) hg) (by exact rfl)) ?_
 refine r_op rfl rfl rfl (run_pick_or rfl (by exact rfl) rfl (fun hq => glv (by exact rfl) (fun h => h) hq)) ?_
 refine r_nil ?_
 refine r_cond (by exact rfl) (fun hc1 => ?_) (fun hc1 => ?_)
 ·skip
  refine r_seq ?_
  refine r_region ?_
  refine r_op rfl rfl rfl (run_asg (v := .bool _) rfl (by exact rfl)) ?_
  refine r_nil ?_
  refine r_ret (res1 (v := .bool _) rfl (by exact rfl)) ?_
  first | exact ⟨ret_bool (decide_eq_false (plain_no1 hc1)).symm, hV⟩ | exact ⟨ret_bool (decide_eq_false (plain_no2 (by omega) hc1)).symm, hV⟩ | exact ⟨ret_bool (decide_eq_decide.2 (plain_iff hne (fun j hj => hall j (by omega)))), hV⟩
 ·skip
  refine r_skip ?_
  refine r_seq ?_
  have hne := hc1
  have hl0 : 0 < s.length := List.length_pos_iff.2 (fun e => hne (.inl e))
  refine r_region ?_
  refine r_op rfl rfl rfl (run_mv (v := S _) rfl (by exact rfl)) ?_
  refine r_op rfl rfl rfl (run_ixS (0) rfl Tryz.underlying9 (by exact rfl) (by exact rfl) (by first | exact rfl | omega) (by omega)) ?_
  refine r_opcall rfl rfl rfl (run_callf (vs := [.int _ _]) rfl (by exact rfl) Tryz.func87 rfl (by kernel_rfl)) rclass_calls ?_
  rintro e w2 ⟨rfl, hE2⟩
  refine ⟨_, rfl, ?_⟩
  have hs_w2 := (hE2).size
  replace hV := evo_step0 hV hE2
  refine r_op rfl rfl rfl (run_asg (v := .int _ _) rfl (by exact rfl)) ?_
  refine r_nil ?_
  refine r_seq ?_
  refine r_seq ?_
  refine r_region ?_
  refine r_op rfl rfl rfl (run_asg (v := .int _ _) rfl (by exact rfl)) ?_
  refine r_nil ?_
  refine r_block ?_
  refine r_loop (α := Nat) [2, 4, 15, 16, 17, 18, 19, 20, 21, 22, 23, 24, 25, 26] (fun k g w => g 4 = .int .i64 (k : Nat) ∧ k ≤ s.length ∧ (∀ j, j < k → clsB (s.getD j default) = clsB (s.getD 0 default)) ∧ w2.heap.size ≤ w.heap.size ∧ Evo w0 w []) (fun k => s.length - k) 0 ?_ ?_
  ·refine ⟨rfl, (by first | assumption | omega | (dsimp only; omega) | (simp; done)), (fun j h => by omega), (by first | assumption | omega | (dsimp only; omega) | (simp; done)), hV⟩
  ·rintro k g w4 ⟨hj5, hk, hall, hzl3, hV⟩
   have hs_w4hV := hV.size
   refine r_know (i := 4) (v := .int .i64 (k : Nat)) (by exact hj5) ?_
   refine r_seq ?_
   refine r_seq ?_
   refine r_region ?_
   refine r_op rfl rfl rfl (run_mv (v := .int _ _) rfl (by exact rfl)) ?_
   refine r_op rfl rfl rfl (run_mv (v := S _) rfl (by exact rfl)) ?_
   refine r_op rfl rfl rfl (run_lenS rfl (by exact rfl) Tryz.underlying9) ?_
   refine r_op rfl rfl rfl (run_lss rfl (by exact rfl) (by exact rfl)) ?_
   refine r_nil ?_
   refine r_cond (by exact rfl) (fun hc6 => ?_) (fun hc6 => ?_)
   ·skip
    refine r_skip ?_
    refine r_seq ?_
    refine r_block ?_
    refine r_seq ?_
    refine r_region ?_
    refine r_op rfl rfl rfl (run_mv (v := S _) rfl (by exact rfl)) ?_
    refine r_op rfl rfl rfl (run_mv (v := .int _ _) rfl (by exact rfl)) ?_
    refine r_op rfl rfl rfl (run_ixS (k) rfl Tryz.underlying9 (by exact rfl) (by exact rfl) (by first | exact rfl | omega) (by omega)) ?_
    refine r_opcall rfl rfl rfl (run_callf (vs := [.int _ _]) rfl (by exact rfl) Tryz.func87 rfl (by kernel_rfl)) rclass_calls ?_
    rintro e w7 ⟨rfl, hE7⟩
    refine ⟨_, rfl, ?_⟩
    have hs_w7 := (hE7).size
    replace hV := evo_step0 hV hE7
    refine r_op rfl rfl rfl (run_mv (v := .int _ _) rfl (by exact rfl)) ?_
    refine r_op rfl rfl rfl (run_neq rfl (by exact rfl) (by exact rfl)) ?_
    refine r_nil ?_
    refine r_cond (by exact rfl) (fun hc8 => ?_) (fun hc8 => ?_)
    ·skip
     refine r_seq ?_
     refine r_region ?_
     refine r_op rfl rfl rfl (run_asg (v := .bool _) rfl (by exact rfl)) ?_
     refine r_nil ?_
     refine r_ret (res1 (v := .bool _) rfl (by exact rfl)) ?_
     first | exact ⟨ret_bool (decide_eq_false (plain_no1 hc8)).symm, hV⟩ | exact ⟨ret_bool (decide_eq_false (plain_no2 (by omega) hc8)).symm, hV⟩ | exact ⟨ret_bool (decide_eq_decide.2 (plain_iff hne (fun j hj => hall j (by omega)))), hV⟩
    ·skip
     refine r_skip ?_
     refine r_blk ?_
     refine r_region ?_
     refine r_op rfl rfl rfl (run_mv (v := .int _ _) rfl (by exact rfl)) ?_
     refine r_op rfl rfl rfl (run_add rfl (by exact rfl) (by exact rfl) (by omega) (by omega)) ?_
     refine r_op rfl rfl rfl (run_asg (v := .int _ _) rfl (by exact rfl)) ?_
     refine r_nil ?_
     refine r_again (k + 1) ?_ ?_ ?_
     ·first | omega | (dsimp only; omega)
     ·refine ⟨(congrArg (Value.int _) (by omega)), (by first | assumption | omega | (dsimp only; omega) | (simp; done)), (upto0 hall (by first | exact Classical.not_not.1 hc8 | simpa using hc8)), (by first | assumption | omega | (dsimp only; omega) | (simp; done)), hV⟩
     ·repeat (first | (with_reducible exact Agree.merge _ _ _) | (with_reducible exact Agree.refl _ _) | (with_reducible refine Agree.upd ?_ _ _ rfl) | ((with_reducible refine Agree.inner ?_ ?_); (kernel_rfl)))
   ·skip
    refine r_exit rfl ?_
    refine r_seq ?_
    refine r_region ?_
    refine r_op rfl rfl rfl (run_mv (v := .int _ _) rfl (by exact rfl)) ?_
    refine r_op rfl rfl rfl (run_eql rfl (by exact rfl) (by exact rfl)) ?_
    refine r_op rfl rfl rfl (run_mv (v := .bool _) rfl (by exact rfl)) ?_
    refine r_g rfl (wantF (by exact rfl)) rfl (fun hg => run_mv (v := .int _ _) rfl (by exact rfl)) ?_
    refine r_g rfl (wantF (by exact rfl)) rfl (fun hg => run_eql rfl (glv (by exact rfl) (fun h => h) hg) (by exact rfl)) ?_
    refine r_op rfl rfl rfl (run_pick_or rfl (by exact rfl) rfl (fun hq => glv (by exact rfl) (fun h => h) hq)) ?_
    refine r_op rfl rfl rfl (run_asg (v := .bool _) rfl (by exact rfl)) ?_
    refine r_nil ?_
    refine r_ret (res1 (v := .bool _) rfl (by exact rfl)) ?_
    first | exact ⟨ret_bool (decide_eq_false (plain_no1 hc6)).symm, hV⟩ | exact ⟨ret_bool (decide_eq_false (plain_no2 (by omega) hc6)).symm, hV⟩ | exact ⟨ret_bool (decide_eq_decide.2 (plain_iff hne (fun j hj => hall j (by omega)))), hV⟩
end Go.Proofs.YtkklomiipkipnaaGreatDoor
namespace Go.Proofs.YtkklomiipkipnaaGreatDoor
open Go Go.RowKit Go.Vc
theorem allD {l : List Str} {Q : Str → Prop} (h : ∀ j, j < l.length → Q (l.getD j default)) : ∀ w ∈ l, Q w := fun w hw => by
  obtain ⟨j, hj, e⟩ := List.getElem_of_mem hw
  have h2 := h j hj
  rwa [show l.getD j default = w by simp [List.getD, hj, e]] at h2
theorem u8_32 {c : UInt8} : ((c.toNat : Nat) : Int) = 32 ↔ c = 32 := by
  constructor
  · intro h
    have h2 : c.toNat = 32 := by omega
    exact UInt8.toNat_inj.1 h2
  · rintro rfl; rfl
def PhSt (s : Str) (i fr : Nat) (d : List Str) : Prop := (∀ w ∈ d, plainP w) ∧ ((fr ≤ i ∧ i ≤ s.length ∧ splitS s = d ++ splitS (s.drop fr) ∧ ∀ j, fr ≤ j → j < i → s.getD j default ≠ 32) ∨ (i = s.length + 1 ∧ fr = s.length + 1 ∧ splitS s = d))
def piece (s : Str) (fr i : Nat) : Str := (s.drop fr).take (i - fr)
theorem PhSt.start (s : Str) : PhSt s 0 0 [] := ⟨by simp, .inl ⟨Nat.le_refl _, Nat.zero_le _, rfl, fun j h1 h2 => by omega⟩⟩
theorem PhSt.fr {s : Str} {i fr : Nat} {d : List Str} (h : PhSt s i fr d) (hi : i ≤ s.length) : fr ≤ i ∧ splitS s = d ++ splitS (s.drop fr) ∧ ∀ j, fr ≤ j → j < i → s.getD j default ≠ 32 := by
  rcases h.2 with ⟨h1, h2, h3, h4⟩ | ⟨h1, _⟩
  · exact ⟨h1, h3, h4⟩
  · omega
theorem PhSt.go {s : Str} {i fr : Nat} {d : List Str} (h : PhSt s i fr d) (hi : i ≤ s.length) (hn : ¬ (i = s.length ∨ s.getD i default = 32)) : PhSt s (i + 1) fr d := by
  obtain ⟨h1, h2, h3⟩ := h.fr hi
  have h4 : ¬ i = s.length := fun q => hn (.inl q)
  refine ⟨h.1, .inl ⟨by omega, by omega, h2, fun j h5 h6 => ?_⟩⟩
  by_cases e : j = i
  · subst e; exact fun q => hn (.inr q)
  · exact h3 j h5 (by omega)
theorem getD_dropS {s : Str} {fr k : Nat} : (s.drop fr).getD k default = s.getD (fr + k) default := by simp [List.getD, List.getElem?_drop]
theorem piece_split {s : Str} {i fr : Nat} {d : List Str} (h : PhSt s i fr d) (hi : i ≤ s.length) (hb : i = s.length ∨ s.getD i default = 32) : (i = s.length ∧ splitS s = d ++ [piece s fr i]) ∨ (i < s.length ∧ splitS s = d ++ [piece s fr i] ++ splitS (s.drop (i + 1))) := by
  obtain ⟨h1, h2, h3⟩ := h.fr hi
  have hl : (s.drop fr).length = s.length - fr := List.length_drop
  rcases split_at (s.drop fr) (i - fr) (by omega) (fun k hk => by rw [getD_dropS]; exact h3 _ (by omega) (by omega)) with ⟨h4, h5⟩ | ⟨h4, h5⟩
  · refine .inl ⟨by omega, ?_⟩
    rw [h2, h5]; unfold piece; rw [List.take_of_length_le (by omega)]
  · have hlt : i < s.length := by omega
    refine .inr ⟨hlt, ?_⟩
    have h6 : s.getD i default = 32 := hb.resolve_left (by omega)
    rw [h2, h5 (by rw [getD_dropS, show fr + (i - fr) = i by omega]; exact h6), List.drop_drop, show fr + (i - fr + 1) = i + 1 by omega, List.append_assoc]; rfl
theorem PhSt.cut {s : Str} {i fr : Nat} {d : List Str} (h : PhSt s i fr d) (hi : i ≤ s.length) (hb : i = s.length ∨ s.getD i default = 32) (hp : plainP (piece s fr i)) : PhSt s (i + 1) (i + 1) (d ++ [piece s fr i]) := by
  refine ⟨fun w hw => (List.mem_append.1 hw).elim (h.1 w) (fun q => by rw [List.mem_singleton] at q; rw [q]; exact hp), ?_⟩
  rcases piece_split h hi hb with ⟨h1, h2⟩ | ⟨h1, h2⟩
  · exact .inr ⟨by omega, by omega, h2⟩
  · exact .inl ⟨Nat.le_refl _, by omega, h2, fun j h3 h4 => by omega⟩
theorem PhSt.bad {s : Str} {i fr : Nat} {d : List Str} (h : PhSt s i fr d) (hi : i ≤ s.length) (hb : i = s.length ∨ s.getD i default = 32) (hp : ¬ plainP (piece s fr i)) : ¬ phraseOk s := fun q => hp (q.1 _ (by
  rcases piece_split h hi hb with ⟨_, h2⟩ | ⟨_, h2⟩ <;> rw [h2] <;> simp))
theorem PhSt.fin {s : Str} {i fr : Nat} {d : List Str} (h : PhSt s i fr d) (hi : s.length < i) : splitS s = d ∧ ∀ w ∈ d, plainP w := by
  rcases h.2 with ⟨_, h2, _⟩ | ⟨_, _, h2⟩
  · omega
  · exact ⟨h2, h.1⟩
def oneS (ws : List Str) : List (List Str) := ws.map (fun w => [lowS w])
def hasB (s : Str) (l : List Vc.Item) : Bool := (List.range l.length).any (fun i => decide (0 ≤ cT l i (oneS (wordsP s))))
theorem has_yes {s : Str} {l : List Vc.Item} {i : Nat} (hi : i < l.length) (h : 0 ≤ cT l i (oneS (wordsP s))) : hasB s l = true := by
  unfold hasB; rw [List.any_eq_true]; exact ⟨i, List.mem_range.2 hi, decide_eq_true h⟩
theorem has_no {s : Str} {l : List Vc.Item} (h : ∀ i, i < l.length → ¬ 0 ≤ cT l i (oneS (wordsP s))) : hasB s l = false := by
  unfold hasB; rw [List.any_eq_false]; intro i hi; simpa using h i (List.mem_range.1 hi)
end Go.Proofs.YtkklomiipkipnaaGreatDoor
namespace Go.Proofs.YtkklomiipkipnaaGreatDoor
open Go.RowKit Go.Vc
theorem twords_calls {s : Str} {w0 : World}  :
    Calls Tryz.prog 42 #[S s] w0 fun e w' => ∃ ao b off cap, e = .returned (.slice ao (wordsP s).length cap) ∧ Evo w0 w' [] ∧ RowE w' ao b off cap (wordsP s) := by
 refine calls_enter (n := 25) (args := [S s]) Tryz.func42 rfl Tryz.ntmps42 rfl ?_
 have hV : Evo w0 w0 [] := Evo.refl _ _
 refine r_seq ?_
 refine r_region ?_
 refine r_op rfl rfl rfl (run_asg (v := .slice _ _ _) rfl (by exact rfl)) ?_
 refine r_nil ?_
 refine r_seq ?_
 refine r_seq ?_
 refine r_region ?_
 refine r_op rfl rfl rfl (run_mv (v := S _) rfl (by exact rfl)) ?_
 refine r_op rfl rfl rfl (run_lenS rfl (by exact rfl) Tryz.underlying9) ?_
 refine r_op rfl rfl rfl (run_gtr rfl (by exact rfl) (by exact rfl)) ?_
 refine r_nil ?_
 refine r_cond (by exact rfl) (fun hc1 => ?_) (fun hc1 => ?_)
 ·skip
  refine r_seq ?_
  refine r_region ?_
  refine r_op rfl rfl rfl (run_asg (v := .slice _ _ _) rfl (by exact rfl)) ?_
  refine r_nil ?_
  refine r_ret (res1 (v := .slice _ _ _) rfl (by exact rfl)) ?_
  exact ⟨none, 0, 0, 0, by rw [words_no (fun q => by have := ok_len q; omega)]; rfl, hV, by rw [words_no (fun q => by have := ok_len q; omega)]; exact RowE.nil _ _ _ _ _⟩
 ·skip
  refine r_skip ?_
  refine r_seq ?_
  refine r_region ?_
  refine r_op rfl rfl rfl (run_mv (v := S _) rfl (by exact rfl)) ?_
  refine r_opcall rfl rfl rfl (run_callf (vs := [S _, S _]) rfl (by exact rfl) Tryz.func71 rfl (by kernel_rfl)) (split_calls (s := s) (by omega)) ?_
  rintro e w2 ⟨ao2, bs2, off2, cap2, rfl, hE2, hr2⟩
  refine ⟨_, rfl, ?_⟩
  have hs_w2 := (hE2).size
  replace hV := evo_step0 hV hE2
  refine r_op rfl rfl rfl (run_asg (v := .slice _ _ _) rfl (by exact rfl)) ?_
  refine r_nil ?_
  refine r_seq ?_
  refine r_seq ?_
  have hI3 : Evo w2 w2 [] := Evo.refl _ _
  have hr20 := keepE hr2
  have hst9 := split_total s
  refine r_region ?_
  refine r_op rfl rfl rfl (run_mv (v := .slice _ _ _) rfl (by exact rfl)) ?_
  refine r_op rfl rfl rfl (run_lenSl rfl (by exact rfl) Tryz.underlying40) ?_
  refine r_op rfl rfl rfl (run_mv (v := .int _ _) rfl (by exact rfl)) ?_
  refine r_nil ?_
  refine r_block ?_
  refine r_loop (α := Nat) [2, 5, 13, 14, 15, 16, 17, 18, 19, 20] (fun k g w => g 13 = .int .i64 (k : Nat) ∧ k ≤ (splitS s).length ∧ (∀ j, j < k → plainP ((splitS s).getD j default)) ∧ w2.heap.size ≤ w.heap.size ∧ Evo w0 w [] ∧ Evo w2 w []) (fun k => (splitS s).length - k) 0 ?_ ?_
  ·refine ⟨(by first | exact rfl | exact congrArg (Value.int _) (by omega) | exact congrArg (Value.int _) (by dsimp only; omega) | exact congrArg (Value.int _) (by simp) | exact congrArg S (by simp)), (by first | assumption | omega | (dsimp only; omega) | (simp; done)), (fun j h => by omega), (by first | assumption | omega | (dsimp only; omega) | (simp; done)), hV, hI3⟩
  ·rintro k g w5 ⟨hj6, hk_k, hall, hzl4, hV, hI3⟩
   have hs_w5hV := hV.size
   have hs_w5hI3 := hI3.size
   replace hr2 := hr20 _ hI3
   refine r_know (i := 13) (v := .int .i64 (k : Nat)) (by exact hj6) ?_
   refine r_seq ?_
   refine r_region ?_
   refine r_op rfl rfl rfl (run_lss rfl (by exact rfl) (by exact rfl)) ?_
   refine r_nil ?_
   refine r_seq ?_
   refine r_cond (by exact rfl) (fun hc7 => ?_) (fun hc7 => ?_)
   ·skip
    refine r_skip ?_
    refine r_seq ?_
    refine r_block ?_
    refine r_seq ?_
    refine r_region ?_
    refine r_op rfl rfl rfl (run_ix (k) rfl Tryz.underlying40 ty_9 (by exact rfl) (by exact rfl) (by first | exact rfl | omega) (by omega) (hr2.addr (i := k) (by omega))) ?_
    have hA80 := fun (w' : World) (h : Evo w2 w' []) => (hr20 w' h).atD (k) (by omega)
    have hA8 := hA80 _ hI3
    refine r_op rfl rfl rfl (run_ld1 rfl ag_9 (by exact rfl) (hA8.cell 0 (by exact rfl))) ?_
    refine r_op rfl rfl rfl (run_asg (v := S _) rfl (by exact rfl)) ?_
    refine r_nil ?_
    refine r_seq ?_
    refine r_region ?_
    refine r_op rfl rfl rfl (run_mv (v := S _) rfl (by exact rfl)) ?_
    refine r_opcall rfl rfl rfl (run_callf (vs := [S _]) rfl (by exact rfl) Tryz.func72 rfl (by kernel_rfl)) (tplain_calls (s := ((splitS s).getD k default))) ?_
    rintro e w9 ⟨rfl, hE9⟩
    refine ⟨_, rfl, ?_⟩
    have hs_w9 := (hE9).size
    replace hV := evo_step0 hV hE9
    replace hI3 := evo_step0 hI3 hE9
    replace hr2 := hr20 _ hI3
    refine r_op rfl rfl rfl (run_not rfl (by exact rfl)) ?_
    refine r_nil ?_
    refine r_cond (by exact rfl) (fun hc10 => ?_) (fun hc10 => ?_)
    ·skip
     refine r_seq ?_
     refine r_region ?_
     refine r_op rfl rfl rfl (run_asg (v := .slice _ _ _) rfl (by exact rfl)) ?_
     refine r_nil ?_
     refine r_ret (res1 (v := .slice _ _ _) rfl (by exact rfl)) ?_
     exact ⟨none, 0, 0, 0, by rw [words_no (fun q => hc10 (q.1 _ (getD_in (by omega))))]; rfl, hV, by rw [words_no (fun q => hc10 (q.1 _ (getD_in (by omega))))]; exact RowE.nil _ _ _ _ _⟩
    ·skip
     refine r_skip ?_
     refine r_blk ?_
     refine r_region ?_
     refine r_op rfl rfl rfl (run_add rfl (by exact rfl) (by exact rfl) (by omega) (by omega)) ?_
     refine r_op rfl rfl rfl (run_mv (v := .int _ _) rfl (by exact rfl)) ?_
     refine r_nil ?_
     refine r_again (k + 1) ?_ ?_ ?_
     ·first | omega | (dsimp only; omega)
     ·refine ⟨(by first | exact rfl | exact congrArg (Value.int _) (by omega) | exact congrArg (Value.int _) (by dsimp only; omega) | exact congrArg (Value.int _) (by simp) | exact congrArg S (by simp)), (by first | assumption | omega | (dsimp only; omega) | (simp; done)), (upto0 hall (by first | exact Classical.not_not.1 hc10 | exact hc10)), (by first | assumption | omega | (dsimp only; omega) | (simp; done)), hV, hI3⟩
     ·repeat (first | (with_reducible exact Agree.merge _ _ _) | (with_reducible exact Agree.refl _ _) | (with_reducible refine Agree.upd ?_ _ _ rfl) | ((with_reducible refine Agree.inner ?_ ?_); (kernel_rfl)))
   ·skip
    refine r_exit rfl ?_
    refine r_seq ?_
    refine r_seq ?_
    refine r_region ?_
    refine r_op rfl rfl rfl (run_mv (v := .slice _ _ _) rfl (by exact rfl)) ?_
    refine r_op rfl rfl rfl (run_lenSl rfl (by exact rfl) Tryz.underlying40) ?_
    refine r_op rfl rfl rfl (run_gtr rfl (by exact rfl) (by exact rfl)) ?_
    refine r_nil ?_
    refine r_cond (by exact rfl) (fun hc11 => ?_) (fun hc11 => ?_)
    ·skip
     refine r_seq ?_
     refine r_region ?_
     refine r_op rfl rfl rfl (run_asg (v := .slice _ _ _) rfl (by exact rfl)) ?_
     refine r_nil ?_
     refine r_ret (res1 (v := .slice _ _ _) rfl (by exact rfl)) ?_
     exact ⟨none, 0, 0, 0, by rw [words_no (fun q => by have := q.2; omega)]; rfl, hV, by rw [words_no (fun q => by have := q.2; omega)]; exact RowE.nil _ _ _ _ _⟩
    ·skip
     refine r_skip ?_
     refine r_seq ?_
     refine r_region ?_
     refine r_op rfl rfl rfl (run_mv (v := .slice _ _ _) rfl (by exact rfl)) ?_
     refine r_op rfl rfl rfl (run_asg (v := .slice _ _ _) rfl (by exact rfl)) ?_
     refine r_nil ?_
     refine r_ret (res1 (v := .slice _ _ _) rfl (by exact rfl)) ?_
     exact ⟨_, _, _, _, by rw [words_ok ⟨allD (fun j hj => hall j (by omega)), by omega⟩], hV, by rw [words_ok ⟨allD (fun j hj => hall j (by omega)), by omega⟩]; exact hr2⟩
theorem bnd_iff {s : Str} {i : Nat} : ((i : Int) = (s.length : Int) ∨ (((s.getD i default).toNat : Nat) : Int) = 32) ↔ (i = s.length ∨ s.getD i default = 32) := by
  rw [u8_32]; exact or_congr_left (by omega)
theorem ret_vb {v : Value} {p q : Bool} (h : p = q) : Ending.returned (.tuple #[v, .bool p]) = .returned (.tuple #[v, .bool q]) := by rw [h]
set_option maxHeartbeats 1000000 in
theorem rphrase_calls {s : Str} {w0 : World} (hs : s.length ≤ 1000000000) :
    Calls Tryz.prog 44 #[S s] w0 fun e w' => ∃ v l9, e = .returned (.tuple #[v, .bool (decide (phraseOk s))]) ∧ Evo w0 w' [] ∧ OwnE w' w0.heap.size 9 v l9 ∧ (phraseOk s → l9 = splitS s) := by
 refine calls_enter (n := 42) (args := [S s]) Tryz.func44 rfl Tryz.ntmps44 rfl ?_
 have hV : Evo w0 w0 [] := Evo.refl _ _
 refine r_seq ?_
 refine r_region ?_
 refine r_op rfl rfl rfl (run_asg (v := .slice _ _ _) rfl (by exact rfl)) ?_
 refine r_op rfl rfl rfl (run_asg (v := .bool _) rfl (by exact rfl)) ?_
 refine r_nil ?_
 refine r_seq ?_
 refine r_region ?_
 refine r_op rfl rfl rfl (run_asg (v := .slice _ _ _) rfl (by exact rfl)) ?_
 refine r_nil ?_
 refine r_seq ?_
 refine r_region ?_
 refine r_op rfl rfl rfl (run_asg (v := .int _ _) rfl (by exact rfl)) ?_
 refine r_nil ?_
 refine r_seq ?_
 refine r_seq ?_
 refine r_region ?_
 refine r_op rfl rfl rfl (run_asg (v := .int _ _) rfl (by exact rfl)) ?_
 refine r_nil ?_
 refine r_block ?_
 refine r_loop (α := Nat) [2, 3, 4, 5, 6, 7, 8, 9, 10, 11, 12, 13, 14, 15, 16, 17, 18, 19, 20, 21, 22, 23, 24, 25, 26, 27, 28, 29, 30, 31, 32, 33, 34, 35, 36, 37] (fun i g w => ∃ fr : Nat, ∃ vo : Value, ∃ d : List Str, g 6 = .int .i64 (i : Nat) ∧ g 5 = .int .i64 (fr : Nat) ∧ g 4 = vo ∧ i ≤ s.length + 1 ∧ OwnE w w0.heap.size 9 vo d ∧ PhSt s i fr d ∧ d.length ≤ i ∧ w0.heap.size ≤ w.heap.size ∧ Evo w0 w []) (fun i => s.length + 1 - i) 0 ?_ ?_
 ·refine ⟨0, _, [], rfl, rfl, rfl, (by first | assumption | omega | (dsimp only; omega) | (simp; done)), (OwnE.nil _ _ _), (PhSt.start s), (Nat.le_refl _), (by first | assumption | omega | (dsimp only; omega) | (simp; done)), hV⟩
 ·rintro i g w2 ⟨fr, vo, d, hj3, hj4, hj5, hi1, hoo, hst, hdl, hzl1, hV⟩
  have hs_w2hV := hV.size
  refine r_know (i := 6) (v := .int .i64 (i : Nat)) (by exact hj3) ?_
  refine r_know (i := 5) (v := .int .i64 (fr : Nat)) (by exact hj4) ?_
  refine r_know (i := 4) (v := vo) (by exact hj5) ?_
  refine r_seq ?_
  refine r_seq ?_
  refine r_region ?_
  refine r_op rfl rfl rfl (run_mv (v := .int _ _) rfl (by exact rfl)) ?_
  refine r_op rfl rfl rfl (run_mv (v := S _) rfl (by exact rfl)) ?_
  refine r_op rfl rfl rfl (run_lenS rfl (by exact rfl) Tryz.underlying9) ?_
  refine r_op rfl rfl rfl (run_leq rfl (by exact rfl) (by exact rfl)) ?_
  refine r_nil ?_
  refine r_cond (by exact rfl) (fun hc6 => ?_) (fun hc6 => ?_)
  ·skip
   refine r_skip ?_
   refine r_seq ?_
   refine r_block ?_
   refine r_seq ?_
   refine r_region ?_
   refine r_op rfl rfl rfl (run_mv (v := .int _ _) rfl (by exact rfl)) ?_
   refine r_op rfl rfl rfl (run_mv (v := S _) rfl (by exact rfl)) ?_
   refine r_op rfl rfl rfl (run_lenS rfl (by exact rfl) Tryz.underlying9) ?_
   refine r_op rfl rfl rfl (run_eql rfl (by exact rfl) (by exact rfl)) ?_
   refine r_op rfl rfl rfl (run_mv (v := .bool _) rfl (by exact rfl)) ?_
   refine r_g rfl (wantF (by exact rfl)) rfl (fun hg => run_mv (v := S _) rfl (by exact rfl)) ?_
   refine r_g rfl (wantF (by exact rfl)) rfl (fun hg => run_mv (v := .int _ _) rfl (by exact rfl)) ?_
   refine r_g rfl (wantF (by exact rfl)) rfl (fun hg => run_ixS (i) rfl Tryz.underlying9 (glv (by exact rfl) (fun h => h) hg) (glv (by exact rfl) (fun h => h) hg) (by first | exact rfl | omega) (by omega)) ?_
   refine r_g rfl (wantF (by exact rfl)) rfl (fun hg => run_eql rfl (glv (by exact rfl) (fun h => h) hg) (by exact rfl)) ?_
   refine r_op rfl rfl rfl (run_pick_or rfl (by exact rfl) rfl (fun hq => glv (by exact rfl) (fun h => h) hq)) ?_
   refine r_nil ?_
   refine r_cond (by exact rfl) (fun hc7 => ?_) (fun hc7 => ?_)
   ·skip
    refine r_seq ?_
    refine r_seq ?_
    have hbd9 := bnd_iff.1 hc7
    have hfr := (hst.fr (by omega)).1
    refine r_region ?_
    refine r_op rfl rfl rfl (run_mv (v := S _) rfl (by exact rfl)) ?_
    refine r_op rfl rfl rfl (run_mv (v := .int _ _) rfl (by exact rfl)) ?_
    refine r_op rfl rfl rfl (run_mv (v := .int _ _) rfl (by exact rfl)) ?_
    refine r_op rfl rfl rfl (by exact run_slS (fr) (i) rfl Tryz.underlying9 (by exact rfl) (at1 (by exact rfl) (by omega)) (at1 (by exact rfl) (by omega)) (by first | omega | (simp; omega)) (by first | omega | (simp; omega))) ?_
    refine r_opcall rfl rfl rfl (run_callf (vs := [S _]) rfl (by exact rfl) Tryz.func57 rfl (by kernel_rfl)) (rplain_calls (s := (piece s fr i))) ?_
    rintro e w8 ⟨rfl, hE8⟩
    refine ⟨_, rfl, ?_⟩
    have hs_w8 := (hE8).size
    replace hV := evo_step0 hV hE8
    replace hoo := hoo.evo0 hE8
    refine r_op rfl rfl rfl (run_not rfl (by exact rfl)) ?_
    refine r_nil ?_
    refine r_cond (by exact rfl) (fun hc9 => ?_) (fun hc9 => ?_)
    ·skip
     refine r_seq ?_
     refine r_region ?_
     refine r_op rfl rfl rfl (run_asg (v := .slice _ _ _) rfl (by exact rfl)) ?_
     refine r_op rfl rfl rfl (run_asg (v := .bool _) rfl (by exact rfl)) ?_
     refine r_nil ?_
     refine r_ret (res2 (v := .slice _ _ _) (u := .bool _) rfl (by exact rfl) (by exact rfl)) ?_
     exact ⟨_, [], ret_vb (decide_eq_false (hst.bad (by omega) hbd9 hc9)).symm, hV, OwnE.nil _ _ _, fun q => absurd q (hst.bad (by omega) hbd9 hc9)⟩
    ·skip
     refine r_skip ?_
     refine r_seq ?_
     obtain ⟨nfr, hnfr⟩ : ∃ z, z = i + 1 := ⟨_, rfl⟩
     refine r_region ?_
     refine r_op rfl rfl rfl (run_mv (v := vo) rfl (by exact rfl)) ?_
     refine r_op rfl rfl rfl (run_mv (v := S _) rfl (by exact rfl)) ?_
     refine r_op rfl rfl rfl (run_mv (v := .int _ _) rfl (by exact rfl)) ?_
     refine r_op rfl rfl rfl (run_mv (v := .int _ _) rfl (by exact rfl)) ?_
     refine r_op rfl rfl rfl (by exact run_slS (fr) (i) rfl Tryz.underlying9 (by exact rfl) (at1 (by exact rfl) (by omega)) (at1 (by exact rfl) (by omega)) (by first | omega | (simp; omega)) (by first | omega | (simp; omega))) ?_
     refine r_append1E (u := S _) (y := (piece s fr i)) rfl rfl Tryz.underlying40 ty_9 (by exact rfl) hoo (fun _ => (by exact rfl)) (by exact rfl) (by first | exact rfl | (show _ = List.toArray [_]; first | (dsimp only; done) | exact rfl | (dsimp only; exact rfl))) ((by omega)) ((by omega)) (by omega) ?_
     intro q_v10 v10 w11 hEw11 hov10 hlv10
     have hs_w11 := (hEw11).size
     replace hV := evo_stepo hV hEw11 (fun g hg => .inl (by first | exact (hoo.block hg).1 | (have := hoo.block hg; omega)))
     refine r_op rfl rfl rfl (run_asg (v := v10) rfl (by exact rfl)) ?_
     refine r_nil ?_
     refine r_region ?_
     refine r_op rfl rfl rfl (run_mv (v := .int _ _) rfl (by exact rfl)) ?_
     refine r_op rfl rfl rfl (run_add rfl (by exact rfl) (by exact rfl) (by omega) (by omega)) ?_
     refine r_op rfl rfl rfl (run_asg (v := .int _ _) rfl (by exact rfl)) ?_
     refine r_nil ?_
     refine r_blk ?_
     refine r_region ?_
     refine r_op rfl rfl rfl (run_mv (v := .int _ _) rfl (by exact rfl)) ?_
     refine r_op rfl rfl rfl (run_add rfl (by exact rfl) (by exact rfl) (by omega) (by omega)) ?_
     refine r_op rfl rfl rfl (run_asg (v := .int _ _) rfl (by exact rfl)) ?_
     refine r_nil ?_
     refine r_again (i + 1) ?_ ?_ ?_
     ·first | omega | (dsimp only; omega)
     ·refine ⟨nfr, _, _, (congrArg (Value.int _) (by omega)), (congrArg (Value.int _) (by omega)), rfl, (by first | assumption | omega | (dsimp only; omega) | (simp; done)), hov10, (by first | (rw [hnfr]; exact hst.go (by omega) (fun q => hc9 (bnd_iff.2 q))) | (rw [hnfr]; exact hst.cut (by omega) hbd9 (Classical.not_not.1 hc9))), (by first | omega | (simp; omega)), (by first | assumption | omega | (dsimp only; omega) | (simp; done)), hV⟩
     ·repeat (first | (with_reducible exact Agree.merge _ _ _) | (with_reducible exact Agree.refl _ _) | (with_reducible refine Agree.upd ?_ _ _ rfl) | ((with_reducible refine Agree.inner ?_ ?_); (kernel_rfl)))
   ·skip
    obtain ⟨nfr, hnfr⟩ : ∃ z, z = fr := ⟨_, rfl⟩
    refine r_skip ?_
    refine r_blk ?_
    refine r_region ?_
    refine r_op rfl rfl rfl (run_mv (v := .int _ _) rfl (by exact rfl)) ?_
    refine r_op rfl rfl rfl (run_add rfl (by exact rfl) (by exact rfl) (by omega) (by omega)) ?_
    refine r_op rfl rfl rfl (run_asg (v := .int _ _) rfl (by exact rfl)) ?_
    refine r_nil ?_
    refine r_again (i + 1) ?_ ?_ ?_
    ·first | omega | (dsimp only; omega)
    ·refine ⟨nfr, _, _, (congrArg (Value.int _) (by omega)), (congrArg (Value.int _) (by omega)), rfl, (by first | assumption | omega | (dsimp only; omega) | (simp; done)), hoo, (by first | (rw [hnfr]; exact hst.go (by omega) (fun q => hc7 (bnd_iff.2 q))) | (rw [hnfr]; exact hst.cut (by omega) hbd9 (Classical.not_not.1 hc7))), (by first | omega | (simp; omega)), (by first | assumption | omega | (dsimp only; omega) | (simp; done)), hV⟩
    ·repeat (first | (with_reducible exact Agree.merge _ _ _) | (with_reducible exact Agree.refl _ _) | (with_reducible refine Agree.upd ?_ _ _ rfl) | ((with_reducible refine Agree.inner ?_ ?_); (kernel_rfl)))
  ·skip
   refine r_exit rfl ?_
   refine r_seq ?_
   refine r_region ?_
   refine r_op rfl rfl rfl (run_mv (v := vo) rfl (by exact rfl)) ?_
   refine r_op rfl rfl rfl (run_mv (v := vo) rfl (by exact rfl)) ?_
   refine r_op rfl rfl rfl (run_lenOE rfl (by exact rfl) Tryz.underlying40 hoo) ?_
   refine r_op rfl rfl rfl (run_leq rfl (by exact rfl) (by exact rfl)) ?_
   refine r_op rfl rfl rfl (run_asg (v := vo) rfl (by exact rfl)) ?_
   refine r_op rfl rfl rfl (run_asg (v := .bool _) rfl (by exact rfl)) ?_
   refine r_nil ?_
   refine r_ret (res2 (v := vo) (u := .bool _) rfl (by exact rfl) (by exact rfl)) ?_
   have hfi := hst.fin (show s.length < i by omega)
   exact ⟨_, d, ret_vb (decide_eq_decide.2 ⟨fun q => ⟨by rw [hfi.1]; exact hfi.2, by rw [hfi.1]; omega⟩, fun q => by have h9 := q.2; rw [hfi.1] at h9; omega⟩), hV, hoo, fun _ => hfi.1.symm⟩
end Go.Proofs.YtkklomiipkipnaaGreatDoor
namespace Go.Proofs.YtkklomiipkipnaaGreatDoor
open Go.RowKit Go.Vc
theorem wordsP_len {s : Str} (k : Nat) : ((wordsP s).getD k default).length ≤ 64 := by
  rcases Nat.lt_or_ge k (wordsP s).length with h | h
  · have h1 := getD_in h
    by_cases ho : phraseOk s
    · rw [words_ok ho] at h1 ⊢; exact (ho.1 _ h1).1.2
    · rw [words_no ho] at h; simp at h
  · rw [List.getD_eq_getElem?_getD, List.getElem?_eq_none h]; exact Nat.zero_le _
theorem wordsP_cnt (s : Str) : (wordsP s).length ≤ 8 := by
  unfold wordsP
  split
  · rename_i h; exact h.2
  · exact Nat.zero_le _
theorem oneS_succ {ws : List Str} {k : Nat} (hk : k < ws.length) : oneS (ws.take (k + 1)) = oneS (ws.take k) ++ [[lowS (ws.getD k default)]] := by unfold oneS; rw [take_succD ws k hk, List.map_append]; rfl
theorem oneS_len (ws : List Str) : (oneS ws).length = ws.length := by unfold oneS; rw [List.length_map]
theorem has_iff {l : List Vc.Item} {i : Nat} {ss : List (List Str)} (hi : i < l.length) : (isW (l.getD i default) ∧ 0 ≤ chainF l (i : Int) (-1) (nth (ss.map SetS.mk))) ↔ 0 ≤ cT l i ss := by
  rw [show nth (ss.map SetS.mk) = ss from nth_mk _]
  constructor
  · rintro ⟨h1, h2⟩
    rw [chainFG l _ _ _ (by omega) (.inr (by simpa using h1))] at h2; exact h2
  · intro h
    have h1 : isW (l.getD i default) := Classical.byContradiction fun q => by rw [cT_no l q] at h; omega
    refine ⟨h1, ?_⟩
    rw [chainFG l _ _ _ (by omega) (.inr (by simpa using h1))]; exact h
set_option maxHeartbeats 1000000 in
theorem has_calls {s : Str} {ao : Option Addr} {b off cap : Nat} {l : List Vc.Item} {w0 : World} (hl : RowE w0 ao b off cap l) (hq : ∀ x ∈ l, x.text.length ≤ 140737488355328) (hzl : l.length ≤ 4398046510976) :
    Calls Tryz.prog 21 #[S s, .slice ao l.length cap] w0 fun e w' => e = .returned (.bool (hasB s l)) ∧ Evo w0 w' [] := by
 refine calls_enter (n := 42) (args := [S s, .slice ao l.length cap]) Tryz.func21 rfl Tryz.ntmps21 rfl ?_
 have hV : Evo w0 w0 [] := Evo.refl _ _
 have hl0 := keepE hl
 have hbd_hl := hl.bd
 refine r_seq ?_
 refine r_region ?_
 refine r_op rfl rfl rfl (run_asg (v := .bool _) rfl (by exact rfl)) ?_
 refine r_nil ?_
 refine r_seq ?_
 refine r_region ?_
 refine r_op rfl rfl rfl (run_asg (v := .slice _ _ _) rfl (by exact rfl)) ?_
 refine r_nil ?_
 refine r_seq ?_
 refine r_seq ?_
 refine r_region ?_
 refine r_op rfl rfl rfl (run_mv (v := S _) rfl (by exact rfl)) ?_
 refine r_opcall rfl rfl rfl (run_callf (vs := [S _]) rfl (by exact rfl) Tryz.func42 rfl (by kernel_rfl)) twords_calls ?_
 rintro e w1 ⟨ao1, bs1, off1, cap1, rfl, hE1, hr1⟩
 refine ⟨_, rfl, ?_⟩
 have hs_w1 := (hE1).size
 replace hV := evo_step0 hV hE1
 replace hl := hl0 _ hV
 refine r_op rfl rfl rfl (run_lenSl rfl (by exact rfl) Tryz.underlying40) ?_
 refine r_op rfl rfl rfl (run_mv (v := .int _ _) rfl (by exact rfl)) ?_
 refine r_nil ?_
 refine r_block ?_
 have hI2 : Evo w1 w1 [] := Evo.refl _ _
 have hr10 := keepE hr1
 refine r_loop (α := Nat) [5, 7, 12, 13, 14, 15, 16, 17, 18, 19, 20, 21, 22, 23] (fun k g w => ∃ vo : Value, g 12 = .int .i64 (k : Nat) ∧ g 5 = vo ∧ k ≤ (wordsP s).length ∧ OwnR w w1.heap.size 76 [] vo ((oneS ((wordsP s).take k)).map SetS.mk) ∧ w1.heap.size ≤ w.heap.size ∧ Evo w0 w [] ∧ Evo w1 w []) (fun k => (wordsP s).length - k) 0 ?_ ?_
 ·refine ⟨_, (by first | exact rfl | exact congrArg (Value.int _) (by omega) | exact congrArg (Value.int _) (by dsimp only; omega) | exact congrArg (Value.int _) (by simp) | exact congrArg S (by simp)), rfl, (by first | assumption | omega | (dsimp only; omega) | (simp; done)), (OwnR.nil _ _ _ _), (by first | assumption | omega | (dsimp only; omega) | (simp; done)), hV, hI2⟩
 ·rintro k g w4 ⟨vo, hj5, hj6, hk_k, hoR, hzl3, hV, hI2⟩
  have hs_w4hV := hV.size
  have hs_w4hI2 := hI2.size
  replace hl := hl0 _ hV
  replace hr1 := hr10 _ hI2
  refine r_know (i := 12) (v := .int .i64 (k : Nat)) (by exact hj5) ?_
  refine r_know (i := 5) (v := vo) (by exact hj6) ?_
  refine r_seq ?_
  refine r_region ?_
  refine r_op rfl rfl rfl (run_lss rfl (by exact rfl) (by exact rfl)) ?_
  refine r_nil ?_
  refine r_seq ?_
  refine r_cond (by exact rfl) (fun hc7 => ?_) (fun hc7 => ?_)
  ·skip
   refine r_skip ?_
   refine r_seq ?_
   refine r_block ?_
   refine r_seq ?_
   refine r_region ?_
   refine r_op rfl rfl rfl (run_ix (k) rfl Tryz.underlying40 ty_9 (by exact rfl) (by exact rfl) (by first | exact rfl | omega) (by omega) (hr1.addr (i := k) (by omega))) ?_
   have hA80 := fun (w' : World) (h : Evo w1 w' []) => (hr10 w' h).atD (k) (by omega)
   have hA8 := hA80 _ hI2
   refine r_op rfl rfl rfl (run_ld1 rfl ag_9 (by exact rfl) (hA8.cell 0 (by exact rfl))) ?_
   refine r_op rfl rfl rfl (run_asg (v := S _) rfl (by exact rfl)) ?_
   refine r_nil ?_
   have hobR : ∀ g, vo.ownBlock = some g → g < w4.heap.size := fun g hg => (hoR.block hg).2; have hwl := wordsP_len (s := s) k; have hol := oneS_len ((wordsP s).take k); have hot := List.length_take_le k (wordsP s); have hwc := wordsP_cnt s
   refine r_region ?_
   refine r_op rfl rfl rfl (run_mv (v := vo) rfl (by exact rfl)) ?_
   refine r_op rfl rfl rfl (run_mv (v := S _) rfl (by exact rfl)) ?_
   refine r_opcall rfl rfl rfl (run_callf (vs := [S _]) rfl (by exact rfl) Tryz.func43 rfl (by kernel_rfl)) (lower_calls (by first | omega | (simp; omega))) ?_
   rintro e w9 ⟨rfl, hE9⟩
   refine ⟨_, rfl, ?_⟩
   have hs_w9 := (hE9).size
   replace hV := evo_step0 hV hE9
   replace hI2 := evo_step0 hI2 hE9
   replace hl := hl0 _ hV
   replace hr1 := hr10 _ hI2
   replace hoR := hoR.evo0 hE9
   refine r_bslice (pv := [(0, S _)]) (zs := [_]) (cs := [_]) Tryz.underlying40 ty_9 (by exact rfl) rfl (by exact rfl) rfl (by exact rfl) ?_
   intro b10 w11 heb10 hEw11 hbb10 hzb10
   have hs_w11 := (hEw11).size
   replace hV := evo_step0 hV hEw11
   replace hI2 := evo_step0 hI2 hEw11
   replace hl := hl0 _ hV
   replace hr1 := hr10 _ hI2
   replace hoR := hoR.evo0 hEw11
   have hAb10 := hbb10.at
   have hrb10 : RowE w11 (some ⟨b10, 0, none⟩) b10 0 1 ([lowS ((wordsP s).getD k default)] : List Str) := rowLit ([lowS ((wordsP s).getD k default)] : List Str) hbb10 rfl rfl
   refine r_opcall rfl rfl rfl (run_callf (vs := [.slice (some ⟨b10, 0, none⟩) _ _]) rfl (by exact rfl) Tryz.func35 rfl (by kernel_rfl)) (set_calls hrb10) ?_
   rintro e w12 ⟨bm12, rfl, hE12, hsm12, hsb12⟩
   refine ⟨_, rfl, ?_⟩
   have hs_w12 := (hE12).size
   replace hV := evo_step0 hV hE12
   replace hI2 := evo_step0 hI2 hE12
   replace hl := hl0 _ hV
   replace hr1 := hr10 _ hI2
   replace hoR := hoR.evo0 hE12
   replace hrb10 := hrb10.evo0 hE12
   refine r_append1R (u := .map (some bm12)) (us := [_]) rfl rfl Tryz.underlying75 ty_76 (by exact rfl) rfl rfl hoR (fun _ => (by exact rfl)) (by exact rfl) (by exact rfl) rfl (by exact rfl) (fun w9 h9 => ⟨bm12, rfl, hsm12.evo h9 (by intro hm; have h8 := hobR bm12 (Option.mem_toList.1 (by simpa using hm)); omega)⟩) ((by simp only [List.length_map]; omega)) ((by simp only [List.length_map]; omega)) (by omega) ?_
   intro q_v13 v13 w14 hEw14 hov13 hlv13
   have hs_w14 := (hEw14).size
   replace hV := evo_stepo hV hEw14 (fun g hg => .inl (by first | exact (hoR.block hg).1 | (have := hoR.block hg; omega)))
   replace hI2 := evo_stepo hI2 hEw14 (fun g hg => .inl (by first | exact (hoR.block hg).1 | (have := hoR.block hg; omega)))
   replace hl := hl0 _ hV
   replace hr1 := hr10 _ hI2
   refine r_op rfl rfl rfl (run_asg (v := v13) rfl (by exact rfl)) ?_
   refine r_nil ?_
   refine r_blk ?_
   refine r_region ?_
   refine r_op rfl rfl rfl (run_add rfl (by exact rfl) (by exact rfl) (by omega) (by omega)) ?_
   refine r_op rfl rfl rfl (run_mv (v := .int _ _) rfl (by exact rfl)) ?_
   refine r_nil ?_
   refine r_again (k + 1) ?_ ?_ ?_
   ·first | omega | (dsimp only; omega)
   ·refine ⟨_, (by first | exact rfl | exact congrArg (Value.int _) (by omega) | exact congrArg (Value.int _) (by dsimp only; omega) | exact congrArg (Value.int _) (by simp) | exact congrArg S (by simp)), rfl, (by first | assumption | omega | (dsimp only; omega) | (simp; done)), (by rw [oneS_succ (by omega), List.map_append]; exact hov13), (by first | assumption | omega | (dsimp only; omega) | (simp; done)), hV, hI2⟩
   ·repeat (first | (with_reducible exact Agree.merge _ _ _) | (with_reducible exact Agree.refl _ _) | (with_reducible refine Agree.upd ?_ _ _ rfl) | ((with_reducible refine Agree.inner ?_ ?_); (kernel_rfl)))
  ·skip
   refine r_exit rfl ?_
   refine r_seq ?_
   refine r_seq ?_
   rw [List.take_of_length_le (by omega)] at hoR
   obtain ⟨ao15, g15, cp15, hv15, hr15⟩ := hoR.rowOf
   subst hv15
   have hbd_hr15 := hr15.bd
   have hI16 : Evo w4 w4 [] := Evo.refl _ _
   have hr150 := hr15.keep
   have hbd_hr15 := hr15.bd
   refine r_region ?_
   refine r_op rfl rfl rfl (run_mv (v := .slice _ _ _) rfl (by exact rfl)) ?_
   refine r_op rfl rfl rfl (run_lenSl rfl (by exact rfl) Tryz.underlying24) ?_
   refine r_op rfl rfl rfl (run_mv (v := .int _ _) rfl (by exact rfl)) ?_
   refine r_nil ?_
   refine r_block ?_
   refine r_loop (α := Nat) [4, 8, 26, 27, 28, 29, 30, 31, 32, 33, 34, 35, 36, 37, 38, 39, 40, 41] (fun i g w => g 26 = .int .i64 (i : Nat) ∧ i ≤ l.length ∧ (∀ j, j < i → ¬ 0 ≤ cT l j (oneS (wordsP s))) ∧ w4.heap.size ≤ w.heap.size ∧ Evo w0 w [] ∧ Evo w1 w [] ∧ Evo w4 w []) (fun i => l.length - i) 0 ?_ ?_
   ·refine ⟨(by first | exact rfl | exact congrArg (Value.int _) (by omega) | exact congrArg (Value.int _) (by dsimp only; omega) | exact congrArg (Value.int _) (by simp) | exact congrArg S (by simp)), (by first | assumption | omega | (dsimp only; omega) | (simp; done)), (fun j h => by omega), (by first | assumption | omega | (dsimp only; omega) | (simp; done)), hV, hI2, hI16⟩
   ·rintro i g w18 ⟨hj19, hk_i, hno, hzl17, hV, hI2, hI16⟩
    have hs_w18hV := hV.size
    have hs_w18hI2 := hI2.size
    have hs_w18hI16 := hI16.size
    replace hl := hl0 _ hV
    replace hr1 := hr10 _ hI2
    replace hr15 := hr150.now hI16
    refine r_know (i := 26) (v := .int .i64 (i : Nat)) (by exact hj19) ?_
    refine r_seq ?_
    refine r_region ?_
    refine r_op rfl rfl rfl (run_lss rfl (by exact rfl) (by exact rfl)) ?_
    refine r_nil ?_
    refine r_seq ?_
    refine r_cond (by exact rfl) (fun hc20 => ?_) (fun hc20 => ?_)
    ·skip
     refine r_skip ?_
     refine r_seq ?_
     refine r_block ?_
     refine r_seq ?_
     refine r_region ?_
     refine r_op rfl rfl rfl (run_mv (v := .int _ _) rfl (by exact rfl)) ?_
     refine r_op rfl rfl rfl (run_asg (v := .int _ _) rfl (by exact rfl)) ?_
     refine r_nil ?_
     refine r_seq ?_
     refine r_region ?_
     refine r_op rfl rfl rfl (run_mv (v := .slice _ _ _) rfl (by exact rfl)) ?_
     refine r_op rfl rfl rfl (run_mv (v := .int _ _) rfl (by exact rfl)) ?_
     refine r_op rfl rfl rfl (run_ix (i) rfl Tryz.underlying24 ty_38 (by exact rfl) (by exact rfl) (by first | exact rfl | omega) (by omega) (hl.addr (i := i) (by omega))) ?_
     have hA210 := fun (w' : World) (h : Evo w0 w' []) => (hl0 w' h).atD (i) (by omega)
     have hA21 := hA210 _ hV
     refine r_op rfl rfl rfl (run_ldN rfl ag_38 ty_38 (by exact rfl) rfl hA21) ?_
     refine r_opcall rfl rfl rfl (run_callf (vs := [.agg _]) rfl (by exact rfl) Tryz.func37 rfl (by kernel_rfl)) (tisword_calls (x := (l.getD i default))) ?_
     rintro e w22 ⟨rfl, hE22⟩
     refine ⟨_, rfl, ?_⟩
     have hs_w22 := (hE22).size
     replace hV := evo_step0 hV hE22
     replace hI2 := evo_step0 hI2 hE22
     replace hI16 := evo_step0 hI16 hE22
     replace hl := hl0 _ hV
     replace hr1 := hr10 _ hI2
     replace hr15 := hr150.now hI16
     refine r_op rfl rfl rfl (run_mv (v := .bool _) rfl (by exact rfl)) ?_
     refine r_g rfl (wantT (by exact rfl)) rfl (fun hg => run_mv (v := .slice _ _ _) rfl (by exact rfl)) ?_
     refine r_g rfl (wantT (by exact rfl)) rfl (fun hg => run_mv (v := .int _ _) rfl (by exact rfl)) ?_
     refine r_g rfl (wantT (by exact rfl)) rfl (fun hg => run_mv (v := .slice _ _ _) rfl (by exact rfl)) ?_
     refine r_gcall rfl (wantT (by exact rfl)) rfl (fun hg => run_callf rfl (argcons (v := .slice _ _ _) (glv (by exact rfl) (fun h => h) hg) (argcons (v := .int _ _) (glv (by exact rfl) (fun h => h) hg) (argcons (v := .slice _ _ _) (glv (by exact rfl) (fun h => h) hg) (rfl)))) Tryz.func38 rfl (by kernel_rfl)) (fun hg => (tchain_calls hl hr15 (i := (i : Int)) hq (by omega) (by omega)).mono (fun e w' h => ⟨h.1, h.2⟩)) (fun w23 hE24 => ?_)
     have hs_w23 := (hE24).size
     replace hV := evo_step0 hV hE24
     replace hI2 := evo_step0 hI2 hE24
     replace hI16 := evo_step0 hI16 hE24
     replace hl := hl0 _ hV
     replace hr1 := hr10 _ hI2
     replace hr15 := hr150.now hI16
     refine r_g rfl (wantT (by exact rfl)) rfl (fun hg => run_geq rfl (glv (by exact rfl) (fun h => h) hg) (by exact rfl)) ?_
     refine r_op rfl rfl rfl (run_pick_and rfl (by exact rfl) (fun hq => glv (by exact rfl) (fun h => h) hq) rfl) ?_
     refine r_nil ?_
     refine r_cond (by exact rfl) (fun hc25 => ?_) (fun hc25 => ?_)
     ·skip
      refine r_seq ?_
      refine r_region ?_
      refine r_op rfl rfl rfl (run_asg (v := .bool _) rfl (by exact rfl)) ?_
      refine r_nil ?_
      refine r_ret (res1 (v := .bool _) rfl (by exact rfl)) ?_
      exact ⟨ret_bool (has_yes (by omega) ((has_iff (by omega)).1 hc25)).symm, hV⟩
     ·skip
      refine r_skip ?_
      refine r_blk ?_
      refine r_region ?_
      refine r_op rfl rfl rfl (run_add rfl (by exact rfl) (by exact rfl) (by omega) (by omega)) ?_
      refine r_op rfl rfl rfl (run_mv (v := .int _ _) rfl (by exact rfl)) ?_
      refine r_nil ?_
      refine r_again (i + 1) ?_ ?_ ?_
      ·first | omega | (dsimp only; omega)
      ·refine ⟨(by first | exact rfl | exact congrArg (Value.int _) (by omega) | exact congrArg (Value.int _) (by dsimp only; omega) | exact congrArg (Value.int _) (by simp) | exact congrArg S (by simp)), (by first | assumption | omega | (dsimp only; omega) | (simp; done)), (upto0 hno (fun q9 => hc25 ((has_iff (by omega)).2 q9))), (by first | assumption | omega | (dsimp only; omega) | (simp; done)), hV, hI2, hI16⟩
      ·repeat (first | (with_reducible exact Agree.merge _ _ _) | (with_reducible exact Agree.refl _ _) | (with_reducible refine Agree.upd ?_ _ _ rfl) | ((with_reducible refine Agree.inner ?_ ?_); (kernel_rfl)))
    ·skip
     refine r_exit rfl ?_
     refine r_seq ?_
     refine r_region ?_
     refine r_op rfl rfl rfl (run_asg (v := .bool _) rfl (by exact rfl)) ?_
     refine r_nil ?_
     refine r_ret (res1 (v := .bool _) rfl (by exact rfl)) ?_
     exact ⟨ret_bool (has_no (fun j hj => hno j (by omega))).symm, hV⟩
end Go.Proofs.YtkklomiipkipnaaGreatDoor
