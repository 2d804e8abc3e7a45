/-
  Library, plain laws and walks that the statements reach (joined by a program out of smaller texts).
-/
import Derived.Test.YtkklomiipkipnaaGreatDoorUb
import Derived.Maps.Range
import Derived.Shelf.SlIter.Nil
import Derived.Lib.SlKeysI
namespace Go.Vc
open Go Go.RowKit Go.Maps Go.ChangeMaps Go.MapKept
def R0 : Value → Option (DataW Unit × List MemPlace) := fun _ => some (.nil, [])
theorem keyOf_S {P : Program} {K : TypeId} (hk : P.underlying K = some .string) {s : Str} (hs : s.length ≤ maxLen) : keyOf P K (S s) = some (.string s) := by
  simp [keyOf, hk, mapKey, S]; exact hs
theorem map_owns {β : Type} {P : Program} {K : TypeId} (hk : P.underlying K = some .string) {w : World} {b : Nat} {ev : β → Value} {m : List (Str × β)} (h : MapIs w b S ev m) (hm : m.length ≤ maxLen) (hl : ∀ p ∈ m, p.1.length ≤ maxLen) :
    ∃ D : DataW Unit, w.ownsMap P K R0 b m.length D ∧ Maps.size D = m.length ∧ (strKeys D).Perm (m.map (·.1)) := by
  obtain ⟨es, clock, hb, he, h1, h2, h3⟩ := h.ex
  have hsz : es.size = m.length := by have := congrArg List.length he; simpa using this
  have hkeys : es.toList.map (·.key) = m.map (fun p => S p.1) := by
    have := congrArg (List.map Prod.fst) he
    simpa [Function.comp_def] using this
  have hrd : ∀ x ∈ es.toList, ∃ s : Str, x.key = S s ∧ WideElems.rd P K R0 x = some (.string s, .nil) := fun x hx => by
    have : x.key ∈ m.map (fun p => S p.1) := hkeys ▸ List.mem_map.2 ⟨x, hx, rfl⟩
    obtain ⟨p, hpm, hp⟩ := List.mem_map.1 this
    exact ⟨p.1, hp.symm, by unfold WideElems.rd; rw [← hp, keyOf_S hk (hl p hpm)]; rfl⟩
  have hstr : es.toList.map (fun x => strOf (WideElems.rg P K R0 x).1) = m.map (·.1) := by
    have e1 : es.toList.map (fun x => strOf (WideElems.rg P K R0 x).1) = (es.toList.map (·.key)).map (fun v => match v with | .string b => b.data.toList | _ => []) := by
      rw [List.map_map]
      refine List.map_congr_left (fun x hx => ?_)
      obtain ⟨s, h5, h6⟩ := hrd x hx
      show strOf (WideElems.rg P K R0 x).1 = _
      unfold WideElems.rg; rw [h6]; simp [h5, strOf, S]
    rw [e1, hkeys, List.map_map]
    refine List.map_congr_left (fun p _ => ?_)
    simp [S]
  refine ⟨_, ⟨es, clock, hb, ⟨by omega, ⟨h2, h1, ?_⟩, fun x hx => ?_⟩, by omega, rfl⟩, ?_, ?_⟩
  · rw [hkeys]
    have e : m.map (fun p => S p.1) = (m.map (·.1)).map S := by rw [List.map_map]; rfl
    rw [e]
    exact List.pairwise_map.2 (h3.imp (fun hne h9 => hne (S_inj h9)))
  · obtain ⟨s, _, h6⟩ := hrd x hx
    exact ⟨_, h6⟩
  · show ((es.toList.map _).foldr DataW.insert []).length = _
    rw [length_sorted, List.length_map, Array.length_toList, hsz]
  · show (((es.toList.map (WideElems.rg P K R0)).foldr DataW.insert []).map (fun p => strOf p.1)).Perm _
    refine ((Go.WideShapes.sorted_perm _).map _).trans ?_
    rw [List.map_map]
    have e : (fun p : Lit × DataW Unit => strOf p.1) ∘ WideElems.rg P K R0 = fun x => strOf (WideElems.rg P K R0 x).1 := rfl
    rw [e, hstr]
theorem evo_below {w w' : World} (h : RowKit.Below w.heap.size w w') : Evo w w' [] := ⟨h.os, h.tape, h.output, h.size, fun b hb _ => h.block b hb⟩
end Go.Vc
namespace Go.Vc
open Go Go.RowKit Go.Maps Go.ChangeMaps Go.MapKept
theorem keyOf_I {P : Program} {K : TypeId} (hk : P.underlying K = some (.int .i64)) {x : Int} (hx : (Lit.int .i64 x).wf = true) : keyOf P K (Value.int .i64 x) = some (.int .i64 x) := by
  simp [keyOf, hk, mapKey]; exact hx
theorem map_ownsI {β : Type} {P : Program} {K : TypeId} (hk : P.underlying K = some (.int .i64)) {w : World} {b : Nat} {ev : β → Value} {m : List (Int × β)} (h : MapIs w b (Value.int .i64) ev m) (hm : m.length ≤ maxLen) (hl : ∀ p ∈ m, (Lit.int .i64 p.1).wf = true) :
    ∃ D : DataW Unit, w.ownsMap P K R0 b m.length D ∧ Maps.size D = m.length ∧ (intKeys D).Perm (m.map (·.1)) := by
  obtain ⟨es, clock, hb, he, h1, h2, h3⟩ := h.ex
  have hsz : es.size = m.length := by have := congrArg List.length he; simpa using this
  have hkeys : es.toList.map (·.key) = m.map (fun p => Value.int .i64 p.1) := by
    have := congrArg (List.map Prod.fst) he
    simpa [Function.comp_def] using this
  have hrd : ∀ x ∈ es.toList, ∃ s : Int, x.key = Value.int .i64 s ∧ WideElems.rd P K R0 x = some (.int .i64 s, .nil) := fun x hx => by
    have : x.key ∈ m.map (fun p => Value.int .i64 p.1) := hkeys ▸ List.mem_map.2 ⟨x, hx, rfl⟩
    obtain ⟨p, hpm, hp⟩ := List.mem_map.1 this
    exact ⟨p.1, hp.symm, by unfold WideElems.rd; rw [← hp, keyOf_I hk (hl p hpm)]; rfl⟩
  have hstr : es.toList.map (fun x => intOf (WideElems.rg P K R0 x).1) = m.map (·.1) := by
    have e1 : es.toList.map (fun x => intOf (WideElems.rg P K R0 x).1) = (es.toList.map (·.key)).map (fun v => match v with | .int _ b => b | _ => 0) := by
      rw [List.map_map]
      refine List.map_congr_left (fun x hx => ?_)
      obtain ⟨s, h5, h6⟩ := hrd x hx
      show intOf (WideElems.rg P K R0 x).1 = _
      unfold WideElems.rg; rw [h6]; simp [h5, intOf]
    rw [e1, hkeys, List.map_map]
    exact List.map_congr_left (fun p _ => rfl)
  refine ⟨_, ⟨es, clock, hb, ⟨by omega, ⟨h2, h1, ?_⟩, fun x hx => ?_⟩, by omega, rfl⟩, ?_, ?_⟩
  · rw [hkeys]
    have e : m.map (fun p => Value.int .i64 p.1) = (m.map (·.1)).map (Value.int .i64) := by rw [List.map_map]; rfl
    rw [e]
    exact List.pairwise_map.2 (h3.imp (fun hne h9 => hne (by injection h9)))
  · obtain ⟨s, _, h6⟩ := hrd x hx
    exact ⟨_, h6⟩
  · show ((es.toList.map _).foldr DataW.insert []).length = _
    rw [length_sorted, List.length_map, Array.length_toList, hsz]
  · show (((es.toList.map (WideElems.rg P K R0)).foldr DataW.insert []).map (fun p => intOf p.1)).Perm _
    refine ((Go.WideShapes.sorted_perm _).map _).trans ?_
    rw [List.map_map]
    have e : (fun p : Lit × DataW Unit => intOf p.1) ∘ WideElems.rg P K R0 = fun x => intOf (WideElems.rg P K R0 x).1 := rfl
    rw [e, hstr]
def sortI (l : List Int) : List Int := l.mergeSort leI
theorem sortI_eq {ks l : List Int} (hn : ks.Nodup) (hl : l.Pairwise (fun a b => a < b)) (h : ∀ x, x ∈ ks ↔ x ∈ l) : sortI ks = l := by
  have hp : l.Perm ks := (List.perm_ext_iff_of_nodup (hl.imp (fun {a b} h e => by omega)) hn).2 (fun x => (h x).symm)
  have h3 := mergeSort_of_perm_i hp
  have h4 : l.mergeSort leI = l := List.mergeSort_of_pairwise (hl.imp (fun h => by simpa [leI] using Int.le_of_lt h))
  show ks.mergeSort leI = _
  rw [← h3, h4]
end Go.Vc
