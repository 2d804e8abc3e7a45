/-
  slices.SortFunc at slices of our own of values of several cells. Generic over the program.
-/
import Derived.Test.YtomklacppmaljaaDrn
namespace Go.Vc
open Go Go.RowKit Go.IntWalk Go.Sort Go.Proofs
section
variable {α : Type} [Enc α] [Inhabited α] {w : World} {base : Nat} {E : TypeId} {v : Value} {l : List α}
theorem flatK_list (l : List α) : (flatK (Enc.enc : α → List Value) (Enc.n α) l.toArray).toList = (l.map Enc.enc).flatten := by
  have hall : ∀ cs ∈ l.map (Enc.enc : α → List Value), cs.length = Enc.n α := fun cs hcs => by
    obtain ⟨x, _, rfl⟩ := List.mem_map.1 hcs; exact Enc.len x
  have hp := Enc.pos (α := α)
  have hfl := flatten_length _ _ hall
  rw [List.length_map] at hfl
  apply List.ext_getElem?
  intro t
  rcases Nat.lt_or_ge t (l.length * Enc.n α) with ht | ht
  · have hi : t / Enc.n α < l.length := (Nat.div_lt_iff_lt_mul hp).2 ht
    have hj : t % Enc.n α < Enc.n α := Nat.mod_lt _ hp
    have h1 := flatten_at (l.map Enc.enc) (Enc.n α) (t / Enc.n α) (t % Enc.n α) (Enc.enc l[t / Enc.n α]) hall (by simp [hi]) hj
    have e : t / Enc.n α * Enc.n α + t % Enc.n α = t := by rw [Nat.mul_comm]; exact Nat.div_add_mod _ _
    rw [e] at h1
    rw [h1, Array.getElem?_toList]
    have hlen : (Enc.enc l[t / Enc.n α]).length = Enc.n α := Enc.len _
    simp [flatK, ht, hi, getElem!_pos, hlen, hj]
  · rw [List.getElem?_eq_none (by simpa using ht), List.getElem?_eq_none (by rw [hfl]; exact ht)]
theorem id_map (l : List Value) : l.map id = l := List.map_id l
theorem holdsK_of {g cur : _} (hb : w.heap[g]? = some (.cells cur E (0, 0))) (ht : cur.toList.take (l.length * Enc.n α) = (l.map Enc.enc).flatten) : HoldsK (Enc.enc : α → List Value) (Enc.n α) w g 0 l.toArray := by
  intro j hj
  have hj' : j < l.length * Enc.n α := by simpa using hj
  refine ⟨?_, by simp [World.frozen?, hb]⟩
  have h1 : (cur.toList.take (l.length * Enc.n α))[j]? = (flatK (Enc.enc : α → List Value) (Enc.n α) l.toArray).toList[j]? := by rw [ht, flatK_list]
  rw [List.getElem?_take_of_lt hj'] at h1
  simp only [World.cell?, hb, Nat.zero_add]
  simp only [Option.isSome_none, Bool.false_eq_true, if_false]
  rw [← Array.getElem?_toList, h1, Array.getElem?_toList]
  simp [hj']
theorem heap_sortedK {g n : Nat} {os : Array Obj} {cur : Array Value} (d : Array α) (hb : w.heap[g]? = some (.cells cur E (0, 0))) :
    (sortWorldK (Enc.enc : α → List Value) (Enc.n α) w g 0 n d os).heap[g]? = some (.cells (putCells id 0 (flatK Enc.enc (Enc.n α) d) cur) E (0, 0)) := by
  have hg : g < w.heap.size := (Array.getElem?_eq_some_iff.1 hb).1
  unfold sortWorldK putRowK
  rw [heap_grow_old _ _ (by simpa [putRow, mapBlock, Sort.ahead] using hg)]
  simp [putRow, mapBlock, Sort.ahead, Array.getElem?_modify, hb, onCells]
theorem evo_sortedK {g n : Nat} {os : Array Obj} (d : Array α) : Evo w (sortWorldK (Enc.enc : α → List Value) (Enc.n α) w g 0 n d os) [g] := by
  unfold sortWorldK putRowK
  refine ⟨rfl, rfl, rfl, by simp [putRow, mapBlock, Sort.ahead], fun k hk hne => ?_⟩
  rw [heap_grow_old _ _ (by simpa [putRow, mapBlock, Sort.ahead] using hk)]
  have : g ≠ k := fun e => hne (by simp [e])
  simp [putRow, mapBlock, Sort.ahead, Array.getElem?_modify, this]
theorem take_putK (cur : Array Value) (F : Array Value) (h : F.size ≤ cur.size) : (putCells id 0 F cur).toList.take F.size = F.toList := by
  apply List.ext_getElem?
  intro j
  by_cases hj : j < F.size
  · rw [List.getElem?_take_of_lt hj, Array.getElem?_toList]
    simp [putCells, hj, show j < cur.size by omega]
  · rw [List.getElem?_take_eq_none (by omega), List.getElem?_eq_none (by simp; omega)]
theorem own_sortedK {g n cap : Nat} {os : Array Obj} {cur : Array Value} {l' : List α} (hl : l'.length = l.length) (hb : base ≤ g) (hg : w.heap[g]? = some (.cells cur E (0, 0))) (h1 : l.length ≤ cap) (h2 : cap ≤ maxLen) (h3 : cur.size = cap * Enc.n α) (hbd : l.length ≤ 140737488355328) :
    OwnE (sortWorldK (Enc.enc : α → List Value) (Enc.n α) w g 0 n l'.toArray os) base E (.slice (some ⟨g, 0, none⟩) l.length cap) l' := by
  have hall : ∀ cs ∈ l'.map (Enc.enc : α → List Value), cs.length = Enc.n α := fun cs hcs => by
    obtain ⟨x, _, rfl⟩ := List.mem_map.1 hcs; exact Enc.len x
  have hle : l.length * Enc.n α ≤ cap * Enc.n α := Nat.mul_le_mul_right _ h1
  refine ⟨⟨?_, .inr ⟨g, cap, _, by rw [List.length_map, hl], hb, heap_sortedK _ hg, by rw [List.length_map, hl]; exact h1, h2, by simp [putCells, h3], ?_⟩⟩, hall, by rw [List.length_map, hl]; exact hbd⟩
  · rw [flatten_length _ _ hall]
  · rw [List.length_map, hl, ← flatK_list]
    have hs : (flatK (Enc.enc : α → List Value) (Enc.n α) l'.toArray).size = l.length * Enc.n α := by simp [hl]
    rw [← hs]
    exact take_putK cur _ (by rw [hs, h3]; exact hle)
theorem sortf_of {P : Program} {fn g : FuncId} {cb : Array Value} {R : List α → List α → Prop} (hs : ∀ l l', R l l' → l'.length = l.length) (hs0 : R [] [])
    (c : ∀ (blk off cap : Nat) (d : Array α) (w : World), HoldsK (Enc.enc : α → List Value) (Enc.n α) w blk off d → blk < w.heap.size → d.size < 4611686018427387904 →
      Calls P fn #[.slice (some ⟨blk, off, none⟩) d.size cap, .func (.func g) #[] cb] w fun e w' => e = .returned (.tuple #[]) ∧ ∃ (d' : Array α) (n : Nat) (os : Array Obj), R d.toList d'.toList ∧ w' = sortWorldK (Enc.enc : α → List Value) (Enc.n α) w blk off n d' os)
    (c0 : ∀ w : World, Calls P fn #[.slice none 0 0, .func (.func g) #[] cb] w fun e w' => e = .returned (.tuple #[]) ∧ w' = w)
    (h : OwnE w base E v l) : Calls P fn #[v, .func (.func g) #[] cb] w fun e w' => e = .returned (.tuple #[]) ∧ Evo w w' v.ownBlock.toList ∧ ∃ l', R l l' ∧ OwnE w' base E v l' := by
  have h0 : Own w base E (Enc.n α) v (l.map Enc.enc) := h
  rcases h0.row.2 with ⟨hv, hl⟩ | ⟨g2, cap, cur, hv, hb, hg, h2, h3, h4, h5⟩
  · have hln : l = [] := List.eq_nil_of_length_eq_zero (by simpa using hl)
    subst hln; subst hv
    refine (c0 w).mono ?_
    rintro e w' ⟨rfl, rfl⟩
    exact ⟨rfl, Evo.refl _ _, [], hs0, h⟩
  · rw [List.length_map] at hv h2 h5
    have hbd := h.bd
    subst hv
    refine (c g2 0 cap l.toArray w (holdsK_of hg h5) (Array.getElem?_eq_some_iff.1 hg).1 (by simp; omega)).mono ?_
    rintro e w' ⟨rfl, d', n, os, hR, rfl⟩
    exact ⟨rfl, evo_sortedK _, d'.toList, hR, own_sortedK (l' := d'.toList) (hs _ _ hR) hb hg h2 h3 h4 hbd⟩
end
/-- what the library's sort tells, as a relation of lists -/
def SortR {α : Type} (lt : α → α → Bool) (l l' : List α) : Prop := l'.Perm l ∧ l'.Pairwise (fun x y => lt y x = false)
theorem sortR_of {α : Type} [Inhabited α] {lt : α → α → Bool} {d d' : Array α} (hp : PermIn 0 d.size d d') (hs : SortedIn lt 0 d.size d') : SortR lt d.toList d'.toList := by
  obtain ⟨h1, _, h2⟩ := hp
  refine ⟨?_, List.pairwise_iff_getElem.2 fun i j hi hj hij => ?_⟩
  · have e : d'.extract 0 d.size = d' := by rw [← h1]; simp
    rw [e] at h2; simpa using h2
  · have := hs i j (Nat.zero_le _) hij (by rw [← h1]; simpa using hj)
    simp at hi hj
    rwa [getElem!_pos d' j hj, getElem!_pos d' i hi] at this
end Go.Vc
