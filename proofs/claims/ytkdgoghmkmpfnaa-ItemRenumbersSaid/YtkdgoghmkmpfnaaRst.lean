/-
  Our own slices of values with memory behind them: what may be written grows, and a store into a side. Generic over the program.
-/
import Derived.Test.YtkdgoghmkmpfnaaRown
namespace Go.Vc
open Go Go.RowKit Go.IntWalk
section
variable {α : Type} [Rep α] {w w' : World} {base : Nat} {E : TypeId} {Y X Z : List Nat} {v : Value} {l : List α}
theorem OwnR.grow (h : OwnR w base E Y v l) (he : Evo w w' X) (hX : ∀ x ∈ X, x ∈ Y ∨ w.heap.size ≤ x) (hb : ∀ g, v.ownBlock = some g → g ∉ X) (hZ : ∀ z ∈ Z, z ∈ Y ∨ w.heap.size ≤ z) : OwnR w' base E Z v l := by
  obtain ⟨css, h1, h2⟩ := h
  refine ⟨css, h1.evo he hb, fun w'' he2 => h2 w'' (Evo.trans (he.weaken (Y := Y ++ v.ownBlock.toList) (fun x hx => ?_)) he2 (fun x hx hlt => ?_))⟩
  · rcases hX x hx with h3 | h3
    · exact .inl (List.mem_append_left _ h3)
    · exact .inr h3
  · rcases List.mem_append.1 hx with h3 | h3
    · rcases hZ x h3 with h4 | h4
      · exact List.mem_append_left _ h4
      · omega
    · exact List.mem_append_right _ h3
theorem RepL.set {css : List (List Value)} {cs : List Value} {x : α} (h : RepL w css l) (i : Nat) (hx : Rep.rep w cs x) : RepL w (css.set i cs) (l.set i x) := by
  refine ⟨by simp [h.1], fun j ds y h1 h2 => ?_⟩
  rw [List.getElem?_set] at h1 h2
  by_cases hij : i = j
  · subst hij
    rw [if_pos rfl] at h1 h2
    split at h1
    · rename_i hl
      rw [if_pos (by rw [← h.1]; exact hl)] at h2
      injection h1 with h1; injection h2 with h2
      rw [← h1, ← h2]; exact hx
    · cases h1
  · rw [if_neg hij] at h1 h2
    exact h.2 j ds y h1 h2
end
theorem r_storeLen {P : Program} {B : Exit → Act → World → Prop} {n : Nat} {k : List Kont} {f : Fr} {w : World} {ops : Array Oper} {rest : List Oper} {T E : TypeId} {t : TypeId} {pos : String} {aft : Array Edge} {x y : Operand} {base bb off len cap c2 : Nat} {z0 : Option Value} {ao : Option Addr} {Y : List Nat} {l : List Side} {z : Int} {g0 : Nat} (i : Nat)
    (hx : opv f x = .pointer (some ⟨g0, off, none⟩)) (hoff : off = 0 + i * 2 + 0) (hy : opv f y = .int .i64 z) (h : OwnR w base E Y (.slice ao len cap) l) (hr : RowR w ao g0 0 c2 l) (hi : i < l.length) (ht : tyP P T = some (1, bb, z0))
    (hk : ∀ w', Evo w w' (Value.slice ao len cap).ownBlock.toList → w'.heap.size = w.heap.size → OwnR w' base E Y (.slice ao len cap) (l.set i ⟨z, (l.getD i default).anchors⟩) → KL P B n ops k rest f w') :
    KL P B n ops k (⟨none, .store T x y, t, pos, aft, none⟩ :: rest) f w := by
  obtain ⟨css, h1, h2⟩ := h
  have hg : (Value.slice ao len cap).ownBlock = some g0 := by rw [hr.addr hi]; rfl
  have hl := h2 w (Evo.refl _ _)
  have hic : i < css.length := by rw [hl.1]; exact hi
  have hget : ∀ w', RepL w' css l → ∃ ao b off cap, css[i] = [.int .i64 (l.getD i default).len, .slice ao (l.getD i default).anchors.length cap] ∧ RowE w' ao b off cap (l.getD i default).anchors := fun w' hR => by
    have h3 := hR.2 i css[i] l[i] (by simp [hic]) (by simp [hi])
    have e : l.getD i default = l[i] := by simp [List.getD, hi]
    rw [e]; exact h3
  obtain ⟨ao1, b1, off1, cap1, hcs, _⟩ := hget w hl
  refine r_storeO (vs := [.int .i64 z]) (c := css[i]) (m := 2) i 0 hx hoff hy h1 hg (by simp [hic]) ht rfl rfl rfl (by simp) (fun w' he hsz hown => hk w' (by rw [hg]; exact he) hsz ?_)
  refine ⟨_, hown, fun w'' he2 => RepL.set ?_ i ?_⟩
  · exact h2 w'' (Evo.trans (he.weaken (fun x hx => .inl (List.mem_append_right _ (by rw [hg]; simpa using hx)))) he2 (fun x hx _ => hx))
  · have h5 := h2 w'' (Evo.trans (he.weaken (fun x hx => .inl (List.mem_append_right _ (by rw [hg]; simpa using hx)))) he2 (fun x hx _ => hx))
    obtain ⟨ao2, b2, off2, cap2, hcs2, hr2⟩ := hget w'' h5
    exact ⟨ao2, b2, off2, cap2, by rw [hcs2]; rfl, hr2⟩
/-- a store into a cell of an element of our own slice of flat values -/
theorem r_storeE {α : Type} [Enc α] [Inhabited α] {P : Program} {B : Exit → Act → World → Prop} {n : Nat} {k : List Kont} {f : Fr} {w : World} {ops : Array Oper} {rest : List Oper} {T E : TypeId} {t : TypeId} {pos : String} {aft : Array Edge} {x yo : Operand} {base mt bb off len cap c2 m : Nat} {z0 : Option Value} {ao : Option Addr} {l : List α} {u : Value} {vs : List Value} {g0 : Nat} (i k0 : Nat) (y : α)
    (hx : opv f x = .pointer (some ⟨g0, off, none⟩)) (hmn : Enc.n α = m) (hoff : off = 0 + i * m + k0) (hy : opv f yo = u) (h : OwnE w base E (.slice ao len cap) l) (hr : RowE w ao g0 0 c2 l) (hi : i < l.length) (ht : tyP P T = some (mt, bb, z0))
    (hv : u.cells = vs.toArray) (hm : vs.length = mt) (h1 : oneCells vs = true) (hk0 : Nat.ble (k0 + vs.length) m = true) (henc : (Enc.enc (l.getD i default)).take k0 ++ vs ++ (Enc.enc (l.getD i default)).drop (k0 + vs.length) = Enc.enc y)
    (hk : ∀ w', Evo w w' (Value.slice ao len cap).ownBlock.toList → w'.heap.size = w.heap.size → OwnE w' base E (.slice ao len cap) (l.set i y) → KL P B n ops k rest f w') :
    KL P B n ops k (⟨none, .store T x yo, t, pos, aft, none⟩ :: rest) f w := by
  subst hmn
  have hg : (Value.slice ao len cap).ownBlock = some g0 := by rw [hr.addr hi]; rfl
  have e : l.getD i default = l[i] := by simp [List.getD, hi]
  rw [e] at henc
  refine r_storeO (vs := vs) (c := Enc.enc l[i]) (m := Enc.n α) i k0 hx hoff hy h hg (by simp [hi]) ht hv hm h1 (Nat.le_of_ble_eq_true hk0) (fun w' he hsz hown => hk w' (by rw [hg]; exact he) hsz ?_)
  rw [henc] at hown
  show Own w' base E (Enc.n α) _ ((l.set i y).map Enc.enc)
  rw [List.map_set]
  exact hown
end Go.Vc
