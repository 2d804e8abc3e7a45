/-
  Own slices of values with memory behind them: an empty literal, an append of a row, a store into a part of an element. Generic over the program.
-/
import Derived.Test.YtomklacppmaljaaLb
namespace Go.Vc
open Go Go.RowKit Go.IntWalk
section
variable {α : Type} [Rep α] {w w' : World} {base : Nat} {E : TypeId} {Y : List Nat} {v : Value} {l : List α}
theorem own_lit0 {m b base : Nat} {E : TypeId} {w : World} (h : Blk w b E []) (hb : base ≤ b) : Own w base E m (.slice (some ⟨b, 0, none⟩) 0 0) [] :=
  ⟨⟨by simp, .inr ⟨b, 0, #[], rfl, hb, by simpa [Blk] using h, by simp, by simp [maxLen], by simp, by simp⟩⟩, by simp, by simp⟩
theorem ownE_lit0 {β : Type} [Enc β] {b base : Nat} {E : TypeId} {w : World} (h : Blk w b E []) (hb : base ≤ b) : OwnE (α := β) w base E (.slice (some ⟨b, 0, none⟩) 0 0) [] := own_lit0 h hb
theorem ownR_lit0 {b base : Nat} {E : TypeId} {Y : List Nat} {w : World} (h : Blk w b E []) (hb : base ≤ b) : OwnR (α := α) w base E Y (.slice (some ⟨b, 0, none⟩) 0 0) [] := ⟨[], own_lit0 h hb, fun _ _ => RepL.nil _⟩
theorem own_step {X : List Nat} {v' : Value} (hE0 : Evo w w' v.ownBlock.toList) (hloc : v'.ownBlock = v.ownBlock ∨ ∃ g, v'.ownBlock = some g ∧ w.heap.size ≤ g) (w'' : World) (he2 : Evo w' w'' (X ++ v'.ownBlock.toList)) : Evo w w'' (X ++ v.ownBlock.toList) :=
  Evo.trans (hE0.weaken (fun x hx => .inl (List.mem_append_right _ hx))) he2 (fun x hx hlt => by
    rcases List.mem_append.1 hx with h4 | h4
    · exact List.mem_append_left _ h4
    · have h5 : v'.ownBlock = some x := by simpa using h4
      rcases hloc with h6 | ⟨g, h6, h7⟩
      · exact List.mem_append_right _ (by rw [← h6]; exact h4)
      · rw [h5] at h6; injection h6 with h6; omega)
end
section
variable {P : Program} {B : Exit → Act → World → Prop} {n : Nat} {k : List Kont} {f : Fr} {w : World} {ops : Array Oper} {rest : List Oper}
/-- 'append(x, y...)', 'y' a row of values with memory behind them -/
theorem r_appendR {α : Type} [Rep α] {base : Nat} {E : TypeId} {Y : List Nat} {v : Value} {l : List α} {T d bb m : Nat} {t : TypeId} {pos : String} {aft : Array Edge} {x y : Operand} {z : Value} {ao : Option Addr} {b off cap len : Nat} {l' : List α} {E' : List Nat} {w1 : World}
    (hd : Nat.blt d n = true) (hu : P.underlying T = some (.slice E)) (ht : tyP P E = some (m, bb, some z)) (hm : (m == Rep.n α && z.cells.size == Rep.n α) = true) (hone : ∀ (w : World) cs (x : α), Rep.rep w cs x → oneCells cs = true)
    (hown : OwnR w base E Y v l) (hx : opv f x = v) (hy : opv f y = .slice ao len cap) (hr : RowRK w1 E' ao b off cap l') (hw1 : ∀ w'', Evo w w'' (Y ++ v.ownBlock.toList) → Evo w1 w'' E') (hl : len = l'.length)
    (hbytes : (l.length + l'.length) * bb ≤ 140737488355328) (hlen : l.length + l'.length ≤ 140737488355328) (hbase : base ≤ w.heap.size)
    (h : ∀ v' w', Evo w w' v.ownBlock.toList → OwnR w' base E Y v' (l ++ l') → (v'.ownBlock = v.ownBlock ∨ v'.ownBlock = some w.heap.size) → KL P B n ops k rest (upd f d v') w') :
    KL P B n ops k (⟨some d, .call ⟨.builtin .append, #[x, y], #[T, T]⟩, t, pos, aft, none⟩ :: rest) f w := by
  simp only [Bool.and_eq_true, beq_iff_eq] at hm
  obtain ⟨rfl, h2⟩ := hm
  obtain ⟨css, ho, hL⟩ := hown
  obtain ⟨css2, hr2⟩ := hr
  have h0 := hr2 w (hw1 w (Evo.refl _ _))
  have e1 := (hL w (Evo.refl _ _)).1
  have e2 := h0.2.1
  refine r_append (news := css2) hd hu ht h2 Rep.pos ho hx hy h0.1 (by rw [e2]; exact hl) (fun cs hcs => ?_) (by rw [e1, e2]; exact hbytes) (by rw [e1, e2]; exact hlen) hbase ?_
  · obtain ⟨i, hi⟩ := List.getElem?_of_mem hcs
    have hi2 : i < l'.length := by rw [← e2]; exact (List.getElem?_eq_some_iff.1 hi).1
    exact hone w cs l'[i] (h0.2.2 i cs _ hi (by simp [hi2]))
  intro v' w' he ho' hloc
  refine h v' w' he ⟨_, ho', fun w'' he2 => ?_⟩ hloc
  have h5 := own_step (X := Y) he (hloc.imp_right fun h => ⟨_, h, Nat.le_refl _⟩) w'' he2
  exact (hL w'' h5).append (hr2 w'' (hw1 w'' h5)).2
/-- a store into a part of an element of our own slice -/
theorem r_storeR {α : Type} [Rep α] {base : Nat} {E : TypeId} {Y : List Nat} {v : Value} {l : List α} {T : TypeId} {t : TypeId} {pos : String} {aft : Array Edge} {x y : Operand} {g mt bb off : Nat} {z : Option Value} {u : Value} {vs : List Value} (i k0 : Nat) (y' : α)
    (hx : opv f x = .pointer (some ⟨g, off, none⟩)) (hoff : off = 0 + i * Rep.n α + k0) (hy : opv f y = u) (hown : OwnR w base E Y v l) (hg : v.ownBlock = some g) (hi : i < l.length) (ht : tyP P T = some (mt, bb, z)) (hv : u.cells = vs.toArray) (hm : vs.length = mt)
    (h1 : oneCells vs = true) (hk : k0 + vs.length ≤ Rep.n α) (hrep : ∀ w' c x, Evo w w' (Y ++ v.ownBlock.toList) → l[i]? = some x → Rep.rep w' c x → Rep.rep w' (c.take k0 ++ vs ++ c.drop (k0 + vs.length)) y')
    (h : ∀ w', Evo w w' [g] → w'.heap.size = w.heap.size → OwnR w' base E Y v (l.set i y') → KL P B n ops k rest f w') :
    KL P B n ops k (⟨none, .store T x y, t, pos, aft, none⟩ :: rest) f w := by
  obtain ⟨css, ho, hL⟩ := hown
  have e1 := (hL w (Evo.refl _ _)).1
  have hi2 : i < css.length := by rw [e1]; exact hi
  refine r_storeO (m := Rep.n α) i k0 hx hoff hy ho hg (show css[i]? = some css[i] by simp [hi2]) ht hv hm h1 hk (fun w' he hsz ho' => h w' he hsz ⟨_, ho', fun w'' he2 => ?_⟩)
  have h5 : Evo w w'' (Y ++ v.ownBlock.toList) := Evo.trans (he.mono (fun x hx => by rw [hg]; exact List.mem_append_right _ (by simpa using hx))) he2 (fun x hx _ => hx)
  have h6 := hL w'' h5
  refine ⟨by simp [e1], fun j cs x hj hx' => ?_⟩
  by_cases hji : j = i
  · subst hji
    have hl2 : j < l.length := by omega
    rw [List.getElem?_set_self hi2] at hj
    rw [List.getElem?_set_self hl2] at hx'
    injection hj with hj; injection hx' with hx'
    subst hj; subst hx'
    exact hrep w'' _ l[j] h5 (by simp [hl2]) (h6.2 j _ _ (by simp [hi2]) (by simp [hl2]))
  · rw [List.getElem?_set_ne (Ne.symm hji)] at hj hx'
    exact h6.2 j cs x hj hx'
theorem r_storeRr {α : Type} [Rep α] {base : Nat} {E : TypeId} {Y : List Nat} {l : List α} {T : TypeId} {t : TypeId} {pos : String} {aft : Array Edge} {x y : Operand} {g0 mt bb off len cap c2 : Nat} {ao : Option Addr} {z : Option Value} {u : Value} {vs : List Value} (i k0 : Nat) (y' : α)
    (hx : opv f x = .pointer (some ⟨g0, off, none⟩)) (hoff : off = 0 + i * Rep.n α + k0) (hy : opv f y = u) (hown : OwnR w base E Y (.slice ao len cap) l) (hr : RowR w ao g0 0 c2 l) (hi : i < l.length) (ht : tyP P T = some (mt, bb, z)) (hv : u.cells = vs.toArray) (hm : vs.length = mt)
    (h1 : oneCells vs = true) (hk : Nat.ble (k0 + vs.length) (Rep.n α) = true) (hrep : ∀ w' c x, Evo w w' (Y ++ (Value.slice ao len cap).ownBlock.toList) → l[i]? = some x → Rep.rep w' c x → Rep.rep w' (c.take k0 ++ vs ++ c.drop (k0 + vs.length)) y')
    (h : ∀ w', Evo w w' (Value.slice ao len cap).ownBlock.toList → w'.heap.size = w.heap.size → OwnR w' base E Y (.slice ao len cap) (l.set i y') → KL P B n ops k rest f w') :
    KL P B n ops k (⟨none, .store T x y, t, pos, aft, none⟩ :: rest) f w := by
  have hg : (Value.slice ao len cap).ownBlock = some g0 := by rw [hr.addr hi]; rfl
  exact r_storeR i k0 y' hx hoff hy hown hg hi ht hv hm h1 (Nat.le_of_ble_eq_true hk) hrep (fun w' he hsz ho => h w' (by rw [hg]; exact he) hsz ho)
end
end Go.Vc
