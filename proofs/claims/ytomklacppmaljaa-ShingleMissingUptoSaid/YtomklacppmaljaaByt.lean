/-
  Blocks of bytes that a conversion has made: they bear a mark behind their cells; reading, storing, appending to a full one. Generic over the program.
-/
import Derived.Test.YtomklacppmaljaaLb
import Derived.Lib.ConvBytes
import Derived.ArgAppend
import Derived.Laws.IdiomCopy
namespace Go.Vc
open Go Go.RowKit Go.IntWalk
abbrev u8v (c : UInt8) : Value := .int .u8 ((c.toNat : Nat) : Int)
/-- the bytes 'l' at the beginning of block 'b', which has 'cap' cells -/
def ByB (w : World) (b cap : Nat) (l : List UInt8) : Prop := ∃ (cur : Array Value) (E : TypeId), w.heap[b]? = some (.cells cur E (cap, cap + 1)) ∧ cur.size = cap ∧ l.length ≤ cap ∧ l.length ≤ 140737488355328 ∧ cur.toList.take l.length = l.map u8v
section
variable {w w' : World} {b cap : Nat} {l : List UInt8} {X : List Nat}
theorem ByB.lt (h : ByB w b cap l) : b < w.heap.size := by
  obtain ⟨cur, E, hb, _⟩ := h
  rcases Nat.lt_or_ge b w.heap.size with h1 | h1
  · exact h1
  · rw [Array.getElem?_eq_none h1] at hb; cases hb
theorem ByB.evo (h : ByB w b cap l) (he : Evo w w' X) (hn : b ∉ X) : ByB w' b cap l := by
  have hl := h.lt
  obtain ⟨cur, E, hb, r⟩ := h
  exact ⟨cur, E, (he.same b hl hn).trans hb, r⟩
theorem ByB.evo0 (h : ByB w b cap l) (he : Evo w w' []) : ByB w' b cap l := h.evo he (by simp)
theorem ByB.len (h : ByB w b cap l) : l.length ≤ cap ∧ l.length ≤ 140737488355328 := by obtain ⟨cur, E, _, _, h1, h2, _⟩ := h; exact ⟨h1, h2⟩
theorem ByB.cell (h : ByB w b cap l) {i : Nat} (hi : i < l.length) : w.cell? ⟨b, i, none⟩ = some (u8v (l.getD i 0)) := by
  obtain ⟨cur, E, hb, h1, h2, h3, h4⟩ := h
  have h5 : (cur.toList.take l.length)[i]? = (l.map u8v)[i]? := by rw [h4]
  rw [List.getElem?_take_of_lt hi, Array.getElem?_toList, List.getElem?_map, List.getElem?_eq_getElem hi] at h5
  simp only [World.cell?, hb, Option.isSome_none, Bool.false_eq_true, if_false]
  rw [h5]
  simp [List.getD, hi]
theorem ByB.row (h : ByB w b cap l) : RowE w (some ⟨b, 0, none⟩) b 0 cap l := by
  refine ⟨⟨by simpa using h.len.1, by simpa using h.len.2⟩, fun _ => rfl, fun i cs hi => ?_⟩
  have hil : i < l.length := by
    rcases Nat.lt_or_ge i l.length with h1 | h1
    · exact h1
    · rw [List.getElem?_eq_none (by simpa using h1)] at hi; cases hi
  rw [List.getElem?_map, List.getElem?_eq_getElem hil] at hi
  injection hi with hi
  subst hi
  refine ⟨rfl, fun j v hj => ?_⟩
  have hj0 : j = 0 := by
    rcases Nat.eq_zero_or_pos j with h1 | h1
    · exact h1
    · rw [List.getElem?_eq_none (by show 1 ≤ j; exact h1)] at hj; cases hj
  subst hj0
  have h2 : some (u8v l[i]) = some v := hj
  injection h2 with h2
  have h3 := h.cell hil
  have e : l.getD i 0 = l[i] := by simp [List.getD, hil]
  rw [e, h2] at h3
  have e2 : 0 + i * Enc.n UInt8 + 0 = i := by show 0 + i * 1 + 0 = i; omega
  rw [e2]; exact h3
end
section
variable {P : Program} {B : Exit → Act → World → Prop} {n : Nat} {k : List Kont} {f : Fr} {w : World} {ops : Array Oper} {rest : List Oper}
/-- '[]byte(s)' -/
theorem r_cvSB {T U E d : Nat} {t : TypeId} {pos : String} {aft : Array Edge} {x : Operand} {s : Str} (hd : Nat.blt d n = true) (hs : P.underlying T = some .string) (hu : P.underlying U = some (.slice E)) (he : P.underlying E = some (.int .u8)) (hx : opv f x = S s) (hb : s.length ≤ 140737488355328)
    (h : ∀ b cap w', b = w.heap.size → Evo w w' [] → ByB w' b cap s → w'.heap.size = b + 1 → KL P B n ops k rest (upd f d (.slice (some ⟨b, 0, none⟩) s.length cap)) w') :
    KL P B n ops k (⟨some d, .convert T U x, t, pos, aft, none⟩ :: rest) f w := by
  have hr := Lib.run_convert_string_bytes (P := P) w T U E ⟨s.toArray⟩ hs hu he
  have hsz : (⟨s.toArray⟩ : ByteArray).size = s.length := by simp [ByteArray.size]
  have hge := grownCap_ge w (⟨s.toArray⟩ : ByteArray).size 0 E
  have hcs : (Lib.bytesCells w E ⟨s.toArray⟩).size = grownCap w (⟨s.toArray⟩ : ByteArray).size 0 E := by
    simp only [Lib.bytesCells, Array.size_append, Array.size_map, Array.size_replicate]
    have e : s.toArray.size = (⟨s.toArray⟩ : ByteArray).size := rfl
    rw [e]; omega
  have hby : ByB (Lib.bytesWorld w E ⟨s.toArray⟩) w.heap.size (grownCap w (⟨s.toArray⟩ : ByteArray).size 0 E) s := by
    refine ⟨Lib.bytesCells w E ⟨s.toArray⟩, E, by rw [Lib.bytesWorld_at_new, hcs], hcs, by rw [hsz] at hge; rw [hsz]; exact hge, hb, ?_⟩
    simp [Lib.bytesCells]
  refine r_op (v := .slice (some ⟨w.heap.size, 0, none⟩) s.length (grownCap w (⟨s.toArray⟩ : ByteArray).size 0 E)) (w' := Lib.bytesWorld w E ⟨s.toArray⟩) rfl rfl hd ?_ (h _ _ _ rfl ⟨rfl, rfl, rfl, by rw [Lib.bytesWorld_size]; omega, fun j hj _ => Lib.bytesWorld_at_old w E ⟨s.toArray⟩ j hj⟩ hby (Lib.bytesWorld_size w E ⟨s.toArray⟩))
  unfold execOp
  simp only []
  rw [hx, ← hsz]
  simp only [Sem.run_bind]
  rw [show S s = Value.string ⟨s.toArray⟩ from rfl, hr]
  rfl
theorem ByB.set {b cap i : Nat} {l : List UInt8} (c : UInt8) (h : ByB w b cap l) (hi : i < l.length) : ByB (w.setCell ⟨b, i, none⟩ (u8v c)) b cap (l.set i c) := by
  obtain ⟨cur, E, hb, h1, h2, h3, h4⟩ := h
  refine ⟨cur.setIfInBounds i (u8v c), E, by simp [World.setCell, Array.getElem?_modify, hb], by simpa using h1, by simpa using h2, by simpa using h3, ?_⟩
  rw [List.length_set, Array.toList_setIfInBounds]
  apply List.ext_getElem?
  intro j
  have h5 := congrArg (fun q : List Value => q[j]?) h4
  simp only [List.getElem?_take, List.getElem?_map] at h5 ⊢
  rw [List.getElem?_set, List.getElem?_set]
  have hc : i < cur.toList.length := by rw [Array.length_toList, h1]; omega
  by_cases hj : j < l.length
  · simp only [hj, if_true] at h5 ⊢
    by_cases hij : i = j
    · subst hij; rw [if_pos rfl, if_pos rfl, if_pos hc, if_pos hi]; rfl
    · simp only [hij, if_false]; exact h5
  · simp only [hj, if_false]
    have : ¬ i = j := by omega
    simp [this, List.getElem?_eq_none (Nat.le_of_not_lt hj)]
/-- 'b[i] = c' -/
theorem r_storeBy {T : TypeId} {t : TypeId} {pos : String} {aft : Array Edge} {x y : Operand} {b cap bb : Nat} {z : Option Value} {l : List UInt8} {c : UInt8} (i : Nat) (hx : opv f x = .pointer (some ⟨b, i, none⟩)) (hy : opv f y = u8v c) (hb : ByB w b cap l) (hi : i < l.length) (ht : tyP P T = some (1, bb, z))
    (h : ∀ w', Evo w w' [b] → w'.heap.size = w.heap.size → ByB w' b cap (l.set i c) → KL P B n ops k rest f w') :
    KL P B n ops k (⟨none, .store T x y, t, pos, aft, none⟩ :: rest) f w := by
  refine r_op0 (w' := w.setCell ⟨b, i, none⟩ (u8v c)) rfl rfl ?_ (h _ (Evo.setCell _ _ _) (by simp [World.setCell]) (hb.set c hi))
  have hcell := hb.cell hi
  have hfr : w.frozen? ⟨b, i, none⟩ = false := by
    have hl := hb.len.1
    obtain ⟨cur, E, hb', h1, h2, h3, h4⟩ := hb
    simp only [World.frozen?, hb']
    simp; omega
  have hst := run_storeCells_cells (P := P) b i [u8v c] 0 w (by intro j hj; simp at hj; subst hj; simp [hcell]) (by intro j hj; simp at hj; subst hj; simpa using hfr) (by intro v hv; simp at hv; subst hv; rfl)
  have hsc : (u8v c).cells = #[u8v c] := rfl
  simp only [execOp, Instr.storeAt, Instr.sureAddr, storeVar, hx, hy, Sem.run_bind, run_sizeOf ht, hsc, Sem.run_pure, Result.andThen_ok]
  simp
  simp at hst
  rw [hst]
  rfl
theorem r_storeBy2 {T : TypeId} {t : TypeId} {pos : String} {aft : Array Edge} {x y : Operand} {b cap bb j : Nat} {z : Option Value} {l : List UInt8} {m : Int} (i : Nat) (c : UInt8) (hx : opv f x = .pointer (some ⟨b, j, none⟩)) (hj : j = i) (hy : opv f y = .int .u8 m) (hm : m = ((c.toNat : Nat) : Int)) (hb : ByB w b cap l) (hi : i < l.length) (ht : tyP P T = some (1, bb, z))
    (h : ∀ w', Evo w w' [b] → w'.heap.size = w.heap.size → ByB w' b cap (l.set i c) → KL P B n ops k rest f w') :
    KL P B n ops k (⟨none, .store T x y, t, pos, aft, none⟩ :: rest) f w := by
  subst hj; subst hm
  exact r_storeBy _ hx hy hb hi ht h
/-- '[]byte(..)' of a literal: the literal's block is marked -/
theorem r_cvBB {T E d : Nat} {t : TypeId} {pos : String} {aft : Array Edge} {x : Operand} {b : Nat} {l : List UInt8} (hd : Nat.blt d n = true) (hu : P.underlying T = some (.slice E)) (he : P.underlying E = some (.int .u8)) (hx : opv f x = .slice (some ⟨b, 0, none⟩) l.length l.length)
    (hb : Blk w b E (l.map u8v)) (hl : l.length ≤ 140737488355328)
    (h : ∀ w', Evo w w' [b] → w'.heap.size = w.heap.size → ByB w' b l.length l → KL P B n ops k rest (upd f d (.slice (some ⟨b, 0, none⟩) l.length l.length)) w') :
    KL P B n ops k (⟨some d, .convert T T x, t, pos, aft, none⟩ :: rest) f w := by
  have hsz : (l.map u8v).toArray.size = l.length := by simp
  have hsh : w.shape? b = some (E, l.length) := by
    unfold World.shape?
    rw [show w.heap[b]? = _ from hb]
    simp
  have hheap : (w.freeze ⟨b, l.length, none⟩ 1).heap[b]? = some (.cells (l.map u8v).toArray E (l.length, l.length + 1)) := by
    simp [World.freeze, Array.getElem?_modify, show w.heap[b]? = _ from hb]
  have hoth : ∀ j, j ≠ b → (w.freeze ⟨b, l.length, none⟩ 1).heap[j]? = w.heap[j]? := fun j hj => by
    simp [World.freeze, Array.getElem?_modify, Ne.symm hj]
  refine r_op (v := .slice (some ⟨b, 0, none⟩) l.length l.length) (w' := w.freeze ⟨b, l.length, none⟩ 1) rfl rfl hd ?_ (h _ ⟨by simp [World.freeze], by simp [World.freeze], by simp [World.freeze], by simp [World.freeze], fun j _ hj => hoth j (by simpa using hj)⟩ (by simp [World.freeze]) ⟨_, E, hheap, hsz, Nat.le_refl _, hl, by show (l.map u8v).take l.length = _; rw [List.take_of_length_le (by simp)]⟩)
  unfold execOp
  simp only []
  rw [hx]
  simp [convert, run_underlying hu, run_underlying he, markStringish, hsh]
/-- bytes that may be appended to: of our own, or full -/
def BA (w : World) (base : Nat) (E : TypeId) (v : Value) (l : List UInt8) : Prop := OwnE w base E v l ∨ ∃ b, v = .slice (some ⟨b, 0, none⟩) l.length l.length ∧ base ≤ b ∧ b < w.heap.size ∧ ByB w b l.length l ∧ l.length = 2
theorem BA.shape {base : Nat} {E : TypeId} {v : Value} {l : List UInt8} (h : BA w base E v l) : ∃ ao cap, v = .slice ao l.length cap := by
  rcases h with h | ⟨b, h, _⟩
  · exact h.shape
  · exact ⟨_, _, h⟩
theorem BA.own {base : Nat} {E : TypeId} {v : Value} {l : List UInt8} (h : BA w base E v l) (hl : ¬ l.length = 2) : OwnE w base E v l := by
  rcases h with h | ⟨b, _, _, _, _, h⟩
  · exact h
  · exact absurd h hl
theorem BA.evo0 {w' : World} {base : Nat} {E : TypeId} {v : Value} {l : List UInt8} (h : BA w base E v l) (he : Evo w w' []) : BA w' base E v l := by
  rcases h with h | ⟨b, h1, h2, h3, h4, h5⟩
  · exact .inl (h.evo0 he)
  · exact .inr ⟨b, h1, h2, Nat.lt_of_lt_of_le h3 he.size, h4.evo0 he, h5⟩
theorem r_appendBA {T E d d1 bb : Nat} {t t1 : TypeId} {pos pos1 : String} {aft aft1 : Array Edge} {x e : Operand} {base : Nat} {v : Value} {l : List UInt8} (y : UInt8)
    (hd : Nat.blt d n = true) (hd1 : Nat.blt d1 n = true) (hu : P.underlying T = some (.slice E)) (ht : tyP P E = some (1, bb, some (.int .u8 0)))
    (hba : BA w base E v l) (hx : ∀ q, opv (upd f d1 q) x = v) (he : opv f e = u8v y)
    (hbytes : (l.length + 1) * bb ≤ 140737488355328) (hlen : l.length + 1 ≤ 140737488355328) (hbase : base ≤ w.heap.size)
    (h : ∀ q v' w' g, Evo w w' g → (∀ b ∈ g, base ≤ b) → OwnE w' base E v' (l ++ [y]) → KL P B n ops k rest (upd (upd f d1 q) d v') w') :
    KL P B n ops k (⟨some d1, .buildSlice T 1 #[(0, e)], t1, pos1, aft1, none⟩ :: ⟨some d, .call ⟨.builtin .append, #[x, .tmp d1], #[T, T]⟩, t, pos, aft, none⟩ :: rest) f w := by
  rcases hba with hba | ⟨b, rfl, hb0, hbl, hby, h2⟩
  · refine r_append1E (u := u8v y) (y := y) hd hd1 hu ht rfl hba hx he rfl hbytes hlen hbase ?_
    intro q v' w' h1 h2 _
    exact h q v' w' _ h1 (fun b hb => by have hb := Option.mem_toList.1 hb; exact (hba.block hb).1) h2
  · refine r_bslice (cs := [u8v y]) (zs := [.int .u8 0]) (pv := [(0, u8v y)]) hu ht rfl hd1 (by simp [he]) rfl rfl ?_
    intro b1 w1 hb1 hev hB hs
    obtain ⟨i, hi, hsi, hbi, hzi⟩ := info_of ht
    have hby1 := hby.evo0 hev
    obtain ⟨v', w', hr, ho, hg⟩ := run_append_arg_grows (P := P) (w := w1) T t E i (.int .u8 0) 1 bb hu hi hzi hsi hbi rfl (by decide) ⟨b, 0, none⟩ l.length l.length (l.map u8v) (by simp) (fun j u hj => by
        rw [List.getElem?_map] at hj
        cases hq : l[j]? with
        | none => rw [hq] at hj; cases hj
        | some c =>
          rw [hq] at hj
          have hjl := (List.getElem?_eq_some_iff.1 hq).1
          have := hby1.cell hjl
          rw [add_lit, Nat.zero_add, this]
          simp at hj
          rw [← hj]
          simp [List.getD, hq]) ⟨b1, 0, none⟩ 1 1 [u8v y] rfl (fun j u hj => by
        rw [add_lit, Nat.zero_add]
        have := hB.at j u (by simpa using hj)
        simpa using this) (by omega) (by unfold maxLen; omega) hbytes
    refine r_op (v := v') (w' := w') rfl rfl hd ?_ (h _ v' w' [] (hev.trans (Evo.grown hg) (by simp)) (by simp) ?_)
    · exact run_builtin (s := Builtin.append_ #[T, T] t #[.slice (some ⟨b, 0, none⟩) l.length l.length, .slice (some ⟨b1, 0, none⟩) 1 1]) rfl (by simp [hx, upd_same]) (fun cs => rfl) hr
    · refine ⟨?_, fun cs hcs => ?_, by simpa using hlen⟩
      · have e : ((l ++ [y]).map Enc.enc).flatten = l.map u8v ++ [u8v y] := by
          have : ∀ m : List UInt8, (m.map Enc.enc).flatten = m.map u8v := fun m => by
            induction m with
            | nil => rfl
            | cons c m ih => rw [List.map_cons, List.flatten_cons, ih]; rfl
          rw [this]; simp
        rw [e]
        have h7 := ho
        have hbw : base ≤ w1.heap.size := Nat.le_trans hbase hev.size
        refine ⟨by simp [Enc.n], ?_⟩
        rcases h7.2 with ⟨h8, h9⟩ | ⟨g, cap, cur, h8, h9, h10⟩
        · omega
        · exact .inr ⟨g, cap, cur, by simpa using h8, by omega, by simpa [Enc.n] using h10⟩
      · obtain ⟨x', _, rfl⟩ := List.mem_map.1 hcs; exact Enc.len x'
theorem run_lenBA {o : Oper} {t e : TypeId} {x : Operand} {base : Nat} {E : TypeId} {v : Value} {l : List UInt8} (ho : o.op = .call ⟨.builtin .len, #[x], #[t]⟩) (hx : opv f x = v) (ht : P.underlying t = some (.slice e))
    (hba : BA w base E v l) : (execOp (opv f) o).run P w = .ok (.value (.int .i64 (l.length : Int))) w := by
  obtain ⟨ao, cap, rfl⟩ := hba.shape
  exact run_lenSl ho hx ht
end
theorem okU8 {n : Int} (h : (Lit.int .u8 n).wf = true) : ∃ c : UInt8, n = ((c.toNat : Nat) : Int) := by
  have h1 : (0 : Int) ≤ n ∧ n ≤ 255 := by
    simp only [Lit.wf, Bool.and_eq_true, decide_eq_true_eq] at h
    have e1 : IntKind.min .u8 = 0 := by decide
    have e2 : IntKind.max .u8 = 255 := by decide
    rw [e1, e2] at h; exact h
  refine ⟨UInt8.ofNat n.toNat, ?_⟩
  rw [UInt8.toNat_ofNat']
  omega
end Go.Vc
