/-
  Classes that are being read: a slice of our own whose last class's endings are a slice of our own. Generic over the program.
-/
import Derived.Test.YtomklacppmaljaaRaw
namespace Go.Vc
open Go Go.RowKit Go.IntWalk Go.Deep
def rawV (m : Str) (ve : Value) (h : oneCells [S m, ve] = true) : Raw2 := ⟨S m, ve, h⟩
def PclR (w : World) (base EN : Nat) (v : Value) (rl : List Raw2) (cl : List Clas) : Prop :=
  (rl = [] ∧ cl = []) ∨ ∃ rf cf, ∃ (m : Str) (ve : Value) (es : List Ende) (h1 : oneCells [S m, ve] = true), rl = rf ++ [rawV m ve h1] ∧ cl = cf ++ [⟨m, es⟩] ∧ OwnE w base EN ve es ∧ (∀ g, ve.ownBlock = some g → v.ownBlock ≠ some g) ∧
    (∀ w', Evo w w' (v.ownBlock.toList ++ ve.ownBlock.toList) → RepL w' (rf.map Enc.enc) cf) ∧ BdC ⟨m, es⟩
def Pcl (w : World) (base EC EN : Nat) (v : Value) (cl : List Clas) : Prop := ∃ rl : List Raw2, OwnE w base EC v rl ∧ PclR w base EN v rl cl
section
variable {w w' : World} {base EC EN : Nat} {v : Value} {rl : List Raw2} {cl : List Clas}
theorem Pcl.nil (w : World) (base EC EN : Nat) : Pcl w base EC EN (.slice none 0 0) [] := ⟨[], OwnE.nil _ _ _, .inl ⟨rfl, rfl⟩⟩
theorem PclR.evo0 (h : PclR w base EN v rl cl) (he : Evo w w' []) : PclR w' base EN v rl cl := by
  rcases h with h | ⟨rf, cf, m, ve, es, h1, h2, h3, h4, h5, h6, h7⟩
  · exact .inl h
  · exact .inr ⟨rf, cf, m, ve, es, h1, h2, h3, h4.evo0 he, h5, fun w2 he2 => h6 w2 (Evo.trans (he.mono (by simp)) he2 (fun x hx _ => hx)), h7⟩
theorem Pcl.evo0 (h : Pcl w base EC EN v cl) (he : Evo w w' []) : Pcl w' base EC EN v cl := by
  obtain ⟨rl, h1, h2⟩ := h
  exact ⟨rl, h1.evo0 he, h2.evo0 he⟩
theorem PclR.rep (h : PclR w base EN v rl cl) (he : Evo w w' v.ownBlock.toList) : RepL w' (rl.map Enc.enc) cl := by
  rcases h with ⟨rfl, rfl⟩ | ⟨rf, cf, m, ve, es, h1, rfl, rfl, h4, h5, h6, h7⟩
  · exact RepL.nil _
  · rw [List.map_append]
    refine (h6 w' (he.mono (fun x hx => List.mem_append_left _ hx))).append (RepL.one ?_)
    have h8 := h4.evo he (fun g hg hm => h5 g hg (by simpa using hm))
    obtain ⟨ao, g, cap, hv, hr, _⟩ := h8.rowOf
    subst hv
    exact ⟨⟨ao, g, 0, cap, rfl, hr⟩, h7⟩
theorem PclR.len (h : PclR w base EN v rl cl) : rl.length = cl.length := by have := (h.rep (Evo.refl _ _)).1; simpa using this
theorem rowC {ao : Option Addr} {b off cap : Nat} (h : RowE w ao b off cap rl) (hr : RepL w (rl.map Enc.enc) cl) : RowR w ao b off cap cl := ⟨_, h, hr⟩
theorem Pcl.rowOf (h : Pcl w base EC EN v cl) : ∃ ao g cap, v = .slice ao cl.length cap ∧ RowR w ao g 0 cap cl := by
  obtain ⟨rl, h1, h2⟩ := h
  obtain ⟨ao, g, cap, hv, hr, _⟩ := h1.rowOf
  exact ⟨ao, g, cap, by rw [hv, h2.len], rowC hr (h2.rep (Evo.refl _ _))⟩
theorem Pcl.snoc {v' : Value} {m : Str} (h1 : PclR w base EN v rl cl) (he : Evo w w' v.ownBlock.toList) (h2 : OwnE w' base EC v' (rl ++ [rawV m (.slice none 0 0) rfl])) (hl : v'.ownBlock = v.ownBlock ∨ ∃ g, v'.ownBlock = some g ∧ w.heap.size ≤ g) (hb : BdC ⟨m, []⟩) :
    Pcl w' base EC EN v' (cl ++ [⟨m, []⟩]) :=
  ⟨_, h2, .inr ⟨rl, cl, m, _, [], rfl, rfl, rfl, OwnE.nil _ _ _, (fun g hg => by cases hg), fun w2 he2 => h1.rep (own_step (X := []) he hl w2 (he2.mono (fun x hx => by simpa [Value.ownBlock] using hx))), hb⟩⟩
theorem Pcl.last {ve' : Value} {m : Str} {rf : List Raw2} {cf : List Clas} {ve : Value} {es' : List Ende} {h' : oneCells [S m, ve'] = true} (h6 : ∀ w', Evo w w' (v.ownBlock.toList ++ ve.ownBlock.toList) → RepL w' (rf.map Enc.enc) cf) (he : Evo w w' (v.ownBlock.toList ++ ve.ownBlock.toList))
    (h2 : OwnE w' base EC v (rf ++ [rawV m ve' h'])) (h3 : OwnE w' base EN ve' es') (hl : ve'.ownBlock = ve.ownBlock ∨ ∃ g, ve'.ownBlock = some g ∧ w.heap.size ≤ g) (hn : ∀ g, ve.ownBlock = some g → v.ownBlock ≠ some g) (hv : ∀ g, v.ownBlock = some g → g < w.heap.size) (hb : BdC ⟨m, es'⟩) :
    Pcl w' base EC EN v (cf ++ [⟨m, es'⟩]) :=
  ⟨_, h2, .inr ⟨rf, cf, m, ve', es', h', rfl, rfl, h3, fun g hg hg2 => by
    rcases hl with h | ⟨g2, h, h4⟩
    · exact hn g (h ▸ hg) hg2
    · rw [h] at hg; injection hg with hg
      have := hv g hg2; omega, fun w2 he2 => h6 w2 (Evo.trans he he2 (fun x hx hlt => by
        rcases List.mem_append.1 hx with h7 | h7
        · exact List.mem_append_left _ h7
        · have h8 : ve'.ownBlock = some x := by simpa using h7
          rcases hl with h9 | ⟨g2, h9, h10⟩
          · exact List.mem_append_right _ (by rw [← h9]; exact h7)
          · rw [h8] at h9; injection h9 with h9; omega)), hb⟩⟩
theorem set_last {rf : List Raw2} {x y : Raw2} : (rf ++ [x]).set rf.length y = rf ++ [y] := by rw [List.set_append_right (h := Nat.le_refl _)]; simp
theorem getD_last {rf : List Raw2} {x : Raw2} : (rf ++ [x]).getD rf.length default = x := by simp [List.getD]
end
section
variable {P : Program} {B : Exit → Act → World → Prop} {n : Nat} {k : List Kont} {f : Fr} {w : World} {ops : Array Oper} {rest : List Oper}
/-- an append of one value: the elder slice reads on -/
theorem r_append1EK {α : Type} [Enc α] {base : Nat} {E : TypeId} {v : Value} {l : List α} {T d d1 bb m : Nat} {t t1 : TypeId} {pos pos1 : String} {aft aft1 : Array Edge} {x e : Operand} {z u : Value} {y : α}
    (hd : Nat.blt d n = true) (hd1 : Nat.blt d1 n = true) (hu : P.underlying T = some (.slice E)) (ht : tyP P E = some (m, bb, some z)) (hm : (m == Enc.n α && z.cells.size == Enc.n α && Nat.ble m 10000) = true)
    (hown : OwnE w base E v l) (hx : ∀ q, opv (upd f d1 q) x = v) (he : opv f e = u) (hus : u.cells = (Enc.enc y).toArray)
    (hbytes : (l.length + 1) * bb ≤ 140737488355328) (hlen : l.length + 1 ≤ 140737488355328) (hbase : base ≤ w.heap.size)
    (h : ∀ q v' w', Evo w w' v.ownBlock.toList → OwnE w' base E v' (l ++ [y]) → (v'.ownBlock = v.ownBlock ∨ ∃ g, v'.ownBlock = some g ∧ w.heap.size ≤ g) → (∀ ao0 cap0, v = .slice ao0 l.length cap0 → ∃ g, RowE w' ao0 g 0 cap0 l) → KL P B n ops k rest (upd (upd f d1 q) d v') w') :
    KL P B n ops k (⟨some d1, .buildSlice T 1 #[(0, e)], t1, pos1, aft1, none⟩ :: ⟨some d, .call ⟨.builtin .append, #[x, .tmp d1], #[T, T]⟩, t, pos, aft, none⟩ :: rest) f w := by
  simp only [Bool.and_eq_true, beq_iff_eq, Nat.ble_eq] at hm
  obtain ⟨⟨rfl, hzs⟩, h3⟩ := hm
  have hp := Enc.pos (α := α)
  have hml : (Enc.enc y).length = Enc.n α := Enc.len y
  have hl : (l.map Enc.enc).length = l.length := by simp
  obtain ⟨zs, hz⟩ : ∃ zs : List Value, z.cells = zs.toArray := ⟨z.cells.toList, by simp⟩
  have hzl : zs.length = Enc.n α := by rw [hz] at hzs; simpa using hzs
  have hsu : u.cells.toList.length = Enc.n α := by rw [hus]; simpa using hml
  refine r_bslice (cs := Enc.enc y) (zs := zs) (pv := [(0, u)]) hu ht hz hd1 (by simp [he]) (by simp [hzl]; omega) ?_ ?_
  · have h1 : Nat.beq u.cells.toList.length (Enc.n α) = true := by rw [hsu]; simp
    have h2 : Nat.ble (0 * Enc.n α + Enc.n α) (List.replicate 1 zs).flatten.length = true := by simp [hzl]
    simp only [fillL, h1, h2, Bool.and_self, cond_true]
    congr 1
    rw [hus]
    simp [hzl]
  intro b w1 hb hev hB hs
  have hrow : Row w1 (Enc.n α) (some ⟨b, 0, none⟩) b 0 1 [Enc.enc y] := ⟨by simp, fun _ => rfl, fun i cs hi => by
    cases i with
    | zero => simp at hi; subst hi; exact ⟨hml, by simpa using hB.at⟩
    | succ i => simp at hi⟩
  obtain ⟨v', w', hrun, hown', he', hloc, hkeep⟩ := run_append_keep (P := P) (ty := t) hu ht hzs hp base (Own.evo0 hown hev) (cap := 1) hrow (Enc.one y) (by rw [hl]; exact hbytes) (by rw [hl]; exact hlen) (Nat.le_trans hbase hev.size)
  refine r_op rfl rfl hd (run_builtin (s := Builtin.append_ #[T, T] t #[v, .slice (some ⟨b, 0, none⟩) 1 1]) rfl (by simp [hx]; simp only [opv, upd_same]) (fun cs => rfl) hrun) ?_
  refine h _ v' w' ((hev.mono (by simp)).trans he' (fun x hx _ => hx)) (by unfold OwnE; simpa using hown') ?_ (fun ao0 cap0 hv => ?_)
  · rcases hloc with hloc | hloc
    · exact .inl hloc
    · exact .inr ⟨_, hloc, hev.size⟩
  obtain ⟨g, hg⟩ := hkeep ao0 cap0 (by rw [hl]; exact hv)
  exact ⟨g, hg⟩
end
end Go.Vc
