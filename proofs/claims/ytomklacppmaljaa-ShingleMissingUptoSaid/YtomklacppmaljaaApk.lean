/-
  append to a slice of our own that is read on: the elder slice reads as it did. Generic over the program.
-/
import Derived.Test.YtomklacppmaljaaLb
namespace Go.Vc
open Go Go.RowKit Go.IntWalk
section
variable {P : Program} {w : World}
theorem run_append_keep {T E ty : TypeId} {m bb : Nat} {z : Value} (hu : P.underlying T = some (.slice E)) (ht : tyP P E = some (m, bb, some z)) (hzs : z.cells.size = m) (hm : 0 < m) (base : Nat) {v : Value} {css : List (List Value)} {us : List Value}
    (hown : Own w base E m v css) {ao : Option Addr} {b off cap : Nat} (hr : Row w m ao b off cap [us]) (h1 : oneCells us = true)
    (hbytes : (css.length + 1) * bb ≤ 140737488355328) (hlen : css.length + 1 ≤ 140737488355328) (hbase : base ≤ w.heap.size) :
    ∃ v' w', (Builtin.append_ #[T, T] ty #[v, .slice ao 1 cap]).run P w = .ok v' w' ∧ Own w' base E m v' (css ++ [us]) ∧ Evo w w' v.ownBlock.toList ∧
      (v'.ownBlock = v.ownBlock ∨ v'.ownBlock = some w.heap.size) ∧ ∀ ao0 cap0, v = .slice ao0 css.length cap0 → ∃ g, Row w' m ao0 g 0 cap0 css := by
  have hone : ∀ cs ∈ [us], oneCells cs = true := by simpa using h1
  obtain ⟨v', w', hrun, hown', he, hloc⟩ := run_append_row (P := P) (ty := ty) hu ht hzs hm base hown (cap := cap) hr hone hbytes hlen hbase
  refine ⟨v', w', hrun, hown', he, hloc, fun ao0 cap0 hv => ?_⟩
  obtain ⟨i, hi, hs, hb, hz⟩ := info_of ht
  obtain rfl : ao = some ⟨b, off, none⟩ := hr.2.1 (by simp)
  have hus : us.length = m := (hr.2.2 0 us rfl).1
  have hcell : ∀ j u, us[j]? = some u → w.cell? ((⟨b, off, none⟩ : Addr).add j) = some u := fun j u hj => by
    rw [add_lit]; exact news_flat hr.2.2 hm j u (by simpa using hj)
  obtain ⟨ao1, g1, cap1, hv1, hr1, hne1⟩ := hown.rowOf
  rcases hown.row.2 with ⟨hv2, hn⟩ | ⟨g, cap2, cur, hv2, hbg, hg, hnc, hcm, hcs, htk⟩
  · have hc : css = [] := List.eq_nil_of_length_eq_zero hn
    subst hc
    rw [hv2] at hv
    simp only [Value.slice.injEq] at hv
    obtain ⟨rfl, -, rfl⟩ := hv
    exact ⟨0, ⟨by simp, by simp, by simp⟩⟩
  · subst hv2
    simp only [Value.slice.injEq, true_and] at hv hv1
    obtain ⟨rfl, rfl⟩ := hv
    obtain ⟨rfl, rfl⟩ := hv1
    by_cases hroom : css.length + 1 ≤ cap2
    · have h2 := run_append_room (P := P) w T ty E i hu hi g css.length cap2 cur hg ⟨b, off, none⟩ 1 cap us (by rw [hs, Nat.one_mul]; exact hus) hcell (fun u hu' => List.all_eq_true.1 h1 u hu') hroom
        (by rw [hs, hus, hcs]; have := Nat.mul_le_mul_right m hroom; rw [Nat.add_mul, Nat.one_mul] at this; omega)
      injection hrun.symm.trans h2 with h3 h4
      obtain ⟨ao3, g3, cap3, hv3, hr3, hne3⟩ := hown'.rowOf
      rw [h3] at hv3
      simp only [Value.slice.injEq] at hv3
      obtain ⟨rfl, -, rfl⟩ := hv3
      have h5 := hr3.2.1 (by simp)
      simp only [Option.some.injEq, Addr.mk.injEq, true_and, and_true] at h5
      subst h5
      have h6 := hr3.take css.length
      rw [List.take_left] at h6
      exact ⟨_, h6⟩
    · have holds : ∀ j u, css.flatten[j]? = some u → w.cell? ((⟨g, 0, none⟩ : Addr).add j) = some u := hown.row.cells (g := g) rfl
      have h2 := run_append_grow (P := P) w T ty E i z hu hi hz ⟨g, 0, none⟩ css.length cap2 css.flatten (by rw [hs]; exact hown.row.1) holds ⟨b, off, none⟩ 1 cap us (by rw [hs, Nat.one_mul]; exact hus) hcell (by omega) (by omega) (by rw [hb]; exact growslice_fits (by omega) hbytes)
      injection hrun.symm.trans h2 with h3 h4
      have hev : Evo w w' [] := by
        rw [h4]
        exact Evo.grown (row := none) ⟨rfl, rfl, rfl, by simp, fun k hk _ => heap_alloc_old w.drew _ hk⟩
      exact ⟨_, hr1.evo0 hev⟩
end
section
variable {P : Program} {B : Exit → Act → World → Prop} {n : Nat} {k : List Kont} {f : Fr} {w : World} {ops : Array Oper} {rest : List Oper}
theorem r_append1RK {α : Type} [Rep α] {base : Nat} {E : TypeId} {Y : List Nat} {v : Value} {l : List α} {T d d1 bb m : Nat} {t t1 : TypeId} {pos pos1 : String} {aft aft1 : Array Edge} {x e : Operand} {z u : Value} {us : List Value} {y : α}
    (hd : Nat.blt d n = true) (hd1 : Nat.blt d1 n = true) (hu : P.underlying T = some (.slice E)) (ht : tyP P E = some (m, bb, some z)) (hzs : z.cells.size = m) (hm : (Nat.ble 1 m && Nat.ble m 10000) = true) (hmn : m = Rep.n α)
    (hown : OwnR w base E Y v l) (hx : ∀ q, opv (upd f d1 q) x = v) (he : opv f e = u) (hus : u.cells = us.toArray) (hml : us.length = m) (h1 : oneCells us = true) (hrep : ∀ w', Evo w w' (Y ++ v.ownBlock.toList) → Rep.rep w' us y)
    (hbytes : (l.length + 1) * bb ≤ 140737488355328) (hlen : l.length + 1 ≤ 140737488355328) (hbase : base ≤ w.heap.size)
    (h : ∀ q v' w', Evo w w' v.ownBlock.toList → OwnR w' base E Y v' (l ++ [y]) → (v'.ownBlock = v.ownBlock ∨ ∃ g, v'.ownBlock = some g ∧ w.heap.size ≤ g) → (∀ ao0 cap0, v = .slice ao0 l.length cap0 → ∃ g, RowR w' ao0 g 0 cap0 l) →
      KL P B n ops k rest (upd (upd f d1 q) d v') w') :
    KL P B n ops k (⟨some d1, .buildSlice T 1 #[(0, e)], t1, pos1, aft1, none⟩ :: ⟨some d, .call ⟨.builtin .append, #[x, .tmp d1], #[T, T]⟩, t, pos, aft, none⟩ :: rest) f w := by
  subst hmn
  obtain ⟨css, h2, h3⟩ := hown
  have hl := (h3 w (Evo.refl _ _)).1
  simp only [Bool.and_eq_true, Nat.ble_eq] at hm
  obtain ⟨zs, hz⟩ : ∃ zs : List Value, z.cells = zs.toArray := ⟨z.cells.toList, by simp⟩
  have hzl : zs.length = Rep.n α := by rw [hz] at hzs; simpa using hzs
  have hsu : u.cells.toList.length = Rep.n α := by rw [hus]; simpa using hml
  refine r_bslice (cs := us) (zs := zs) (pv := [(0, u)]) hu ht hz hd1 (by simp [he]) (by simp [hzl]; omega) ?_ ?_
  · have h1 : Nat.beq u.cells.toList.length (Rep.n α) = true := by rw [hsu]; simp
    have h2 : Nat.ble (0 * Rep.n α + Rep.n α) (List.replicate 1 zs).flatten.length = true := by simp [hzl]
    simp only [fillL, h1, h2, Bool.and_self, cond_true]
    congr 1
    rw [hus]
    simp [hzl]
  intro b w1 hb hev hB hs
  have hrow : Row w1 (Rep.n α) (some ⟨b, 0, none⟩) b 0 1 [us] := ⟨by simp, fun _ => rfl, fun i cs hi => by
    cases i with
    | zero => simp at hi; subst hi; exact ⟨hml, by simpa using hB.at⟩
    | succ i => simp at hi⟩
  obtain ⟨v', w', hrun, hown', he', hloc, hkeep⟩ := run_append_keep (P := P) (ty := t) hu ht hzs hm.1 base (h2.evo0 hev) (cap := 1) hrow h1 (by rw [hl]; exact hbytes) (by rw [hl]; exact hlen) (Nat.le_trans hbase hev.size)
  refine r_op rfl rfl hd (run_builtin (s := Builtin.append_ #[T, T] t #[v, .slice (some ⟨b, 0, none⟩) 1 1]) rfl (by simp [hx]; simp only [opv, upd_same]) (fun cs => rfl) hrun) ?_
  have hE0 : Evo w w' v.ownBlock.toList := (hev.mono (by simp)).trans he' (fun x hx _ => hx)
  have hloc2 : v'.ownBlock = v.ownBlock ∨ ∃ g, v'.ownBlock = some g ∧ w.heap.size ≤ g := by
    rcases hloc with hloc | hloc
    · exact .inl hloc
    · exact .inr ⟨_, hloc, hev.size⟩
  have hW : ∀ w'', Evo w' w'' (Y ++ v'.ownBlock.toList) → Evo w w'' (Y ++ v.ownBlock.toList) := fun w'' he2 => Evo.trans (hE0.weaken (fun x hx => .inl (List.mem_append_right _ hx))) he2 (fun x hx hlt => by
    rcases List.mem_append.1 hx with h4 | h4
    · exact List.mem_append_left _ h4
    · have h5 : v'.ownBlock = some x := by simpa using h4
      rcases hloc2 with h6 | ⟨g, h6, h7⟩
      · exact List.mem_append_right _ (by rw [← h6]; exact h4)
      · rw [h5] at h6; injection h6 with h6; omega)
  refine h _ v' w' hE0 ⟨_, hown', fun w'' he2 => (h3 w'' (hW w'' he2)).append (RepL.one (hrep w'' (hW w'' he2)))⟩ hloc2 (fun ao0 cap0 hv => ?_)
  obtain ⟨g, hg⟩ := hkeep ao0 cap0 (by rw [hl]; exact hv)
  exact ⟨g, css, hg, h3 w' (hW w' (Evo.refl _ _))⟩
end
end Go.Vc
