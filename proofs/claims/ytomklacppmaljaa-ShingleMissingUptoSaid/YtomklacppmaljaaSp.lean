/-
  Plain: pairs of neighbouring words, their grams, what one list of grams has more than another. No program in sight.
-/
import Derived.Test.YtomklacppmaljaaSg
namespace Go.Vc
open Go
/-- the pairs of neighbours: behind 'l' come the words -/
def pairsL : Str → List Str → List (Str × Str)
  | l, [] => [(l, [])]
  | l, w :: r => (l, w) :: pairsL w r
theorem pairs_len : ∀ (l : Str) (ws : List Str), (pairsL l ws).length = ws.length + 1
  | _, [] => rfl
  | _, w :: r => by simp [pairsL, pairs_len w r]
/-- a pair more -/
def insG : List Gram → Str × Str → List Gram
  | [], p => [⟨p.1, p.2, 1⟩]
  | x :: r, p => if ltP (prG x) p then x :: insG r p else if prG x = p then ⟨x.fst, x.snd, x.count + 1⟩ :: r else ⟨p.1, p.2, 1⟩ :: x :: r
def gramsOf (ps : List (Str × Str)) : List Gram := ps.foldl insG []
def gramsL (ws : List Str) : List Gram := gramsOf (pairsL [] ws)
def AscG (g : List Gram) : Prop := g.Pairwise (fun x y => ltP (prG x) (prG y))
/-- the grams of some pairs -/
def GramsOk (ps : List (Str × Str)) (g : List Gram) : Prop := AscG g ∧ (∀ x ∈ g, 0 < ps.count (prG x) ∧ x.count = ((ps.count (prG x) : Nat) : Int)) ∧ ∀ p ∈ ps, ∃ x ∈ g, prG x = p
theorem gram_ext {x y : Gram} (h : prG x = prG y) (h2 : x.count = y.count) : x = y := by
  cases x; cases y; simp only [prG, Prod.mk.injEq] at h; simp_all
theorem asc_mem_ext : ∀ {g g' : List Gram}, AscG g → AscG g' → (∀ x, x ∈ g ↔ x ∈ g') → g = g'
  | [], [], _, _, _ => rfl
  | [], y :: r, _, _, h => absurd ((h y).2 (by simp)) (by simp)
  | x :: r, [], _, _, h => absurd ((h x).1 (by simp)) (by simp)
  | x :: r, y :: s, h1, h2, h => by
    unfold AscG at h1 h2
    rw [List.pairwise_cons] at h1 h2
    have e : x = y := by
      rcases List.mem_cons.1 ((h x).1 (by simp)) with e | hx
      · exact e
      · rcases List.mem_cons.1 ((h y).2 (by simp)) with e | hy
        · exact e.symm
        · exact absurd (ltP_trans (h1.1 y hy) (h2.1 x hx)) (ltP_irrefl _)
    subst e
    congr 1
    refine asc_mem_ext h1.2 h2.2 fun z => ⟨fun hz => ?_, fun hz => ?_⟩
    · rcases List.mem_cons.1 ((h z).1 (by simp [hz])) with e | hz'
      · subst e; exact absurd (h1.1 z hz) (ltP_irrefl _)
      · exact hz'
    · rcases List.mem_cons.1 ((h z).2 (by simp [hz])) with e | hz'
      · subst e; exact absurd (h2.1 z hz) (ltP_irrefl _)
      · exact hz'
theorem grams_unique {ps : List (Str × Str)} {g g' : List Gram} (h : GramsOk ps g) (h' : GramsOk ps g') : g = g' := by
  refine asc_mem_ext h.1 h'.1 fun x => ⟨fun hx => ?_, fun hx => ?_⟩
  · have h1 := h.2.1 x hx
    obtain ⟨y, hy, e⟩ := h'.2.2 (prG x) (List.count_pos_iff.1 h1.1)
    have h2 := h'.2.1 y hy
    rw [e] at h2
    rwa [gram_ext e.symm (h1.2.trans h2.2.symm)]
  · have h1 := h'.2.1 x hx
    obtain ⟨y, hy, e⟩ := h.2.2 (prG x) (List.count_pos_iff.1 h1.1)
    have h2 := h.2.1 y hy
    rw [e] at h2
    rwa [gram_ext e.symm (h1.2.trans h2.2.symm)]
theorem insG_pr {p : Str × Str} : ∀ {g : List Gram} {x : Gram}, x ∈ insG g p → prG x = p ∨ x ∈ g
  | [], x, h => by simp [insG] at h; subst h; exact .inl rfl
  | y :: r, x, h => by
    unfold insG at h
    split at h
    · rcases List.mem_cons.1 h with e | h
      · exact .inr (by simp [e])
      · rcases insG_pr h with e | h
        · exact .inl e
        · exact .inr (by simp [h])
    · split at h
      · rename_i _ e
        rcases List.mem_cons.1 h with e2 | h
        · subst e2; exact .inl e
        · exact .inr (by simp [h])
      · rcases List.mem_cons.1 h with e | h
        · subst e; exact .inl rfl
        · exact .inr h
theorem insG_asc {p : Str × Str} : ∀ {g : List Gram}, AscG g → AscG (insG g p)
  | [], _ => by unfold AscG insG; simp
  | y :: r, h => by
    unfold AscG at h ⊢
    rw [List.pairwise_cons] at h
    unfold insG
    split
    · rename_i h1
      rw [List.pairwise_cons]
      refine ⟨fun z hz => ?_, insG_asc h.2⟩
      rcases insG_pr hz with e | hz
      · rw [e]; exact h1
      · exact h.1 z hz
    · rename_i h1
      split
      · rename_i e
        rw [List.pairwise_cons]
        exact ⟨fun z hz => h.1 z hz, h.2⟩
      · rename_i h2
        have h3 : ltP p (prG y) := Classical.not_not.1 fun q => h2 (ltP_tri h1 q)
        rw [List.pairwise_cons]
        refine ⟨fun z hz => ?_, by rw [List.pairwise_cons]; exact h⟩
        rcases List.mem_cons.1 hz with e | hz
        · subst e; exact h3
        · exact ltP_trans h3 (h.1 z hz)
theorem insG_mem {p : Str × Str} : ∀ {g : List Gram}, AscG g → ∀ x, x ∈ insG g p ↔ (x ∈ g ∧ prG x ≠ p) ∨ (prG x = p ∧ ((∃ y ∈ g, prG y = p ∧ x.count = y.count + 1) ∨ (x.count = 1 ∧ ∀ y ∈ g, prG y ≠ p)))
  | [], _, x => by
    simp only [insG, List.mem_singleton, List.not_mem_nil, false_and, false_or, not_false_eq_true, exists_false, implies_true, and_true]
    constructor
    · rintro rfl; exact ⟨rfl, by simp⟩
    · rintro ⟨h1, h2⟩
      have h3 : x.count = 1 := by simpa using h2
      exact gram_ext (y := ⟨p.1, p.2, 1⟩) h1 h3
  | y :: r, h, x => by
    unfold AscG at h
    rw [List.pairwise_cons] at h
    have ih := insG_mem (p := p) (g := r) h.2 x
    unfold insG
    split
    · rename_i h1
      have hy : prG y ≠ p := fun e => ltP_irrefl p (e ▸ h1)
      rw [List.mem_cons, ih]
      constructor
      · rintro (rfl | h2)
        · exact .inl ⟨by simp, hy⟩
        · rcases h2 with ⟨h2, h3⟩ | ⟨h2, ⟨z, h3, h4⟩ | ⟨h3, h4⟩⟩
          · exact .inl ⟨by simp [h2], h3⟩
          · exact .inr ⟨h2, .inl ⟨z, by simp [h3], h4⟩⟩
          · refine .inr ⟨h2, .inr ⟨h3, fun z hz => ?_⟩⟩
            rcases List.mem_cons.1 hz with e | hz
            · subst e; exact hy
            · exact h4 z hz
      · rintro (⟨h2, h3⟩ | ⟨h2, ⟨z, h3, h4, h5⟩ | ⟨h3, h4⟩⟩)
        · rcases List.mem_cons.1 h2 with e | h2
          · exact .inl e
          · exact .inr (.inl ⟨h2, h3⟩)
        · rcases List.mem_cons.1 h3 with e | h3
          · subst e; exact absurd h4 hy
          · exact .inr (.inr ⟨h2, .inl ⟨z, h3, h4, h5⟩⟩)
        · exact .inr (.inr ⟨h2, .inr ⟨h3, fun z hz => h4 z (by simp [hz])⟩⟩)
    · rename_i h1
      split
      · rename_i e
        have hr : ∀ z ∈ r, prG z ≠ p := fun z hz e2 => ltP_irrefl p (by have := h.1 z hz; rwa [e, e2] at this)
        rw [List.mem_cons]
        constructor
        · rintro (rfl | h2)
          · exact .inr ⟨e, .inl ⟨y, by simp, e, rfl⟩⟩
          · exact .inl ⟨by simp [h2], hr x h2⟩
        · rintro (⟨h2, h3⟩ | ⟨h2, ⟨z, h3, h4, h5⟩ | ⟨h3, h4⟩⟩)
          · rcases List.mem_cons.1 h2 with e2 | h2
            · subst e2; exact absurd e h3
            · exact .inr h2
          · rcases List.mem_cons.1 h3 with e2 | h3
            · subst e2
              exact .inl (gram_ext (y := ⟨z.fst, z.snd, z.count + 1⟩) (h2.trans h4.symm) h5)
            · exact absurd h4 (hr z h3)
          · exact absurd e (h4 y (by simp))
      · rename_i h2
        have h3 : ltP p (prG y) := Classical.not_not.1 fun q => h2 (ltP_tri h1 q)
        have hr : ∀ z ∈ y :: r, prG z ≠ p := fun z hz e2 => by
          rcases List.mem_cons.1 hz with e3 | hz
          · subst e3; exact h2 e2
          · exact ltP_irrefl p (by have := ltP_trans h3 (h.1 z hz); rwa [e2] at this)
        rw [List.mem_cons]
        constructor
        · rintro (rfl | h4)
          · exact .inr ⟨rfl, .inr ⟨rfl, hr⟩⟩
          · exact .inl ⟨h4, hr x h4⟩
        · rintro (⟨h4, h5⟩ | ⟨h4, ⟨z, h5, h6, h7⟩ | ⟨h5, h6⟩⟩)
          · exact .inr h4
          · exact absurd h6 (hr z h5)
          · exact .inl (gram_ext (y := ⟨p.1, p.2, 1⟩) h4 h5)
theorem GramsOk.nil : GramsOk [] [] := ⟨List.Pairwise.nil, by simp, by simp⟩
theorem GramsOk.ins {ps : List (Str × Str)} {g : List Gram} {p : Str × Str} (h : GramsOk ps g) : GramsOk (ps ++ [p]) (insG g p) := by
  have hm := insG_mem (p := p) h.1
  refine ⟨insG_asc h.1, fun x hx => ?_, fun q hq => ?_⟩
  · rcases (hm x).1 hx with ⟨h1, h2⟩ | ⟨h1, ⟨y, h2, h3, h4⟩ | ⟨h2, h3⟩⟩
    · have h3 := h.2.1 x h1
      have e : (ps ++ [p]).count (prG x) = ps.count (prG x) := by rw [List.count_append, List.count_singleton]; simp [Ne.symm h2]
      rw [e]; exact h3
    · have h5 := h.2.1 y h2
      rw [h3] at h5
      rw [h1, List.count_append, List.count_singleton, h4, h5.2]
      simp
    · have h5 : ps.count p = 0 := List.count_eq_zero.2 fun hp => by
        obtain ⟨y, hy, e⟩ := h.2.2 p hp
        exact h3 y hy e
      rw [h1, List.count_append, List.count_singleton, h2, h5]
      simp
  · rcases List.mem_append.1 hq with h1 | h1
    · obtain ⟨x, hx, e⟩ := h.2.2 q h1
      by_cases hp : q = p
      · subst hp
        exact ⟨⟨q.1, q.2, x.count + 1⟩, (hm _).2 (.inr ⟨rfl, .inl ⟨x, hx, e, rfl⟩⟩), rfl⟩
      · exact ⟨x, (hm x).2 (.inl ⟨hx, by rw [e]; exact hp⟩), e⟩
    · have e : q = p := by simpa using h1
      subst e
      by_cases h2 : ∃ y ∈ g, prG y = q
      · obtain ⟨y, hy, e⟩ := h2
        exact ⟨⟨q.1, q.2, y.count + 1⟩, (hm _).2 (.inr ⟨rfl, .inl ⟨y, hy, e, rfl⟩⟩), rfl⟩
      · exact ⟨⟨q.1, q.2, 1⟩, (hm _).2 (.inr ⟨rfl, .inr ⟨rfl, fun y hy e => h2 ⟨y, hy, e⟩⟩⟩), rfl⟩
theorem gramsOk_fold : ∀ (qs ps : List (Str × Str)) (g : List Gram), GramsOk ps g → GramsOk (ps ++ qs) (qs.foldl insG g)
  | [], ps, g, h => by simpa using h
  | q :: qs, ps, g, h => by
    have := gramsOk_fold qs (ps ++ [q]) (insG g q) h.ins
    simpa using this
theorem gramsOk_of (ps : List (Str × Str)) : GramsOk ps (gramsOf ps) := by have := gramsOk_fold ps [] [] GramsOk.nil; simpa [gramsOf] using this
/-- a list of grams in whatever order, sorted -/
theorem gramsOk_sort {ps : List (Str × Str)} {g g' : List Gram} (hs : SortR (Go.Proofs.ltOf cmpG) g g') (hn : (g.map prG).Nodup) (h1 : ∀ x ∈ g, 0 < ps.count (prG x) ∧ x.count = ((ps.count (prG x) : Nat) : Int)) (h2 : ∀ p ∈ ps, ∃ x ∈ g, prG x = p) : GramsOk ps g' := by
  obtain ⟨hp, hw⟩ := hs
  have hn' : (g'.map prG).Nodup := (hp.map prG).nodup_iff.2 hn
  refine ⟨?_, fun x hx => h1 x (hp.mem_iff.1 hx), fun p hp' => ?_⟩
  · unfold AscG
    have hne : g'.Pairwise (fun x y => prG x ≠ prG y) := List.pairwise_map.1 hn'
    refine (hw.and hne).imp fun {x y} h => ?_
    have h3 := h.1
    rw [ltOf_G] at h3
    have h4 : ¬ ltP (prG y) (prG x) := by simpa using h3
    exact Classical.not_not.1 fun q => h.2 (ltP_tri q h4)
  · obtain ⟨x, hx, e⟩ := h2 p hp'
    exact ⟨x, hp.mem_iff.2 hx, e⟩
end Go.Vc
