/-
  Walks of functions that the statement reaches (joined by a program out of smaller texts).
-/
import Derived.Test.YtomklacppmaljaaNc
import Derived.Test.YtomklacppmaljaaFbr
namespace Go.Proofs.Ytomklacppmaljaa
open Go.RowKit Go.Vc
def fmtE (y : Ende) : Str := twoW ++ y.strip ++ [62] ++ y.add ++ [10]
def fmtO (x : Clas) : Str := clsW ++ x.name ++ [10] ++ (x.ends.map fmtE).flatten
def fmtC (c : List Clas) : Str := (c.map fmtO).flatten
theorem head_app {l t : Str} (h : ¬ (10 : UInt8) ∈ l) : headL (l ++ 10 :: t) = l := by
  unfold headL
  induction l with
  | nil => simp
  | cons c r ih =>
    have hc : ¬ c = 10 := fun e => h (by simp [e])
    rw [List.cons_append, List.takeWhile_cons, if_pos (by simpa using hc), ih (fun hm => h (by simp [hm]))]
theorem tail_app {l t : Str} (h : ¬ (10 : UInt8) ∈ l) : tailL (l ++ 10 :: t) = t := by
  unfold tailL; rw [head_app h]; simp
def PT (i : Nat) (cl : List Clas) (t : Str) : List Clas × Int × Int := parseL (wholeL t) i cl (linesL t)
theorem pt_line {i : Nat} {cl : List Clas} {l t : Str} (h : ¬ (10 : UInt8) ∈ l) (h1 : l ≠ []) (h2 : ¬ l.getD 0 0 = 35) (h3 : stepE cl l = 0) : PT i cl (l ++ 10 :: t) = PT (i + 1) (stepC cl l) t := by
  unfold PT
  have hm : (10 : UInt8) ∈ l ++ 10 :: t := by simp
  have := pt_step (n := i) (cl := cl) hm (by rw [head_app h]; exact fun e => e.elim h1 h2) (by rw [head_app h]; exact h3)
  rw [this, head_app h, tail_app h]
theorem name_chars {s : Str} (h : isName s = true) : s.length ≤ 24 ∧ ∀ c ∈ s, ¬ c = 32 ∧ ¬ c = 10 := by
  unfold isName at h
  simp only [Bool.and_eq_true, decide_eq_true_iff] at h
  obtain ⟨⟨⟨h1, h2⟩, h3⟩, h4⟩ := h
  refine ⟨h2, fun c hc => ?_⟩
  have hn : ∀ c : UInt8, lowB c = true ∨ nameB c = true → ¬ c = 32 ∧ ¬ c = 10 := by
    intro c hc
    refine ⟨?_, ?_⟩ <;> (rintro rfl; revert hc; decide)
  match s, hc with
  | d :: t, hc =>
    rcases List.mem_cons.1 hc with rfl | hc
    · exact hn _ (.inl h3)
    · exact hn _ (.inr (List.all_eq_true.1 h4 c (by simpa using hc)))
theorem small_chars {s : Str} (h : smallL s = true) : ∀ c ∈ s, ¬ c = 62 ∧ ¬ c = 10 := fun c hc => by
  unfold smallL at h
  rw [Bool.and_eq_true] at h
  have h1 := List.all_eq_true.1 h.1 c hc
  rw [decide_eq_true_iff] at h1
  refine ⟨?_, ?_⟩ <;> (rintro rfl; revert h1; decide)
theorem named_zero {c : List Clas} {n : Str} (h : namedL c n = 0) : isName n = true ∧ ¬ 0 ≤ findC c n := by
  unfold namedL at h
  by_cases h1 : isName n = true
  · rw [if_pos h1] at h
    by_cases h2 : 0 ≤ findC c n
    · rw [if_pos h2] at h; cases h
    · exact ⟨h1, h2⟩
  · rw [if_neg h1] at h; cases h
theorem ended_zero {b : List Ende} {x : Ende} (h : endedL b x = 0) : (smallL x.strip = true ∧ x.strip.length ≤ 8) ∧ (smallL x.add = true ∧ x.add.length ≤ 8) := by
  unfold endedL at h
  by_cases h1 : (smallL x.strip = true ∧ x.strip.length ≤ 8) ∧ (smallL x.add = true ∧ x.add.length ≤ 8)
  · exact h1
  · rw [if_neg h1] at h; cases h
theorem firstE_zero {f : Nat → Int} : ∀ {n : Nat}, firstE f n = 0 → ∀ j, j < n → f j = 0
  | 0, _, j, hj => by omega
  | n + 1, h, j, hj => by
    unfold firstE at h
    by_cases e : firstE f n = 0
    · rw [if_pos e] at h
      rcases Nat.lt_or_ge j n with h1 | h1
      · exact firstE_zero e j h1
      · have : j = n := by omega
        rw [this]; exact h
    · rw [if_neg e] at h; exact absurd h e
theorem valid_zero {c : List Clas} (h : validC c = 0) : c.length ≤ 32 ∧ ∀ i, i < c.length → namedL (c.take i) (c.getD i default).name = 0 ∧ (c.getD i default).ends.length ≤ 16 ∧ ∀ k, k < (c.getD i default).ends.length → endedL ((c.getD i default).ends.take k) ((c.getD i default).ends.getD k default) = 0 := by
  unfold validC at h
  by_cases h1 : 32 < c.length
  · rw [if_pos h1] at h; cases h
  · rw [if_neg h1] at h
    refine ⟨by omega, fun i hi => ?_⟩
    have h2 := firstE_zero h i hi
    unfold classErr at h2
    by_cases h3 : namedL (c.take i) (c.getD i default).name = 0
    · rw [if_pos h3] at h2
      by_cases h4 : 16 < (c.getD i default).ends.length
      · rw [if_pos h4] at h2; cases h2
      · rw [if_neg h4] at h2
        exact ⟨h3, by omega, fun k hk => firstE_zero h2 k hk⟩
    · rw [if_neg h3] at h2; exact absurd h2 h3
theorem step_cls {cl : List Clas} {m : Str} (h : namedL cl m = 0) (hl : cl.length < 32) : stepE cl (clsW ++ m) = 0 ∧ stepC cl (clsW ++ m) = cl ++ [⟨m, []⟩] := by
  have hp : clsW <+: clsW ++ m := List.prefix_append _ _
  have hn : nameOf (clsW ++ m) = m := rfl
  have hc := name_chars (named_zero h).1
  refine ⟨?_, by rw [stepC_name hp, hn]⟩
  rw [step_named hp (by rw [hn]; exact fun h1 => (hc.2 _ h1).1 rfl) (by omega), hn, h]
theorem body_app {y : Ende} : bodyOf (twoW ++ y.strip ++ [62] ++ y.add) = y.strip ++ 62 :: y.add := by
  unfold bodyOf twoW; simp
theorem end_parts {y : Ende} (h : ∀ c ∈ y.strip, ¬ c = 62) (h2 : ∀ c ∈ y.add, ¬ c = 62) : onceB (y.strip ++ 62 :: y.add) 62 = true ∧ aheadB (y.strip ++ 62 :: y.add) 62 = y.strip ∧ behindB (y.strip ++ 62 :: y.add) 62 = y.add := by
  have ha : aheadB (y.strip ++ 62 :: y.add) 62 = y.strip := by
    rw [ahead_at (p := y.strip.length) (by simp) (by simp [List.getD]) (fun j hj => by
      have e : (y.strip ++ 62 :: y.add).getD j 0 = y.strip[j] := by simp [List.getD, List.getElem?_append_left hj, hj]
      rw [e]; exact h _ (List.getElem_mem hj))]
    simp
  have hb : behindB (y.strip ++ 62 :: y.add) 62 = y.add := by unfold behindB; rw [ha]; simp
  refine ⟨decide_eq_true (once_iff.2 ⟨by simp, ?_⟩), ha, hb⟩
  rw [hb]; exact fun hm => h2 _ hm rfl
theorem step_ende {cf : List Clas} {m : Str} {es : List Ende} {y : Ende} (h : endedL es y = 0) (hl : es.length < 16) :
    stepE (cf ++ [⟨m, es⟩]) (twoW ++ y.strip ++ [62] ++ y.add) = 0 ∧ stepC (cf ++ [⟨m, es⟩]) (twoW ++ y.strip ++ [62] ++ y.add) = cf ++ [⟨m, es ++ [y]⟩] := by
  have hz := ended_zero h
  have hs := small_chars hz.1.1
  have ha := small_chars hz.2.1
  have hn : ¬ clsW <+: twoW ++ y.strip ++ [62] ++ y.add := fun hp => by
    have := (prefix_iff.1 hp).2
    have h1 := congrArg (fun l : Str => l.head?) this
    simp [clsW, twoW] at h1
  have hp : twoW <+: twoW ++ y.strip ++ [62] ++ y.add := ⟨y.strip ++ [62] ++ y.add, by simp⟩
  have hb := body_app (y := y)
  obtain ⟨h1, h2, h3⟩ := end_parts (fun c hc => (hs c hc).1) (fun c hc => (ha c hc).1)
  have hlc : lastC (cf ++ [⟨m, es⟩]) = ⟨m, es⟩ := by unfold lastC; simp [List.getD]
  have he : endOf (twoW ++ y.strip ++ [62] ++ y.add) = y := by unfold endOf; rw [hb, h2, h3]
  refine ⟨?_, ?_⟩
  · rw [step_end hn (by rw [hb]; rintro (e | e | e); exact e hp; exact e h1; simp at e) (by rw [hlc]; show ¬ 16 ≤ es.length; omega), hlc, he, h]
  · rw [stepC_end hn, hlc, he]; simp
theorem pt_ends {cf : List Clas} {m : Str} {t : Str} : ∀ (r p : List Ende) (i : Nat), (p ++ r).length ≤ 16 → (∀ k, p.length ≤ k → k < (p ++ r).length → endedL ((p ++ r).take k) ((p ++ r).getD k default) = 0) →
    PT i (cf ++ [⟨m, p⟩]) ((r.map fmtE).flatten ++ t) = PT (i + r.length) (cf ++ [⟨m, p ++ r⟩]) t
  | [], p, i, _, _ => by simp
  | y :: r, p, i, hl, h => by
    have h0 := h p.length (Nat.le_refl _) (by simp)
    have e1 : (p ++ y :: r).take p.length = p := by simp
    have e2 : (p ++ y :: r).getD p.length default = y := by simp [List.getD]
    rw [e1, e2] at h0
    have hl2 : p.length < 16 := by simp at hl; omega
    obtain ⟨s1, s2⟩ := step_ende (cf := cf) (m := m) h0 hl2
    have hz := ended_zero h0
    have e3 : ((y :: r).map fmtE).flatten ++ t = (twoW ++ y.strip ++ [62] ++ y.add) ++ 10 :: ((r.map fmtE).flatten ++ t) := by simp [fmtE]
    have hno : ¬ (10 : UInt8) ∈ twoW ++ y.strip ++ [62] ++ y.add := fun hm => by
      simp only [List.mem_append, twoW, List.mem_cons, List.not_mem_nil, or_false] at hm
      rcases hm with ((hm | hm) | hm) | hm
      · rcases hm with hm | hm <;> exact absurd hm (by decide)
      · exact (small_chars hz.1.1 _ hm).2 rfl
      · exact absurd hm (by decide)
      · exact (small_chars hz.2.1 _ hm).2 rfl
    rw [e3, pt_line hno (by simp [twoW]) (by simp [twoW]) s1, s2]
    have ih := pt_ends (cf := cf) (m := m) (t := t) r (p ++ [y]) (i + 1) (by simpa using hl) (fun k h1 h2 => by
      have := h k (by simp at h1; omega) (by simpa using h2)
      simpa using this)
    rw [ih]
    simp [Nat.add_assoc, Nat.add_comm 1]
def ClsOk (c : List Clas) : Prop := ∀ i, i < c.length → namedL (c.take i) (c.getD i default).name = 0 ∧ (c.getD i default).ends.length ≤ 16 ∧ ∀ k, k < (c.getD i default).ends.length → endedL ((c.getD i default).ends.take k) ((c.getD i default).ends.getD k default) = 0
theorem pt_cls : ∀ (r p : List Clas) (i : Nat), (p ++ r).length ≤ 32 → ClsOk (p ++ r) → ∃ j, PT i p (fmtC r) = PT j (p ++ r) []
  | [], p, i, _, _ => ⟨i, by simp [fmtC]⟩
  | x :: r, p, i, hl, h => by
    obtain ⟨h0, h1, h2⟩ := h p.length (by simp)
    have e1 : (p ++ x :: r).take p.length = p := by simp
    have e2 : (p ++ x :: r).getD p.length default = x := by simp [List.getD]
    rw [e1, e2] at h0; rw [e2] at h1 h2
    obtain ⟨s1, s2⟩ := step_cls h0 (by simp at hl; omega)
    have hc := name_chars (named_zero h0).1
    have e3 : fmtC (x :: r) = (clsW ++ x.name) ++ 10 :: ((x.ends.map fmtE).flatten ++ fmtC r) := by simp [fmtC, fmtO]
    have hno : ¬ (10 : UInt8) ∈ clsW ++ x.name := fun hm => by
      rcases List.mem_append.1 hm with hm | hm
      · revert hm; decide
      · exact (hc.2 _ hm).2 rfl
    rw [e3, pt_line hno (by simp [clsW]) (by simp [clsW]) s1, s2, pt_ends x.ends [] (i + 1) (by simpa using h1) (fun k _ hk => by simpa using h2 k (by simpa using hk))]
    obtain ⟨j, ih⟩ := pt_cls r (p ++ [x]) (i + 1 + x.ends.length) (by simpa using hl) (by simpa using h)
    refine ⟨j, ?_⟩
    have e4 : (⟨x.name, [] ++ x.ends⟩ : Clas) = x := by cases x; rfl
    rw [e4, ih]; simp
theorem fmtE_len {y : Ende} (h : y.strip.length ≤ 8 ∧ y.add.length ≤ 8) : (fmtE y).length ≤ 20 := by simp [fmtE, twoW]; omega
theorem flat_len {α : Type} {f : α → Str} {n : Nat} : ∀ {l : List α}, (∀ x ∈ l, (f x).length ≤ n) → (l.map f).flatten.length ≤ l.length * n
  | [], _ => by simp
  | x :: l, h => by
    have h1 := h x (by simp)
    have h2 := flat_len (l := l) (fun y hy => h y (by simp [hy]))
    simp only [List.map_cons, List.flatten_cons, List.length_append, List.length_cons, Nat.add_mul]; omega
theorem fmtO_len {x : Clas} (h0 : x.name.length ≤ 24) (h1 : x.ends.length ≤ 16) (h2 : ∀ y ∈ x.ends, y.strip.length ≤ 8 ∧ y.add.length ≤ 8) : (fmtO x).length ≤ 351 := by
  have h3 := flat_len (f := fmtE) (n := 20) (l := x.ends) (fun y hy => fmtE_len (h2 y hy))
  have h4 : x.ends.length * 20 ≤ 16 * 20 := Nat.mul_le_mul_right _ h1
  simp only [fmtO, clsW, List.length_append, List.length_cons, List.length_nil]; omega
theorem ok_bounds {c : List Clas} (h : ClsOk c) : ∀ x ∈ c, x.name.length ≤ 24 ∧ x.ends.length ≤ 16 ∧ ∀ y ∈ x.ends, y.strip.length ≤ 8 ∧ y.add.length ≤ 8 := fun x hx => by
  obtain ⟨i, hi, rfl⟩ := List.mem_iff_getElem.1 hx
  have e : c.getD i default = c[i] := by simp [List.getD, hi]
  obtain ⟨h0, h1, h2⟩ := h i hi
  rw [e] at h0 h1 h2
  refine ⟨(name_chars (named_zero h0).1).1, h1, fun y hy => ?_⟩
  obtain ⟨k, hk, rfl⟩ := List.mem_iff_getElem.1 hy
  have e2 : (c[i]).ends.getD k default = (c[i]).ends[k] := by simp [List.getD, hk]
  have h3 := ended_zero (h2 k hk)
  rw [e2] at h3
  exact ⟨h3.1.2, h3.2.2⟩
theorem fmtC_len {c : List Clas} (h : validC c = 0) : (fmtC c).length ≤ 11232 := by
  have h1 := valid_zero h
  have h2 := ok_bounds h1.2
  have h3 := flat_len (f := fmtO) (n := 351) (l := c) (fun x hx => fmtO_len (h2 x hx).1 (h2 x hx).2.1 (h2 x hx).2.2)
  have h4 : c.length * 351 ≤ 32 * 351 := Nat.mul_le_mul_right _ h1.1
  show ((c.map fmtO).flatten).length ≤ _; omega
theorem parse_fmt {c : List Clas} (h : validC c = 0) : parseT (fmtC c) = (c, 0, 0) := by
  have h1 := valid_zero h
  have h2 := fmtC_len h
  rw [pt_short (by omega)]
  obtain ⟨j, hj⟩ := pt_cls c [] 0 (by simpa using h1.1) (by rw [List.nil_append]; exact h1.2)
  have : PT 0 [] (fmtC c) = PT j c [] := by simpa using hj
  unfold PT at this
  rw [this]; exact pt_end rfl
theorem dec1 {n : Nat} (h : n ≤ 9) : decW n [] = [UInt8.ofNat (48 + n % 10)] := decW_stop [] (by omega)
theorem dec1_name {n : Nat} (h : n ≤ 9) : isName (99 :: decW n []) = true := by
  rw [dec1 h]
  have : ∀ n, n ≤ 9 → isName [99, UInt8.ofNat (48 + n % 10)] = true := by decide
  exact this n h
theorem dec1_ne {a b : Nat} (ha : a ≤ 9) (hb : b ≤ 9) (h : ¬ a = b) : ¬ (99 :: decW a [] : Str) = 99 :: decW b [] := by
  rw [dec1 ha, dec1 hb]
  have : ∀ a, a ≤ 9 → ∀ b, b ≤ 9 → ¬ a = b → ¬ ([99, UInt8.ofNat (48 + a % 10)] : Str) = [99, UInt8.ofNat (48 + b % 10)] := by decide
  exact this a ha b hb h
theorem strip_small {s : Str} (h : s ∈ stripsL) : smallL s = true ∧ s.length ≤ 8 := by
  have : ∀ s ∈ stripsL, smallL s = true ∧ s.length ≤ 8 := by decide
  exact this s h
theorem add_small {s : Str} (h : s ∈ addsL) : smallL s = true ∧ s.length ≤ 8 := by
  have : ∀ s ∈ addsL, smallL s = true ∧ s.length ≤ 8 := by decide
  exact this s h
theorem made_endsZ {es : List Ende} (h : MadeE es) {k : Nat} (hk : k < es.length) : endedL (es.take k) (es.getD k default) = 0 := by
  have e : es.getD k default = es[k] := by simp [List.getD, hk]
  have h1 := h.2 _ (List.getElem_mem hk)
  rw [e]
  unfold endedL
  rw [if_pos ⟨strip_small h1.1, add_small h1.2⟩, if_neg]
  intro hm
  obtain ⟨j, hj, e2⟩ := List.mem_iff_getElem.1 hm
  rw [List.length_take] at hj
  rw [List.getElem_take] at e2
  exact (List.pairwise_iff_getElem.1 h.1) j k (by omega) hk (by omega) e2
theorem made_valid {cl : List Clas} {N : Nat} (h : MadeP cl N 0) (hN : N ≤ 9) : validC cl = 0 := by
  have hl : cl.length = N := h.1
  refine valid_ok (i := cl.length) (by omega) (fun j hj => ?_) (Nat.le_refl _)
  have hnm : ∀ q, (hq : q < cl.length) → (cl.getD q default).name = 99 :: decW (N - q) [] := fun q hq => by
    have e : cl.getD q default = cl[q] := by simp [List.getD, hq]
    rw [e]; exact h.2.1 q hq
  have hmm := h.mem (getD_in hj)
  have hn0 : namedL (cl.take j) (cl.getD j default).name = 0 := by
    rw [hnm j hj]
    refine named_ok (dec1_name (by omega)) ?_
    rw [findC_none (fun q hq => ?_)]
    · decide
    · rw [List.length_take] at hq
      have e : (cl.take j).getD q default = cl.getD q default := by simp [List.getD, List.getElem?_take, show q < j by omega]
      rw [e, hnm q (by omega)]
      exact dec1_ne (by omega) (by omega) (by omega)
  rw [cls_ends hn0 (by have := hmm.2; omega)]
  exact ends_ok (k := (cl.getD j default).ends.length) (fun k hk => made_endsZ hmm.1 hk) (Nat.le_refl _)
end Go.Proofs.Ytomklacppmaljaa

namespace Go.Proofs.Ytomklacppmaljaa
open Go.RowKit Go.Vc

theorem sameclasses_calls {aoa aob : Option Addr} {ba offa capa bb offb capb : Nat} {a : List Clas} {w0 : World} (ha : RowR w0 aoa ba offa capa a) (hb : RowR w0 aob bb offb capb a) :
    Calls Try.prog 38 #[.slice aoa a.length capa, .slice aob a.length capb] w0 fun e w' => e = .returned (.bool true) ∧ Evo w0 w' [] := by
 refine calls_enter (n := 71) (args := [.slice aoa a.length capa, .slice aob a.length capb]) Try.func38 rfl Try.ntmps38 rfl ?_
 have hV : Evo w0 w0 [] := Evo.refl _ _
 have ha0 := ha.keep
 have hbd_ha := ha.bd
 have hb0 := hb.keep
 have hbd_hb := hb.bd
 refine r_seq ?_
 refine r_region ?_
 refine r_op rfl rfl rfl (run_asg (v := .bool _) rfl (by exact rfl)) ?_
 refine r_nil ?_
 refine r_seq ?_
 refine r_seq ?_
 refine r_region ?_
 refine r_op rfl rfl rfl (run_mv (v := .slice _ _ _) rfl (by exact rfl)) ?_
 refine r_op rfl rfl rfl (run_lenSl rfl (by exact rfl) Try.underlying22) ?_
 refine r_op rfl rfl rfl (run_mv (v := .slice _ _ _) rfl (by exact rfl)) ?_
 refine r_op rfl rfl rfl (run_lenSl rfl (by exact rfl) Try.underlying22) ?_
 refine r_op rfl rfl rfl (run_neq rfl (by exact rfl) (by exact rfl)) ?_
 refine r_nil ?_
 refine r_cond (by exact rfl) (fun hc1 => ?_) (fun hc1 => ?_)
 ·skip
  refine r_seq ?_
  refine r_region ?_
  refine r_op rfl rfl rfl (run_asg (v := .bool _) rfl (by exact rfl)) ?_
  refine r_nil ?_
  refine r_ret (res1 (v := .bool _) rfl (by exact rfl)) ?_
  first | exact ⟨rfl, hV⟩ | (exfalso; omega) | exact absurd hc1 (by simp) | exact absurd rfl hc1
 ·skip
  refine r_skip ?_
  refine r_seq ?_
  refine r_seq ?_
  refine r_region ?_
  refine r_op rfl rfl rfl (run_mv (v := .slice _ _ _) rfl (by exact rfl)) ?_
  refine r_op rfl rfl rfl (run_lenSl rfl (by exact rfl) Try.underlying22) ?_
  refine r_op rfl rfl rfl (run_mv (v := .int _ _) rfl (by exact rfl)) ?_
  refine r_nil ?_
  refine r_block ?_
  refine r_loop (α := Nat) [4, 5, 6, 14, 15, 16, 17, 18, 19, 20, 21, 22, 23, 24, 25, 26, 27, 28, 29, 30, 31, 32, 33, 34, 35, 36, 37, 38, 39, 40, 41, 42, 43, 44, 45, 46, 47, 48, 49, 50, 51, 52, 53, 54, 55, 56, 57, 58, 59, 60, 61, 62, 63, 64, 65, 66, 67, 68, 69, 70] (fun k g w => g 14 = .int .i64 (k : Nat) ∧ k ≤ a.length ∧ w0.heap.size ≤ w.heap.size ∧ Evo w0 w []) (fun k => a.length - k) 0 ?_ ?_
  ·refine ⟨(by first | exact rfl | exact congrArg (Value.int _) (by omega) | exact congrArg (Value.int _) (by dsimp only; omega) | exact congrArg (Value.int _) (by simp) | exact congrArg S (by simp)), (by first | assumption | omega | (dsimp only; omega) | (simp; done)), (by first | assumption | omega | (dsimp only; omega) | (simp; done)), hV⟩
  ·rintro k g w3 ⟨hj4, hk_k, hzl2, hV⟩
   have hs_w3hV := hV.size
   replace ha := ha0.now hV
   replace hb := hb0.now hV
   refine r_know (i := 14) (v := .int .i64 (k : Nat)) (by exact hj4) ?_
   refine r_seq ?_
   refine r_region ?_
   refine r_op rfl rfl rfl (run_lss rfl (by exact rfl) (by exact rfl)) ?_
   refine r_nil ?_
   refine r_seq ?_
   refine r_cond (by exact rfl) (fun hc5 => ?_) (fun hc5 => ?_)
   ·skip
    refine r_skip ?_
    refine r_seq ?_
    refine r_block ?_
    refine r_seq ?_
    refine r_region ?_
    refine r_op rfl rfl rfl (run_mv (v := .int _ _) rfl (by exact rfl)) ?_
    refine r_op rfl rfl rfl (run_asg (v := .int _ _) rfl (by exact rfl)) ?_
    refine r_nil ?_
    refine r_seq ?_
    refine r_seq ?_
    have hV_q := hV
    refine h_region ([]) (by kernel_rfl) ?_
    intro w6 hE7 hCst6
    have hs_w6 := (hE7).size
    replace hV := evo_step0 hV hE7
    replace ha := ha0.now hV
    replace hb := hb0.now hV
    refine h_take (i := 0) (by exact rfl) rfl rfl rfl (by kernel_rfl) (fun w' hC => run_mv (v := .slice _ _ _) rfl (by exact rfl)) hCst6 ?_
    refine h_take (i := 1) (by exact rfl) rfl rfl rfl (by kernel_rfl) (fun w' hC => run_mv (v := .int _ _) rfl (by exact rfl)) hCst6 ?_
    refine h_take (i := 2) (by exact rfl) rfl rfl rfl (by kernel_rfl) (fun w' hC => run_ix (k) rfl Try.underlying22 ty_43 (by exact rfl) (by exact rfl) (by first | exact rfl | omega) (by omega) (ha.addr (i := k) (by omega))) hCst6 ?_
    obtain ⟨ao8, b8, off8, cap8, hX⟩ := clas_atK ha0 (k) (by omega)
    have hA80 := fun (w' : World) (h : Evo w0 w' []) => (hX w' h).1
    have hA8 := hA80 _ hV
    have hR80 := fun (w' : World) (h : Evo w0 w' []) => (hX w' h).2
    have hR8 := hR80 _ hV
    clear hX
    have hbd_hR8 := hR8.bd
    refine h_take (i := 3) (by exact rfl) rfl rfl rfl (by kernel_rfl) (fun w' hC => run_fa rfl (by exact rfl) fo_43_0) hCst6 ?_
    refine h_take (i := 4) (by exact rfl) rfl rfl rfl (by kernel_rfl) (fun w' hC => run_ld1 rfl ag_9 (by exact rfl) ((hA80 _ (evo_step0 hV_q hC)).cell 0 (by exact rfl))) hCst6 ?_
    refine h_take (i := 5) (by exact rfl) rfl rfl rfl (by kernel_rfl) (fun w' hC => run_mv (v := .slice _ _ _) rfl (by exact rfl)) hCst6 ?_
    refine h_take (i := 6) (by exact rfl) rfl rfl rfl (by kernel_rfl) (fun w' hC => run_mv (v := .int _ _) rfl (by exact rfl)) hCst6 ?_
    refine h_take (i := 7) (by exact rfl) rfl rfl rfl (by kernel_rfl) (fun w' hC => run_ix (k) rfl Try.underlying22 ty_43 (by exact rfl) (by exact rfl) (by first | exact rfl | omega) (by omega) (hb.addr (i := k) (by omega))) hCst6 ?_
    obtain ⟨ao9, b9, off9, cap9, hX⟩ := clas_atK hb0 (k) (by omega)
    have hA90 := fun (w' : World) (h : Evo w0 w' []) => (hX w' h).1
    have hA9 := hA90 _ hV
    have hR90 := fun (w' : World) (h : Evo w0 w' []) => (hX w' h).2
    have hR9 := hR90 _ hV
    clear hX
    have hbd_hR9 := hR9.bd
    refine h_take (i := 8) (by exact rfl) rfl rfl rfl (by kernel_rfl) (fun w' hC => run_fa rfl (by exact rfl) fo_43_0) hCst6 ?_
    refine h_take (i := 9) (by exact rfl) rfl rfl rfl (by kernel_rfl) (fun w' hC => run_ld1 rfl ag_9 (by exact rfl) ((hA90 _ (evo_step0 hV_q hC)).cell 0 (by exact rfl))) hCst6 ?_
    refine h_take (i := 10) (by exact rfl) rfl rfl rfl (by kernel_rfl) (fun w' hC => run_sneq rfl (by exact rfl) (by exact rfl)) hCst6 ?_
    refine h_take (i := 11) (by exact rfl) rfl rfl rfl (by kernel_rfl) (fun w' hC => run_mv (v := .bool _) rfl (by exact rfl)) hCst6 ?_
    refine h_takeY (i := 12) (by exact rfl) (by exact rfl) rfl (wantF (by exact rfl)) (by exact (fun h => h rfl)) rfl rfl (by kernel_rfl) (fun w' hC => run_mv (v := .slice _ _ _) rfl (by exact rfl)) hCst6 ?_
    refine h_takeY (i := 13) (by exact rfl) (by exact rfl) rfl (wantF (by exact rfl)) (by exact (fun h => h rfl)) rfl rfl (by kernel_rfl) (fun w' hC => run_mv (v := .int _ _) rfl (by exact rfl)) hCst6 ?_
    refine h_takeY (i := 14) (by exact rfl) (by exact rfl) rfl (wantF (by exact rfl)) (by exact (fun h => h rfl)) rfl rfl (by kernel_rfl) (fun w' hC => run_ix (k) rfl Try.underlying22 ty_43 (by exact rfl) (by exact rfl) (by first | exact rfl | omega) (by omega) (ha.addr (i := k) (by omega))) hCst6 ?_
    obtain ⟨ao10, b10, off10, cap10, hX⟩ := clas_atK ha0 (k) (by omega)
    have hA100 := fun (w' : World) (h : Evo w0 w' []) => (hX w' h).1
    have hA10 := hA100 _ hV
    have hR100 := fun (w' : World) (h : Evo w0 w' []) => (hX w' h).2
    have hR10 := hR100 _ hV
    clear hX
    have hbd_hR10 := hR10.bd
    refine h_takeY (i := 15) (by exact rfl) (by exact rfl) rfl (wantF (by exact rfl)) (by exact (fun h => h rfl)) rfl rfl (by kernel_rfl) (fun w' hC => run_fa rfl (by exact rfl) fo_43_1) hCst6 ?_
    refine h_takeY (i := 16) (by exact rfl) (by exact rfl) rfl (wantF (by exact rfl)) (by exact (fun h => h rfl)) rfl rfl (by kernel_rfl) (fun w' hC => run_ld1 rfl ag_41 (by exact rfl) ((hA100 _ (evo_step0 hV_q hC)).cell 1 (by exact rfl))) hCst6 ?_
    refine h_takeY (i := 17) (by exact rfl) (by exact rfl) rfl (wantF (by exact rfl)) (by exact (fun h => h rfl)) rfl rfl (by kernel_rfl) (fun w' hC => run_lenSl rfl (by exact rfl) Try.underlying41) hCst6 ?_
    refine h_takeY (i := 18) (by exact rfl) (by exact rfl) rfl (wantF (by exact rfl)) (by exact (fun h => h rfl)) rfl rfl (by kernel_rfl) (fun w' hC => run_mv (v := .slice _ _ _) rfl (by exact rfl)) hCst6 ?_
    refine h_takeY (i := 19) (by exact rfl) (by exact rfl) rfl (wantF (by exact rfl)) (by exact (fun h => h rfl)) rfl rfl (by kernel_rfl) (fun w' hC => run_mv (v := .int _ _) rfl (by exact rfl)) hCst6 ?_
    refine h_takeY (i := 20) (by exact rfl) (by exact rfl) rfl (wantF (by exact rfl)) (by exact (fun h => h rfl)) rfl rfl (by kernel_rfl) (fun w' hC => run_ix (k) rfl Try.underlying22 ty_43 (by exact rfl) (by exact rfl) (by first | exact rfl | omega) (by omega) (hb.addr (i := k) (by omega))) hCst6 ?_
    obtain ⟨ao11, b11, off11, cap11, hX⟩ := clas_atK hb0 (k) (by omega)
    have hA110 := fun (w' : World) (h : Evo w0 w' []) => (hX w' h).1
    have hA11 := hA110 _ hV
    have hR110 := fun (w' : World) (h : Evo w0 w' []) => (hX w' h).2
    have hR11 := hR110 _ hV
    clear hX
    have hbd_hR11 := hR11.bd
    refine h_takeY (i := 21) (by exact rfl) (by exact rfl) rfl (wantF (by exact rfl)) (by exact (fun h => h rfl)) rfl rfl (by kernel_rfl) (fun w' hC => run_fa rfl (by exact rfl) fo_43_1) hCst6 ?_
    refine h_takeY (i := 22) (by exact rfl) (by exact rfl) rfl (wantF (by exact rfl)) (by exact (fun h => h rfl)) rfl rfl (by kernel_rfl) (fun w' hC => run_ld1 rfl ag_41 (by exact rfl) ((hA110 _ (evo_step0 hV_q hC)).cell 1 (by exact rfl))) hCst6 ?_
    refine h_takeY (i := 23) (by exact rfl) (by exact rfl) rfl (wantF (by exact rfl)) (by exact (fun h => h rfl)) rfl rfl (by kernel_rfl) (fun w' hC => run_lenSl rfl (by exact rfl) Try.underlying41) hCst6 ?_
    refine h_takeY (i := 24) (by exact rfl) (by exact rfl) rfl (wantF (by exact rfl)) (by exact (fun h => h rfl)) rfl rfl (by kernel_rfl) (fun w' hC => run_neq rfl (by exact rfl) (by exact rfl)) hCst6 ?_
    refine h_take (i := 25) (by exact rfl) rfl rfl rfl (by kernel_rfl) (fun w' hC => run_pick_or rfl (by exact rfl) rfl (fun _ => (by exact rfl))) hCst6 ?_
    refine h_done (by kernel_rfl) ?_
    refine r_cond (by exact rfl) (fun hc12 => ?_) (fun hc12 => ?_)
    ·skip
     refine r_seq ?_
     refine r_region ?_
     refine r_op rfl rfl rfl (run_asg (v := .bool _) rfl (by exact rfl)) ?_
     refine r_nil ?_
     refine r_ret (res1 (v := .bool _) rfl (by exact rfl)) ?_
     first | exact ⟨rfl, hV⟩ | (exfalso; omega) | exact absurd hc12 (by simp) | exact absurd rfl hc12
    ·skip
     refine r_skip ?_
     refine r_seq ?_
     refine r_region ?_
     refine r_op rfl rfl rfl (run_mv (v := .slice _ _ _) rfl (by exact rfl)) ?_
     refine r_op rfl rfl rfl (run_mv (v := .int _ _) rfl (by exact rfl)) ?_
     refine r_op rfl rfl rfl (run_ix (k) rfl Try.underlying22 ty_43 (by exact rfl) (by exact rfl) (by first | exact rfl | omega) (by omega) (ha.addr (i := k) (by omega))) ?_
     obtain ⟨ao13, b13, off13, cap13, hX⟩ := clas_atK ha0 (k) (by omega)
     have hA130 := fun (w' : World) (h : Evo w0 w' []) => (hX w' h).1
     have hA13 := hA130 _ hV
     have hR130 := fun (w' : World) (h : Evo w0 w' []) => (hX w' h).2
     have hR13 := hR130 _ hV
     clear hX
     have hbd_hR13 := hR13.bd
     refine r_op rfl rfl rfl (run_fa rfl (by exact rfl) fo_43_1) ?_
     refine r_op rfl rfl rfl (run_ld1 rfl ag_41 (by exact rfl) (hA13.cell 1 (by exact rfl))) ?_
     refine r_op rfl rfl rfl (run_lenSl rfl (by exact rfl) Try.underlying41) ?_
     refine r_op rfl rfl rfl (run_mv (v := .int _ _) rfl (by exact rfl)) ?_
     refine r_nil ?_
     refine r_block ?_
     refine r_loop (α := Nat) [4, 6, 49, 50, 51, 52, 53, 54, 55, 56, 57, 58, 59, 60, 61, 62, 63, 64, 65, 66, 67, 68, 69] (fun j g w => g 49 = .int .i64 (j : Nat) ∧ j ≤ (a.getD k default).ends.length ∧ w6.heap.size ≤ w.heap.size ∧ Evo w0 w []) (fun j => (a.getD k default).ends.length - j) 0 ?_ ?_
     ·refine ⟨(by first | exact rfl | exact congrArg (Value.int _) (by omega) | exact congrArg (Value.int _) (by dsimp only; omega) | exact congrArg (Value.int _) (by simp) | exact congrArg S (by simp)), (by first | assumption | omega | (dsimp only; omega) | (simp; done)), (by first | assumption | omega | (dsimp only; omega) | (simp; done)), hV⟩
     ·rintro j g w15 ⟨hj16, hk_j, hzl14, hV⟩
      have hs_w15hV := hV.size
      replace ha := ha0.now hV
      replace hb := hb0.now hV
      replace hA8 := hA80 _ hV
      replace hR8 := hR80 _ hV
      replace hA9 := hA90 _ hV
      replace hR9 := hR90 _ hV
      replace hA10 := hA100 _ hV
      replace hR10 := hR100 _ hV
      replace hA11 := hA110 _ hV
      replace hR11 := hR110 _ hV
      replace hA13 := hA130 _ hV
      replace hR13 := hR130 _ hV
      refine r_know (i := 49) (v := .int .i64 (j : Nat)) (by exact hj16) ?_
      refine r_seq ?_
      refine r_region ?_
      refine r_op rfl rfl rfl (run_lss rfl (by exact rfl) (by exact rfl)) ?_
      refine r_nil ?_
      refine r_seq ?_
      refine r_cond (by exact rfl) (fun hc17 => ?_) (fun hc17 => ?_)
      ·skip
       refine r_skip ?_
       refine r_seq ?_
       refine r_block ?_
       refine r_seq ?_
       refine r_region ?_
       refine r_op rfl rfl rfl (run_mv (v := .int _ _) rfl (by exact rfl)) ?_
       refine r_op rfl rfl rfl (run_asg (v := .int _ _) rfl (by exact rfl)) ?_
       refine r_nil ?_
       refine r_seq ?_
       have hV_q := hV
       refine h_region ([]) (by kernel_rfl) ?_
       intro w18 hE19 hCst11
       have hs_w18 := (hE19).size
       replace hV := evo_step0 hV hE19
       replace ha := ha0.now hV
       replace hb := hb0.now hV
       refine h_take (i := 0) (by exact rfl) rfl rfl rfl (by kernel_rfl) (fun w' hC => run_mv (v := .slice _ _ _) rfl (by exact rfl)) hCst11 ?_
       refine h_take (i := 1) (by exact rfl) rfl rfl rfl (by kernel_rfl) (fun w' hC => run_mv (v := .int _ _) rfl (by exact rfl)) hCst11 ?_
       refine h_take (i := 2) (by exact rfl) rfl rfl rfl (by kernel_rfl) (fun w' hC => run_ix (k) rfl Try.underlying22 ty_43 (by exact rfl) (by exact rfl) (by first | exact rfl | omega) (by omega) (ha.addr (i := k) (by omega))) hCst11 ?_
       obtain ⟨ao20, b20, off20, cap20, hX⟩ := clas_atK ha0 (k) (by omega)
       have hA200 := fun (w' : World) (h : Evo w0 w' []) => (hX w' h).1
       have hA20 := hA200 _ hV
       have hR200 := fun (w' : World) (h : Evo w0 w' []) => (hX w' h).2
       have hR20 := hR200 _ hV
       clear hX
       have hbd_hR20 := hR20.bd
       refine h_take (i := 3) (by exact rfl) rfl rfl rfl (by kernel_rfl) (fun w' hC => run_fa rfl (by exact rfl) fo_43_1) hCst11 ?_
       refine h_take (i := 4) (by exact rfl) rfl rfl rfl (by kernel_rfl) (fun w' hC => run_ld1 rfl ag_41 (by exact rfl) ((hA200 _ (evo_step0 hV_q hC)).cell 1 (by exact rfl))) hCst11 ?_
       refine h_take (i := 5) (by exact rfl) rfl rfl rfl (by kernel_rfl) (fun w' hC => run_mv (v := .int _ _) rfl (by exact rfl)) hCst11 ?_
       refine h_take (i := 6) (by exact rfl) rfl rfl rfl (by kernel_rfl) (fun w' hC => run_ix (j) rfl Try.underlying41 ty_46 (by exact rfl) (by exact rfl) (by first | exact rfl | omega) (by omega) (hR20.addr (i := j) (by omega))) hCst11 ?_
       have hA210 := fun (w' : World) (h : Evo w0 w' []) => (hR200 w' h).atD (j) (by omega)
       have hA21 := hA210 _ hV
       refine h_take (i := 7) (by exact rfl) rfl rfl rfl (by kernel_rfl) (fun w' hC => run_ldN rfl ag_46 ty_46 (by exact rfl) rfl (hA210 _ (evo_step0 hV_q hC))) hCst11 ?_
       refine h_take (i := 8) (by exact rfl) rfl rfl rfl (by kernel_rfl) (fun w' hC => run_mv (v := .slice _ _ _) rfl (by exact rfl)) hCst11 ?_
       refine h_take (i := 9) (by exact rfl) rfl rfl rfl (by kernel_rfl) (fun w' hC => run_mv (v := .int _ _) rfl (by exact rfl)) hCst11 ?_
       refine h_take (i := 10) (by exact rfl) rfl rfl rfl (by kernel_rfl) (fun w' hC => run_ix (k) rfl Try.underlying22 ty_43 (by exact rfl) (by exact rfl) (by first | exact rfl | omega) (by omega) (hb.addr (i := k) (by omega))) hCst11 ?_
       obtain ⟨ao22, b22, off22, cap22, hX⟩ := clas_atK hb0 (k) (by omega)
       have hA220 := fun (w' : World) (h : Evo w0 w' []) => (hX w' h).1
       have hA22 := hA220 _ hV
       have hR220 := fun (w' : World) (h : Evo w0 w' []) => (hX w' h).2
       have hR22 := hR220 _ hV
       clear hX
       have hbd_hR22 := hR22.bd
       refine h_take (i := 11) (by exact rfl) rfl rfl rfl (by kernel_rfl) (fun w' hC => run_fa rfl (by exact rfl) fo_43_1) hCst11 ?_
       refine h_take (i := 12) (by exact rfl) rfl rfl rfl (by kernel_rfl) (fun w' hC => run_ld1 rfl ag_41 (by exact rfl) ((hA220 _ (evo_step0 hV_q hC)).cell 1 (by exact rfl))) hCst11 ?_
       refine h_take (i := 13) (by exact rfl) rfl rfl rfl (by kernel_rfl) (fun w' hC => run_mv (v := .int _ _) rfl (by exact rfl)) hCst11 ?_
       refine h_take (i := 14) (by exact rfl) rfl rfl rfl (by kernel_rfl) (fun w' hC => run_ix (j) rfl Try.underlying41 ty_46 (by exact rfl) (by exact rfl) (by first | exact rfl | omega) (by omega) (hR22.addr (i := j) (by omega))) hCst11 ?_
       have hA230 := fun (w' : World) (h : Evo w0 w' []) => (hR220 w' h).atD (j) (by omega)
       have hA23 := hA230 _ hV
       refine h_take (i := 15) (by exact rfl) rfl rfl rfl (by kernel_rfl) (fun w' hC => run_ldN rfl ag_46 ty_46 (by exact rfl) rfl (hA230 _ (evo_step0 hV_q hC))) hCst11 ?_
       refine h_take (i := 16) (by exact rfl) rfl rfl rfl (by kernel_rfl) (fun w' hC => run_neqG (α := Ende) _ _ rfl Try.eqGuardType46 ee_46 (by exact rfl) (by exact rfl)) hCst11 ?_
       refine h_done (by kernel_rfl) ?_
       refine r_cond (by exact rfl) (fun hc24 => ?_) (fun hc24 => ?_)
       ·skip
        refine r_seq ?_
        refine r_region ?_
        refine r_op rfl rfl rfl (run_asg (v := .bool _) rfl (by exact rfl)) ?_
        refine r_nil ?_
        refine r_ret (res1 (v := .bool _) rfl (by exact rfl)) ?_
        first | exact ⟨rfl, hV⟩ | (exfalso; omega) | exact absurd hc24 (by simp) | exact absurd rfl hc24
       ·skip
        refine r_skip ?_
        refine r_blk ?_
        refine r_region ?_
        refine r_op rfl rfl rfl (run_add rfl (by exact rfl) (by exact rfl) (by omega) (by omega)) ?_
        refine r_op rfl rfl rfl (run_mv (v := .int _ _) rfl (by exact rfl)) ?_
        refine r_nil ?_
        refine r_again (j + 1) ?_ ?_ ?_
        ·first | omega | (dsimp only; omega)
        ·refine ⟨(by first | exact rfl | exact congrArg (Value.int _) (by omega) | exact congrArg (Value.int _) (by dsimp only; omega) | exact congrArg (Value.int _) (by simp) | exact congrArg S (by simp)), (by first | assumption | omega | (dsimp only; omega) | (simp; done)), (by first | assumption | omega | (dsimp only; omega) | (simp; done)), hV⟩
        ·repeat (first | (with_reducible exact Agree.merge _ _ _) | (with_reducible exact Agree.refl _ _) | (with_reducible refine Agree.upd ?_ _ _ rfl) | ((with_reducible refine Agree.inner ?_ ?_); (kernel_rfl)))
      ·skip
       refine r_exit rfl ?_
       refine r_blk ?_
       refine r_region ?_
       refine r_op rfl rfl rfl (run_add rfl (by exact rfl) (by exact rfl) (by omega) (by omega)) ?_
       refine r_op rfl rfl rfl (run_mv (v := .int _ _) rfl (by exact rfl)) ?_
       refine r_nil ?_
       refine r_again (k + 1) ?_ ?_ ?_
       ·first | omega | (dsimp only; omega)
       ·refine ⟨(by first | exact rfl | exact congrArg (Value.int _) (by omega) | exact congrArg (Value.int _) (by dsimp only; omega) | exact congrArg (Value.int _) (by simp) | exact congrArg S (by simp)), (by first | assumption | omega | (dsimp only; omega) | (simp; done)), (by first | assumption | omega | (dsimp only; omega) | (simp; done)), hV⟩
       ·repeat (first | (with_reducible exact Agree.merge _ _ _) | (with_reducible exact Agree.refl _ _) | (with_reducible refine Agree.upd ?_ _ _ rfl) | ((with_reducible refine Agree.inner ?_ ?_); (kernel_rfl)))
   ·skip
    refine r_exit rfl ?_
    refine r_seq ?_
    refine r_region ?_
    refine r_op rfl rfl rfl (run_asg (v := .bool _) rfl (by exact rfl)) ?_
    refine r_nil ?_
    refine r_ret (res1 (v := .bool _) rfl (by exact rfl)) ?_
    first | exact ⟨rfl, hV⟩ | (exfalso; omega) | exact absurd hc5 (by simp) | exact absurd rfl hc5

end Go.Proofs.Ytomklacppmaljaa

namespace Go.Proofs.Ytomklacppmaljaa
open Go.RowKit Go.Vc

def fmtT (c : List Clas) : Str := if validC c = 0 then fmtC c else []
theorem ret_si {a b : Str} {x y : Int} (h : a = b) (h2 : x = y) : Ending.returned (.tuple #[S a, .int .i64 x]) = .returned (.tuple #[S b, .int .i64 y]) := by rw [h, h2]
theorem fmt_succ {c : List Clas} {i : Nat} (hi : i < c.length) : fmtC (c.take (i + 1)) = fmtC (c.take i) ++ fmtO (c.getD i default) := by
  rw [take_succD c i hi]; simp [fmtC]
theorem fmt_ends {es : List Ende} {k : Nat} (hk : k < es.length) : ((es.take (k + 1)).map fmtE).flatten = ((es.take k).map fmtE).flatten ++ fmtE (es.getD k default) := by
  rw [take_succD es k hk]; simp
def fmtP (c : List Clas) (i k : Nat) : Str := fmtC (c.take i) ++ (clsW ++ (c.getD i default).name ++ [10] ++ (((c.getD i default).ends.take k).map fmtE).flatten)
theorem fmtP_zero {c : List Clas} {i : Nat} : fmtC (c.take i) ++ (clsW ++ (c.getD i default).name ++ [10]) = fmtP c i 0 := by simp [fmtP]
theorem fmtP_succ {c : List Clas} {i k : Nat} (hk : k < (c.getD i default).ends.length) : fmtP c i k ++ (twoW ++ ((c.getD i default).ends.getD k default).strip ++ [62] ++ ((c.getD i default).ends.getD k default).add ++ [10]) = fmtP c i (k + 1) := by
  unfold fmtP; rw [fmt_ends hk]; simp [fmtE]
theorem fmtP_end {c : List Clas} {i k : Nat} (hi : i < c.length) (hk : (c.getD i default).ends.length ≤ k) : fmtP c i k = fmtC (c.take (i + 1)) := by
  rw [fmt_succ hi]; unfold fmtP fmtO; rw [List.take_of_length_le hk]
theorem fmtC_take_len {c : List Clas} (h : validC c = 0) (i : Nat) : (fmtC (c.take i)).length ≤ 11232 := by
  have h1 := valid_zero h
  have h2 := ok_bounds h1.2
  have h3 := flat_len (f := fmtO) (n := 351) (l := c.take i) (fun x hx => fmtO_len (h2 x (List.mem_of_mem_take hx)).1 (h2 x (List.mem_of_mem_take hx)).2.1 (h2 x (List.mem_of_mem_take hx)).2.2)
  have h4 : (c.take i).length * 351 ≤ 32 * 351 := Nat.mul_le_mul_right _ (by rw [List.length_take]; omega)
  show ((((c.take i)).map fmtO).flatten).length ≤ _; omega
theorem fmtP_len {c : List Clas} (h : validC c = 0) {i : Nat} (hi : i < c.length) (k : Nat) : (fmtP c i k).length ≤ 20000 := by
  have h0 := fmtC_take_len h i
  have h1 := valid_zero h
  have h2 := ok_bounds h1.2 _ (getD_in hi)
  have h3 := flat_len (f := fmtE) (n := 20) (l := (c.getD i default).ends.take k) (fun y hy => fmtE_len (h2.2.2 y (List.mem_of_mem_take hy)))
  have h4 : ((c.getD i default).ends.take k).length * 20 ≤ 16 * 20 := Nat.mul_le_mul_right _ (by rw [List.length_take]; omega)
  simp only [fmtP, clsW, List.length_append, List.length_cons, List.length_nil]; omega

set_option maxHeartbeats 1000000 in
theorem rformat_calls {ao : Option Addr} {b off cap : Nat} {c : List Clas} {w0 : World} (hc : RowR w0 ao b off cap c) :
    Calls Try.prog 39 #[.slice ao c.length cap] w0 fun e w' => e = .returned (.tuple #[S (fmtT c), .int .i64 (validC c)]) ∧ Evo w0 w' [] := by
 refine calls_enter (n := 47) (args := [.slice ao c.length cap]) Try.func39 rfl Try.ntmps39 rfl ?_
 have hV : Evo w0 w0 [] := Evo.refl _ _
 have hc0 := hc.keep
 have hbd_hc := hc.bd
 refine r_seq ?_
 refine r_region ?_
 refine r_op rfl rfl rfl (run_asg (v := S _) rfl (by exact rfl)) ?_
 refine r_op rfl rfl rfl (run_asg (v := .int _ _) rfl (by exact rfl)) ?_
 refine r_nil ?_
 refine r_seq ?_
 refine r_seq ?_
 refine r_region ?_
 refine r_op rfl rfl rfl (run_mv (v := .slice _ _ _) rfl (by exact rfl)) ?_
 refine r_opcall rfl rfl rfl (run_callf (vs := [.slice _ _ _]) rfl (by exact rfl) Try.func35 rfl (by kernel_rfl)) (rvalidate_calls hc) ?_
 rintro e w1 ⟨rfl, hE1⟩
 refine ⟨_, rfl, ?_⟩
 have hs_w1 := (hE1).size
 replace hV := evo_step0 hV hE1
 replace hc := hc0.now hV
 refine r_op rfl rfl rfl (run_asg (v := .int _ _) rfl (by exact rfl)) ?_
 refine r_nil ?_
 refine r_seq ?_
 refine r_region ?_
 refine r_op rfl rfl rfl (run_mv (v := .int _ _) rfl (by exact rfl)) ?_
 refine r_op rfl rfl rfl (run_neq rfl (by exact rfl) (by exact rfl)) ?_
 refine r_nil ?_
 refine r_cond (by exact rfl) (fun hc2 => ?_) (fun hc2 => ?_)
 ·skip
  refine r_seq ?_
  refine r_region ?_
  refine r_op rfl rfl rfl (run_mv (v := .int _ _) rfl (by exact rfl)) ?_
  refine r_op rfl rfl rfl (run_asg (v := S _) rfl (by exact rfl)) ?_
  refine r_op rfl rfl rfl (run_asg (v := .int _ _) rfl (by exact rfl)) ?_
  refine r_nil ?_
  refine r_ret (res2 (v := S _) (u := .int _ _) rfl (by exact rfl) (by exact rfl)) ?_
  exact ⟨ret_si (if_neg (by simpa using hc2)).symm rfl, hV⟩
 ·skip
  refine r_skip ?_
  refine r_seq ?_
  have hv0 : validC c = 0 := by simpa using hc2
  have hvb := ok_bounds (valid_zero hv0).2; have hcl32 := (valid_zero hv0).1
  refine r_region ?_
  refine r_op rfl rfl rfl (run_asg (v := S _) rfl (by exact rfl)) ?_
  refine r_nil ?_
  refine r_seq ?_
  refine r_seq ?_
  refine r_region ?_
  refine r_op rfl rfl rfl (run_mv (v := .slice _ _ _) rfl (by exact rfl)) ?_
  refine r_op rfl rfl rfl (run_lenSl rfl (by exact rfl) Try.underlying22) ?_
  refine r_op rfl rfl rfl (run_mv (v := .int _ _) rfl (by exact rfl)) ?_
  refine r_nil ?_
  refine r_block ?_
  refine r_loop (α := Nat) [5, 7, 9, 17, 18, 19, 20, 21, 22, 23, 24, 25, 26, 27, 28, 29, 30, 31, 32, 33, 34, 35, 36, 37, 38, 39, 40, 41, 42, 43, 44, 45] (fun i g w => g 17 = .int .i64 (i : Nat) ∧ g 5 = S (fmtC (c.take i)) ∧ i ≤ c.length ∧ w1.heap.size ≤ w.heap.size ∧ Evo w0 w []) (fun i => c.length - i) 0 ?_ ?_
  ·refine ⟨(by first | exact rfl | exact congrArg (Value.int _) (by omega) | exact congrArg (Value.int _) (by dsimp only; omega) | exact congrArg (Value.int _) (by simp) | exact congrArg S (by simp)), rfl, (by first | assumption | omega | (dsimp only; omega) | (simp; done)), (by first | assumption | omega | (dsimp only; omega) | (simp; done)), hV⟩
  ·rintro i g w4 ⟨hj5, hj6, hk_i, hzl3, hV⟩
   have hs_w4hV := hV.size
   replace hc := hc0.now hV
   refine r_know (i := 17) (v := .int .i64 (i : Nat)) (by exact hj5) ?_
   refine r_know (i := 5) (v := S (fmtC (c.take i))) (by exact hj6) ?_
   refine r_seq ?_
   refine r_region ?_
   refine r_op rfl rfl rfl (run_lss rfl (by exact rfl) (by exact rfl)) ?_
   refine r_nil ?_
   refine r_seq ?_
   refine r_cond (by exact rfl) (fun hc7 => ?_) (fun hc7 => ?_)
   ·skip
    refine r_skip ?_
    refine r_seq ?_
    refine r_block ?_
    refine r_seq ?_
    have hb7 := hvb _ (getD_in (show i < c.length by omega)); have htl7 := fmtC_take_len hv0 i
    refine r_region ?_
    refine r_op rfl rfl rfl (run_ix (i) rfl Try.underlying22 ty_43 (by exact rfl) (by exact rfl) (by first | exact rfl | omega) (by omega) (hc.addr (i := i) (by omega))) ?_
    obtain ⟨ao8, b8, off8, cap8, hX⟩ := clas_atK hc0 (i) (by omega)
    have hA80 := fun (w' : World) (h : Evo w0 w' []) => (hX w' h).1
    have hA8 := hA80 _ hV
    have hR80 := fun (w' : World) (h : Evo w0 w' []) => (hX w' h).2
    have hR8 := hR80 _ hV
    clear hX
    have hbd_hR8 := hR8.bd
    refine r_op rfl rfl rfl (run_ldN rfl ag_43 ty_43 (by exact rfl) rfl hA8) ?_
    refine r_var (zs := [_, _]) (vs := [_, _]) ty_43 (by exact rfl) rfl (by exact rfl) (fun _ => rfl) (by exact rfl) rfl rfl (by exact rfl) ?_
    intro b9 w10 heb9 hEw10 hbb9 hzb9
    have hs_w10 := (hEw10).size
    replace hV := evo_step0 hV hEw10
    replace hc := hc0.now hV
    replace hR8 := hR80 _ hV
    have hAb9 := hbb9.at
    refine r_nil ?_
    refine r_seq ?_
    refine r_region ?_
    refine r_op rfl rfl rfl (run_mv (v := S _) rfl (by exact rfl)) ?_
    refine r_op rfl rfl rfl (run_fa rfl (by exact rfl) fo_43_0) ?_
    refine r_op rfl rfl rfl (run_ld1 rfl ag_9 (by exact rfl) (hAb9.cell 0 (by exact rfl))) ?_
    refine r_op rfl rfl rfl (run_sadd rfl (by exact rfl) (by exact rfl) (by simp only [List.length_append, List.length_cons, List.length_nil]; omega)) ?_
    refine r_op rfl rfl rfl (run_sadd rfl (by exact rfl) (by exact rfl) (by simp only [List.length_append, List.length_cons, List.length_nil]; omega)) ?_
    refine r_op rfl rfl rfl (run_sadd rfl (by exact rfl) (by exact rfl) (by simp only [List.length_append, List.length_cons, List.length_nil]; omega)) ?_
    refine r_op rfl rfl rfl (run_asg (v := S _) rfl (by exact rfl)) ?_
    refine r_nil ?_
    refine r_seq ?_
    refine r_region ?_
    refine r_op rfl rfl rfl (run_fa rfl (by exact rfl) fo_43_1) ?_
    refine r_op rfl rfl rfl (run_ld1 rfl ag_41 (by exact rfl) (hAb9.cell 1 (by exact rfl))) ?_
    refine r_op rfl rfl rfl (run_lenSl rfl (by exact rfl) Try.underlying41) ?_
    refine r_op rfl rfl rfl (run_mv (v := .int _ _) rfl (by exact rfl)) ?_
    refine r_nil ?_
    refine r_block ?_
    refine r_loop (α := Nat) [5, 9, 30, 31, 32, 33, 34, 35, 36, 37, 38, 39, 40, 41, 42, 43, 44] (fun k g w => g 30 = .int .i64 (k : Nat) ∧ g 5 = S (fmtP c i k) ∧ k ≤ (c.getD i default).ends.length ∧ w10.heap.size ≤ w.heap.size ∧ Evo w0 w []) (fun k => (c.getD i default).ends.length - k) 0 ?_ ?_
    ·refine ⟨(by first | exact rfl | exact congrArg (Value.int _) (by omega) | exact congrArg (Value.int _) (by dsimp only; omega) | exact congrArg (Value.int _) (by simp) | exact congrArg S (by simp)), (congrArg S fmtP_zero), (by first | assumption | omega | (dsimp only; omega) | (simp; done)), (by first | assumption | omega | (dsimp only; omega) | (simp; done)), hV⟩
    ·rintro k g w12 ⟨hj13, hj14, hk_k, hzl11, hV⟩
     have hs_w12hV := hV.size
     replace hc := hc0.now hV
     replace hA8 := hA80 _ hV
     replace hR8 := hR80 _ hV
     refine r_know (i := 30) (v := .int .i64 (k : Nat)) (by exact hj13) ?_
     refine r_know (i := 5) (v := S (fmtP c i k)) (by exact hj14) ?_
     refine r_seq ?_
     refine r_region ?_
     refine r_op rfl rfl rfl (run_lss rfl (by exact rfl) (by exact rfl)) ?_
     refine r_nil ?_
     refine r_seq ?_
     refine r_cond (by exact rfl) (fun hc15 => ?_) (fun hc15 => ?_)
     ·skip
      refine r_skip ?_
      refine r_seq ?_
      refine r_block ?_
      refine r_seq ?_
      have hb11 := hb7.2.2 _ (getD_in (show k < (c.getD i default).ends.length by omega)); have htl11 := fmtP_len hv0 (show i < c.length by omega) k
      refine r_region ?_
      refine r_op rfl rfl rfl (run_ix (k) rfl Try.underlying41 ty_46 (by exact rfl) (by exact rfl) (by first | exact rfl | omega) (by omega) (hR8.addr (i := k) (by omega))) ?_
      have hA160 := fun (w' : World) (h : Evo w0 w' []) => (hR80 w' h).atD (k) (by omega)
      have hA16 := hA160 _ hV
      refine r_op rfl rfl rfl (run_ldN rfl ag_46 ty_46 (by exact rfl) rfl hA16) ?_
      refine r_var (zs := [_, _]) (vs := [_, _]) ty_46 (by exact rfl) rfl (by exact rfl) (fun _ => rfl) (by exact rfl) rfl rfl (by exact rfl) ?_
      intro b17 w18 heb17 hEw18 hbb17 hzb17
      have hs_w18 := (hEw18).size
      replace hV := evo_step0 hV hEw18
      replace hc := hc0.now hV
      have hAb17 := hbb17.at
      refine r_nil ?_
      refine r_region ?_
      refine r_op rfl rfl rfl (run_mv (v := S _) rfl (by exact rfl)) ?_
      refine r_op rfl rfl rfl (run_fa rfl (by exact rfl) fo_46_0) ?_
      refine r_op rfl rfl rfl (run_ld1 rfl ag_9 (by exact rfl) (hAb17.cell 0 (by exact rfl))) ?_
      refine r_op rfl rfl rfl (run_sadd rfl (by exact rfl) (by exact rfl) (by simp only [List.length_append, List.length_cons, List.length_nil]; omega)) ?_
      refine r_op rfl rfl rfl (run_sadd rfl (by exact rfl) (by exact rfl) (by simp only [List.length_append, List.length_cons, List.length_nil]; omega)) ?_
      refine r_op rfl rfl rfl (run_fa rfl (by exact rfl) fo_46_1) ?_
      refine r_op rfl rfl rfl (run_ld1 rfl ag_9 (by exact rfl) (hAb17.cell 1 (by exact rfl))) ?_
      refine r_op rfl rfl rfl (run_sadd rfl (by exact rfl) (by exact rfl) (by simp only [List.length_append, List.length_cons, List.length_nil]; omega)) ?_
      refine r_op rfl rfl rfl (run_sadd rfl (by exact rfl) (by exact rfl) (by simp only [List.length_append, List.length_cons, List.length_nil]; omega)) ?_
      refine r_op rfl rfl rfl (run_sadd rfl (by exact rfl) (by exact rfl) (by simp only [List.length_append, List.length_cons, List.length_nil]; omega)) ?_
      refine r_op rfl rfl rfl (run_asg (v := S _) rfl (by exact rfl)) ?_
      refine r_nil ?_
      refine r_blk ?_
      refine r_region ?_
      refine r_op rfl rfl rfl (run_add rfl (by exact rfl) (by exact rfl) (by omega) (by omega)) ?_
      refine r_op rfl rfl rfl (run_mv (v := .int _ _) rfl (by exact rfl)) ?_
      refine r_nil ?_
      refine r_again (k + 1) ?_ ?_ ?_
      ·first | omega | (dsimp only; omega)
      ·refine ⟨(by first | exact rfl | exact congrArg (Value.int _) (by omega) | exact congrArg (Value.int _) (by dsimp only; omega) | exact congrArg (Value.int _) (by simp) | exact congrArg S (by simp)), (congrArg S (fmtP_succ (by omega))), (by first | assumption | omega | (dsimp only; omega) | (simp; done)), (by first | assumption | omega | (dsimp only; omega) | (simp; done)), hV⟩
      ·repeat (first | (with_reducible exact Agree.merge _ _ _) | (with_reducible exact Agree.refl _ _) | (with_reducible refine Agree.upd ?_ _ _ rfl) | ((with_reducible refine Agree.inner ?_ ?_); (kernel_rfl)))
     ·skip
      refine r_exit rfl ?_
      refine r_blk ?_
      refine r_region ?_
      refine r_op rfl rfl rfl (run_add rfl (by exact rfl) (by exact rfl) (by omega) (by omega)) ?_
      refine r_op rfl rfl rfl (run_mv (v := .int _ _) rfl (by exact rfl)) ?_
      refine r_nil ?_
      refine r_again (i + 1) ?_ ?_ ?_
      ·first | omega | (dsimp only; omega)
      ·refine ⟨(by first | exact rfl | exact congrArg (Value.int _) (by omega) | exact congrArg (Value.int _) (by dsimp only; omega) | exact congrArg (Value.int _) (by simp) | exact congrArg S (by simp)), (congrArg S (fmtP_end (by omega) (by omega))), (by first | assumption | omega | (dsimp only; omega) | (simp; done)), (by first | assumption | omega | (dsimp only; omega) | (simp; done)), hV⟩
      ·repeat (first | (with_reducible exact Agree.merge _ _ _) | (with_reducible exact Agree.refl _ _) | (with_reducible refine Agree.upd ?_ _ _ rfl) | ((with_reducible refine Agree.inner ?_ ?_); (kernel_rfl)))
   ·skip
    refine r_exit rfl ?_
    refine r_seq ?_
    refine r_region ?_
    refine r_op rfl rfl rfl (run_mv (v := S _) rfl (by exact rfl)) ?_
    refine r_op rfl rfl rfl (run_asg (v := S _) rfl (by exact rfl)) ?_
    refine r_op rfl rfl rfl (run_asg (v := .int _ _) rfl (by exact rfl)) ?_
    refine r_nil ?_
    refine r_ret (res2 (v := S _) (u := .int _ _) rfl (by exact rfl) (by exact rfl)) ?_
    exact ⟨ret_si (by unfold fmtT; rw [if_pos hv0, List.take_of_length_le (by omega)]) hv0.symm, hV⟩

end Go.Proofs.Ytomklacppmaljaa

namespace Go.Proofs.Ytomklacppmaljaa
open Go.RowKit Go.Vc

set_option maxHeartbeats 1000000 in
theorem format_calls {ao : Option Addr} {b off cap : Nat} {c : List Clas} {w0 : World} (hc : RowR w0 ao b off cap c) :
    Calls Try.prog 41 #[.slice ao c.length cap] w0 fun e w' => e = .returned (.tuple #[S (fmtT c), .int .i64 (validC c)]) ∧ Evo w0 w' [] := by
 refine calls_enter (n := 45) (args := [.slice ao c.length cap]) Try.func41 rfl Try.ntmps41 rfl ?_
 have hV : Evo w0 w0 [] := Evo.refl _ _
 have hc0 := hc.keep
 have hbd_hc := hc.bd
 refine r_seq ?_
 refine r_region ?_
 refine r_op rfl rfl rfl (run_asg (v := S _) rfl (by exact rfl)) ?_
 refine r_op rfl rfl rfl (run_asg (v := .int _ _) rfl (by exact rfl)) ?_
 refine r_nil ?_
 refine r_seq ?_
 refine r_seq ?_
 refine r_region ?_
 refine r_op rfl rfl rfl (run_mv (v := .slice _ _ _) rfl (by exact rfl)) ?_
 refine r_opcall rfl rfl rfl (run_callf (vs := [.slice _ _ _]) rfl (by exact rfl) Try.func34 rfl (by kernel_rfl)) (validate_calls hc) ?_
 rintro e w1 ⟨rfl, hE1⟩
 refine ⟨_, rfl, ?_⟩
 have hs_w1 := (hE1).size
 replace hV := evo_step0 hV hE1
 replace hc := hc0.now hV
 refine r_op rfl rfl rfl (run_asg (v := .int _ _) rfl (by exact rfl)) ?_
 refine r_nil ?_
 refine r_seq ?_
 refine r_region ?_
 refine r_op rfl rfl rfl (run_mv (v := .int _ _) rfl (by exact rfl)) ?_
 refine r_op rfl rfl rfl (run_neq rfl (by exact rfl) (by exact rfl)) ?_
 refine r_nil ?_
 refine r_cond (by exact rfl) (fun hc2 => ?_) (fun hc2 => ?_)
 ·skip
  refine r_seq ?_
  refine r_region ?_
  refine r_op rfl rfl rfl (run_mv (v := .int _ _) rfl (by exact rfl)) ?_
  refine r_op rfl rfl rfl (run_asg (v := S _) rfl (by exact rfl)) ?_
  refine r_op rfl rfl rfl (run_asg (v := .int _ _) rfl (by exact rfl)) ?_
  refine r_nil ?_
  refine r_ret (res2 (v := S _) (u := .int _ _) rfl (by exact rfl) (by exact rfl)) ?_
  exact ⟨ret_si (if_neg (by simpa using hc2)).symm rfl, hV⟩
 ·skip
  refine r_skip ?_
  refine r_seq ?_
  have hv0 : validC c = 0 := by simpa using hc2
  have hvb := ok_bounds (valid_zero hv0).2; have hcl32 := (valid_zero hv0).1
  refine r_region ?_
  refine r_alloc (zs := [_, _]) ty_122 (by exact rfl) rfl ?_
  intro b3 w4 heb3 hEw4 hbb3 hzb3
  have hs_w4 := (hEw4).size
  replace hV := evo_step0 hV hEw4
  replace hc := hc0.now hV
  have hAb3 := hbb3.at
  refine r_nil ?_
  refine r_seq ?_
  refine r_seq ?_
  have hbl : Bld w4 w0.heap.size b3 122 5 [] := Bld.fresh (by omega) hbb3
  refine r_region ?_
  refine r_op rfl rfl rfl (run_mv (v := .slice _ _ _) rfl (by exact rfl)) ?_
  refine r_op rfl rfl rfl (run_lenSl rfl (by exact rfl) Try.underlying22) ?_
  refine r_op rfl rfl rfl (run_mv (v := .int _ _) rfl (by exact rfl)) ?_
  refine r_nil ?_
  refine r_block ?_
  refine r_loop (α := Nat) [7, 9, 17, 18, 19, 20, 21, 22, 23, 24, 25, 26, 27, 28, 29, 30, 31, 32, 33, 34, 35, 36, 37, 38, 39, 40, 41, 42, 43] (fun i g w => g 17 = .int .i64 (i : Nat) ∧ i ≤ c.length ∧ Bld w w0.heap.size b3 122 5 (fmtC (c.take i)) ∧ w4.heap.size ≤ w.heap.size ∧ Evo w0 w []) (fun i => c.length - i) 0 ?_ ?_
  ·refine ⟨(by first | exact rfl | exact congrArg (Value.int _) (by omega) | exact congrArg (Value.int _) (by dsimp only; omega) | exact congrArg (Value.int _) (by simp) | exact congrArg S (by simp)), (by first | assumption | omega | (dsimp only; omega) | (simp; done)), hbl, (by first | assumption | omega | (dsimp only; omega) | (simp; done)), hV⟩
  ·rintro i g w6 ⟨hj7, hk_i, hbl, hzl5, hV⟩
   have hs_w6hV := hV.size
   replace hc := hc0.now hV
   refine r_know (i := 17) (v := .int .i64 (i : Nat)) (by exact hj7) ?_
   refine r_seq ?_
   refine r_region ?_
   refine r_op rfl rfl rfl (run_lss rfl (by exact rfl) (by exact rfl)) ?_
   refine r_nil ?_
   refine r_seq ?_
   refine r_cond (by exact rfl) (fun hc8 => ?_) (fun hc8 => ?_)
   ·skip
    refine r_skip ?_
    refine r_seq ?_
    refine r_block ?_
    refine r_seq ?_
    have hb7 := hvb _ (getD_in (show i < c.length by omega)); have htl7 := fmtC_take_len hv0 i
    have hlt7 := hbl.lt
    refine r_region ?_
    refine r_op rfl rfl rfl (run_ix (i) rfl Try.underlying22 ty_43 (by exact rfl) (by exact rfl) (by first | exact rfl | omega) (by omega) (hc.addr (i := i) (by omega))) ?_
    obtain ⟨ao9, b9, off9, cap9, hX⟩ := clas_atK hc0 (i) (by omega)
    have hA90 := fun (w' : World) (h : Evo w0 w' []) => (hX w' h).1
    have hA9 := hA90 _ hV
    have hR90 := fun (w' : World) (h : Evo w0 w' []) => (hX w' h).2
    have hR9 := hR90 _ hV
    clear hX
    have hbd_hR9 := hR9.bd
    refine r_op rfl rfl rfl (run_ldN rfl ag_43 ty_43 (by exact rfl) rfl hA9) ?_
    refine r_var (zs := [_, _]) (vs := [_, _]) ty_43 (by exact rfl) rfl (by exact rfl) (fun _ => rfl) (by exact rfl) rfl rfl (by exact rfl) ?_
    intro b10 w11 heb10 hEw11 hbb10 hzb10
    have hs_w11 := (hEw11).size
    replace hV := evo_step0 hV hEw11
    replace hc := hc0.now hV
    replace hbl := hbl.evo0 hEw11
    replace hR9 := hR90 _ hV
    have hAb10 := hbb10.at
    refine r_nil ?_
    refine r_seq ?_
    refine r_region ?_
    refine r_op rfl rfl rfl (run_fa rfl (by exact rfl) fo_43_0) ?_
    refine r_op rfl rfl rfl (run_ld1 rfl ag_9 (by exact rfl) (hAb10.cell 0 (by exact rfl))) ?_
    refine r_op rfl rfl rfl (run_sadd rfl (by exact rfl) (by exact rfl) (by simp only [List.length_append, List.length_cons, List.length_nil]; omega)) ?_
    refine r_op rfl rfl rfl (run_sadd rfl (by exact rfl) (by exact rfl) (by simp only [List.length_append, List.length_cons, List.length_nil]; omega)) ?_
    refine r_opcall rfl rfl rfl (run_callf (vs := [.pointer _, S _]) rfl (by exact rfl) Try.func86 rfl (by kernel_rfl)) (wstr_calls hV hbl (by simp) (by simp only [List.length_append, List.length_cons, List.length_nil]; omega)) ?_
    rintro e w12 ⟨rfl, hE12, hbl12, hkp12, hsz12⟩
    refine ⟨_, rfl, ?_⟩
    have hV := hE12; have hs_w12 := hsz12; have hbl := hbl12
    replace hc := hc0.now hV
    replace hA9 := hA90 _ hV
    replace hR9 := hR90 _ hV
    replace hbb10 := hkp12 _ _ _ hbb10 (by decide) (by omega)
    have hAb10 := hbb10.at
    refine r_nil ?_
    refine r_seq ?_
    refine r_region ?_
    refine r_op rfl rfl rfl (run_fa rfl (by exact rfl) fo_43_1) ?_
    refine r_op rfl rfl rfl (run_ld1 rfl ag_41 (by exact rfl) (hAb10.cell 1 (by exact rfl))) ?_
    refine r_op rfl rfl rfl (run_lenSl rfl (by exact rfl) Try.underlying41) ?_
    refine r_op rfl rfl rfl (run_mv (v := .int _ _) rfl (by exact rfl)) ?_
    refine r_nil ?_
    refine r_block ?_
    refine r_loop (α := Nat) [9, 29, 30, 31, 32, 33, 34, 35, 36, 37, 38, 39, 40, 41, 42] (fun k g w => g 29 = .int .i64 (k : Nat) ∧ k ≤ (c.getD i default).ends.length ∧ Bld w w0.heap.size b3 122 5 (fmtP c i k) ∧ w12.heap.size ≤ w.heap.size ∧ Evo w0 w []) (fun k => (c.getD i default).ends.length - k) 0 ?_ ?_
    ·refine ⟨(by first | exact rfl | exact congrArg (Value.int _) (by omega) | exact congrArg (Value.int _) (by dsimp only; omega) | exact congrArg (Value.int _) (by simp) | exact congrArg S (by simp)), (by first | assumption | omega | (dsimp only; omega) | (simp; done)), (by rw [← fmtP_zero]; exact hbl), (by first | assumption | omega | (dsimp only; omega) | (simp; done)), hV⟩
    ·rintro k g w14 ⟨hj15, hk_k, hbl, hzl13, hV⟩
     have hs_w14hV := hV.size
     replace hc := hc0.now hV
     replace hA9 := hA90 _ hV
     replace hR9 := hR90 _ hV
     refine r_know (i := 29) (v := .int .i64 (k : Nat)) (by exact hj15) ?_
     refine r_seq ?_
     refine r_region ?_
     refine r_op rfl rfl rfl (run_lss rfl (by exact rfl) (by exact rfl)) ?_
     refine r_nil ?_
     refine r_seq ?_
     refine r_cond (by exact rfl) (fun hc16 => ?_) (fun hc16 => ?_)
     ·skip
      refine r_skip ?_
      refine r_seq ?_
      refine r_block ?_
      refine r_seq ?_
      have hb11 := hb7.2.2 _ (getD_in (show k < (c.getD i default).ends.length by omega)); have htl11 := fmtP_len hv0 (show i < c.length by omega) k
      have hlt11 := hbl.lt
      refine r_region ?_
      refine r_op rfl rfl rfl (run_ix (k) rfl Try.underlying41 ty_46 (by exact rfl) (by exact rfl) (by first | exact rfl | omega) (by omega) (hR9.addr (i := k) (by omega))) ?_
      have hA170 := fun (w' : World) (h : Evo w0 w' []) => (hR90 w' h).atD (k) (by omega)
      have hA17 := hA170 _ hV
      refine r_op rfl rfl rfl (run_ldN rfl ag_46 ty_46 (by exact rfl) rfl hA17) ?_
      refine r_var (zs := [_, _]) (vs := [_, _]) ty_46 (by exact rfl) rfl (by exact rfl) (fun _ => rfl) (by exact rfl) rfl rfl (by exact rfl) ?_
      intro b18 w19 heb18 hEw19 hbb18 hzb18
      have hs_w19 := (hEw19).size
      replace hV := evo_step0 hV hEw19
      replace hc := hc0.now hV
      replace hbl := hbl.evo0 hEw19
      have hAb18 := hbb18.at
      refine r_nil ?_
      refine r_region ?_
      refine r_op rfl rfl rfl (run_fa rfl (by exact rfl) fo_46_0) ?_
      refine r_op rfl rfl rfl (run_ld1 rfl ag_9 (by exact rfl) (hAb18.cell 0 (by exact rfl))) ?_
      refine r_op rfl rfl rfl (run_sadd rfl (by exact rfl) (by exact rfl) (by simp only [List.length_append, List.length_cons, List.length_nil]; omega)) ?_
      refine r_op rfl rfl rfl (run_sadd rfl (by exact rfl) (by exact rfl) (by simp only [List.length_append, List.length_cons, List.length_nil]; omega)) ?_
      refine r_op rfl rfl rfl (run_fa rfl (by exact rfl) fo_46_1) ?_
      refine r_op rfl rfl rfl (run_ld1 rfl ag_9 (by exact rfl) (hAb18.cell 1 (by exact rfl))) ?_
      refine r_op rfl rfl rfl (run_sadd rfl (by exact rfl) (by exact rfl) (by simp only [List.length_append, List.length_cons, List.length_nil]; omega)) ?_
      refine r_op rfl rfl rfl (run_sadd rfl (by exact rfl) (by exact rfl) (by simp only [List.length_append, List.length_cons, List.length_nil]; omega)) ?_
      refine r_opcall rfl rfl rfl (run_callf (vs := [.pointer _, S _]) rfl (by exact rfl) Try.func86 rfl (by kernel_rfl)) (wstr_calls hV hbl (by simp) (by simp only [List.length_append, List.length_cons, List.length_nil]; omega)) ?_
      rintro e w20 ⟨rfl, hE20, hbl20, hkp20, hsz20⟩
      refine ⟨_, rfl, ?_⟩
      have hV := hE20; have hs_w20 := hsz20; have hbl := hbl20
      replace hc := hc0.now hV
      replace hA9 := hA90 _ hV
      replace hR9 := hR90 _ hV
      replace hA17 := hA170 _ hV
      replace hbb18 := hkp20 _ _ _ hbb18 (by decide) (by omega)
      have hAb18 := hbb18.at
      refine r_nil ?_
      refine r_blk ?_
      refine r_region ?_
      refine r_op rfl rfl rfl (run_add rfl (by exact rfl) (by exact rfl) (by omega) (by omega)) ?_
      refine r_op rfl rfl rfl (run_mv (v := .int _ _) rfl (by exact rfl)) ?_
      refine r_nil ?_
      refine r_again (k + 1) ?_ ?_ ?_
      ·first | omega | (dsimp only; omega)
      ·refine ⟨(by first | exact rfl | exact congrArg (Value.int _) (by omega) | exact congrArg (Value.int _) (by dsimp only; omega) | exact congrArg (Value.int _) (by simp) | exact congrArg S (by simp)), (by first | assumption | omega | (dsimp only; omega) | (simp; done)), (by rw [← fmtP_succ (by omega)]; exact hbl), (by first | assumption | omega | (dsimp only; omega) | (simp; done)), hV⟩
      ·repeat (first | (with_reducible exact Agree.merge _ _ _) | (with_reducible exact Agree.refl _ _) | (with_reducible refine Agree.upd ?_ _ _ rfl) | ((with_reducible refine Agree.inner ?_ ?_); (kernel_rfl)))
     ·skip
      refine r_exit rfl ?_
      refine r_blk ?_
      refine r_region ?_
      refine r_op rfl rfl rfl (run_add rfl (by exact rfl) (by exact rfl) (by omega) (by omega)) ?_
      refine r_op rfl rfl rfl (run_mv (v := .int _ _) rfl (by exact rfl)) ?_
      refine r_nil ?_
      refine r_again (i + 1) ?_ ?_ ?_
      ·first | omega | (dsimp only; omega)
      ·refine ⟨(by first | exact rfl | exact congrArg (Value.int _) (by omega) | exact congrArg (Value.int _) (by dsimp only; omega) | exact congrArg (Value.int _) (by simp) | exact congrArg S (by simp)), (by first | assumption | omega | (dsimp only; omega) | (simp; done)), (by rw [← fmtP_end (k := k) (by omega) (by omega)]; exact hbl), (by first | assumption | omega | (dsimp only; omega) | (simp; done)), hV⟩
      ·repeat (first | (with_reducible exact Agree.merge _ _ _) | (with_reducible exact Agree.refl _ _) | (with_reducible refine Agree.upd ?_ _ _ rfl) | ((with_reducible refine Agree.inner ?_ ?_); (kernel_rfl)))
   ·skip
    refine r_exit rfl ?_
    refine r_seq ?_
    refine r_region ?_
    refine r_opcall rfl rfl rfl (run_callf (vs := [.pointer _]) rfl (by exact rfl) Try.func87 rfl (by kernel_rfl)) (bstr_calls hV hbl (by have := fmtC_take_len hv0 i; omega)) ?_
    rintro e w21 ⟨rfl, hE21⟩
    refine ⟨_, rfl, ?_⟩
    have hV := hE21
    refine r_op rfl rfl rfl (run_asg (v := S _) rfl (by exact rfl)) ?_
    refine r_op rfl rfl rfl (run_asg (v := .int _ _) rfl (by exact rfl)) ?_
    refine r_nil ?_
    refine r_ret (res2 (v := S _) (u := .int _ _) rfl (by exact rfl) (by exact rfl)) ?_
    exact ⟨ret_si (by unfold fmtT; rw [if_pos hv0, List.take_of_length_le (by omega)]) hv0.symm, hV⟩

end Go.Proofs.Ytomklacppmaljaa

namespace Go.Proofs.Ytomklacppmaljaa
open Go.RowKit Go.Vc

theorem pt_nl : ∀ (n i : Nat), PT i [] (List.replicate n 10) = ([], 0, 0)
  | 0, i => pt_end rfl
  | n + 1, i => by
    have hm : (10 : UInt8) ∈ List.replicate (n + 1) 10 := by simp
    have h0 : headL (List.replicate (n + 1) 10) = [] := by simp [headL, List.replicate_succ]
    have h1 : tailL (List.replicate (n + 1) 10) = List.replicate n 10 := by unfold tailL; rw [h0]; simp [List.replicate_succ]
    unfold PT
    rw [pt_skip (n := i) (cl := []) hm (.inl h0), h1]
    exact pt_nl n (i + 1)
theorem parse_nl (n : Nat) : parseT (List.replicate n 10) = ([], 0, if 65536 < n then 3 else 0) := by
  by_cases h : 65536 < n
  · rw [pt_long (by simpa using h), if_pos h]
  · rw [pt_short (by simpa using h), if_neg h]; exact pt_nl n 0
theorem fb_row8 {w : World} {b E len : Nat} {c : UInt8} (h : FB w b E 1 len (fun _ => [.int .u8 ((c.toNat : Nat) : Int)])) (hl : len ≤ 140737488355328) : RowE w (some ⟨b, 0, none⟩) b 0 len (List.replicate len c) := by
  refine ⟨⟨by simp, by simpa using hl⟩, fun _ => rfl, fun i cs hi => ?_⟩
  have hil : i < len := by
    rcases Nat.lt_or_ge i len with h1 | h1
    · exact h1
    · rw [List.getElem?_eq_none (by simpa using h1)] at hi; cases hi
  simp [hil] at hi
  subst hi
  refine ⟨rfl, fun j v hj => ?_⟩
  have hj0 : j = 0 := by
    rcases Nat.eq_zero_or_pos j with h1 | h1
    · exact h1
    · rw [List.getElem?_eq_none (by show 1 ≤ j; exact h1)] at hj; cases hj
  subst hj0
  have := h.cell (x := i) (j := 0) hil (by decide) (v := v) hj
  have e2 : 0 + i * Enc.n UInt8 + 0 = 0 + i * 1 + 0 := rfl
  rw [e2]; exact this
theorem fb_step {w : World} {b E len k : Nat} {u v : List Value} (h : FB w b E 1 len (fun q => if q = k then u else (if q < k then u else v))) : FB w b E 1 len (fun x => if x < k + 1 then u else v) := h.congr (fun x => by
  by_cases h1 : x < k
  · rw [if_pos (by omega), if_neg (by omega), if_pos h1]
  · by_cases h2 : x = k
    · rw [if_pos (by omega), if_pos h2]
    · rw [if_neg (by omega), if_neg h2, if_neg h1])
theorem row_at {w : World} {ao : Option Addr} {g cap : Nat} {l l' : List Clas} (h : RowR w ao g 0 cap l) (e : l = l') : RowR w ao g 0 cap l' := e ▸ h
theorem nil_row {w : World} : RowR w none 0 0 0 ([] : List Clas) := ⟨[], ⟨⟨by simp, by simp⟩, by simp, by simp⟩, RepL.nil _⟩

theorem parses_calls {s : Str} {w0 : World} (hs : s.length ≤ 140737488355328) :
    Calls Try.prog 40 #[S s] w0 fun e w' => e = .returned (.bool true) ∧ Evo w0 w' [] := by
 refine calls_enter (n := 34) (args := [S s]) Try.func40 rfl Try.ntmps40 rfl ?_
 have hV : Evo w0 w0 [] := Evo.refl _ _
 refine r_seq ?_
 refine r_region ?_
 refine r_op rfl rfl rfl (run_asg (v := .bool _) rfl (by exact rfl)) ?_
 refine r_nil ?_
 refine r_seq ?_
 refine r_region ?_
 refine r_op rfl rfl rfl (run_mv (v := S _) rfl (by exact rfl)) ?_
 refine r_opcall rfl rfl rfl (run_callf (vs := [S _]) rfl (by exact rfl) Try.func37 rfl (by kernel_rfl)) (parse_calls (hs)) ?_
 rintro e w1 ⟨va1, rfl, hE1, aoP1, gP1, cpP1, rfl, hrP1⟩
 refine ⟨_, rfl, ?_⟩
 have hs_w1 := (hE1).size
 replace hV := evo_step0 hV hE1
 refine r_op rfl rfl rfl (run_mv (v := .tuple _) rfl (by exact rfl)) ?_
 refine r_op rfl rfl rfl (run_extract (v := .slice _ _ _) rfl (by exact rfl) (by exact rfl)) ?_
 refine r_op rfl rfl rfl (run_extract (v := .int _ _) rfl (by exact rfl) (by exact rfl)) ?_
 refine r_op rfl rfl rfl (run_extract (v := .int _ _) rfl (by exact rfl) (by exact rfl)) ?_
 refine r_op rfl rfl rfl (run_asg (v := .slice _ _ _) rfl (by exact rfl)) ?_
 refine r_op rfl rfl rfl (run_asg (v := .int _ _) rfl (by exact rfl)) ?_
 refine r_op rfl rfl rfl (run_asg (v := .int _ _) rfl (by exact rfl)) ?_
 refine r_nil ?_
 refine r_seq ?_
 refine r_region ?_
 refine r_op rfl rfl rfl (run_mv (v := S _) rfl (by exact rfl)) ?_
 refine r_opcall rfl rfl rfl (run_callf (vs := [S _]) rfl (by exact rfl) Try.func85 rfl (by kernel_rfl)) (rparse_calls (hs)) ?_
 rintro e w2 ⟨vb2, rfl, hE2, hoP2⟩
 refine ⟨_, rfl, ?_⟩
 have hs_w2 := (hE2).size
 replace hV := evo_step0 hV hE2
 replace hrP1 := hrP1.evo0 hE2
 refine r_op rfl rfl rfl (run_mv (v := .tuple _) rfl (by exact rfl)) ?_
 refine r_op rfl rfl rfl (run_extract (v := vb2) rfl (by exact rfl) (by exact rfl)) ?_
 refine r_op rfl rfl rfl (run_extract (v := .int _ _) rfl (by exact rfl) (by exact rfl)) ?_
 refine r_op rfl rfl rfl (run_extract (v := .int _ _) rfl (by exact rfl) (by exact rfl)) ?_
 refine r_op rfl rfl rfl (run_asg (v := vb2) rfl (by exact rfl)) ?_
 refine r_op rfl rfl rfl (run_asg (v := .int _ _) rfl (by exact rfl)) ?_
 refine r_op rfl rfl rfl (run_asg (v := .int _ _) rfl (by exact rfl)) ?_
 refine r_nil ?_
 refine r_seq ?_
 refine r_region ?_
 refine r_op rfl rfl rfl (run_mv (v := .int _ _) rfl (by exact rfl)) ?_
 refine r_op rfl rfl rfl (run_mv (v := .int _ _) rfl (by exact rfl)) ?_
 refine r_op rfl rfl rfl (run_eql rfl (by exact rfl) (by exact rfl)) ?_
 refine r_op rfl rfl rfl (run_mv (v := .bool _) rfl (by exact rfl)) ?_
 refine r_gyes rfl (wantT (by exact rfl)) (by exact rfl) ?_
 refine r_op rfl rfl rfl (run_mv (v := .int _ _) rfl (by exact rfl)) ?_
 refine r_gyes rfl (wantT (by exact rfl)) (by exact rfl) ?_
 refine r_op rfl rfl rfl (run_mv (v := .int _ _) rfl (by exact rfl)) ?_
 refine r_gyes rfl (wantT (by exact rfl)) (by exact rfl) ?_
 refine r_op rfl rfl rfl (run_eql rfl (by exact rfl) (by exact rfl)) ?_
 refine r_op rfl rfl rfl (run_pick_and rfl (by exact rfl) (fun _ => (by exact rfl)) rfl) ?_
 refine r_op rfl rfl rfl (run_mv (v := .bool _) rfl (by exact rfl)) ?_
 refine r_gyes rfl (wantT (by exact rfl)) (by exact ⟨rfl, rfl⟩) ?_
 refine r_op rfl rfl rfl (run_mv (v := .slice _ _ _) rfl (by exact rfl)) ?_
 refine r_gyes rfl (wantT (by exact rfl)) (by exact ⟨rfl, rfl⟩) ?_
 refine r_op rfl rfl rfl (run_mv (v := vb2) rfl (by exact rfl)) ?_
 refine r_gyes rfl (wantT (by exact rfl)) (by exact ⟨rfl, rfl⟩) ?_
 obtain ⟨ao3, g3, cp3, hv3, hr3⟩ := hoP2.rowOf
 subst hv3
 have hbd_hr3 := hr3.bd
 refine r_opcall rfl rfl rfl (run_callf (vs := [.slice _ _ _, .slice _ _ _]) rfl (by exact rfl) Try.func38 rfl (by kernel_rfl)) (sameclasses_calls hrP1 hr3) ?_
 rintro e w4 ⟨rfl, hE4⟩
 refine ⟨_, rfl, ?_⟩
 have hs_w4 := (hE4).size
 replace hV := evo_step0 hV hE4
 replace hrP1 := hrP1.evo0 hE4
 replace hoP2 := hoP2.evo0 hE4
 replace hr3 := hr3.evo0 hE4
 refine r_op rfl rfl rfl (run_pick_andB rfl (by exact rfl) (fun _ => (by exact rfl)) rfl) ?_
 refine r_op rfl rfl rfl (run_asg (v := .bool _) rfl (by exact rfl)) ?_
 refine r_nil ?_
 refine r_ret (res1 (v := .bool _) rfl (by exact rfl)) ?_
 exact ⟨ret_bool (decide_eq_true ⟨⟨rfl, rfl⟩, rfl⟩), hV⟩

set_option maxHeartbeats 1000000 in
theorem ilong_law {n : Int} {w0 : World}  :
    Calls Try.prog 9 #[.int .i64 n] w0 fun e w' => e = .returned (.bool true) ∧ Evo w0 w' [] := by
 refine calls_enter (n := 46) (args := [.int .i64 n]) Try.func9 rfl Try.ntmps9 rfl ?_
 have hV : Evo w0 w0 [] := Evo.refl _ _
 refine r_seq ?_
 refine r_region ?_
 refine r_op rfl rfl rfl (run_asg (v := .bool _) rfl (by exact rfl)) ?_
 refine r_nil ?_
 refine r_seq ?_
 have hn0 := Int.emod_nonneg n (show (3 : Int) ≠ 0 by decide); have hn1 := Int.emod_lt_of_pos n (show (0 : Int) < 3 by decide)
 refine r_region ?_
 refine r_op rfl rfl rfl (run_mv (v := .int _ _) rfl (by exact rfl)) ?_
 refine r_opcall rfl rfl rfl (run_callf (vs := [.int _ _, .int _ _]) rfl (by exact rfl) Try.func33 rfl (by kernel_rfl)) (place_calls _ _ (by omega) (by omega)) ?_
 rintro e w1 ⟨rfl, rfl⟩
 refine ⟨_, rfl, ?_⟩
 refine r_op rfl rfl rfl (run_add rfl (by exact rfl) (by exact rfl) (by omega) (by omega)) ?_
 refine r_make (len := (65535 + n % 3).toNat) (zs := [_]) Try.underlying52 ty_5 (by exact rfl) rfl rfl (by exact rfl) (by exact rfl) (by omega) (by omega) (by omega) (by omega) ?_
 intro b2 w3 heb2 hEw3 hfb2 hzb2
 have hs_w3 := (hEw3).size
 replace hV := evo_step0 hV hEw3
 refine r_op rfl rfl rfl (run_asg (v := .slice (some ⟨b2, 0, none⟩) _ _) rfl (by exact rfl)) ?_
 refine r_nil ?_
 refine r_seq ?_
 refine r_seq ?_
 refine r_region ?_
 refine r_op rfl rfl rfl (run_mv (v := .slice (some ⟨b2, 0, none⟩) _ _) rfl (by exact rfl)) ?_
 refine r_op rfl rfl rfl (run_lenSl rfl (by exact rfl) Try.underlying52) ?_
 refine r_op rfl rfl rfl (run_mv (v := .int _ _) rfl (by exact rfl)) ?_
 refine r_nil ?_
 refine r_block ?_
 refine r_loop (α := Nat) [4, 15, 16, 17, 18, 19, 20, 21] (fun k g w => g 15 = .int .i64 (k : Nat) ∧ k ≤ (65535 + n % 3).toNat ∧ FB w b2 5 1 (65535 + n % 3).toNat (fun x => if x < k then [.int .u8 10] else [.int .u8 0]) ∧ w3.heap.size ≤ w.heap.size ∧ Evo w0 w []) (fun k => (65535 + n % 3).toNat - k) 0 ?_ ?_
 ·refine ⟨(by first | exact rfl | exact congrArg (Value.int _) (by omega) | exact congrArg (Value.int _) (by dsimp only; omega) | exact congrArg (Value.int _) (by simp) | exact congrArg S (by simp)), (by first | assumption | omega | (dsimp only; omega) | (simp; done)), (hfb2.congr (fun x => by rw [if_neg (by omega)])), (by first | assumption | omega | (dsimp only; omega) | (simp; done)), hV⟩
 ·rintro k g w5 ⟨hj6, hk_k, hfb2, hzl4, hV⟩
  have hs_w5hV := hV.size
  have hlt7 := hfb2.lt
  refine r_know (i := 15) (v := .int .i64 (k : Nat)) (by exact hj6) ?_
  refine r_seq ?_
  refine r_region ?_
  refine r_op rfl rfl rfl (run_lss rfl (by exact rfl) (by exact rfl)) ?_
  refine r_nil ?_
  refine r_seq ?_
  refine r_cond (by exact rfl) (fun hc8 => ?_) (fun hc8 => ?_)
  ·skip
   refine r_skip ?_
   refine r_seq ?_
   refine r_block ?_
   refine r_seq ?_
   refine r_region ?_
   refine r_op rfl rfl rfl (run_mv (v := .int _ _) rfl (by exact rfl)) ?_
   refine r_op rfl rfl rfl (run_asg (v := .int _ _) rfl (by exact rfl)) ?_
   refine r_nil ?_
   refine r_region ?_
   refine r_op rfl rfl rfl (run_mv (v := .slice (some ⟨b2, 0, none⟩) _ _) rfl (by exact rfl)) ?_
   refine r_op rfl rfl rfl (run_mv (v := .int _ _) rfl (by exact rfl)) ?_
   refine r_op rfl rfl rfl (run_ix (k) rfl Try.underlying52 ty_5 (by exact rfl) (by exact rfl) (by first | exact rfl | omega) (by omega) rfl) ?_
   refine r_storeF (v := .int _ _) (vs := [_]) (k) (by exact rfl) rfl (by exact rfl) hfb2 (by omega) ty_5 (by exact rfl) rfl (by exact rfl) ?_
   intro w9 hEw9 hzw9 hb_new
   have hs_w9 := (hEw9).size
   replace hV := evo_step1 hV hEw9 (by first | exact .inl (by omega) | exact .inr (by simp))
   replace hfb2 := hb_new
   clear hb_new
   refine r_nil ?_
   refine r_blk ?_
   refine r_region ?_
   refine r_op rfl rfl rfl (run_add rfl (by exact rfl) (by exact rfl) (by omega) (by omega)) ?_
   refine r_op rfl rfl rfl (run_mv (v := .int _ _) rfl (by exact rfl)) ?_
   refine r_nil ?_
   refine r_again (k + 1) ?_ ?_ ?_
   ·first | omega | (dsimp only; omega)
   ·refine ⟨(by first | exact rfl | exact congrArg (Value.int _) (by omega) | exact congrArg (Value.int _) (by dsimp only; omega) | exact congrArg (Value.int _) (by simp) | exact congrArg S (by simp)), (by first | assumption | omega | (dsimp only; omega) | (simp; done)), (fb_step hfb2), (by first | assumption | omega | (dsimp only; omega) | (simp; done)), hV⟩
   ·repeat (first | (with_reducible exact Agree.merge _ _ _) | (with_reducible exact Agree.refl _ _) | (with_reducible refine Agree.upd ?_ _ _ rfl) | ((with_reducible refine Agree.inner ?_ ?_); (kernel_rfl)))
  ·skip
   refine r_exit rfl ?_
   refine r_seq ?_
   have hrb := fb_row8 (c := 10) (hfb2.congr' (fun _ => rfl) (fun x hx => by rw [if_pos (by omega)]; rfl)) (by omega)
   refine r_know (i := 3) (v := .slice (some ⟨b2, 0, none⟩) (List.replicate (65535 + n % 3).toNat (10 : UInt8)).length (65535 + n % 3).toNat) (by rw [List.length_replicate]; exact rfl) ?_
   refine r_region ?_
   refine r_op rfl rfl rfl (run_mv (v := .slice _ _ _) rfl (by exact rfl)) ?_
   refine r_op rfl rfl rfl (run_cvBS rfl Try.underlying52 Try.underlying5 Try.underlying9 (by exact rfl) (by first | rfl | simp) hrb) ?_
   refine r_opcall rfl rfl rfl (run_callf (vs := [S _]) rfl (by exact rfl) Try.func37 rfl (by kernel_rfl)) (parse_calls (by rw [List.length_replicate]; omega)) ?_
   rintro e w10 ⟨va10, rfl, hE10, aoP10, gP10, cpP10, rfl, hrP10⟩
   refine ⟨_, rfl, ?_⟩
   have hs_w10 := (hE10).size
   replace hV := evo_step0 hV hE10
   replace hrb := hrb.evo0 hE10
   refine r_op rfl rfl rfl (run_mv (v := .tuple _) rfl (by exact rfl)) ?_
   refine r_op rfl rfl rfl (run_extract (v := .slice _ _ _) rfl (by exact rfl) (by exact rfl)) ?_
   refine r_op rfl rfl rfl (run_extract (v := .int _ _) rfl (by exact rfl) (by exact rfl)) ?_
   refine r_op rfl rfl rfl (run_extract (v := .int _ _) rfl (by exact rfl) (by exact rfl)) ?_
   refine r_op rfl rfl rfl (run_asg (v := .slice _ _ _) rfl (by exact rfl)) ?_
   refine r_op rfl rfl rfl (run_asg (v := .int _ _) rfl (by exact rfl)) ?_
   refine r_op rfl rfl rfl (run_asg (v := .int _ _) rfl (by exact rfl)) ?_
   refine r_nil ?_
   refine r_seq ?_
   have hpn := parse_nl (65535 + n % 3).toNat; have hpn1 := congrArg Prod.fst hpn; have hpn2 := congrArg (fun q => q.2.1) hpn; have hpn3 := congrArg (fun q => q.2.2) hpn; have hrQ := row_at hrP10 hpn1
   refine r_know (i := 5) (v := .slice aoP10 ([] : List Clas).length cpP10) (congrArg (fun q => Value.slice aoP10 q cpP10) (congrArg List.length hpn1)) ?_
   refine r_know (i := 6) (v := .int .i64 0) (congrArg (Value.int _) hpn2) ?_
   refine r_know (i := 7) (v := .int .i64 (if 65536 < (65535 + n % 3).toNat then 3 else 0)) (congrArg (Value.int _) hpn3) ?_
   refine r_region ?_
   refine r_op rfl rfl rfl (run_asg (v := .int _ _) rfl (by exact rfl)) ?_
   refine r_nil ?_
   refine r_seq ?_
   refine r_seq ?_
   refine r_region ?_
   refine r_op rfl rfl rfl (run_mv (v := .slice _ _ _) rfl (by exact rfl)) ?_
   refine r_op rfl rfl rfl (run_lenSl rfl (by exact rfl) Try.underlying52) ?_
   refine r_op rfl rfl rfl (run_gtr rfl (by exact rfl) (by exact rfl)) ?_
   refine r_nil ?_
   refine r_cond (by exact rfl) (fun hc11 => ?_) (fun hc11 => ?_)
   ·skip
    refine r_region ?_
    refine r_op rfl rfl rfl (run_asg (v := .int _ _) rfl (by exact rfl)) ?_
    refine r_nil ?_
    refine r_seq ?_
    refine r_region ?_
    refine r_op rfl rfl rfl (run_mv (v := .int _ _) rfl (by exact rfl)) ?_
    refine r_op rfl rfl rfl (run_mv (v := .int _ _) rfl (by exact rfl)) ?_
    refine r_op rfl rfl rfl (run_eql rfl (by exact rfl) (by exact rfl)) ?_
    refine r_op rfl rfl rfl (run_mv (v := .bool _) rfl (by exact rfl)) ?_
    refine r_gyes rfl (wantT (by exact rfl)) (by exact (by simp_all <;> omega)) ?_
    refine r_op rfl rfl rfl (run_mv (v := .int _ _) rfl (by exact rfl)) ?_
    refine r_gyes rfl (wantT (by exact rfl)) (by exact (by simp_all <;> omega)) ?_
    refine r_op rfl rfl rfl (run_eql rfl (by exact rfl) (by exact rfl)) ?_
    refine r_op rfl rfl rfl (run_pick_and rfl (by exact rfl) (fun _ => (by exact rfl)) rfl) ?_
    refine r_op rfl rfl rfl (run_mv (v := .bool _) rfl (by exact rfl)) ?_
    refine r_gyes rfl (wantT (by exact rfl)) (by exact (by simp_all <;> omega)) ?_
    refine r_op rfl rfl rfl (run_mv (v := .slice _ _ _) rfl (by exact rfl)) ?_
    refine r_gyes rfl (wantT (by exact rfl)) (by exact (by simp_all <;> omega)) ?_
    refine r_opcall rfl rfl rfl (run_callf (vs := [.slice _ _ _, .slice _ _ _]) rfl (by exact rfl) Try.func38 rfl (by kernel_rfl)) (sameclasses_calls hrQ nil_row) ?_
    rintro e w12 ⟨rfl, hE12⟩
    refine ⟨_, rfl, ?_⟩
    have hs_w12 := (hE12).size
    replace hV := evo_step0 hV hE12
    replace hrb := hrb.evo0 hE12
    replace hrQ := hrQ.evo0 hE12
    refine r_op rfl rfl rfl (run_pick_andB rfl (by exact rfl) (fun _ => (by exact rfl)) rfl) ?_
    refine r_op rfl rfl rfl (run_mv (v := .bool _) rfl (by exact rfl)) ?_
    refine r_gyes rfl (wantT (by exact rfl)) (by exact (by simp_all <;> omega)) ?_
    refine r_opcall rfl rfl rfl (run_callf (vs := []) rfl (by exact rfl) Try.func23 rfl (by kernel_rfl)) known_calls ?_
    rintro e w13 ⟨rfl, hE13⟩
    refine ⟨_, rfl, ?_⟩
    have hs_w13 := (hE13).size
    replace hV := evo_step0 hV hE13
    replace hrb := hrb.evo0 hE13
    replace hrQ := hrQ.evo0 hE13
    refine r_op rfl rfl rfl (run_pick_andB rfl (by exact rfl) (fun _ => (by exact rfl)) rfl) ?_
    refine r_op rfl rfl rfl (run_asg (v := .bool _) rfl (by exact rfl)) ?_
    refine r_nil ?_
    refine r_ret (res1 (v := .bool _) rfl (by exact rfl)) ?_
    exact ⟨ret_bool (decide_eq_true (by simp_all <;> omega)), hV⟩
   ·skip
    refine r_skip ?_
    refine r_seq ?_
    refine r_region ?_
    refine r_op rfl rfl rfl (run_mv (v := .int _ _) rfl (by exact rfl)) ?_
    refine r_op rfl rfl rfl (run_mv (v := .int _ _) rfl (by exact rfl)) ?_
    refine r_op rfl rfl rfl (run_eql rfl (by exact rfl) (by exact rfl)) ?_
    refine r_op rfl rfl rfl (run_mv (v := .bool _) rfl (by exact rfl)) ?_
    refine r_gyes rfl (wantT (by exact rfl)) (by exact (by simp_all <;> omega)) ?_
    refine r_op rfl rfl rfl (run_mv (v := .int _ _) rfl (by exact rfl)) ?_
    refine r_gyes rfl (wantT (by exact rfl)) (by exact (by simp_all <;> omega)) ?_
    refine r_op rfl rfl rfl (run_eql rfl (by exact rfl) (by exact rfl)) ?_
    refine r_op rfl rfl rfl (run_pick_and rfl (by exact rfl) (fun _ => (by exact rfl)) rfl) ?_
    refine r_op rfl rfl rfl (run_mv (v := .bool _) rfl (by exact rfl)) ?_
    refine r_gyes rfl (wantT (by exact rfl)) (by exact (by simp_all <;> omega)) ?_
    refine r_op rfl rfl rfl (run_mv (v := .slice _ _ _) rfl (by exact rfl)) ?_
    refine r_gyes rfl (wantT (by exact rfl)) (by exact (by simp_all <;> omega)) ?_
    refine r_opcall rfl rfl rfl (run_callf (vs := [.slice _ _ _, .slice _ _ _]) rfl (by exact rfl) Try.func38 rfl (by kernel_rfl)) (sameclasses_calls hrQ nil_row) ?_
    rintro e w14 ⟨rfl, hE14⟩
    refine ⟨_, rfl, ?_⟩
    have hs_w14 := (hE14).size
    replace hV := evo_step0 hV hE14
    replace hrb := hrb.evo0 hE14
    replace hrQ := hrQ.evo0 hE14
    refine r_op rfl rfl rfl (run_pick_andB rfl (by exact rfl) (fun _ => (by exact rfl)) rfl) ?_
    refine r_op rfl rfl rfl (run_mv (v := .bool _) rfl (by exact rfl)) ?_
    refine r_gyes rfl (wantT (by exact rfl)) (by exact (by simp_all <;> omega)) ?_
    refine r_opcall rfl rfl rfl (run_callf (vs := []) rfl (by exact rfl) Try.func23 rfl (by kernel_rfl)) known_calls ?_
    rintro e w15 ⟨rfl, hE15⟩
    refine ⟨_, rfl, ?_⟩
    have hs_w15 := (hE15).size
    replace hV := evo_step0 hV hE15
    replace hrb := hrb.evo0 hE15
    replace hrQ := hrQ.evo0 hE15
    refine r_op rfl rfl rfl (run_pick_andB rfl (by exact rfl) (fun _ => (by exact rfl)) rfl) ?_
    refine r_op rfl rfl rfl (run_asg (v := .bool _) rfl (by exact rfl)) ?_
    refine r_nil ?_
    refine r_ret (res1 (v := .bool _) rfl (by exact rfl)) ?_
    exact ⟨ret_bool (decide_eq_true (by simp_all <;> omega)), hV⟩

end Go.Proofs.Ytomklacppmaljaa

namespace Go.Proofs.Ytomklacppmaljaa
open Go.RowKit Go.Vc

theorem fmtT_len (c : List Clas) : (fmtT c).length ≤ 11232 := by
  unfold fmtT
  by_cases h : validC c = 0
  · rw [if_pos h]; exact fmtC_len h
  · rw [if_neg h]; exact Nat.zero_le _

set_option maxRecDepth 20000 in
set_option maxHeartbeats 1000000 in
theorem iparses_law {s : Str} {aol : Option Addr} {bl offl capl : Nat} {l : List Int} {a9 : Int} {y9 : UInt8} {w0 : World} (hs : s.length ≤ 140737488351232) (hl : RowE w0 aol bl offl capl l) :
    Calls Try.prog 10 #[S s, .slice aol l.length capl, .int .i64 a9, .int .u8 ((y9.toNat : Nat) : Int)] w0 fun e w' => e = .returned (.bool true) ∧ Evo w0 w' [] := by
 refine calls_enter (n := 70) (args := [S s, .slice aol l.length capl, .int .i64 a9, .int .u8 ((y9.toNat : Nat) : Int)]) Try.func10 rfl Try.ntmps10 rfl ?_
 have hV : Evo w0 w0 [] := Evo.refl _ _
 have hl0 := keepE hl
 have hbd_hl := hl.bd
 refine r_seq ?_
 refine r_region ?_
 refine r_op rfl rfl rfl (run_asg (v := .bool _) rfl (by exact rfl)) ?_
 refine r_nil ?_
 refine r_seq ?_
 refine r_seq ?_
 refine r_region ?_
 refine r_op rfl rfl rfl (run_mv (v := .slice _ _ _) rfl (by exact rfl)) ?_
 refine r_bslice (pv := [(0, .slice _ _ _)]) (zs := [_]) (cs := [_]) Try.underlying101 ty_23 (by exact rfl) rfl (by exact rfl) rfl (by exact rfl) ?_
 intro b1 w2 heb1 hEw2 hbb1 hzb1
 have hs_w2 := (hEw2).size
 replace hV := evo_step0 hV hEw2
 replace hl := hl0 _ hV
 have hAb1 := hbb1.at
 have hrb1 : RowR w2 (some ⟨b1, 0, none⟩) b1 0 1 ([l] : List (List Int)) := rowLitR [[_]] ([l] : List (List Int)) hbb1 rfl (RepL.one (sl_rep hl)) rfl
 refine r_opcall rfl rfl rfl (run_callf (vs := [.slice (some ⟨b1, 0, none⟩) _ _]) rfl (by exact rfl) Try.func21 rfl (by kernel_rfl)) (long_calls hrb1 (by simp only [List.flatten_cons, List.flatten_nil, List.append_nil]; omega)) ?_
 rintro e w3 ⟨rfl, hE3⟩
 refine ⟨_, rfl, ?_⟩
 have hs_w3 := (hE3).size
 replace hV := evo_step0 hV hE3
 replace hl := hl0 _ hV
 replace hrb1 := hrb1.evo0 hE3
 refine r_op rfl rfl rfl (run_mvb rfl (by exact rfl)) ?_
 refine r_g rfl (wantF (by exact rfl)) rfl (fun hg => run_mv (v := S _) rfl (by exact rfl)) ?_
 refine r_g rfl (wantF (by exact rfl)) rfl (fun hg => run_lenS rfl (glv (by exact rfl) (fun h => h) hg) Try.underlying9) ?_
 refine r_g rfl (wantF (by exact rfl)) rfl (fun hg => run_gtr rfl (glv (by exact rfl) (fun h => h) hg) (by exact rfl)) ?_
 refine r_op rfl rfl rfl (run_pick_or rfl (by exact rfl) rfl (fun hq => glv (by exact rfl) (fun h => h) hq)) ?_
 refine r_nil ?_
 refine r_cond (by exact rfl) (fun hc4 => ?_) (fun hc4 => ?_)
 ·skip
  refine r_seq ?_
  refine r_region ?_
  refine r_opcall rfl rfl rfl (run_callf (vs := []) rfl (by exact rfl) Try.func23 rfl (by kernel_rfl)) known_calls ?_
  rintro e w5 ⟨rfl, hE5⟩
  refine ⟨_, rfl, ?_⟩
  have hs_w5 := (hE5).size
  replace hV := evo_step0 hV hE5
  replace hl := hl0 _ hV
  replace hrb1 := hrb1.evo0 hE5
  refine r_op rfl rfl rfl (run_asg (v := .bool _) rfl (by exact rfl)) ?_
  refine r_nil ?_
  refine r_ret (res1 (v := .bool _) rfl (by exact rfl)) ?_
  exact ⟨rfl, hV⟩
 ·skip
  refine r_skip ?_
  refine r_seq ?_
  refine r_region ?_
  refine r_op rfl rfl rfl (run_mv (v := .slice _ _ _) rfl (by exact rfl)) ?_
  refine r_opcall rfl rfl rfl (run_callf (vs := [.slice _ _ _]) rfl (by exact rfl) Try.func25 rfl (by kernel_rfl)) from_calls ?_
  rintro e w6 ⟨bs6, rfl, hbs6, hE6, hbn6, hbA6⟩
  refine ⟨_, rfl, ?_⟩
  have hs_w6 := (hE6).size
  replace hV := evo_step0 hV hE6
  replace hl := hl0 _ hV
  replace hrb1 := hrb1.evo0 hE6
  refine r_opcall rfl rfl rfl (run_callf (vs := [.pointer _, .int _ _]) rfl (by exact rfl) Try.func24 rfl (by kernel_rfl)) (classes_calls (N := 0) (show Blk _ _ _ [_, .int .i64 ((0 : Nat) : Int)] from hbn6) (fun w9 h9 => hl0 _ (evo_step1 hV h9 (.inl (by omega)))) (by omega) (by omega) (by omega)) ?_
  rintro e w7 ⟨vc7, cl7, mc7, Nc7, rfl, hMC7, hNc7, hE7, hn7, hoC7⟩
  refine ⟨_, rfl, ?_⟩
  have hs_w7 := (hE7).size
  replace hV := evo_step1 hV hE7 (by first | exact .inl (by omega) | exact .inr (by simp))
  replace hl := hl0 _ hV
  replace hbn6 := hn7
  clear hn7
  have hbA6 := hbn6.at
  obtain ⟨ao8, g8, cp8, hv8, hr8⟩ := hoC7.rowOf
  subst hv8
  have hbd_hr8 := hr8.bd
  refine r_opcall rfl rfl rfl (run_callf (vs := [.slice _ _ _]) rfl (by exact rfl) Try.func39 rfl (by kernel_rfl)) (rformat_calls hr8) ?_
  rintro e w9 ⟨rfl, hE9⟩
  refine ⟨_, rfl, ?_⟩
  have hs_w9 := (hE9).size
  replace hV := evo_step0 hV hE9
  replace hl := hl0 _ hV
  replace hoC7 := hoC7.evo0 hE9
  replace hr8 := hr8.evo0 hE9
  refine r_op rfl rfl rfl (run_mv (v := .tuple _) rfl (by exact rfl)) ?_
  refine r_op rfl rfl rfl (run_extract (v := S _) rfl (by exact rfl) (by exact rfl)) ?_
  refine r_op rfl rfl rfl (run_extract (v := .int _ _) rfl (by exact rfl) (by exact rfl)) ?_
  refine r_op rfl rfl rfl (run_asg (v := S _) rfl (by exact rfl)) ?_
  refine r_op rfl rfl rfl (run_asg (v := .int _ _) rfl (by exact rfl)) ?_
  refine r_nil ?_
  refine r_seq ?_
  have hfl := fmtT_len cl7
  refine r_region ?_
  refine r_op rfl rfl rfl (run_mv (v := .int _ _) rfl (by exact rfl)) ?_
  refine r_op rfl rfl rfl (run_mv (v := S _) rfl (by exact rfl)) ?_
  refine r_op rfl rfl rfl (run_lenS rfl (by exact rfl) Try.underlying9) ?_
  refine r_op rfl rfl rfl (run_add rfl (by exact rfl) (by exact rfl) (by omega) (by omega)) ?_
  refine r_opcall rfl rfl rfl (run_callf (vs := [.int _ _, .int _ _]) rfl (by exact rfl) Try.func33 rfl (by kernel_rfl)) (place_calls _ _ (by omega) (by omega)) ?_
  rintro e w10 ⟨rfl, rfl⟩
  refine ⟨_, rfl, ?_⟩
  refine r_op rfl rfl rfl (run_asg (v := .int _ _) rfl (by exact rfl)) ?_
  refine r_nil ?_
  refine r_seq ?_
  have hk0 := Int.emod_nonneg a9 (show (((fmtT cl7).length : Int) + 1) ≠ 0 by omega); have hk1 := Int.emod_lt_of_pos a9 (show (0 : Int) < ((fmtT cl7).length : Int) + 1 by omega)
  have hV_q := hV
  refine h_region ([]) (by kernel_rfl) ?_
  intro w11 hE12 hCst5
  have hs_w11 := (hE12).size
  replace hV := evo_step0 hV hE12
  replace hl := hl0 _ hV
  replace hoC7 := hoC7.evo0 hE12
  replace hr8 := hr8.evo0 hE12
  refine h_take (i := 0) (by exact rfl) rfl rfl rfl (by kernel_rfl) (fun w' hC => run_mv (v := S _) rfl (by exact rfl)) hCst5 ?_
  refine h_one (i := 1) (by kernel_rfl) ?_
  refine h_do (by exact rfl) ?_
  refine r_opcall rfl rfl rfl (run_callf (vs := [S _]) rfl (by exact rfl) Try.func40 rfl (by kernel_rfl)) (parses_calls (by first | omega | (simp only [List.length_append, List.length_cons, List.length_nil, List.length_take, List.length_drop]; omega))) ?_
  rintro e w13 ⟨rfl, hE13⟩
  refine ⟨_, rfl, ?_⟩
  have hs_w13 := (hE13).size
  replace hV := evo_step0 hV hE13
  replace hCst5 := evo_step0 hCst5 hE13
  replace hl := hl0 _ hV
  replace hoC7 := hoC7.evo0 hE13
  replace hr8 := hr8.evo0 hE13
  refine h_next hCst5 ?_
  refine h_take (i := 2) (by exact rfl) rfl rfl rfl (by kernel_rfl) (fun w' hC => run_mvb rfl (by exact rfl)) hCst5 ?_
  refine h_takeY (i := 3) (by exact rfl) (by exact rfl) rfl (wantT (by exact rfl)) (by exact (by simp)) rfl rfl (by kernel_rfl) (fun w' hC => run_mv (v := S _) rfl (by exact rfl)) hCst5 ?_
  refine h_takeY (i := 4) (by exact rfl) (by exact rfl) rfl (wantT (by exact rfl)) (by exact (by simp)) rfl rfl (by kernel_rfl) (fun w' hC => run_sadd rfl (by exact rfl) (by exact rfl) (by first | omega | (simp; omega))) hCst5 ?_
  refine h_one (i := 5) (by kernel_rfl) ?_
  refine h_do (by exact rfl) ?_
  refine r_gyes rfl (wantT (by exact rfl)) (by exact (by simp)) ?_
  refine r_opcall rfl rfl rfl (run_callf (vs := [S _]) rfl (by exact rfl) Try.func40 rfl (by kernel_rfl)) (parses_calls (by first | omega | (simp only [List.length_append, List.length_cons, List.length_nil, List.length_take, List.length_drop]; omega))) ?_
  rintro e w14 ⟨rfl, hE14⟩
  refine ⟨_, rfl, ?_⟩
  have hs_w14 := (hE14).size
  replace hV := evo_step0 hV hE14
  replace hCst5 := evo_step0 hCst5 hE14
  replace hl := hl0 _ hV
  replace hoC7 := hoC7.evo0 hE14
  replace hr8 := hr8.evo0 hE14
  refine h_next hCst5 ?_
  refine h_take (i := 6) (by exact rfl) rfl rfl rfl (by kernel_rfl) (fun w' hC => run_pick_andB rfl (by exact rfl) (fun _ => (by exact rfl)) rfl) hCst5 ?_
  refine h_take (i := 7) (by exact rfl) rfl rfl rfl (by kernel_rfl) (fun w' hC => run_mv (v := .bool _) rfl (by exact rfl)) hCst5 ?_
  refine h_takeY (i := 8) (by exact rfl) (by exact rfl) rfl (wantT (by exact rfl)) (by exact (by simp)) rfl rfl (by kernel_rfl) (fun w' hC => run_mv (v := S _) rfl (by exact rfl)) hCst5 ?_
  refine h_takeY (i := 9) (by exact rfl) (by exact rfl) rfl (wantT (by exact rfl)) (by exact (by simp)) rfl rfl (by kernel_rfl) (fun w' hC => run_mv (v := .int _ _) rfl (by exact rfl)) hCst5 ?_
  refine h_takeY (i := 10) (by exact rfl) (by exact rfl) rfl (wantT (by exact rfl)) (by exact (by simp)) rfl rfl (by kernel_rfl) (fun w' hC => by exact run_slS (0) ((a9 % (((fmtT cl7).length : Int) + 1)).toNat) rfl Try.underlying9 (by exact rfl) lo0 (at1 (by exact rfl) (by omega)) (by first | omega | (simp; omega)) (by first | omega | (simp; omega))) hCst5 ?_
  refine h_one (i := 11) (by kernel_rfl) ?_
  refine h_do (by exact rfl) ?_
  refine r_gyes rfl (wantT (by exact rfl)) (by exact (by simp)) ?_
  refine r_opcall rfl rfl rfl (run_callf (vs := [S _]) rfl (by exact rfl) Try.func40 rfl (by kernel_rfl)) (parses_calls (by first | omega | (simp only [List.length_append, List.length_cons, List.length_nil, List.length_take, List.length_drop]; omega))) ?_
  rintro e w15 ⟨rfl, hE15⟩
  refine ⟨_, rfl, ?_⟩
  have hs_w15 := (hE15).size
  replace hV := evo_step0 hV hE15
  replace hCst5 := evo_step0 hCst5 hE15
  replace hl := hl0 _ hV
  replace hoC7 := hoC7.evo0 hE15
  replace hr8 := hr8.evo0 hE15
  refine h_next hCst5 ?_
  refine h_take (i := 12) (by exact rfl) rfl rfl rfl (by kernel_rfl) (fun w' hC => run_pick_andB rfl (by exact rfl) (fun _ => (by exact rfl)) rfl) hCst5 ?_
  refine h_take (i := 13) (by exact rfl) rfl rfl rfl (by kernel_rfl) (fun w' hC => run_mv (v := .bool _) rfl (by exact rfl)) hCst5 ?_
  refine h_takeY (i := 14) (by exact rfl) (by exact rfl) rfl (wantT (by exact rfl)) (by exact (by simp)) rfl rfl (by kernel_rfl) (fun w' hC => run_mv (v := S _) rfl (by exact rfl)) hCst5 ?_
  refine h_takeY (i := 15) (by exact rfl) (by exact rfl) rfl (wantT (by exact rfl)) (by exact (by simp)) rfl rfl (by kernel_rfl) (fun w' hC => run_mv (v := .int _ _) rfl (by exact rfl)) hCst5 ?_
  refine h_takeY (i := 16) (by exact rfl) (by exact rfl) rfl (wantT (by exact rfl)) (by exact (by simp)) rfl rfl (by kernel_rfl) (fun w' hC => by exact run_slS (0) ((a9 % (((fmtT cl7).length : Int) + 1)).toNat) rfl Try.underlying9 (by exact rfl) lo0 (at1 (by exact rfl) (by omega)) (by first | omega | (simp; omega)) (by first | omega | (simp; omega))) hCst5 ?_
  refine h_takeY (i := 17) (by exact rfl) (by exact rfl) rfl (wantT (by exact rfl)) (by exact (by simp)) rfl rfl (by kernel_rfl) (fun w' hC => run_mv (v := .int _ _) rfl (by exact rfl)) hCst5 ?_
  refine h_takeY (i := 21) (by exact rfl) (by exact rfl) rfl (wantT (by exact rfl)) (by exact (by simp)) rfl rfl (by kernel_rfl) (fun w' hC => run_mv (v := S _) rfl (by exact rfl)) hCst5 ?_
  refine h_takeY (i := 22) (by exact rfl) (by exact rfl) rfl (wantT (by exact rfl)) (by exact (by simp)) rfl rfl (by kernel_rfl) (fun w' hC => run_mv (v := .int _ _) rfl (by exact rfl)) hCst5 ?_
  refine h_takeY (i := 23) (by exact rfl) (by exact rfl) rfl (wantT (by exact rfl)) (by exact (by simp)) rfl rfl (by kernel_rfl) (fun w' hC => by exact run_slS ((a9 % (((fmtT cl7).length : Int) + 1)).toNat) (_) rfl Try.underlying9 (by exact rfl) (at1 (by exact rfl) (by omega)) hi0 (by first | omega | (simp; omega)) (by first | omega | (simp; omega))) hCst5 ?_
  refine h_one (i := 18) (by kernel_rfl) ?_
  refine h_do (by exact rfl) ?_
  refine r_gyes rfl (wantT (by exact rfl)) (by exact (by simp)) ?_
  refine r_bslice (pv := [(0, .int _ _)]) (zs := [_]) (cs := [_]) Try.underlying52 ty_5 (by exact rfl) rfl (by exact rfl) rfl (by exact rfl) ?_
  intro b16 w17 heb16 hEw17 hbb16 hzb16
  have hs_w17 := (hEw17).size
  replace hV := evo_step0 hV hEw17
  replace hCst5 := evo_step0 hCst5 hEw17
  replace hl := hl0 _ hV
  replace hoC7 := hoC7.evo0 hEw17
  replace hr8 := hr8.evo0 hEw17
  have hAb16 := hbb16.at
  have hrb16 : RowE w17 (some ⟨b16, 0, none⟩) b16 0 1 ([y9] : List UInt8) := rowLit ([y9] : List UInt8) hbb16 rfl rfl
  refine h_next hCst5 ?_
  refine h_one (i := 19) (by kernel_rfl) ?_
  refine h_do (by exact rfl) ?_
  refine r_gyes rfl (wantT (by exact rfl)) (by exact (by simp)) ?_
  refine r_op rfl rfl rfl (run_cvBS rfl Try.underlying52 Try.underlying5 Try.underlying9 (by exact rfl) (by first | rfl | simp) hrb16) ?_
  refine h_next hCst5 ?_
  refine h_takeY (i := 20) (by exact rfl) (by exact rfl) rfl (wantT (by exact rfl)) (by exact (by simp)) rfl rfl (by kernel_rfl) (fun w' hC => run_sadd rfl (by exact rfl) (by exact rfl) (by first | omega | (simp; omega))) hCst5 ?_
  refine h_takeY (i := 24) (by exact rfl) (by exact rfl) rfl (wantT (by exact rfl)) (by exact (by simp)) rfl rfl (by kernel_rfl) (fun w' hC => run_sadd rfl (by exact rfl) (by exact rfl) (by first | omega | (simp; omega))) hCst5 ?_
  refine h_one (i := 25) (by kernel_rfl) ?_
  refine h_do (by exact rfl) ?_
  refine r_gyes rfl (wantT (by exact rfl)) (by exact (by simp)) ?_
  refine r_opcall rfl rfl rfl (run_callf (vs := [S _]) rfl (by exact rfl) Try.func40 rfl (by kernel_rfl)) (parses_calls (by first | omega | (simp only [List.length_append, List.length_cons, List.length_nil, List.length_take, List.length_drop]; omega))) ?_
  rintro e w18 ⟨rfl, hE18⟩
  refine ⟨_, rfl, ?_⟩
  have hs_w18 := (hE18).size
  replace hV := evo_step0 hV hE18
  replace hCst5 := evo_step0 hCst5 hE18
  replace hl := hl0 _ hV
  replace hoC7 := hoC7.evo0 hE18
  replace hr8 := hr8.evo0 hE18
  replace hrb16 := hrb16.evo0 hE18
  refine h_next hCst5 ?_
  refine h_take (i := 26) (by exact rfl) rfl rfl rfl (by kernel_rfl) (fun w' hC => run_pick_andB rfl (by exact rfl) (fun _ => (by exact rfl)) rfl) hCst5 ?_
  refine h_take (i := 27) (by exact rfl) rfl rfl rfl (by kernel_rfl) (fun w' hC => run_mv (v := .bool _) rfl (by exact rfl)) hCst5 ?_
  refine h_takeY (i := 28) (by exact rfl) (by exact rfl) rfl (wantT (by exact rfl)) (by exact (by simp)) rfl rfl (by kernel_rfl) (fun w' hC => run_mv (v := S _) rfl (by exact rfl)) hCst5 ?_
  refine h_takeY (i := 29) (by exact rfl) (by exact rfl) rfl (wantT (by exact rfl)) (by exact (by simp)) rfl rfl (by kernel_rfl) (fun w' hC => run_sadd rfl (by exact rfl) (by exact rfl) (by first | omega | (simp; omega))) hCst5 ?_
  refine h_takeY (i := 30) (by exact rfl) (by exact rfl) rfl (wantT (by exact rfl)) (by exact (by simp)) rfl rfl (by kernel_rfl) (fun w' hC => run_mv (v := S _) rfl (by exact rfl)) hCst5 ?_
  refine h_takeY (i := 31) (by exact rfl) (by exact rfl) rfl (wantT (by exact rfl)) (by exact (by simp)) rfl rfl (by kernel_rfl) (fun w' hC => run_sadd rfl (by exact rfl) (by exact rfl) (by first | omega | (simp; omega))) hCst5 ?_
  refine h_one (i := 32) (by kernel_rfl) ?_
  refine h_do (by exact rfl) ?_
  refine r_gyes rfl (wantT (by exact rfl)) (by exact (by simp)) ?_
  refine r_opcall rfl rfl rfl (run_callf (vs := [S _]) rfl (by exact rfl) Try.func40 rfl (by kernel_rfl)) (parses_calls (by first | omega | (simp only [List.length_append, List.length_cons, List.length_nil, List.length_take, List.length_drop]; omega))) ?_
  rintro e w19 ⟨rfl, hE19⟩
  refine ⟨_, rfl, ?_⟩
  have hs_w19 := (hE19).size
  replace hV := evo_step0 hV hE19
  replace hCst5 := evo_step0 hCst5 hE19
  replace hl := hl0 _ hV
  replace hoC7 := hoC7.evo0 hE19
  replace hr8 := hr8.evo0 hE19
  replace hrb16 := hrb16.evo0 hE19
  refine h_next hCst5 ?_
  refine h_take (i := 33) (by exact rfl) rfl rfl rfl (by kernel_rfl) (fun w' hC => run_pick_andB rfl (by exact rfl) (fun _ => (by exact rfl)) rfl) hCst5 ?_
  refine h_take (i := 34) (by exact rfl) rfl rfl rfl (by kernel_rfl) (fun w' hC => run_mv (v := .bool _) rfl (by exact rfl)) hCst5 ?_
  refine h_one (i := 35) (by kernel_rfl) ?_
  refine h_do (by exact rfl) ?_
  refine r_gyes rfl (wantT (by exact rfl)) (by exact (by simp)) ?_
  refine r_opcall rfl rfl rfl (run_callf (vs := []) rfl (by exact rfl) Try.func23 rfl (by kernel_rfl)) known_calls ?_
  rintro e w20 ⟨rfl, hE20⟩
  refine ⟨_, rfl, ?_⟩
  have hs_w20 := (hE20).size
  replace hV := evo_step0 hV hE20
  replace hCst5 := evo_step0 hCst5 hE20
  replace hl := hl0 _ hV
  replace hoC7 := hoC7.evo0 hE20
  replace hr8 := hr8.evo0 hE20
  replace hrb16 := hrb16.evo0 hE20
  refine h_next hCst5 ?_
  refine h_take (i := 36) (by exact rfl) rfl rfl rfl (by kernel_rfl) (fun w' hC => run_pick_andB rfl (by exact rfl) (fun _ => (by exact rfl)) rfl) hCst5 ?_
  refine h_take (i := 37) (by exact rfl) rfl rfl rfl (by kernel_rfl) (fun w' hC => run_asg (v := .bool _) rfl (by exact rfl)) hCst5 ?_
  refine h_done (by kernel_rfl) ?_
  refine r_ret (res1 (v := .bool _) rfl (by exact rfl)) ?_
  exact ⟨rfl, hV⟩

end Go.Proofs.Ytomklacppmaljaa

namespace Go.Proofs.Ytomklacppmaljaa
open Go.RowKit Go.Vc
theorem ag_22 : aggP Try.prog 22 = some false := by kernel_rfl
theorem ty_22 : tyP Try.prog 22 = some (1, 24, some (.slice none 0 0)) := by kernel_rfl
structure Raw1 where
  a : Value
  ok : oneCells [a] = true
instance : Inhabited Raw1 := ⟨⟨.nilIface, rfl⟩⟩
instance : Enc Raw1 := ⟨1, fun x => [x.a], fun _ => rfl, fun x => x.ok, by decide⟩
theorem raw1_cell {w : World} {b cap x : Nat} {u v0 v1 : Value} {h0 : oneCells [v0] = true} {h1 : oneCells [v1] = true} (h : RowE w (some ⟨b, 0, none⟩) b 0 cap ([⟨v0, h0⟩, ⟨v1, h1⟩] : List Raw1)) (hx : x < 2) (hu : ([v0, v1] : List Value)[x]? = some u) : w.cell? ⟨b, 0 + x * Enc.n Raw1, none⟩ = some u := by
  have h2 := (h.atD x (by show x < 2; exact hx)).cell 0 (v := u)
  match x, hx, hu with
  | 0, _, hu => exact h2 hu
  | 1, _, hu => exact h2 hu
theorem fmtT_valid {c : List Clas} (h : validC c = 0) : fmtT c = fmtC c := if_pos h

set_option maxRecDepth 20000 in
set_option maxHeartbeats 1000000 in
theorem iformats_law {ao : Option Addr} {b off cap : Nat} {c : List Clas} {aol : Option Addr} {bl offl capl : Nat} {l : List Int} {w0 : World} (hc : RowR w0 ao b off cap c) (hl : RowE w0 aol bl offl capl l) :
    Calls Try.prog 11 #[.slice ao c.length cap, .slice aol l.length capl] w0 fun e w' => e = .returned (.bool true) ∧ Evo w0 w' [] := by
 refine calls_enter (n := 80) (args := [.slice ao c.length cap, .slice aol l.length capl]) Try.func11 rfl Try.ntmps11 rfl ?_
 have hV : Evo w0 w0 [] := Evo.refl _ _
 have hc0 := hc.keep
 have hbd_hc := hc.bd
 have hl0 := keepE hl
 have hbd_hl := hl.bd
 refine r_seq ?_
 refine r_region ?_
 refine r_op rfl rfl rfl (run_asg (v := .bool _) rfl (by exact rfl)) ?_
 refine r_nil ?_
 refine r_seq ?_
 refine r_seq ?_
 refine r_region ?_
 refine r_op rfl rfl rfl (run_mv (v := .slice _ _ _) rfl (by exact rfl)) ?_
 refine r_bslice (pv := [(0, .slice _ _ _)]) (zs := [_]) (cs := [_]) Try.underlying101 ty_23 (by exact rfl) rfl (by exact rfl) rfl (by exact rfl) ?_
 intro b1 w2 heb1 hEw2 hbb1 hzb1
 have hs_w2 := (hEw2).size
 replace hV := evo_step0 hV hEw2
 replace hc := hc0.now hV
 replace hl := hl0 _ hV
 have hAb1 := hbb1.at
 have hrb1 : RowR w2 (some ⟨b1, 0, none⟩) b1 0 1 ([l] : List (List Int)) := rowLitR [[_]] ([l] : List (List Int)) hbb1 rfl (RepL.one (sl_rep hl)) rfl
 refine r_opcall rfl rfl rfl (run_callf (vs := [.slice (some ⟨b1, 0, none⟩) _ _]) rfl (by exact rfl) Try.func21 rfl (by kernel_rfl)) (long_calls hrb1 (by simp only [List.flatten_cons, List.flatten_nil, List.append_nil]; omega)) ?_
 rintro e w3 ⟨rfl, hE3⟩
 refine ⟨_, rfl, ?_⟩
 have hs_w3 := (hE3).size
 replace hV := evo_step0 hV hE3
 replace hc := hc0.now hV
 replace hl := hl0 _ hV
 replace hrb1 := hrb1.evo0 hE3
 refine r_op rfl rfl rfl (run_mvb rfl (by exact rfl)) ?_
 refine r_g rfl (wantF (by exact rfl)) rfl (fun hg => run_mv (v := .slice _ _ _) rfl (by exact rfl)) ?_
 refine r_gcallB rfl (wantF (by exact rfl)) rfl (fun hg => run_callf rfl (argcons (v := .slice _ _ _) (glv (by exact rfl) (fun h => h) hg) (rfl)) Try.func22 rfl (by kernel_rfl)) (fun hg => (bigx_calls hc)) ?_
 intro gx6 w4 hgx6 hE5
 have hs_w4 := (hE5).size
 replace hV := evo_step0 hV hE5
 replace hc := hc0.now hV
 replace hl := hl0 _ hV
 replace hrb1 := hrb1.evo0 hE5
 refine r_op rfl rfl rfl (run_pick_or rfl (by exact rfl) rfl (fun hq => glv (by exact rfl) (fun h => h) hq)) ?_
 refine r_nil ?_
 refine r_cond (by exact rfl) (fun hc7 => ?_) (fun hc7 => ?_)
 ·skip
  refine r_seq ?_
  refine r_region ?_
  refine r_opcall rfl rfl rfl (run_callf (vs := []) rfl (by exact rfl) Try.func23 rfl (by kernel_rfl)) known_calls ?_
  rintro e w8 ⟨rfl, hE8⟩
  refine ⟨_, rfl, ?_⟩
  have hs_w8 := (hE8).size
  replace hV := evo_step0 hV hE8
  replace hc := hc0.now hV
  replace hl := hl0 _ hV
  replace hrb1 := hrb1.evo0 hE8
  refine r_op rfl rfl rfl (run_asg (v := .bool _) rfl (by exact rfl)) ?_
  refine r_nil ?_
  refine r_ret (res1 (v := .bool _) rfl (by exact rfl)) ?_
  first | exact ⟨rfl, hV⟩ | exact absurd hc7 (by simp) | exact ⟨ret_bool (by simp), hV⟩
 ·skip
  refine r_skip ?_
  refine r_seq ?_
  refine r_region ?_
  refine r_op rfl rfl rfl (run_mv (v := .slice _ _ _) rfl (by exact rfl)) ?_
  refine r_opcall rfl rfl rfl (run_callf (vs := [.slice _ _ _]) rfl (by exact rfl) Try.func25 rfl (by kernel_rfl)) from_calls ?_
  rintro e w9 ⟨bs9, rfl, hbs9, hE9, hbn9, hbA9⟩
  refine ⟨_, rfl, ?_⟩
  have hs_w9 := (hE9).size
  replace hV := evo_step0 hV hE9
  replace hc := hc0.now hV
  replace hl := hl0 _ hV
  replace hrb1 := hrb1.evo0 hE9
  refine r_opcall rfl rfl rfl (run_callf (vs := [.pointer _, .int _ _]) rfl (by exact rfl) Try.func24 rfl (by kernel_rfl)) (classes_calls (N := 0) (show Blk _ _ _ [_, .int .i64 ((0 : Nat) : Int)] from hbn9) (fun w9 h9 => hl0 _ (evo_step1 hV h9 (.inl (by omega)))) (by omega) (by omega) (by omega)) ?_
  rintro e w10 ⟨vc10, cl10, mc10, Nc10, rfl, hMC10, hNc10, hE10, hn10, hoC10⟩
  refine ⟨_, rfl, ?_⟩
  have hs_w10 := (hE10).size
  replace hV := evo_step1 hV hE10 (by first | exact .inl (by omega) | exact .inr (by simp))
  replace hc := hc0.now hV
  replace hl := hl0 _ hV
  replace hbn9 := hn10
  clear hn10
  have hbA9 := hbn9.at
  refine r_op rfl rfl rfl (run_asg (v := vc10) rfl (by exact rfl)) ?_
  refine r_nil ?_
  refine r_seq ?_
  refine r_seq ?_
  have hI11 : Evo w10 w10 [] := Evo.refl _ _
  obtain ⟨ao12, g12, cp12, hv12, hr12⟩ := hoC10.rowOf
  subst hv12
  have hbd_hr12 := hr12.bd
  have hr120 := hr12.keep
  have hvm : validC cl10 = 0 := made_valid hMC10.1 (by omega)
  have hft := fmtT_len c; have hfm := fmtT_len cl10
  refine r_region ?_
  refine r_op rfl rfl rfl (run_mv (v := .slice _ _ _) rfl (by exact rfl)) ?_
  refine r_op rfl rfl rfl (run_mv (v := .slice _ _ _) rfl (by exact rfl)) ?_
  refine r_bslice (pv := [(0, .slice _ _ _), (1, .slice _ _ _)]) (zs := [_]) (cs := [_, _]) Try.underlying61 ty_22 (by exact rfl) rfl (by exact rfl) rfl (by exact rfl) ?_
  intro b13 w14 heb13 hEw14 hbb13 hzb13
  have hs_w14 := (hEw14).size
  replace hV := evo_step0 hV hEw14
  replace hI11 := evo_step0 hI11 hEw14
  replace hc := hc0.now hV
  replace hl := hl0 _ hV
  replace hoC10 := hoC10.evo0 hEw14
  replace hr12 := hr120.now hI11
  have hAb13 := hbb13.at
  have hrb13 : RowE w14 (some ⟨b13, 0, none⟩) b13 0 2 ([⟨(.slice ao c.length cap), rfl⟩, ⟨(.slice ao12 cl10.length cp12), rfl⟩] : List Raw1) := rowLit ([⟨(.slice ao c.length cap), rfl⟩, ⟨(.slice ao12 cl10.length cp12), rfl⟩] : List Raw1) hbb13 rfl rfl
  refine r_op rfl rfl rfl (run_lenSl rfl (by exact rfl) Try.underlying61) ?_
  refine r_op rfl rfl rfl (run_mv (v := .int _ _) rfl (by exact rfl)) ?_
  refine r_nil ?_
  refine r_block ?_
  have hI15 : Evo w14 w14 [] := Evo.refl _ _
  have hrb130 := keepE hrb13
  have hpr := pair2 (Q := fun _ : List Clas => True) hc hr12 trivial trivial
  refine r_loop (α := Nat) [4, 7, 8, 9, 10, 11, 32, 33, 34, 35, 36, 37, 38, 39, 40, 41, 42, 43, 44, 45, 46, 47, 48, 49, 50, 51, 52, 53, 54] (fun x g w => g 32 = .int .i64 (x : Nat) ∧ x ≤ 2 ∧ w14.heap.size ≤ w.heap.size ∧ Evo w0 w [] ∧ Evo w10 w [] ∧ Evo w14 w []) (fun x => 2 - x) 0 ?_ ?_
  ·refine ⟨(by first | exact rfl | exact congrArg (Value.int _) (by omega) | exact congrArg (Value.int _) (by dsimp only; omega) | exact congrArg (Value.int _) (by simp) | exact congrArg S (by simp)), (by first | assumption | omega | (dsimp only; omega) | (simp; done)), (by first | assumption | omega | (dsimp only; omega) | (simp; done)), hV, hI11, hI15⟩
  ·rintro x g w17 ⟨hj18, hk_x, hzl16, hV, hI11, hI15⟩
   have hs_w17hV := hV.size
   have hs_w17hI11 := hI11.size
   have hs_w17hI15 := hI15.size
   replace hc := hc0.now hV
   replace hl := hl0 _ hV
   replace hr12 := hr120.now hI11
   replace hrb13 := hrb130 _ hI15
   refine r_know (i := 32) (v := .int .i64 (x : Nat)) (by exact hj18) ?_
   refine r_seq ?_
   refine r_region ?_
   refine r_op rfl rfl rfl (run_lss rfl (by exact rfl) (by exact rfl)) ?_
   refine r_nil ?_
   refine r_seq ?_
   refine r_cond (by exact rfl) (fun hc19 => ?_) (fun hc19 => ?_)
   ·skip
    refine r_skip ?_
    refine r_seq ?_
    refine r_block ?_
    refine r_seq ?_
    obtain ⟨aoX, bX, oX, cX, lX, hcs, hLX00, _⟩ := hpr x (by omega)
    have hLX0 := hLX00.keep; have hLX := hLX0.now hI15; have hbd_hLX := hLX.bd
    have hfX := fmtT_len lX
    refine r_region ?_
    refine r_op rfl rfl rfl (run_ix (x) rfl Try.underlying61 ty_22 (by exact rfl) (by exact rfl) (by first | exact rfl | omega) (by show _ < 2; omega) (hrb13.addr (i := x) (by show _ < 2; omega))) ?_
    have hA200 := fun (w' : World) (h : Evo w14 w' []) => (hrb130 w' h).atD (x) (by show _ < 2; omega)
    have hA20 := hA200 _ hI15
    refine r_op rfl rfl rfl (run_ld1 rfl ag_22 (by exact rfl) (raw1_cell hrb13 (by omega) hcs)) ?_
    refine r_op rfl rfl rfl (run_asg (v := .slice _ _ _) rfl (by exact rfl)) ?_
    refine r_nil ?_
    refine r_seq ?_
    refine r_region ?_
    refine r_op rfl rfl rfl (run_mv (v := .slice _ _ _) rfl (by exact rfl)) ?_
    refine r_opcall rfl rfl rfl (run_callf (vs := [.slice _ _ _]) rfl (by exact rfl) Try.func41 rfl (by kernel_rfl)) (format_calls hLX) ?_
    rintro e w21 ⟨rfl, hE21⟩
    refine ⟨_, rfl, ?_⟩
    have hs_w21 := (hE21).size
    replace hV := evo_step0 hV hE21
    replace hI11 := evo_step0 hI11 hE21
    replace hI15 := evo_step0 hI15 hE21
    replace hc := hc0.now hV
    replace hl := hl0 _ hV
    replace hr12 := hr120.now hI11
    replace hrb13 := hrb130 _ hI15
    replace hLX := hLX0.now hI15
    refine r_op rfl rfl rfl (run_mv (v := .tuple _) rfl (by exact rfl)) ?_
    refine r_op rfl rfl rfl (run_extract (v := S _) rfl (by exact rfl) (by exact rfl)) ?_
    refine r_op rfl rfl rfl (run_extract (v := .int _ _) rfl (by exact rfl) (by exact rfl)) ?_
    refine r_op rfl rfl rfl (run_asg (v := S _) rfl (by exact rfl)) ?_
    refine r_op rfl rfl rfl (run_asg (v := .int _ _) rfl (by exact rfl)) ?_
    refine r_nil ?_
    refine r_seq ?_
    refine r_region ?_
    refine r_op rfl rfl rfl (run_mv (v := .slice _ _ _) rfl (by exact rfl)) ?_
    refine r_opcall rfl rfl rfl (run_callf (vs := [.slice _ _ _]) rfl (by exact rfl) Try.func39 rfl (by kernel_rfl)) (rformat_calls hLX) ?_
    rintro e w22 ⟨rfl, hE22⟩
    refine ⟨_, rfl, ?_⟩
    have hs_w22 := (hE22).size
    replace hV := evo_step0 hV hE22
    replace hI11 := evo_step0 hI11 hE22
    replace hI15 := evo_step0 hI15 hE22
    replace hc := hc0.now hV
    replace hl := hl0 _ hV
    replace hr12 := hr120.now hI11
    replace hrb13 := hrb130 _ hI15
    replace hLX := hLX0.now hI15
    refine r_op rfl rfl rfl (run_mv (v := .tuple _) rfl (by exact rfl)) ?_
    refine r_op rfl rfl rfl (run_extract (v := S _) rfl (by exact rfl) (by exact rfl)) ?_
    refine r_op rfl rfl rfl (run_extract (v := .int _ _) rfl (by exact rfl) (by exact rfl)) ?_
    refine r_op rfl rfl rfl (run_asg (v := S _) rfl (by exact rfl)) ?_
    refine r_op rfl rfl rfl (run_asg (v := .int _ _) rfl (by exact rfl)) ?_
    refine r_nil ?_
    refine r_seq ?_
    refine r_region ?_
    refine r_op rfl rfl rfl (run_mv (v := S _) rfl (by exact rfl)) ?_
    refine r_op rfl rfl rfl (run_mv (v := S _) rfl (by exact rfl)) ?_
    refine r_op rfl rfl rfl (run_sneq rfl (by exact rfl) (by exact rfl)) ?_
    refine r_op rfl rfl rfl (run_mv (v := .bool _) rfl (by exact rfl)) ?_
    refine r_gyes rfl (wantF (by exact rfl)) (by exact (fun h => h rfl)) ?_
    refine r_op rfl rfl rfl (run_mv (v := .int _ _) rfl (by exact rfl)) ?_
    refine r_gyes rfl (wantF (by exact rfl)) (by exact (fun h => h rfl)) ?_
    refine r_op rfl rfl rfl (run_mv (v := .int _ _) rfl (by exact rfl)) ?_
    refine r_gyes rfl (wantF (by exact rfl)) (by exact (fun h => h rfl)) ?_
    refine r_op rfl rfl rfl (run_neq rfl (by exact rfl) (by exact rfl)) ?_
    refine r_op rfl rfl rfl (run_pick_or rfl (by exact rfl) rfl (fun _ => (by exact rfl))) ?_
    refine r_nil ?_
    refine r_cond (by exact rfl) (fun hc23 => ?_) (fun hc23 => ?_)
    ·skip
     refine r_seq ?_
     refine r_region ?_
     refine r_op rfl rfl rfl (run_asg (v := .bool _) rfl (by exact rfl)) ?_
     refine r_nil ?_
     refine r_ret (res1 (v := .bool _) rfl (by exact rfl)) ?_
     first | exact ⟨rfl, hV⟩ | exact absurd hc23 (by simp) | exact ⟨ret_bool (by simp), hV⟩
    ·skip
     refine r_skip ?_
     refine r_blk ?_
     refine r_region ?_
     refine r_op rfl rfl rfl (run_add rfl (by exact rfl) (by exact rfl) (by omega) (by omega)) ?_
     refine r_op rfl rfl rfl (run_mv (v := .int _ _) rfl (by exact rfl)) ?_
     refine r_nil ?_
     refine r_again (x + 1) ?_ ?_ ?_
     ·first | omega | (dsimp only; omega)
     ·refine ⟨(by first | exact rfl | exact congrArg (Value.int _) (by omega) | exact congrArg (Value.int _) (by dsimp only; omega) | exact congrArg (Value.int _) (by simp) | exact congrArg S (by simp)), (by first | assumption | omega | (dsimp only; omega) | (simp; done)), (by first | assumption | omega | (dsimp only; omega) | (simp; done)), hV, hI11, hI15⟩
     ·repeat (first | (with_reducible exact Agree.merge _ _ _) | (with_reducible exact Agree.refl _ _) | (with_reducible refine Agree.upd ?_ _ _ rfl) | ((with_reducible refine Agree.inner ?_ ?_); (kernel_rfl)))
   ·skip
    refine r_exit rfl ?_
    refine r_seq ?_
    refine r_region ?_
    refine r_op rfl rfl rfl (run_mv (v := .slice _ _ _) rfl (by exact rfl)) ?_
    refine r_opcall rfl rfl rfl (run_callf (vs := [.slice _ _ _]) rfl (by exact rfl) Try.func41 rfl (by kernel_rfl)) (format_calls hr12) ?_
    rintro e w24 ⟨rfl, hE24⟩
    refine ⟨_, rfl, ?_⟩
    have hs_w24 := (hE24).size
    replace hV := evo_step0 hV hE24
    replace hI11 := evo_step0 hI11 hE24
    replace hI15 := evo_step0 hI15 hE24
    replace hc := hc0.now hV
    replace hl := hl0 _ hV
    replace hr12 := hr120.now hI11
    replace hrb13 := hrb130 _ hI15
    refine r_op rfl rfl rfl (run_mv (v := .tuple _) rfl (by exact rfl)) ?_
    refine r_op rfl rfl rfl (run_extract (v := S _) rfl (by exact rfl) (by exact rfl)) ?_
    refine r_op rfl rfl rfl (run_extract (v := .int _ _) rfl (by exact rfl) (by exact rfl)) ?_
    refine r_op rfl rfl rfl (run_asg (v := S _) rfl (by exact rfl)) ?_
    refine r_op rfl rfl rfl (run_asg (v := .int _ _) rfl (by exact rfl)) ?_
    refine r_nil ?_
    refine r_seq ?_
    refine r_know (i := 12) (v := S (fmtT cl10)) rfl ?_
    refine r_region ?_
    refine r_op rfl rfl rfl (run_mv (v := S _) rfl (by exact rfl)) ?_
    refine r_opcall rfl rfl rfl (run_callf (vs := [S _]) rfl (by exact rfl) Try.func37 rfl (by kernel_rfl)) (parse_calls (by omega)) ?_
    rintro e w25 ⟨va25, rfl, hE25, aoP25, gP25, cpP25, rfl, hrP25⟩
    refine ⟨_, rfl, ?_⟩
    have hs_w25 := (hE25).size
    replace hV := evo_step0 hV hE25
    replace hI11 := evo_step0 hI11 hE25
    replace hI15 := evo_step0 hI15 hE25
    replace hc := hc0.now hV
    replace hl := hl0 _ hV
    replace hr12 := hr120.now hI11
    replace hrb13 := hrb130 _ hI15
    refine r_op rfl rfl rfl (run_mv (v := .tuple _) rfl (by exact rfl)) ?_
    refine r_op rfl rfl rfl (run_extract (v := .slice _ _ _) rfl (by exact rfl) (by exact rfl)) ?_
    refine r_op rfl rfl rfl (run_extract (v := .int _ _) rfl (by exact rfl) (by exact rfl)) ?_
    refine r_op rfl rfl rfl (run_extract (v := .int _ _) rfl (by exact rfl) (by exact rfl)) ?_
    refine r_op rfl rfl rfl (run_asg (v := .slice _ _ _) rfl (by exact rfl)) ?_
    refine r_op rfl rfl rfl (run_asg (v := .int _ _) rfl (by exact rfl)) ?_
    refine r_op rfl rfl rfl (run_asg (v := .int _ _) rfl (by exact rfl)) ?_
    refine r_nil ?_
    refine r_seq ?_
    have hpn : parseT (fmtT cl10) = (cl10, 0, 0) := by rw [fmtT_valid hvm]; exact parse_fmt hvm
    have hpn1 := congrArg Prod.fst hpn; have hpn2 := congrArg (fun q => q.2.1) hpn; have hpn3 := congrArg (fun q => q.2.2) hpn; have hrQ := row_at hrP25 hpn1
    refine r_know (i := 14) (v := .slice aoP25 (cl10).length cpP25) (congrArg (fun q => Value.slice aoP25 q cpP25) (congrArg List.length hpn1)) ?_
    refine r_know (i := 15) (v := .int .i64 0) (congrArg (Value.int _) hpn2) ?_
    refine r_know (i := 16) (v := .int .i64 0) (congrArg (Value.int _) hpn3) ?_
    refine r_region ?_
    refine r_op rfl rfl rfl (run_mv (v := .int _ _) rfl (by exact rfl)) ?_
    refine r_op rfl rfl rfl (run_eql rfl (by exact rfl) (by exact rfl)) ?_
    refine r_op rfl rfl rfl (run_mv (v := .bool _) rfl (by exact rfl)) ?_
    refine r_gyes rfl (wantT (by exact rfl)) (by exact (by simp)) ?_
    refine r_op rfl rfl rfl (run_mv (v := .int _ _) rfl (by exact rfl)) ?_
    refine r_gyes rfl (wantT (by exact rfl)) (by exact (by simp)) ?_
    refine r_op rfl rfl rfl (run_eql rfl (by exact rfl) (by exact rfl)) ?_
    refine r_op rfl rfl rfl (run_pick_and rfl (by exact rfl) (fun _ => (by exact rfl)) rfl) ?_
    refine r_op rfl rfl rfl (run_mv (v := .bool _) rfl (by exact rfl)) ?_
    refine r_gyes rfl (wantT (by exact rfl)) (by exact (by simp)) ?_
    refine r_op rfl rfl rfl (run_mv (v := .slice _ _ _) rfl (by exact rfl)) ?_
    refine r_gyes rfl (wantT (by exact rfl)) (by exact (by simp)) ?_
    refine r_op rfl rfl rfl (run_mv (v := .slice _ _ _) rfl (by exact rfl)) ?_
    refine r_gyes rfl (wantT (by exact rfl)) (by exact (by simp)) ?_
    refine r_opcall rfl rfl rfl (run_callf (vs := [.slice _ _ _, .slice _ _ _]) rfl (by exact rfl) Try.func38 rfl (by kernel_rfl)) (sameclasses_calls hr12 hrQ) ?_
    rintro e w26 ⟨rfl, hE26⟩
    refine ⟨_, rfl, ?_⟩
    have hs_w26 := (hE26).size
    replace hV := evo_step0 hV hE26
    replace hI11 := evo_step0 hI11 hE26
    replace hI15 := evo_step0 hI15 hE26
    replace hc := hc0.now hV
    replace hl := hl0 _ hV
    replace hr12 := hr120.now hI11
    replace hrb13 := hrb130 _ hI15
    replace hrQ := hrQ.evo0 hE26
    refine r_op rfl rfl rfl (run_pick_andB rfl (by exact rfl) (fun _ => (by exact rfl)) rfl) ?_
    refine r_op rfl rfl rfl (run_mv (v := .bool _) rfl (by exact rfl)) ?_
    refine r_gyes rfl (wantT (by exact rfl)) (by exact (by simp)) ?_
    refine r_opcall rfl rfl rfl (run_callf (vs := []) rfl (by exact rfl) Try.func23 rfl (by kernel_rfl)) known_calls ?_
    rintro e w27 ⟨rfl, hE27⟩
    refine ⟨_, rfl, ?_⟩
    have hs_w27 := (hE27).size
    replace hV := evo_step0 hV hE27
    replace hI11 := evo_step0 hI11 hE27
    replace hI15 := evo_step0 hI15 hE27
    replace hc := hc0.now hV
    replace hl := hl0 _ hV
    replace hr12 := hr120.now hI11
    replace hrb13 := hrb130 _ hI15
    replace hrQ := hrQ.evo0 hE27
    refine r_op rfl rfl rfl (run_pick_andB rfl (by exact rfl) (fun _ => (by exact rfl)) rfl) ?_
    refine r_op rfl rfl rfl (run_asg (v := .bool _) rfl (by exact rfl)) ?_
    refine r_nil ?_
    refine r_ret (res1 (v := .bool _) rfl (by exact rfl)) ?_
    first | exact ⟨rfl, hV⟩ | exact absurd hc19 (by simp) | exact ⟨ret_bool (by simp), hV⟩

end Go.Proofs.Ytomklacppmaljaa

