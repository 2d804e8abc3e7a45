/-
  Library, plain laws and walks that the statements reach (joined by a program out of smaller texts).
-/
import Derived.Test.YtkklomiipkipnaaGreatDoorUg
import Derived.Test.YtkklomiipkipnaaGreatDoorUk
import Derived.Test.YtkklomiipkipnaaGreatDoorIti
namespace Go.Proofs.YtkklomiipkipnaaGreatDoor
open Go Go.RowKit Go.Vc
def standsS (sp : List Spt) (k : Nat) : Bool := decide (∃ x ∈ sp, x.t = (k : Int))
def foundN (n : Nat) (sp : List Spt) : List Nat := (List.range n).filter (fun k => standsS sp k)
def natI (l : List Nat) : List Int := l.map Int.ofNat
theorem natI_len (l : List Nat) : (natI l).length = l.length := by unfold natI; rw [List.length_map]
theorem natI_get {l : List Nat} {k : Nat} (hk : k < l.length) : (natI l).getD k default = ((l.getD k default : Nat) : Int) := by
  unfold natI
  simp [List.getD, hk]
theorem natI_app (l : List Nat) (x : Nat) : natI (l ++ [x]) = natI l ++ [(x : Int)] := by unfold natI; rw [List.map_append]; rfl
theorem foundN_lt {n : Nat} {sp : List Spt} {k : Nat} (h : k ∈ foundN n sp) : k < n := List.mem_range.1 (List.mem_filter.1 h).1
theorem foundN_get {n : Nat} {sp : List Spt} {k : Nat} (h : k < (foundN n sp).length) : (foundN n sp).getD k default < n := foundN_lt (getD_in h)
theorem foundN_len (n : Nat) (sp : List Spt) : (foundN n sp).length ≤ n := by
  have := List.length_filter_le (fun k => standsS sp k) (List.range n)
  rw [List.length_range] at this; exact this
theorem foundN_sorted (n : Nat) (sp : List Spt) : (natI (foundN n sp)).Pairwise (fun a b => a < b) := by
  refine List.pairwise_map.2 ?_
  exact (List.pairwise_lt_range.filter _).imp (fun h => by show ((_ : Nat) : Int) < ((_ : Nat) : Int); omega)
def SeenI (m : List (Int × Unit)) (sp : List Spt) : Prop := (m.map (·.1)).Nodup ∧ ∀ x, x ∈ m.map (·.1) ↔ ∃ s ∈ sp, s.t = x
theorem setI_eq (m : List (Int × Unit)) (a : Int) : (setM m a ()).map (·.1) = if a ∈ m.map (·.1) then m.map (·.1) else m.map (·.1) ++ [a] := by
  unfold setM
  by_cases h : a ∈ m.map (·.1)
  · have h1 : m.any (fun p => decide (p.1 = a)) = true := by
      obtain ⟨p, hp, e⟩ := List.mem_map.1 h
      exact List.any_eq_true.2 ⟨p, hp, decide_eq_true e⟩
    rw [if_pos h, if_pos h1, List.map_map]
    refine List.map_congr_left (fun p _ => ?_)
    show (if p.1 = a then (a, ()) else p).1 = p.1
    split
    · rename_i e; exact e.symm
    · rfl
  · have h1 : ¬ m.any (fun p => decide (p.1 = a)) = true := fun q => by
      obtain ⟨p, hp, e⟩ := List.any_eq_true.1 q
      exact h (List.mem_map.2 ⟨p, hp, of_decide_eq_true e⟩)
    rw [if_neg h, if_neg h1, List.map_append]; rfl
theorem setI_keys (m : List (Int × Unit)) (a : Int) (h : (m.map (·.1)).Nodup) : ((setM m a ()).map (·.1)).Nodup ∧ ∀ x, x ∈ (setM m a ()).map (·.1) ↔ (x ∈ m.map (·.1) ∨ x = a) := by
  rw [setI_eq]
  by_cases h1 : a ∈ m.map (·.1)
  · rw [if_pos h1]
    exact ⟨h, fun x => ⟨.inl, fun q => q.elim id (fun e => e ▸ h1)⟩⟩
  · rw [if_neg h1]
    exact ⟨List.nodup_append.2 ⟨h, by simp, fun x hx y hy e => by rw [List.mem_singleton] at hy; exact h1 (by rw [← hy, ← e]; exact hx)⟩, fun x => by rw [List.mem_append, List.mem_singleton]⟩
theorem SeenI.nil : SeenI [] [] := ⟨by simp, fun x => by simp⟩
theorem SeenI.add {m : List (Int × Unit)} {sp : List Spt} (h : SeenI m sp) (x : Spt) : SeenI (setM m x.t ()) (sp ++ [x]) := by
  obtain ⟨h1, h2⟩ := setI_keys m x.t h.1
  refine ⟨h1, fun y => ?_⟩
  rw [h2, h.2]
  constructor
  · rintro (⟨s, hs, e⟩ | e)
    · exact ⟨s, List.mem_append.2 (.inl hs), e⟩
    · exact ⟨x, List.mem_append.2 (.inr (by simp)), e.symm⟩
  · rintro ⟨s, hs, e⟩
    rcases List.mem_append.1 hs with q | q
    · exact .inl ⟨s, q, e⟩
    · rw [List.mem_singleton] at q; exact .inr (by rw [← e, q])
theorem SeenI.mem {m : List (Int × Unit)} {sp : List Spt} (h : SeenI m sp) {n : Nat} (hb : ∀ s ∈ sp, 0 ≤ s.t ∧ s.t < (n : Int)) (x : Int) : x ∈ m.map (·.1) ↔ x ∈ natI (foundN n sp) := by
  rw [h.2]
  unfold natI foundN
  constructor
  · rintro ⟨s, hs, e⟩
    have := hb s hs
    exact List.mem_map.2 ⟨x.toNat, List.mem_filter.2 ⟨List.mem_range.2 (by omega), by unfold standsS; exact decide_eq_true ⟨s, hs, by omega⟩⟩, by show ((_ : Nat) : Int) = x; omega⟩
  · intro h9
    obtain ⟨k, hk, e⟩ := List.mem_map.1 h9
    obtain ⟨s, hs, e2⟩ := of_decide_eq_true (List.mem_filter.1 hk).2
    exact ⟨s, hs, by rw [e2]; exact e⟩
theorem SeenI.len {m : List (Int × Unit)} {sp : List Spt} (h : SeenI m sp) {n : Nat} (hb : ∀ s ∈ sp, 0 ≤ s.t ∧ s.t < (n : Int)) : m.length ≤ n := by
  have hp := ((List.perm_ext_iff_of_nodup h.1 ((foundN_sorted n sp).imp (fun {a b} h e => by omega))).2 (h.mem hb)).length_eq
  rw [List.length_map, natI_len] at hp
  have := foundN_len n sp
  omega
theorem SeenI.wf {m : List (Int × Unit)} {sp : List Spt} (h : SeenI m sp) {n : Nat} (hn : n ≤ 9000000000000000) (hb : ∀ s ∈ sp, 0 ≤ s.t ∧ s.t < (n : Int)) : ∀ p ∈ m, (Lit.int .i64 p.1).wf = true := fun p hp => by
  obtain ⟨s, hs, e⟩ := (h.2 p.1).1 (List.mem_map.2 ⟨p, hp, rfl⟩)
  have h2 := hb s hs
  rw [e] at h2
  show (decide (_ ≤ _) && decide (_ ≤ _)) = true
  rw [Bool.and_eq_true, decide_eq_true_eq, decide_eq_true_eq]
  show (-9223372036854775808 : Int) ≤ p.1 ∧ p.1 ≤ 9223372036854775807
  omega
theorem SeenI.sorted {m : List (Int × Unit)} {sp : List Spt} (h : SeenI m sp) {n : Nat} (hb : ∀ s ∈ sp, 0 ≤ s.t ∧ s.t < (n : Int)) : sortI (m.map (·.1)) = natI (foundN n sp) := sortI_eq h.1 (foundN_sorted n sp) (h.mem hb)
section
variable (l : List Vc.Item) (fs : List (List (List Str)))
theorem spotsG_bd : ∀ (n i : Nat), ∀ s ∈ spotsG l fs n i, 0 ≤ s.t ∧ s.t < (fs.length : Int) ∧ (i : Int) ≤ s.fr ∧ s.fr < s.to ∧ s.to ≤ (l.length : Int)
  | 0, i, s, h => by cases h
  | n + 1, i, s, h => by
    rcases Nat.lt_or_ge i l.length with hi | hi
    · unfold spotsG at h
      cases hb : bestK l fs i fs.length with
      | none =>
        rw [hb] at h
        have := spotsG_bd n (i + 1) s h
        omega
      | some q =>
        rw [hb] at h
        have h3 := best_bd l fs hi _ _ hb
        rcases List.mem_cons.1 h with rfl | h
        · show 0 ≤ (q.1 : Int) ∧ (q.1 : Int) < _ ∧ (i : Int) ≤ (i : Int) ∧ (i : Int) < q.2 ∧ q.2 ≤ _
          omega
        · have := spotsG_bd n q.2.toNat s h
          omega
    · rw [spotsG_out l fs _ i hi] at h; cases h
theorem spots_bd {i : Nat} : ∀ s ∈ spotsF l fs i, 0 ≤ s.t ∧ s.t < (fs.length : Int) ∧ (i : Int) ≤ s.fr ∧ s.fr < s.to ∧ s.to ≤ (l.length : Int) := spotsG_bd l fs _ i
theorem spots_len : ∀ (n i : Nat), (spotsG l fs n i).length ≤ l.length - i
  | 0, i => by simp [spotsG]
  | n + 1, i => by
    rcases Nat.lt_or_ge i l.length with hi | hi
    · unfold spotsG
      cases hb : bestK l fs i fs.length with
      | none => have := spots_len n (i + 1); show (spotsG l fs n (i + 1)).length ≤ _; omega
      | some q =>
        have h3 := best_bd l fs hi _ _ hb
        have := spots_len n q.2.toNat
        show ((⟨_, _, _⟩ : Spt) :: spotsG l fs n q.2.toNat).length ≤ _
        rw [List.length_cons]; omega
    · rw [spotsG_out l fs _ i hi]; simp
end
variable (tg : List Vc.Item) (ts : List TermL)
def missT (x : TermL) : Bool := !(x.req.isEmpty) && !(x.req.any (fun s => hasB s tg))
def missN (ks : List Nat) : List Nat := ks.filter (fun k => missT tg (ts.getD k default))
theorem missN_yes {ks : List Nat} {k : Nat} (hk : k < ks.length) (h : missT tg (ts.getD (ks.getD k default) default) = true) : missN tg ts (ks.take (k + 1)) = missN tg ts (ks.take k) ++ [ks.getD k default] := by
  unfold missN; rw [take_succD ks k hk, List.filter_append, List.filter_cons, if_pos h]; rfl
theorem missN_no {ks : List Nat} {k : Nat} (hk : k < ks.length) (h : missT tg (ts.getD (ks.getD k default) default) = false) : missN tg ts (ks.take (k + 1)) = missN tg ts (ks.take k) := by
  unfold missN; rw [take_succD ks k hk, List.filter_append, List.filter_cons, if_neg (by rw [h]; decide)]; simp
theorem missN_len (ks : List Nat) : (missN tg ts ks).length ≤ ks.length := List.length_filter_le _ _
end Go.Proofs.YtkklomiipkipnaaGreatDoor
namespace Go.Proofs.YtkklomiipkipnaaGreatDoor
open Go.RowKit Go.Vc
theorem keysi_calls {w : World} {b : Nat} : Calls Tryz.prog 77 #[.map (some b)] w fun e w' => e = .returned (.func (.func 98) #[] #[.pointer (some ⟨w.heap.size, 0, none⟩)]) ∧ Evo w w' [] ∧ w' = w.alloc (.cells #[.map (some b)] 119) :=
  (callsIn_wide.1 (Tryz.maps_Keys_77 (some b) w)).mono fun e w' ⟨h1, h2⟩ => ⟨h1, by subst h2; exact evo_below (Below.refl _ _ |>.alloc (Nat.le_refl _) _), h2⟩
theorem sortedi_calls {w w1 : World} {b : Nat} {β : Type} {ev : β → Value} {m : List (Int × β)} (hm : MapIs w b (Value.int .i64) ev m) (hk : w1 = w.alloc (.cells #[.map (some b)] 119)) (hl : ∀ p ∈ m, (Lit.int .i64 p.1).wf = true) (hb : m.length * 8 ≤ 140737488355328) :
    Calls Tryz.prog 76 #[.func (.func 98) #[] #[.pointer (some ⟨w.heap.size, 0, none⟩)]] w1 fun e w' => ∃ v, e = .returned v ∧ Evo w1 w' [] ∧ OwnE w' w1.heap.size 3 v (sortI (m.map (·.1))) := by
  subst hk
  obtain ⟨D, hD, hz, hp⟩ := map_ownsI (P := Tryz.prog) (K := 3) Tryz.underlying3 hm (by unfold maxLen; omega) hl
  refine (callsIn_wide.1 (Tryz.slices_Sorted_keys_76_77 b m.length D R0 w hD (by rw [hz]; unfold maxLen; omega) (by rw [hz]; exact hb))).mono ?_
  rintro e w' ⟨v, ss, rfl, hS, hrow, _, hbl⟩
  have hlen : ss.length = m.length := by have := (hS.trans hp).length_eq; simpa using this
  have hst : sortI (m.map (·.1)) = ss.mergeSort (fun x y => decide (x ≤ y)) := (mergeSort_of_perm_i (hS.trans hp)).symm
  refine ⟨v, rfl, evo_below hbl, ?_⟩
  rw [hst]
  exact OwnE.of1 (enc1 := encZ) rfl (fun _ => rfl) (by simp; omega) (by rw [show (ss.mergeSort (fun x y => decide (x ≤ y))).length = ss.length from by simp]; exact hrow)
set_option maxHeartbeats 1000000 in
theorem found_calls {aot : Option Addr} {btt offt capt : Nat} {ts : List TermL} {ao : Option Addr} {b off cap : Nat} {c : List Clas} {aol : Option Addr} {bl offl capl : Nat} {l : List Vc.Item} {w0 : World} (ht : RowR w0 aot btt offt capt ts) (hc : RowR w0 ao b off cap c) (hl : RowE w0 aol bl offl capl l) (hq : ∀ x ∈ l, x.text.length ≤ 140737488355328) (hzl : l.length ≤ 4398046510976) (hzt : ts.length ≤ 1954687338760) :
    Calls Tryz.prog 47 #[.slice aot ts.length capt, .slice ao c.length cap, .slice aol l.length capl] w0 fun e w' => ∃ v, e = .returned v ∧ Evo w0 w' [] ∧ OwnE w' w0.heap.size 3 v (natI (foundN ts.length (spotsF l (fsT c ts) 0))) := by
 refine calls_enter (n := 28) (args := [.slice aot ts.length capt, .slice ao c.length cap, .slice aol l.length capl]) Tryz.func47 rfl Tryz.ntmps47 rfl ?_
 have hV : Evo w0 w0 [] := Evo.refl _ _
 have ht0 := ht.keep
 have hbd_ht := ht.bd
 have hc0 := hc.keep
 have hbd_hc := hc.bd
 have hl0 := keepE hl
 have hbd_hl := hl.bd
 refine r_seq ?_
 refine r_region ?_
 refine r_op rfl rfl rfl (run_asg (v := .slice _ _ _) rfl (by exact rfl)) ?_
 refine r_nil ?_
 refine r_seq ?_
 refine r_region ?_
 refine r_makeMap (α := Int) (β := Unit) (Value.int .i64) eU rfl ?_
 intro b1 w2 heb1 hEw2 hmb1 hzb1
 have hs_w2 := (hEw2).size
 replace hV := evo_step0 hV hEw2
 replace ht := ht0.now hV
 replace hc := hc0.now hV
 replace hl := hl0 _ hV
 refine r_op rfl rfl rfl (run_asg (v := .map _) rfl (by exact rfl)) ?_
 refine r_nil ?_
 refine r_seq ?_
 refine r_seq ?_
 refine r_region ?_
 refine r_op rfl rfl rfl (run_mv (v := .slice _ _ _) rfl (by exact rfl)) ?_
 refine r_op rfl rfl rfl (run_mv (v := .slice _ _ _) rfl (by exact rfl)) ?_
 refine r_op rfl rfl rfl (run_mv (v := .slice _ _ _) rfl (by exact rfl)) ?_
 refine r_opcall rfl rfl rfl (run_callf (vs := [.slice _ _ _, .slice _ _ _, .slice _ _ _]) rfl (by exact rfl) Tryz.func16 rfl (by kernel_rfl)) (spots_calls ht hc hl hq hzl hzt) ?_
 rintro e w3 ⟨vS3, rfl, hE3, hoS3⟩
 refine ⟨_, rfl, ?_⟩
 have hs_w3 := (hE3).size
 replace hV := evo_step0 hV hE3
 replace ht := ht0.now hV
 replace hc := hc0.now hV
 replace hl := hl0 _ hV
 replace hmb1 := hmb1.evo0 hE3
 refine r_op rfl rfl rfl (run_lenOE rfl (by exact rfl) Tryz.underlying32 hoS3) ?_
 refine r_op rfl rfl rfl (run_mv (v := .int _ _) rfl (by exact rfl)) ?_
 refine r_nil ?_
 refine r_block ?_
 have hI4 : Evo w3 w3 [b1] := Evo.refl _ _
 obtain ⟨ao5, g5, cp5, hv5, hr5, hg5⟩ := hoS3.rowOf
 subst hv5
 have hr50 := fun w9 (h9 : Evo w3 w9 [b1]) => row_keep hr5 h9 (fun hne hm => by have h2 := (hg5 hne).2; simp at hm; omega)
 have hsl := spots_len l (fsT c ts) l.length 0; have hsl2 : (spotsF l (fsT c ts) 0).length ≤ l.length := hsl
 refine r_loop (α := Nat) [9, 16, 17, 18, 19, 20, 21, 22, 23, 24] (fun k g w => ∃ m : List (Int × Unit), g 16 = .int .i64 (k : Nat) ∧ k ≤ (spotsF l (fsT c ts) 0).length ∧ MapIs w b1 (Value.int .i64) eU m ∧ SeenI m ((spotsF l (fsT c ts) 0).take k) ∧ w3.heap.size ≤ w.heap.size ∧ Evo w0 w [] ∧ Evo w3 w [b1]) (fun k => (spotsF l (fsT c ts) 0).length - k) 0 ?_ ?_
 ·refine ⟨_, (by first | exact rfl | exact congrArg (Value.int _) (by omega) | exact congrArg (Value.int _) (by dsimp only; omega) | exact congrArg (Value.int _) (by simp) | exact congrArg S (by simp)), (by first | assumption | omega | (dsimp only; omega) | (simp; done)), hmb1, SeenI.nil, (by first | assumption | omega | (dsimp only; omega) | (simp; done)), hV, hI4⟩
 ·rintro k g w7 ⟨m, hj8, hk_k, hmb1, hks, hzl6, hV, hI4⟩
  have hs_w7hV := hV.size
  have hs_w7hI4 := hI4.size
  have hlt9 := hmb1.lt
  replace ht := ht0.now hV
  replace hc := hc0.now hV
  replace hl := hl0 _ hV
  replace hr5 := hr50 _ hI4
  refine r_know (i := 16) (v := .int .i64 (k : Nat)) (by exact hj8) ?_
  refine r_seq ?_
  refine r_region ?_
  refine r_op rfl rfl rfl (run_lss rfl (by exact rfl) (by exact rfl)) ?_
  refine r_nil ?_
  refine r_seq ?_
  refine r_cond (by exact rfl) (fun hc10 => ?_) (fun hc10 => ?_)
  ·skip
   refine r_skip ?_
   refine r_seq ?_
   refine r_block ?_
   refine r_seq ?_
   refine r_region ?_
   refine r_op rfl rfl rfl (run_ix (k) rfl Tryz.underlying32 ty_36 (by exact rfl) (by exact rfl) (by first | exact rfl | omega) (by omega) (hr5.addr (i := k) (by omega))) ?_
   have hA110 := fun (w' : World) (h : Evo w3 w' [b1]) => (hr50 w' h).atD (k) (by omega)
   have hA11 := hA110 _ hI4
   refine r_op rfl rfl rfl (run_ldN rfl ag_36 ty_36 (by exact rfl) rfl hA11) ?_
   refine r_var (zs := [_, _, _]) (vs := [_, _, _]) ty_36 (by exact rfl) rfl (by exact rfl) (fun _ => rfl) (by exact rfl) rfl rfl (by exact rfl) ?_
   intro b12 w13 heb12 hEw13 hbb12 hzb12
   have hs_w13 := (hEw13).size
   replace hV := evo_step0 hV hEw13
   replace hI4 := evo_step0 hI4 hEw13
   replace ht := ht0.now hV
   replace hc := hc0.now hV
   replace hl := hl0 _ hV
   replace hr5 := hr50 _ hI4
   replace hmb1 := hmb1.evo0 hEw13
   have hAb12 := hbb12.at
   refine r_nil ?_
   refine r_region ?_
   refine r_op rfl rfl rfl (run_mv (v := .map _) rfl (by exact rfl)) ?_
   refine r_op rfl rfl rfl (run_fa rfl (by exact rfl) fo_36_0) ?_
   refine r_op rfl rfl rfl (run_ld1 rfl ag_3 (by exact rfl) (hAb12.cell 0 (by exact rfl))) ?_
   refine r_op rfl rfl rfl (run_bld (pv := []) (zs := []) (cells := []) rfl ty_96 (by exact rfl) pl_96 (by exact rfl) (by exact rfl)) ?_
   refine r_mapset (a := _) (v := ()) (key_int Tryz.underlying3) Tryz.underlying119 (by exact rfl) (by exact rfl) (by exact rfl) hmb1 ?_
   intro w14 hEw14 hzw14 hm_new
   have hs_w14 := (hEw14).size
   replace hV := evo_step1 hV hEw14 (by first | exact .inl (by omega) | exact .inr (by simp))
   replace hI4 := evo_step1 hI4 hEw14 (by first | exact .inl (by omega) | exact .inr (by simp))
   replace ht := ht0.now hV
   replace hc := hc0.now hV
   replace hl := hl0 _ hV
   replace hr5 := hr50 _ hI4
   replace hmb1 := hm_new
   clear hm_new
   refine r_nil ?_
   refine r_blk ?_
   refine r_region ?_
   refine r_op rfl rfl rfl (run_add rfl (by exact rfl) (by exact rfl) (by omega) (by omega)) ?_
   refine r_op rfl rfl rfl (run_mv (v := .int _ _) rfl (by exact rfl)) ?_
   refine r_nil ?_
   refine r_again (k + 1) ?_ ?_ ?_
   ·first | omega | (dsimp only; omega)
   ·refine ⟨_, (by first | exact rfl | exact congrArg (Value.int _) (by omega) | exact congrArg (Value.int _) (by dsimp only; omega) | exact congrArg (Value.int _) (by simp) | exact congrArg S (by simp)), (by first | assumption | omega | (dsimp only; omega) | (simp; done)), hmb1, (by rw [take_succD _ k (by omega)]; exact hks.add _), (by first | assumption | omega | (dsimp only; omega) | (simp; done)), hV, hI4⟩
   ·repeat (first | (with_reducible exact Agree.merge _ _ _) | (with_reducible exact Agree.refl _ _) | (with_reducible refine Agree.upd ?_ _ _ rfl) | ((with_reducible refine Agree.inner ?_ ?_); (kernel_rfl)))
  ·skip
   refine r_exit rfl ?_
   refine r_seq ?_
   rw [List.take_of_length_le (by omega)] at hks; have hsb : ∀ s ∈ (spotsF l (fsT c ts) 0), 0 ≤ s.t ∧ s.t < (ts.length : Int) := fun s hs => by have h9 := spots_bd l (fsT c ts) s hs; rw [fsT_len] at h9; omega
   refine r_region ?_
   refine r_op rfl rfl rfl (run_mv (v := .map _) rfl (by exact rfl)) ?_
   have hmK := hmb1
   refine r_opcall rfl rfl rfl (run_callf (vs := [.map _]) rfl (by exact rfl) Tryz.func77 rfl (by kernel_rfl)) keysi_calls ?_
   rintro e w15 ⟨rfl, hE15, hky15⟩
   refine ⟨_, rfl, ?_⟩
   have hs_w15 := (hE15).size
   replace hV := evo_step0 hV hE15
   replace hI4 := evo_step0 hI4 hE15
   replace ht := ht0.now hV
   replace hc := hc0.now hV
   replace hl := hl0 _ hV
   replace hr5 := hr50 _ hI4
   replace hmb1 := hmb1.evo0 hE15
   refine r_opcall rfl rfl rfl (run_callf (vs := [.func _ _ _]) rfl (by exact rfl) Tryz.func76 rfl (by kernel_rfl)) (sortedi_calls hmK hky15 (hks.wf (by omega) hsb) (by have h9 := hks.len hsb; omega)) ?_
   rintro e w16 ⟨vs16, rfl, hE16, hsr16⟩
   refine ⟨_, rfl, ?_⟩
   have hs_w16 := (hE16).size
   replace hV := evo_step0 hV hE16
   replace hI4 := evo_step0 hI4 hE16
   replace ht := ht0.now hV
   replace hc := hc0.now hV
   replace hl := hl0 _ hV
   replace hr5 := hr50 _ hI4
   replace hmb1 := hmb1.evo0 hE16
   refine r_op rfl rfl rfl (run_asg (v := vs16) rfl (by exact rfl)) ?_
   refine r_nil ?_
   refine r_ret (res1 (v := vs16) rfl (by exact rfl)) ?_
   exact ⟨_, rfl, hV, by rw [← hks.sorted hsb]; exact hsr16.base_le (by omega)⟩
end Go.Proofs.YtkklomiipkipnaaGreatDoor
namespace Go.Proofs.YtkklomiipkipnaaGreatDoor
open Go.RowKit Go.Vc
theorem ag_24 : aggP Tryz.prog 24 = some false := by kernel_rfl
theorem fo_42_1 : fieldP Tryz.prog 42 1 = some 1 := by kernel_rfl
theorem ms_cond {tg : List Vc.Item} {x : TermL} (h : (0 : Int) < ((x.req.length : Nat) : Int) ∧ (!(x.req.any fun s => hasB s tg)) = true) : missT tg x = true := by
  unfold missT; rw [Bool.and_eq_true, Bool.not_eq_true', Bool.not_eq_true']; exact ⟨by cases h1 : x.req with | nil => rw [h1] at h; simp at h | cons a b => rfl, by simpa using h.2⟩
theorem ms_cond2 {tg : List Vc.Item} {x : TermL} (h : ¬ ((0 : Int) < ((x.req.length : Nat) : Int) ∧ (!(x.req.any fun s => hasB s tg)) = true)) : missT tg x = false := by
  rcases hm : missT tg x with _ | _
  · rfl
  · refine absurd ?_ h
    unfold missT at hm; rw [Bool.and_eq_true, Bool.not_eq_true', Bool.not_eq_true'] at hm; refine ⟨?_, by simpa using hm.2⟩
    cases h1 : x.req with | nil => rw [h1] at hm; exact absurd hm.1 (by decide) | cons a b => rw [List.length_cons]; omega
theorem any_yes {qs : List Str} {p : Str → Bool} {k : Nat} (hk : k < qs.length) (h : p (qs.getD k default) = true) : qs.any p = true := List.any_eq_true.2 ⟨_, getD_in hk, h⟩
theorem any_no {qs : List Str} {p : Str → Bool} (h : ∀ j, j < qs.length → ¬ p (qs.getD j default) = true) : ¬ qs.any p = true := fun q => by
  obtain ⟨x, hx, h2⟩ := List.any_eq_true.1 q
  obtain ⟨i, hi, rfl⟩ := List.mem_iff_getElem.1 hx
  exact h i hi (by rw [List.getD_eq_getElem?_getD, List.getElem?_eq_getElem hi]; exact h2)
theorem miss1_calls {aog : Option Addr} {bg offg capg : Nat} {tg : List Vc.Item} {m : Str} {bn : Nat} {w0 : World} (htg : RowE w0 aog bg offg capg tg) (hqg : ∀ x ∈ tg, x.text.length ≤ 140737488355328) (hzg : tg.length ≤ 4398046510976) (hn : Blk w0 bn 24 [.slice aog tg.length capg]) :
    Calls Tryz.prog 48 #[S m, .pointer (some ⟨bn, 0, none⟩)] w0 fun e w' => e = .returned (.bool (hasB m tg)) ∧ Evo w0 w' [] := by
 have hAn := hn.at; have hnlt := hn.lt
 refine calls_enter (n := 7) (args := [S m, .pointer (some ⟨bn, 0, none⟩)]) Tryz.func48 rfl Tryz.ntmps48 rfl ?_
 have hV : Evo w0 w0 [] := Evo.refl _ _
 have htg0 := keepE htg
 have hbd_htg := htg.bd
 refine r_seq ?_
 refine r_region ?_
 refine r_op rfl rfl rfl (run_asg (v := .bool _) rfl (by exact rfl)) ?_
 refine r_nil ?_
 refine r_seq ?_
 refine r_region ?_
 refine r_op rfl rfl rfl (run_mv (v := S _) rfl (by exact rfl)) ?_
 refine r_op rfl rfl rfl (run_ld1 rfl ag_24 (by exact rfl) (hAn.cell 0 (by exact rfl))) ?_
 refine r_opcall rfl rfl rfl (run_callf (vs := [S _, .slice aog tg.length capg]) rfl (by exact rfl) Tryz.func21 rfl (by kernel_rfl)) (has_calls htg hqg hzg) ?_
 rintro e w1 ⟨rfl, hE1⟩
 refine ⟨_, rfl, ?_⟩
 have hs_w1 := (hE1).size
 replace hV := evo_step0 hV hE1
 replace htg := htg0 _ hV
 replace hn := hn.evo0 hE1
 replace hAn := hAn.evo0 hE1
 refine r_op rfl rfl rfl (run_asg (v := .bool _) rfl (by exact rfl)) ?_
 refine r_nil ?_
 refine r_ret (res1 (v := .bool _) rfl (by exact rfl)) ?_
 exact ⟨rfl, hV⟩
theorem indexs_calls {aoq : Option Addr} {bq offq capq : Nat} {qs : List Str} {aog : Option Addr} {bg offg capg : Nat} {tg : List Vc.Item} {bn : Nat} {w0 : World} (hqs : RowE w0 aoq bq offq capq qs) (htg : RowE w0 aog bg offg capg tg) (hqg : ∀ x ∈ tg, x.text.length ≤ 140737488355328) (hzg : tg.length ≤ 4398046510976) (hn : Blk w0 bn 24 [.slice aog tg.length capg]) :
    Calls Tryz.prog 78 #[.slice aoq qs.length capq, .func (.func 48) #[] #[.pointer (some ⟨bn, 0, none⟩)]] w0 fun e w' => ∃ r : Int, e = .returned (.int .i64 r) ∧ Evo w0 w' [] ∧ (0 ≤ r ↔ qs.any (fun s => hasB s tg) = true) := by
 have hAn := hn.at; have hnlt := hn.lt
 refine calls_enter (n := 19) (args := [.slice aoq qs.length capq, .func (.func 48) #[] #[.pointer (some ⟨bn, 0, none⟩)]]) Tryz.func78 rfl Tryz.ntmps78 rfl ?_
 have hV : Evo w0 w0 [] := Evo.refl _ _
 have hqs0 := keepE hqs
 have hbd_hqs := hqs.bd
 have htg0 := keepE htg
 have hbd_htg := htg.bd
 refine r_seq ?_
 refine r_region ?_
 refine r_op rfl rfl rfl (run_asg (v := .int _ _) rfl (by exact rfl)) ?_
 refine r_nil ?_
 refine r_seq ?_
 refine r_seq ?_
 refine r_region ?_
 refine r_op rfl rfl rfl (run_mv (v := .slice _ _ _) rfl (by exact rfl)) ?_
 refine r_op rfl rfl rfl (run_lenSl rfl (by exact rfl) Tryz.underlying40) ?_
 refine r_op rfl rfl rfl (run_mv (v := .int _ _) rfl (by exact rfl)) ?_
 refine r_nil ?_
 refine r_block ?_
 refine r_loop (α := Nat) [4, 5, 8, 9, 10, 11, 12, 13, 14, 15, 16, 17, 18] (fun k g w => g 8 = .int .i64 (k : Nat) ∧ k ≤ qs.length ∧ Blk w bn 24 [.slice aog tg.length capg] ∧ (∀ j, j < k → ¬ hasB (qs.getD j default) tg = true) ∧ w0.heap.size ≤ w.heap.size ∧ Evo w0 w []) (fun k => qs.length - k) 0 ?_ ?_
 ·refine ⟨(by first | exact rfl | exact congrArg (Value.int _) (by omega) | exact congrArg (Value.int _) (by dsimp only; omega) | exact congrArg (Value.int _) (by simp) | exact congrArg S (by simp)), (by first | assumption | omega | (dsimp only; omega) | (simp; done)), hn, (fun j h => by omega), (by first | assumption | omega | (dsimp only; omega) | (simp; done)), hV⟩
 ·rintro k g w2 ⟨hj3, hk_k, hn, hno, hzl1, hV⟩
  have hs_w2hV := hV.size
  have hlt4 := hn.lt
  replace hqs := hqs0 _ hV
  replace htg := htg0 _ hV
  refine r_know (i := 8) (v := .int .i64 (k : Nat)) (by exact hj3) ?_
  refine r_seq ?_
  refine r_region ?_
  refine r_op rfl rfl rfl (run_lss rfl (by exact rfl) (by exact rfl)) ?_
  refine r_nil ?_
  refine r_seq ?_
  refine r_cond (by exact rfl) (fun hc5 => ?_) (fun hc5 => ?_)
  ·skip
   refine r_skip ?_
   refine r_seq ?_
   refine r_block ?_
   refine r_seq ?_
   refine r_region ?_
   refine r_op rfl rfl rfl (run_mv (v := .int _ _) rfl (by exact rfl)) ?_
   refine r_op rfl rfl rfl (run_asg (v := .int _ _) rfl (by exact rfl)) ?_
   refine r_nil ?_
   refine r_seq ?_
   refine r_region ?_
   refine r_op rfl rfl rfl (run_mv (v := .func _ _ _) rfl (by exact rfl)) ?_
   refine r_op rfl rfl rfl (run_mv (v := .slice _ _ _) rfl (by exact rfl)) ?_
   refine r_op rfl rfl rfl (run_mv (v := .int _ _) rfl (by exact rfl)) ?_
   refine r_op rfl rfl rfl (run_ix (k) rfl Tryz.underlying40 ty_9 (by exact rfl) (by exact rfl) (by first | exact rfl | omega) (by omega) (hqs.addr (i := k) (by omega))) ?_
   have hA60 := fun (w' : World) (h : Evo w0 w' []) => (hqs0 w' h).atD (k) (by omega)
   have hA6 := hA60 _ hV
   refine r_op rfl rfl rfl (run_ld1 rfl ag_9 (by exact rfl) (hA6.cell 0 (by exact rfl))) ?_
   refine r_opcall rfl rfl rfl (run_callfn (vs := [S _]) (cs := [.pointer (some ⟨bn, 0, none⟩)]) rfl (by exact rfl) (by exact rfl) Tryz.func48 rfl (by kernel_rfl)) (miss1_calls htg hqg hzg hn) ?_
   rintro e w7 ⟨rfl, hE7⟩
   refine ⟨_, rfl, ?_⟩
   have hs_w7 := (hE7).size
   replace hV := evo_step0 hV hE7
   replace hqs := hqs0 _ hV
   replace htg := htg0 _ hV
   replace hn := hn.evo0 hE7
   refine r_nil ?_
   refine r_condb (by exact rfl) (fun hc8 => ?_) (fun hc8 => ?_)
   ·skip
    refine r_seq ?_
    refine r_region ?_
    refine r_op rfl rfl rfl (run_mv (v := .int _ _) rfl (by exact rfl)) ?_
    refine r_op rfl rfl rfl (run_asg (v := .int _ _) rfl (by exact rfl)) ?_
    refine r_nil ?_
    refine r_ret (res1 (v := .int _ _) rfl (by exact rfl)) ?_
    exact ⟨_, rfl, hV, ⟨fun _ => any_yes (by omega) hc8, fun _ => by omega⟩⟩
   ·skip
    refine r_skip ?_
    refine r_blk ?_
    refine r_region ?_
    refine r_op rfl rfl rfl (run_add rfl (by exact rfl) (by exact rfl) (by omega) (by omega)) ?_
    refine r_op rfl rfl rfl (run_mv (v := .int _ _) rfl (by exact rfl)) ?_
    refine r_nil ?_
    refine r_again (k + 1) ?_ ?_ ?_
    ·first | omega | (dsimp only; omega)
    ·refine ⟨(by first | exact rfl | exact congrArg (Value.int _) (by omega) | exact congrArg (Value.int _) (by dsimp only; omega) | exact congrArg (Value.int _) (by simp) | exact congrArg S (by simp)), (by first | assumption | omega | (dsimp only; omega) | (simp; done)), hn, (upto0 hno (by rw [hc8]; decide)), (by first | assumption | omega | (dsimp only; omega) | (simp; done)), hV⟩
    ·repeat (first | (with_reducible exact Agree.merge _ _ _) | (with_reducible exact Agree.refl _ _) | (with_reducible refine Agree.upd ?_ _ _ rfl) | ((with_reducible refine Agree.inner ?_ ?_); (kernel_rfl)))
  ·skip
   refine r_exit rfl ?_
   refine r_seq ?_
   refine r_region ?_
   refine r_op rfl rfl rfl (run_asg (v := .int _ _) rfl (by exact rfl)) ?_
   refine r_nil ?_
   refine r_ret (res1 (v := .int _ _) rfl (by exact rfl)) ?_
   exact ⟨_, rfl, hV, ⟨fun h9 => absurd h9 (by omega), fun h9 => absurd h9 (any_no (fun j hj => hno j (by omega)))⟩⟩
theorem contains_calls {aoq : Option Addr} {bq offq capq : Nat} {qs : List Str} {aog : Option Addr} {bg offg capg : Nat} {tg : List Vc.Item} {bn : Nat} {w0 : World} (hqs : RowE w0 aoq bq offq capq qs) (htg : RowE w0 aog bg offg capg tg) (hqg : ∀ x ∈ tg, x.text.length ≤ 140737488355328) (hzg : tg.length ≤ 4398046510976) (hn : Blk w0 bn 24 [.slice aog tg.length capg]) :
    Calls Tryz.prog 49 #[.slice aoq qs.length capq, .func (.func 48) #[] #[.pointer (some ⟨bn, 0, none⟩)]] w0 fun e w' => e = .returned (.bool (qs.any (fun s => hasB s tg))) ∧ Evo w0 w' [] := by
 refine calls_enter (n := 9) (args := [.slice aoq qs.length capq, .func (.func 48) #[] #[.pointer (some ⟨bn, 0, none⟩)]]) Tryz.func49 rfl Tryz.ntmps49 rfl ?_
 have hV : Evo w0 w0 [] := Evo.refl _ _
 have hqs0 := keepE hqs
 have hbd_hqs := hqs.bd
 have htg0 := keepE htg
 have hbd_htg := htg.bd
 refine r_seq ?_
 refine r_region ?_
 refine r_op rfl rfl rfl (run_asg (v := .bool _) rfl (by exact rfl)) ?_
 refine r_nil ?_
 refine r_seq ?_
 refine r_region ?_
 refine r_op rfl rfl rfl (run_mv (v := .slice _ _ _) rfl (by exact rfl)) ?_
 refine r_op rfl rfl rfl (run_mv (v := .func _ _ _) rfl (by exact rfl)) ?_
 refine r_opcall rfl rfl rfl (run_callf (vs := [.slice _ _ _, .func _ _ _]) rfl (by exact rfl) Tryz.func78 rfl (by kernel_rfl)) (indexs_calls hqs htg hqg hzg hn) ?_
 rintro e w1 ⟨r1, rfl, hE1, hri1⟩
 refine ⟨_, rfl, ?_⟩
 have hs_w1 := (hE1).size
 replace hV := evo_step0 hV hE1
 replace hqs := hqs0 _ hV
 replace htg := htg0 _ hV
 replace hn := hn.evo0 hE1
 refine r_op rfl rfl rfl (run_geq rfl (by exact rfl) (by exact rfl)) ?_
 refine r_op rfl rfl rfl (run_asg (v := .bool _) rfl (by exact rfl)) ?_
 refine r_nil ?_
 refine r_ret (res1 (v := .bool _) rfl (by exact rfl)) ?_
 exact ⟨ret_bool (by have h9 := hri1; cases h8 : qs.any (fun s => hasB s tg) <;> simp_all), hV⟩
set_option maxHeartbeats 1000000 in
theorem missing_calls {aot : Option Addr} {btt offt capt : Nat} {ts : List TermL} {ao : Option Addr} {b off cap : Nat} {c : List Clas} {aol : Option Addr} {bl offl capl : Nat} {l : List Vc.Item} {aog : Option Addr} {bg offg capg : Nat} {tg : List Vc.Item} {w0 : World} (ht : RowR w0 aot btt offt capt ts) (hc : RowR w0 ao b off cap c) (hl : RowE w0 aol bl offl capl l) (hq : ∀ x ∈ l, x.text.length ≤ 140737488355328) (hzl : l.length ≤ 4398046510976) (hzt : ts.length ≤ 1954687338760) (htg : RowE w0 aog bg offg capg tg) (hqg : ∀ x ∈ tg, x.text.length ≤ 140737488355328) (hzg : tg.length ≤ 4398046510976) :
    Calls Tryz.prog 24 #[.slice aot ts.length capt, .slice ao c.length cap, .slice aol l.length capl, .slice aog tg.length capg] w0 fun e w' => ∃ v, e = .returned v ∧ Evo w0 w' [] ∧ OwnE w' w0.heap.size 3 v (natI (missN tg ts (foundN ts.length (spotsF l (fsT c ts) 0)))) := by
 refine calls_enter (n := 46) (args := [.slice aot ts.length capt, .slice ao c.length cap, .slice aol l.length capl, .slice aog tg.length capg]) Tryz.func24 rfl Tryz.ntmps24 rfl ?_
 have hV : Evo w0 w0 [] := Evo.refl _ _
 have ht0 := ht.keep
 have hbd_ht := ht.bd
 have hc0 := hc.keep
 have hbd_hc := hc.bd
 have hl0 := keepE hl
 have hbd_hl := hl.bd
 have htg0 := keepE htg
 have hbd_htg := htg.bd
 refine r_seq ?_
 refine r_region ?_
 refine r_box (vs := [_]) (by exact rfl) (by exact rfl) rfl ?_
 intro b1 w2 heb1 hEw2 hbb1 hzb1
 have hs_w2 := (hEw2).size
 replace hV := evo_step0 hV hEw2
 replace ht := ht0.now hV
 replace hc := hc0.now hV
 replace hl := hl0 _ hV
 replace htg := htg0 _ hV
 have hAb1 := hbb1.at
 refine r_op rfl rfl rfl (run_asg (v := .slice _ _ _) rfl (by exact rfl)) ?_
 refine r_nil ?_
 refine r_seq ?_
 refine r_region ?_
 refine r_op rfl rfl rfl (run_asg (v := .slice _ _ _) rfl (by exact rfl)) ?_
 refine r_nil ?_
 refine r_seq ?_
 refine r_seq ?_
 refine r_region ?_
 refine r_op rfl rfl rfl (run_mv (v := .slice _ _ _) rfl (by exact rfl)) ?_
 refine r_op rfl rfl rfl (run_mv (v := .slice _ _ _) rfl (by exact rfl)) ?_
 refine r_op rfl rfl rfl (run_mv (v := .slice _ _ _) rfl (by exact rfl)) ?_
 refine r_opcall rfl rfl rfl (run_callf (vs := [.slice _ _ _, .slice _ _ _, .slice _ _ _]) rfl (by exact rfl) Tryz.func47 rfl (by kernel_rfl)) (found_calls ht hc hl hq hzl hzt) ?_
 rintro e w3 ⟨vF3, rfl, hE3, hoF3⟩
 refine ⟨_, rfl, ?_⟩
 have hs_w3 := (hE3).size
 replace hV := evo_step0 hV hE3
 replace ht := ht0.now hV
 replace hc := hc0.now hV
 replace hl := hl0 _ hV
 replace htg := htg0 _ hV
 replace hbb1 := hbb1.evo0 hE3
 replace hAb1 := hAb1.evo0 hE3
 refine r_op rfl rfl rfl (run_lenOE rfl (by exact rfl) Tryz.underlying25 hoF3) ?_
 refine r_op rfl rfl rfl (run_mv (v := .int _ _) rfl (by exact rfl)) ?_
 refine r_nil ?_
 refine r_block ?_
 have hI4 : Evo w3 w3 [] := Evo.refl _ _
 obtain ⟨ao5, g5, cp5, hv5, hr5, hg5⟩ := hoF3.rowOf
 subst hv5
 have hr50 := keepE hr5
 have hfl := foundN_len ts.length (spotsF l (fsT c ts) 0); have hnl := natI_len (foundN ts.length (spotsF l (fsT c ts) 0))
 refine r_loop (α := Nat) [9, 11, 12, 18, 19, 20, 21, 22, 23, 24, 25, 26, 27, 28, 29, 30, 31, 32, 33, 34, 35, 36, 37, 38, 39, 40, 41, 42, 43, 44] (fun k g w => ∃ vo : Value, g 18 = .int .i64 (k : Nat) ∧ g 9 = vo ∧ k ≤ (natI (foundN ts.length (spotsF l (fsT c ts) 0))).length ∧ OwnE w w3.heap.size 3 vo (natI (missN tg ts ((foundN ts.length (spotsF l (fsT c ts) 0)).take k))) ∧ Blk w b1 24 [.slice aog tg.length capg] ∧ w3.heap.size ≤ w.heap.size ∧ Evo w0 w [] ∧ Evo w3 w []) (fun k => (natI (foundN ts.length (spotsF l (fsT c ts) 0))).length - k) 0 ?_ ?_
 ·refine ⟨_, (by first | exact rfl | exact congrArg (Value.int _) (by omega) | exact congrArg (Value.int _) (by dsimp only; omega) | exact congrArg (Value.int _) (by simp) | exact congrArg S (by simp)), rfl, (by first | assumption | omega | (dsimp only; omega) | (simp; done)), (OwnE.nil _ _ _), hbb1, (by first | assumption | omega | (dsimp only; omega) | (simp; done)), hV, hI4⟩
 ·rintro k g w7 ⟨vo, hj8, hj9, hk_k, hoo, hbb1, hzl6, hV, hI4⟩
  have hs_w7hV := hV.size
  have hs_w7hI4 := hI4.size
  have hlt10 := hbb1.lt
  replace ht := ht0.now hV
  replace hc := hc0.now hV
  replace hl := hl0 _ hV
  replace htg := htg0 _ hV
  replace hr5 := hr50 _ hI4
  refine r_know (i := 18) (v := .int .i64 (k : Nat)) (by exact hj8) ?_
  refine r_know (i := 9) (v := vo) (by exact hj9) ?_
  refine r_seq ?_
  refine r_region ?_
  refine r_op rfl rfl rfl (run_lss rfl (by exact rfl) (by exact rfl)) ?_
  refine r_nil ?_
  refine r_seq ?_
  refine r_cond (by exact rfl) (fun hc11 => ?_) (fun hc11 => ?_)
  ·skip
   refine r_skip ?_
   refine r_seq ?_
   refine r_block ?_
   refine r_seq ?_
   refine r_region ?_
   refine r_op rfl rfl rfl (run_ix (k) rfl Tryz.underlying25 ty_3 (by exact rfl) (by exact rfl) (by first | exact rfl | omega) (by omega) (hr5.addr (i := k) (by omega))) ?_
   have hA120 := fun (w' : World) (h : Evo w3 w' []) => (hr50 w' h).atD (k) (by omega)
   have hA12 := hA120 _ hI4
   refine r_op rfl rfl rfl (run_ld1 rfl ag_3 (by exact rfl) (hA12.cell 0 (by exact rfl))) ?_
   refine r_op rfl rfl rfl (run_asg (v := .int _ _) rfl (by exact rfl)) ?_
   refine r_nil ?_
   refine r_seq ?_
   have hml := missN_len tg ts ((foundN ts.length (spotsF l (fsT c ts) 0)).take k); have hmI := natI_len (missN tg ts ((foundN ts.length (spotsF l (fsT c ts) 0)).take k)); have htl := List.length_take_le k (foundN ts.length (spotsF l (fsT c ts) 0)); have hkk := natI_get (l := (foundN ts.length (spotsF l (fsT c ts) 0))) (k := k) (by omega); have hkt := foundN_get (sp := (spotsF l (fsT c ts) 0)) (n := ts.length) (k := k) (by omega)
   obtain ⟨z09, z19, z29, z39, z49, z59, z69, z79, z89, z99, z109, z119, hAB, hWB, hQB, hFB⟩ := term_at ht ((foundN ts.length (spotsF l (fsT c ts) 0)).getD k default) hkt
   refine r_region ?_
   refine r_op rfl rfl rfl (run_mkF (vs := [.pointer _]) rfl (by exact rfl)) ?_
   refine r_op rfl rfl rfl (run_asg (v := .func _ _ _) rfl (by exact rfl)) ?_
   refine r_nil ?_
   refine r_seq ?_
   refine r_region ?_
   refine r_op rfl rfl rfl (run_mv (v := .slice _ _ _) rfl (by exact rfl)) ?_
   refine r_op rfl rfl rfl (run_mv (v := .int _ _) rfl (by exact rfl)) ?_
   refine r_op rfl rfl rfl (run_ix (((foundN ts.length (spotsF l (fsT c ts) 0)).getD k default)) rfl Tryz.underlying22 ty_42 (by exact rfl) (by exact rfl) hkk hkt (ht.addr (i := ((foundN ts.length (spotsF l (fsT c ts) 0)).getD k default)) hkt)) ?_
   obtain ⟨aoW13, bW13, offW13, capW13, aoQ13, bQ13, offQ13, capQ13, aoF13, bF13, offF13, capF13, hX⟩ := term_atK ht0 (((foundN ts.length (spotsF l (fsT c ts) 0)).getD k default)) hkt
   have hA130 := fun (w' : World) (h : Evo w0 w' []) => (hX w' h).1
   have hA13 := hA130 _ hV
   have hW130 := fun (w' : World) (h : Evo w0 w' []) => (hX w' h).2.1
   have hW13 := hW130 _ hV
   have hQ130 := fun (w' : World) (h : Evo w0 w' []) => (hX w' h).2.2.1
   have hQ13 := hQ130 _ hV
   have hF130 := fun (w' : World) (h : Evo w0 w' []) => (hX w' h).2.2.2
   have hF13 := hF130 _ hV
   clear hX
   have hbd_hW13 := hW13.bd
   have hbd_hQ13 := hQ13.bd
   have hbd_hF13 := hF13.bd
   refine r_op rfl rfl rfl (run_fa rfl (by exact rfl) fo_42_1) ?_
   refine r_op rfl rfl rfl (run_ld1 rfl ag_40 (by exact rfl) (hA13.cell 1 (by exact rfl))) ?_
   refine r_op rfl rfl rfl (run_lenSl rfl (by exact rfl) Tryz.underlying40) ?_
   refine r_op rfl rfl rfl (run_gtr rfl (by exact rfl) (by exact rfl)) ?_
   refine r_op rfl rfl rfl (run_mv (v := .bool _) rfl (by exact rfl)) ?_
   refine r_g rfl (wantT (by exact rfl)) rfl (fun hg => run_mv (v := .slice _ _ _) rfl (by exact rfl)) ?_
   refine r_g rfl (wantT (by exact rfl)) rfl (fun hg => run_mv (v := .int _ _) rfl (by exact rfl)) ?_
   refine r_g rfl (wantT (by exact rfl)) rfl (fun hg => run_ix (((foundN ts.length (spotsF l (fsT c ts) 0)).getD k default)) rfl Tryz.underlying22 ty_42 (glv (by exact rfl) (fun h => h) hg) (glv (by exact rfl) (fun h => h) hg) hkk hkt (ht.addr (i := ((foundN ts.length (spotsF l (fsT c ts) 0)).getD k default)) hkt)) ?_
   refine r_g rfl (wantT (by exact rfl)) rfl (fun hg => run_fa rfl (glv (by exact rfl) (fun h => h) hg) fo_42_1) ?_
   refine r_g rfl (wantT (by exact rfl)) rfl (fun hg => run_ld1 rfl ag_40 (glv (by exact rfl) (fun h => h) hg) (hAB.cell 1 (by exact rfl))) ?_
   refine r_g rfl (wantT (by exact rfl)) rfl (fun hg => run_mv (v := .func _ _ _) rfl (by exact rfl)) ?_
   refine r_gcall rfl (wantT (by exact rfl)) rfl (fun hg => run_callf rfl (argcons (v := .slice _ _ _) (glv (by exact rfl) (fun h => h) hg) (argcons (v := .func _ _ _) (glv (by exact rfl) (fun h => h) hg) (rfl))) Tryz.func49 rfl (by kernel_rfl)) (fun hg => (contains_calls hQB htg hqg hzg hbb1).mono (fun e w' h => ⟨h.1, h.2⟩)) (fun w14 hE15 => ?_)
   have hs_w14 := (hE15).size
   replace hV := evo_step0 hV hE15
   replace hI4 := evo_step0 hI4 hE15
   replace ht := ht0.now hV
   replace hc := hc0.now hV
   replace hl := hl0 _ hV
   replace htg := htg0 _ hV
   replace hr5 := hr50 _ hI4
   replace hoo := hoo.evo0 hE15
   replace hbb1 := hbb1.evo0 hE15
   replace hQB := hQB.evo0 hE15
   refine r_g rfl (wantT (by exact rfl)) rfl (fun hg => run_notb rfl (glv (by exact rfl) (fun h => h) hg)) ?_
   refine r_op rfl rfl rfl (run_pick_andB rfl (by exact rfl) (fun hq => glv (by exact rfl) (fun h => h) hq) rfl) ?_
   refine r_nil ?_
   refine r_cond (by exact rfl) (fun hc16 => ?_) (fun hc16 => ?_)
   ·skip
    refine r_region ?_
    refine r_op rfl rfl rfl (run_mv (v := vo) rfl (by exact rfl)) ?_
    refine r_op rfl rfl rfl (run_mv (v := .int _ _) rfl (by exact rfl)) ?_
    refine r_append1E (u := .int _ _) (y := _) rfl rfl Tryz.underlying25 ty_3 (by exact rfl) hoo (fun _ => (by exact rfl)) (by exact rfl) (by first | exact rfl | (show _ = List.toArray [_]; first | (dsimp only; done) | exact rfl | (dsimp only; exact rfl))) ((by first | omega | (simp; omega))) ((by first | omega | (simp; omega))) (by omega) ?_
    intro q_v17 v17 w18 hEw18 hov17 hlv17
    have hs_w18 := (hEw18).size
    replace hV := evo_stepo hV hEw18 (fun g hg => .inl (by first | exact (hoo.block hg).1 | (have := hoo.block hg; omega)))
    replace hI4 := evo_stepo hI4 hEw18 (fun g hg => .inl (by first | exact (hoo.block hg).1 | (have := hoo.block hg; omega)))
    replace ht := ht0.now hV
    replace hc := hc0.now hV
    replace hl := hl0 _ hV
    replace htg := htg0 _ hV
    replace hr5 := hr50 _ hI4
    replace hbb1 := hbb1.evo hEw18 (by intro hm; have hm2 := Option.mem_toList.1 hm; first | (have := hoo.block hm2; omega) | (simp [Value.ownBlock] at hm2; omega))
    refine r_op rfl rfl rfl (run_asg (v := v17) rfl (by exact rfl)) ?_
    refine r_nil ?_
    refine r_blk ?_
    refine r_region ?_
    refine r_op rfl rfl rfl (run_add rfl (by exact rfl) (by exact rfl) (by omega) (by omega)) ?_
    refine r_op rfl rfl rfl (run_mv (v := .int _ _) rfl (by exact rfl)) ?_
    refine r_nil ?_
    refine r_again (k + 1) ?_ ?_ ?_
    ·first | omega | (dsimp only; omega)
    ·refine ⟨_, (by first | exact rfl | exact congrArg (Value.int _) (by omega) | exact congrArg (Value.int _) (by dsimp only; omega) | exact congrArg (Value.int _) (by simp) | exact congrArg S (by simp)), rfl, (by first | assumption | omega | (dsimp only; omega) | (simp; done)), (by first | (rw [missN_yes tg ts (by omega) (ms_cond (tg := tg) (x := (ts.getD ((foundN ts.length (spotsF l (fsT c ts) 0)).getD k default) default)) hc16), natI_app, ← natI_get (l := (foundN ts.length (spotsF l (fsT c ts) 0))) (k := k) (by omega)]; exact hov17) | (rw [missN_no tg ts (by omega) (ms_cond2 (tg := tg) (x := (ts.getD ((foundN ts.length (spotsF l (fsT c ts) 0)).getD k default) default)) hc16)]; exact hov17)), hbb1, (by first | assumption | omega | (dsimp only; omega) | (simp; done)), hV, hI4⟩
    ·repeat (first | (with_reducible exact Agree.merge _ _ _) | (with_reducible exact Agree.refl _ _) | (with_reducible refine Agree.upd ?_ _ _ rfl) | ((with_reducible refine Agree.inner ?_ ?_); (kernel_rfl)))
   ·skip
    refine r_skip ?_
    refine r_blk ?_
    refine r_region ?_
    refine r_op rfl rfl rfl (run_add rfl (by exact rfl) (by exact rfl) (by omega) (by omega)) ?_
    refine r_op rfl rfl rfl (run_mv (v := .int _ _) rfl (by exact rfl)) ?_
    refine r_nil ?_
    refine r_again (k + 1) ?_ ?_ ?_
    ·first | omega | (dsimp only; omega)
    ·refine ⟨_, (by first | exact rfl | exact congrArg (Value.int _) (by omega) | exact congrArg (Value.int _) (by dsimp only; omega) | exact congrArg (Value.int _) (by simp) | exact congrArg S (by simp)), rfl, (by first | assumption | omega | (dsimp only; omega) | (simp; done)), (by first | (rw [missN_yes tg ts (by omega) (ms_cond (tg := tg) (x := (ts.getD ((foundN ts.length (spotsF l (fsT c ts) 0)).getD k default) default)) hc16), natI_app, ← natI_get (l := (foundN ts.length (spotsF l (fsT c ts) 0))) (k := k) (by omega)]; exact hoo) | (rw [missN_no tg ts (by omega) (ms_cond2 (tg := tg) (x := (ts.getD ((foundN ts.length (spotsF l (fsT c ts) 0)).getD k default) default)) hc16)]; exact hoo)), hbb1, (by first | assumption | omega | (dsimp only; omega) | (simp; done)), hV, hI4⟩
    ·repeat (first | (with_reducible exact Agree.merge _ _ _) | (with_reducible exact Agree.refl _ _) | (with_reducible refine Agree.upd ?_ _ _ rfl) | ((with_reducible refine Agree.inner ?_ ?_); (kernel_rfl)))
  ·skip
   refine r_exit rfl ?_
   refine r_seq ?_
   refine r_region ?_
   refine r_op rfl rfl rfl (run_mv (v := vo) rfl (by exact rfl)) ?_
   refine r_op rfl rfl rfl (run_asg (v := vo) rfl (by exact rfl)) ?_
   refine r_nil ?_
   refine r_ret (res1 (v := vo) rfl (by exact rfl)) ?_
   exact ⟨_, rfl, hV, by rw [List.take_of_length_le (by omega)] at hoo; exact hoo.base_le (by omega)⟩
end Go.Proofs.YtkklomiipkipnaaGreatDoor
namespace Go.Proofs.YtkklomiipkipnaaGreatDoor
open Go.RowKit Go.Vc
theorem fo_42_2 : fieldP Tryz.prog 42 2 = some 2 := by kernel_rfl
def JudT (x : TermL) : Prop := x.req.length ≤ 1048576 ∧ x.forb.length ≤ 1048576 ∧ (∀ s ∈ x.req, s.length ≤ 1000000000) ∧ ∀ s ∈ x.forb, s.length ≤ 1000000000
theorem jud_get {ts : List TermL} (h : ∀ x ∈ ts, JudT x) (k : Nat) : JudT (ts.getD k default) := by
  rcases Nat.lt_or_ge k ts.length with h1 | h1
  · exact h _ (getD_in h1)
  · rw [List.getD_eq_getElem?_getD, List.getElem?_eq_none h1]; exact ⟨Nat.zero_le _, Nat.zero_le _, (fun s hs => absurd hs List.not_mem_nil), (fun s hs => absurd hs List.not_mem_nil)⟩
end Go.Proofs.YtkklomiipkipnaaGreatDoor
namespace Go.Proofs.YtkklomiipkipnaaGreatDoor
open Go Go.RowKit Go.Vc
def phrW : List Str := [[114, 101, 100], [99, 97, 114], [99, 97, 114, 115], [83, 97, 118, 101], [50, 50], [114, 111, 116], [97], [100, 97, 115]]
def stemW : List Str := [[114, 101, 100], [99, 97, 114], [83, 97, 118, 101], [50, 50], [99, 105, 116], [97]]
def joinS : List Str → Str → Str
  | [], o => o
  | w :: r, o => joinS r ((if o = [] then o else o ++ [32]) ++ w)
theorem joinS_snoc (ws : List Str) (w : Str) : ∀ o, joinS (ws ++ [w]) o = (if joinS ws o = [] then joinS ws o else joinS ws o ++ [32]) ++ w := by
  induction ws with
  | nil => intro o; rfl
  | cons x r ih => intro o; exact ih _
def MadePh (s : Str) : Prop := ∃ ws : List Str, (1 ≤ ws.length ∧ ws.length ≤ 3 ∧ ∀ x ∈ ws, x ∈ phrW) ∧ s = joinS ws []
theorem phr_len {x : Str} (h : x ∈ phrW) : 1 ≤ x.length ∧ x.length ≤ 4 := by
  simp only [phrW, List.mem_cons, List.not_mem_nil, or_false] at h
  rcases h with rfl | rfl | rfl | rfl | rfl | rfl | rfl | rfl <;> decide
theorem stem_len {x : Str} (h : x ∈ stemW) : 1 ≤ x.length ∧ x.length ≤ 4 := by
  simp only [stemW, List.mem_cons, List.not_mem_nil, or_false] at h
  rcases h with rfl | rfl | rfl | rfl | rfl | rfl <;> decide
theorem joinS_len : ∀ (ws : List Str) (o : Str), (∀ x ∈ ws, x ∈ phrW) → (joinS ws o).length ≤ o.length + 5 * ws.length
  | [], o, _ => by simp [joinS]
  | w :: r, o, h => by
    have h1 := joinS_len r ((if o = [] then o else o ++ [32]) ++ w) (fun x hx => h x (List.mem_cons_of_mem _ hx))
    have h2 := (phr_len (h w (by simp))).2
    have h3 : (if o = [] then o else o ++ [32]).length ≤ o.length + 1 := by split <;> simp
    show (joinS r _).length ≤ _
    rw [List.length_append] at h1
    rw [List.length_cons]; omega
theorem MadePh.len {s : Str} (h : MadePh s) : s.length ≤ 15 := by
  obtain ⟨ws, ⟨h1, h2, h3⟩, rfl⟩ := h
  have := joinS_len ws [] h3
  simp at this; omega
def PhR (m n : Nat) (o : Str) : Prop := ∃ ws : List Str, (ws.length + n = m ∧ ∀ x ∈ ws, x ∈ phrW) ∧ o = joinS ws []
theorem PhR.nil (m : Nat) : PhR m m [] := ⟨[], ⟨by simp, by simp⟩, rfl⟩
theorem PhR.len {m n : Nat} {o : Str} (h : PhR m n o) : o.length ≤ 5 * m := by
  obtain ⟨ws, ⟨h1, h2⟩, rfl⟩ := h
  have := joinS_len ws [] h2
  simp at this; omega
theorem phrD_in {k : Nat} (h : k < 8) : phrW.getD k default ∈ phrW := getD_in (show k < phrW.length from h)
theorem stemD_in {k : Nat} (h : k < 6) : stemW.getD k default ∈ stemW := getD_in (show k < stemW.length from h)
theorem PhR.more {m n : Nat} {o w : Str} (h : PhR m (n + 1) o) (hw : w ∈ phrW) : PhR m n ((if o = [] then o else o ++ [32]) ++ w) := by
  obtain ⟨ws, ⟨h1, h2⟩, rfl⟩ := h
  refine ⟨ws ++ [w], ⟨by rw [List.length_append, List.length_singleton]; omega, fun x hx => ?_⟩, (joinS_snoc ws w []).symm⟩
  rcases List.mem_append.1 hx with q | q
  · exact h2 x q
  · rw [List.mem_singleton] at q; rw [q]; exact hw
theorem PhR.more1 {m n : Nat} {o w : Str} (h : PhR m (n + 1) o) (hw : w ∈ phrW) (ho : ¬ o = []) : PhR m n (o ++ [32] ++ w) := by
  have := h.more hw; rw [if_neg ho] at this; exact this
theorem PhR.more2 {m n : Nat} {o w : Str} (h : PhR m (n + 1) o) (hw : w ∈ phrW) (ho : o = []) : PhR m n (o ++ w) := by
  have := h.more hw; rw [if_pos ho] at this; exact this
theorem PhR.made {m : Nat} {o : Str} (h : PhR m 0 o) (h1 : 1 ≤ m) (h3 : m ≤ 3) : MadePh o := by
  obtain ⟨ws, ⟨h4, h5⟩, h6⟩ := h
  exact ⟨ws, ⟨by omega, by omega, h5⟩, h6⟩
def MadeTm (x : TermL) : Prop := (1 ≤ x.words.length ∧ x.words.length ≤ 3 ∧ ∀ y ∈ x.words, y.strip ∈ stemW ∧ y.add.length ≤ 1000) ∧ (x.req.length ≤ 2 ∧ ∀ s ∈ x.req, MadePh s) ∧ (x.forb.length ≤ 2 ∧ ∀ s ∈ x.forb, MadePh s)
theorem MadeTm.jud {x : TermL} (h : MadeTm x) : JudT x := by
  obtain ⟨_, ⟨h1, h2⟩, h3, h4⟩ := h
  exact ⟨by omega, by omega, fun s hs => Nat.le_trans (h2 s hs).len (by decide), fun s hs => Nat.le_trans (h4 s hs).len (by decide)⟩
theorem MadeTm.bd {x : TermL} (h : MadeTm x) : x.words.length ≤ 4398046510976 ∧ ∀ y ∈ x.words, BdE y := by
  obtain ⟨⟨_, h1, h2⟩, _⟩ := h
  refine ⟨by omega, fun y hy => ?_⟩
  have h3 := (stem_len (h2 y hy).1).2
  have h4 := (h2 y hy).2
  exact ⟨by omega, by omega⟩
theorem mem_snoc {α : Type} {P : α → Prop} {l : List α} {x : α} (h : ∀ y ∈ l, P y) (hx : P x) : ∀ y ∈ l ++ [x], P y := fun y hy => by
  rcases List.mem_append.1 hy with q | q
  · exact h y q
  · rw [List.mem_singleton] at q; rw [q]; exact hx
end Go.Proofs.YtkklomiipkipnaaGreatDoor
namespace Go.Proofs.YtkklomiipkipnaaGreatDoor
open Go Go.RowKit Go.Vc
theorem fLen_mem {l : List Vc.Item} {x : Vc.Item} (h : x ∈ l) : x.text.length ≤ fLen l := by
  induction l with
  | nil => cases h
  | cons y l ih =>
    have e : fLen (y :: l) = y.text.length + fLen l := by simp [fLen]
    rcases List.mem_cons.1 h with rfl | h
    · omega
    · have := ih h; omega
theorem cutT_text : ∀ (n : Nat) (s : Str), s.length = n → ∀ x ∈ cutT s, x.text.length ≤ s.length := by
  intro n
  induction n using Nat.strongRecOn with
  | ind n ih =>
    intro s hs x hx
    by_cases h : s = []
    · subst h; rw [cutT_nil] at hx; cases hx
    · have h1 := tokN_pos s
      have h2 : 0 < s.length := List.length_pos_iff.2 h
      rw [cutT_cons h] at hx
      rcases List.mem_cons.1 hx with rfl | hx
      · show (s.take _).length ≤ _; rw [List.length_take]; omega
      · have h3 := ih _ (by rw [← hs]; show (s.drop (tokN s).2).length < s.length; rw [List.length_drop]; omega) (s.drop (tokN s).2) rfl x hx
        rw [List.length_drop] at h3; omega
theorem toks_text {f : List Vc.Item} {x : Vc.Item} (h : x ∈ toks f) : x.text.length ≤ fLen f := by
  unfold toks at h
  obtain ⟨y, hy, hx⟩ := List.mem_flatMap.1 h
  have h1 := fLen_mem hy
  unfold tokI at hx
  split at hx
  · have := cutT_text _ y.text rfl x hx; omega
  · split at hx
    · have : x = y := by simpa using hx
      rw [this]; exact h1
    · cases hx
end Go.Proofs.YtkklomiipkipnaaGreatDoor
namespace Go.Proofs.YtkklomiipkipnaaGreatDoor
open Go.RowKit Go.Vc
theorem iz_3 : EqI Tryz.prog 1 3 1 false := EqI.int Tryz.underlying3 ag_3 ty_3
theorem iz_36 : EqI Tryz.prog 2 36 3 true := EqI.struct Tryz.underlying36 Tryz.stoodInHeld36 ag_36 ty_36 ⟨by decide, rfl, 1, false, iz_3, by decide, ⟨by decide, rfl, 1, false, iz_3, by decide, ⟨by decide, rfl, 1, false, iz_3, by decide, rfl⟩⟩⟩
theorem spt_ext {x y : Spt} (h : [x.t, x.fr, x.to] = [y.t, y.fr, y.to]) : x = y := by
  cases x; cases y; simp at h; simp [h]
theorem samespots_calls {aoa aob : Option Addr} {ba offa capa bb offb capb : Nat} {a b : List Spt} {w0 : World} (ha : RowE w0 aoa ba offa capa a) (hb : RowE w0 aob bb offb capb b) :
    Calls Tryz.prog 15 #[.slice aoa a.length capa, .slice aob b.length capb] w0 fun e w' => e = .returned (.bool (decide (a = b))) ∧ Evo w0 w' [] := by
 refine calls_enter (n := 26) (args := [.slice aoa a.length capa, .slice aob b.length capb]) Tryz.func15 rfl Tryz.ntmps15 rfl ?_
 have hV : Evo w0 w0 [] := Evo.refl _ _
 have ha0 := keepE ha
 have hbd_ha := ha.bd
 have hb0 := keepE hb
 have hbd_hb := hb.bd
 refine r_seq ?_
 refine r_region ?_
 refine r_op rfl rfl rfl (run_asg (v := .bool _) rfl (by exact rfl)) ?_
 refine r_nil ?_
 refine r_seq ?_
 refine r_seq ?_
 refine r_region ?_
 refine r_op rfl rfl rfl (run_mv (v := .slice _ _ _) rfl (by exact rfl)) ?_
 refine r_op rfl rfl rfl (run_lenSl rfl (by exact rfl) Tryz.underlying32) ?_
 refine r_op rfl rfl rfl (run_mv (v := .slice _ _ _) rfl (by exact rfl)) ?_
 refine r_op rfl rfl rfl (run_lenSl rfl (by exact rfl) Tryz.underlying32) ?_
 refine r_op rfl rfl rfl (run_neq rfl (by exact rfl) (by exact rfl)) ?_
 refine r_nil ?_
 refine r_cond (by exact rfl) (fun hc1 => ?_) (fun hc1 => ?_)
 ·skip
  refine r_seq ?_
  refine r_region ?_
  refine r_op rfl rfl rfl (run_asg (v := .bool _) rfl (by exact rfl)) ?_
  refine r_nil ?_
  refine r_ret (res1 (v := .bool _) rfl (by exact rfl)) ?_
  exact ⟨by rw [decide_eq_false (fun h => by subst h; omega)], hV⟩
 ·skip
  refine r_skip ?_
  refine r_seq ?_
  refine r_seq ?_
  refine r_region ?_
  refine r_op rfl rfl rfl (run_mv (v := .slice _ _ _) rfl (by exact rfl)) ?_
  refine r_op rfl rfl rfl (run_lenSl rfl (by exact rfl) Tryz.underlying32) ?_
  refine r_op rfl rfl rfl (run_mv (v := .int _ _) rfl (by exact rfl)) ?_
  refine r_nil ?_
  refine r_block ?_
  refine r_loop (α := Nat) [4, 5, 13, 14, 15, 16, 17, 18, 19, 20, 21, 22, 23, 24, 25] (fun k g w => g 13 = .int .i64 (k : Nat) ∧ k ≤ a.length ∧ a.take k = b.take k ∧ w0.heap.size ≤ w.heap.size ∧ Evo w0 w []) (fun k => a.length - k) 0 ?_ ?_
  ·refine ⟨(by first | exact rfl | exact congrArg (Value.int _) (by omega) | exact congrArg (Value.int _) (by dsimp only; omega) | exact congrArg (Value.int _) (by simp) | exact congrArg S (by simp)), (by first | assumption | omega | (dsimp only; omega) | (simp; done)), (by simp), (by first | assumption | omega | (dsimp only; omega) | (simp; done)), hV⟩
  ·rintro k g w3 ⟨hj4, hk_k, hpre, hzl2, hV⟩
   have hs_w3hV := hV.size
   replace ha := ha0 _ hV
   replace hb := hb0 _ hV
   refine r_know (i := 13) (v := .int .i64 (k : Nat)) (by exact hj4) ?_
   refine r_seq ?_
   refine r_region ?_
   refine r_op rfl rfl rfl (run_lss rfl (by exact rfl) (by exact rfl)) ?_
   refine r_nil ?_
   refine r_seq ?_
   refine r_cond (by exact rfl) (fun hc5 => ?_) (fun hc5 => ?_)
   ·skip
    refine r_skip ?_
    refine r_seq ?_
    refine r_block ?_
    refine r_seq ?_
    refine r_region ?_
    refine r_op rfl rfl rfl (run_mv (v := .int _ _) rfl (by exact rfl)) ?_
    refine r_op rfl rfl rfl (run_asg (v := .int _ _) rfl (by exact rfl)) ?_
    refine r_nil ?_
    refine r_seq ?_
    refine r_qregion (by kernel_rfl) (by kernel_rfl) ?_
    refine q_op rfl rfl rfl (fun w' hC => run_mv (v := .slice _ _ _) rfl (by exact rfl)) ?_
    refine q_op rfl rfl rfl (fun w' hC => run_mv (v := .int _ _) rfl (by exact rfl)) ?_
    refine q_op rfl rfl rfl (fun w' hC => run_ix (k) rfl Tryz.underlying32 ty_36 (by exact rfl) (by exact rfl) (by first | exact rfl | omega) (by omega) (ha.addr (i := k) (by omega))) ?_
    have hA60 := fun (w' : World) (h : Evo w0 w' []) => (ha0 w' h).atD (k) (by omega)
    have hA6 := hA60 _ hV
    refine q_op rfl rfl rfl (fun w' hC => run_ldN rfl ag_36 ty_36 (by exact rfl) rfl (hA6.evo0 hC)) ?_
    refine q_op rfl rfl rfl (fun w' hC => run_mv (v := .slice _ _ _) rfl (by exact rfl)) ?_
    refine q_op rfl rfl rfl (fun w' hC => run_mv (v := .int _ _) rfl (by exact rfl)) ?_
    refine q_op rfl rfl rfl (fun w' hC => run_ix (k) rfl Tryz.underlying32 ty_36 (by exact rfl) (by exact rfl) (by first | exact rfl | omega) (by omega) (hb.addr (i := k) (by omega))) ?_
    have hA70 := fun (w' : World) (h : Evo w0 w' []) => (hb0 w' h).atD (k) (by omega)
    have hA7 := hA70 _ hV
    refine q_op rfl rfl rfl (fun w' hC => run_ldN rfl ag_36 ty_36 (by exact rfl) rfl (hA7.evo0 hC)) ?_
    refine q_op rfl rfl rfl (fun w' hC => run_neqZ [_, _, _] [_, _, _] rfl Tryz.eqGuardType36 iz_36 rfl (by exact rfl) (by exact rfl) rfl rfl) ?_
    refine q_nil (fun w8 hE9 => ?_)
    have hs_w8 := (hE9).size
    replace hV := evo_step0 hV hE9
    replace ha := ha0 _ hV
    replace hb := hb0 _ hV
    refine r_cond (by exact rfl) (fun hc10 => ?_) (fun hc10 => ?_)
    ·skip
     refine r_seq ?_
     refine r_region ?_
     refine r_op rfl rfl rfl (run_asg (v := .bool _) rfl (by exact rfl)) ?_
     refine r_nil ?_
     refine r_ret (res1 (v := .bool _) rfl (by exact rfl)) ?_
     exact ⟨by rw [decide_eq_false (fun h => by subst h; exact hc10 rfl)], hV⟩
    ·skip
     refine r_skip ?_
     refine r_blk ?_
     refine r_region ?_
     refine r_op rfl rfl rfl (run_add rfl (by exact rfl) (by exact rfl) (by omega) (by omega)) ?_
     refine r_op rfl rfl rfl (run_mv (v := .int _ _) rfl (by exact rfl)) ?_
     refine r_nil ?_
     refine r_again (k + 1) ?_ ?_ ?_
     ·first | omega | (dsimp only; omega)
     ·refine ⟨(by first | exact rfl | exact congrArg (Value.int _) (by omega) | exact congrArg (Value.int _) (by dsimp only; omega) | exact congrArg (Value.int _) (by simp) | exact congrArg S (by simp)), (by first | assumption | omega | (dsimp only; omega) | (simp; done)), (take_bothI hpre (by omega) (by omega) (spt_ext (Classical.not_not.1 hc10))), (by first | assumption | omega | (dsimp only; omega) | (simp; done)), hV⟩
     ·repeat (first | (with_reducible exact Agree.merge _ _ _) | (with_reducible exact Agree.refl _ _) | (with_reducible refine Agree.upd ?_ _ _ rfl) | ((with_reducible refine Agree.inner ?_ ?_); (kernel_rfl)))
   ·skip
    refine r_exit rfl ?_
    refine r_seq ?_
    refine r_region ?_
    refine r_op rfl rfl rfl (run_asg (v := .bool _) rfl (by exact rfl)) ?_
    refine r_nil ?_
    refine r_ret (res1 (v := .bool _) rfl (by exact rfl)) ?_
    exact ⟨by rw [decide_eq_true (by rw [List.take_of_length_le (by omega), List.take_of_length_le (by omega)] at hpre; exact hpre)], hV⟩
end Go.Proofs.YtkklomiipkipnaaGreatDoor
