/-
  Library, plain laws and walks that the statements reach (joined by a program out of smaller texts).
-/
import Derived.Test.YtbgmlpbgofcfjaaGreatDoorQh
import Derived.Tactics
import Derived.Tactics2
import Derived.Defers
import Derived.Laws.Pointers
import Derived.Laws.LoneSync
import Derived.RegionTactic
import Derived.RegionCalls
import Derived.ChangeAlike
import Derived.Test.YtbgmlpbgofcfjaaGreatDoorQg
set_option linter.unusedVariables false
set_option linter.unusedSimpArgs false
namespace Go.Proofs.YtbgmlpbgofcfjaaGreatDoor
open Go Go.RowKit Go.Proofs.Tryz
theorem Sm (w : World) : (callFunc 309 #[]).run Tryz.prog w = .ok (.value (.tuple #[])) w := run_call_mark0 func309 (by kernel_rfl) (by kernel_rfl) (by kernel_rfl) .disable (by kernel_rfl) w
theorem VJ (w : World) : (callFunc 311 #[]).run Tryz.prog w = .ok (.value (.tuple #[])) w := run_call_mark0 func311 (by kernel_rfl) (by kernel_rfl) (by kernel_rfl) .enable (by kernel_rfl) w
theorem XU (a : Addr) (w : World) : (callFunc 312 #[.pointer (some a)]).run Tryz.prog w = .ok (.value (.tuple #[])) w := run_call_marked func312 (by kernel_rfl) (by kernel_rfl) (by kernel_rfl) .acquire (by kernel_rfl) a w
theorem ZI (a : Addr) (w : World) : (callFunc 314 #[.pointer (some a)]).run Tryz.prog w = .ok (.value (.tuple #[])) w := run_call_marked func314 (by kernel_rfl) (by kernel_rfl) (by kernel_rfl) .releaseMerge (by kernel_rfl) a w
set_option maxRecDepth 100000 in
set_option maxHeartbeats 1600000 in
theorem Xq (a : Addr) (x : Value) (u : FrameMode) (w : World) (J : w.cell? a = some x) (R : w.frozen? a = false) :
    CallsD Tryz.prog 290 #[.pointer (some a), .bool true] u w fun e I w' => I = u ∧ (e = .returned (.tuple #[]) ∧ w' = w.drew.setCell a (.int .u32 1)) := by
  have j : w.drew.cell? a = some x := by go_simp
  have o : w.drew.frozen? a = false := by go_simp
  have C := run_call_store (P := Tryz.prog) func302 (by kernel_rfl) (by kernel_rfl) (by kernel_rfl) (by kernel_rfl) (k := .u32) (y := 1) j o
  go_enter_d func290, ntmps290
  go_wp2
  go_region_calls
  all_goals (go_end0; exact ⟨rfl, rfl⟩)
set_option maxRecDepth 100000 in
set_option maxHeartbeats 1600000 in
theorem WN (a : Addr) (u : FrameMode) (w : World) (o : w.cell? a = some (.int .i32 1)) (I : w.frozen? a = false) :
    CallsD Tryz.prog 289 #[.pointer (some a)] u w fun e J w' => J = u ∧ (e = .returned (.tuple #[]) ∧ w' = w.setCell a (.int .i32 0)) := by
  have R := Sm
  have he := VJ
  have U := ZI
  have j := run_call_add (P := Tryz.prog) func315 (by kernel_rfl) (by kernel_rfl) (by kernel_rfl) .i32 (by kernel_rfl) (y := -1) (s := 0) o I (by simp [go_sem]; rfl)
  have C := run_convert_to_unsafe (P := Tryz.prog) (src := 415) (dst := 283) underlying415 underlying283 (by kernel_rfl) o
  go_enter_d func289, ntmps289
  go_wp2
  go_end0
  go_wp2
  go_end0
  exact ⟨rfl, rfl⟩
set_option maxRecDepth 100000 in
set_option maxHeartbeats 1600000 in
theorem dM (a : Addr) (w : World) (o : w.cell? a = some (.int .i32 0)) (J : w.frozen? a = false) :
    Calls Tryz.prog 288 #[.pointer (some a)] w fun e w' => e = .returned (.tuple #[]) ∧ w' = w.setCell a (.int .i32 1) := by
  have U := Sm
  have he := VJ
  have R := XU
  have C := run_call_cas_hit (P := Tryz.prog) func310 (by kernel_rfl) (by kernel_rfl) (by kernel_rfl) .i32 (by kernel_rfl) (y := 1) o J
  have j : (w.setCell a (.int .i32 1)).cell? a = some (.int .i32 1) := World.cell?_setCell_same w a _ o
  have I := run_convert_to_unsafe (P := Tryz.prog) (src := 415) (dst := 283) underlying415 underlying283 (by kernel_rfl) j
  go_enter func288, ntmps288
  go_wp2
  first | go_end0 | (simp only [Exit.inBlock, Exit.then]; refine bodyPost_ret (results_none rfl _ _ _) rfl ?_) | refine bodyPost_ret (results_none rfl _ _ _) rfl ?_
  go_wp2
  go_end0
  exact ⟨rfl, rfl⟩
theorem XI (a : Addr) (d : Int) (w : World) (j : w.cell? a = some (.int .u32 d)) : Calls Tryz.prog 270 #[.pointer (some a)] w fun e w' => e = .returned (.bool (d != 0)) ∧ w' = w := by
  have o := run_call_load (P := Tryz.prog) func287 (by kernel_rfl) (by kernel_rfl) (by kernel_rfl) .u32 (by kernel_rfl) j
  go_enter func270, ntmps270
  go_wp2
  exact bodyPost_ret (results_tmp rfl _ _ _) rfl ⟨rfl, rfl⟩
set_option maxRecDepth 100000 in
set_option maxHeartbeats 1600000 in
theorem dZ (b off : Nat) (r : Addr) (g : FuncId) (o : ∀ args w, (callFunc g args).run Tryz.prog w = .ok (.enter g args) w) (w : World) (R : w.cell? ⟨b, off, none⟩ = some (.int .u32 0)) (h1 : w.cell? ⟨b, off + 1, none⟩ = some (.int .i32 0)) (f1 : w.frozen? ⟨b, off + 1, none⟩ = false) {S : World → Prop}
    (hf : Calls Tryz.prog g #[.pointer (some r)] (w.setCell ⟨b, off + 1, none⟩ (.int .i32 1)) fun e w' => e = .returned (.tuple #[]) ∧ S w')
    (U : ∀ w', S w' → w'.cell? ⟨b, off, none⟩ = some (.int .u32 0) ∧ w'.cell? ⟨b, off + 1, none⟩ = some (.int .i32 1) ∧ w'.frozen? ⟨b, off, none⟩ = false ∧ w'.frozen? ⟨b, off + 1, none⟩ = false) :
    Calls Tryz.prog 271 #[.pointer (some ⟨b, off, none⟩), .func (.func g) #[.pointer (some r)] #[]] w fun e w' => e = .returned (.tuple #[]) ∧ ∃ J, S J ∧ w' = (J.drew.setCell ⟨b, off, none⟩ (.int .u32 1)).setCell ⟨b, off + 1, none⟩ (.int .i32 0) := by
  have j : (w.setCell ⟨b, off + 1, none⟩ (.int .i32 1)).cell? ⟨b, off, none⟩ = some (.int .u32 0) := (World.cell?_setCell_other _ ⟨b, off + 1, none⟩ ⟨b, off, none⟩ _ (by simp)).trans R
  have I : ∀ (x : Bool) (w : World), (Op.unary .not (.bool x)).run Tryz.prog w = .ok (.bool (!x)) w := fun _ _ => rfl
  go_enter_defers func271, ntmps271
  go_wp2_with (first | (go_at_call 288; refine (dM ⟨b, off + 1, none⟩ _ (by go_simp) (by go_simp)).mono ?_; rintro e w' ⟨rfl, rfl⟩) | (go_at_call 270; refine (XI ⟨b, off, none⟩ 0 _ j).mono ?_; rintro e w' ⟨rfl, rfl⟩))
  refine hf.mono ?_
  rintro e w' ⟨rfl, hSw⟩
  obtain ⟨g0, g1, g2, g3⟩ := U _ hSw
  go_wp2
  refine leaves_cons (f := 290) (args := #[.pointer (some ⟨b, off, none⟩), .bool true]) (by simp) (by simp [go_sem]) ?_
  refine (Xq ⟨b, off, none⟩ (.int .u32 0) .returning _ g0 g2).mono ?_
  rintro e u' C ⟨rfl, rfl, rfl⟩
  refine leaves_cons (f := 289) (args := #[.pointer (some ⟨b, off + 1, none⟩)]) (by simp [settle]) (by simp [go_sem]) ?_
  refine (WN ⟨b, off + 1, none⟩ _ _ ?_ (by simp [g3])).mono ?_
  · refine (World.cell?_setCell_other _ ⟨b, off, none⟩ ⟨b, off + 1, none⟩ _ (by simp)).trans ?_
    rw [World.cell?_drew]
    exact g1
  rintro e u' C ⟨rfl, rfl, rfl⟩
  simp [Leaves, settle, results, Tryz.results271]
  exact ⟨_, hSw, rfl⟩
theorem fv (b off : Nat) (r : Addr) (g : FuncId) (j : ∀ args w, (callFunc g args).run Tryz.prog w = .ok (.enter g args) w) (w : World) (I : w.cell? ⟨b, off, none⟩ = some (.int .u32 0)) (h1 : w.cell? ⟨b, off + 1, none⟩ = some (.int .i32 0)) (f1 : w.frozen? ⟨b, off + 1, none⟩ = false) {S : World → Prop}
    (U : Calls Tryz.prog g #[.pointer (some r)] (w.setCell ⟨b, off + 1, none⟩ (.int .i32 1)) fun e w' => e = .returned (.tuple #[]) ∧ S w')
    (R : ∀ w', S w' → w'.cell? ⟨b, off, none⟩ = some (.int .u32 0) ∧ w'.cell? ⟨b, off + 1, none⟩ = some (.int .i32 1) ∧ w'.frozen? ⟨b, off, none⟩ = false ∧ w'.frozen? ⟨b, off + 1, none⟩ = false) :
    Calls Tryz.prog 232 #[.pointer (some ⟨b, off, none⟩), .func (.func g) #[.pointer (some r)] #[]] w fun e w' => e = .returned (.tuple #[]) ∧ ∃ C, S C ∧ w' = (C.drew.setCell ⟨b, off, none⟩ (.int .u32 1)).setCell ⟨b, off + 1, none⟩ (.int .i32 0) := by
  have J : ∀ (x : Bool) (w : World), (Op.unary .not (.bool x)).run Tryz.prog w = .ok (.bool (!x)) w := fun _ _ => rfl
  go_enter func232, ntmps232
  go_wp2_with (first | (go_at_call 271; refine (dZ b off r g j _ I h1 f1 U R).mono ?_; rintro e w' ⟨rfl, C, o, rfl⟩) | (go_at_call 270; refine (XI ⟨b, off, none⟩ 0 _ I).mono ?_; rintro e w' ⟨rfl, rfl⟩))
  go_end0
  exact ⟨rfl, _, o, rfl⟩
end Go.Proofs.YtbgmlpbgofcfjaaGreatDoor
namespace Go.Proofs.YtbgmlpbgofcfjaaGreatDoor
open Go Go.RowKit Go.Vc Go.Proofs.Tryz
theorem ar {w : World} {b T o : Nat} {cs : List Value} {V : Value} (h : Blk w b T cs) : Blk (w.setCell ⟨b, o, none⟩ V) b T (cs.set o V) := by
  unfold Blk at h ⊢
  simp [World.setCell, Array.getElem?_modify, h]
theorem dH {w : World} {b T o : Nat} {cs : List Value} (h : Blk w b T cs) : w.frozen? ⟨b, o, none⟩ = false := by
  unfold Blk at h; simp [World.frozen?, h]
def Yt (s : Hx) (n o : Nat) (x : AC) : Option Hx := match s.h.get n with
  | some (T, m, l) => match Rv l [x] o with
    | some l' => bif QE x then some ⟨s.h.put 40 n (some (T, m, l')), s.nx⟩ else none
    | none => none
  | none => none
def OE (s : Hx) (n o : Nat) : Option AC := match s.h.get n with
  | some (_, _, l) => an l o
  | none => none
theorem Jr {ρ : Nm} {s : Hx} {w : World} {n o b c : Nat} {x : AC} (h : OE s n o = some x) (hw : Wr ρ s w) (U : ρ n = some (b, c)) : ∃ X, w.cell? ⟨b, o, none⟩ = some X ∧ Dd ρ x = some X ∧ w.frozen? ⟨b, o, none⟩ = false := by
  unfold OE at h
  split at h
  · rename_i T m l hg
    obtain ⟨b', c', L, R, h1, j, C, _⟩ := hw.blk n T m l hg
    rw [U] at h1; injection h1 with h1; injection h1 with h1 _; subst h1
    rw [I2] at h
    obtain ⟨X, I, J⟩ := C.get h
    have := j.at.cell o (JC (R := R) I)
    rw [Nat.zero_add] at this
    exact ⟨X, this, J, dH j⟩
  · cases h
theorem P5 {ρ : Nm} {s s' : Hx} {w : World} {n o b c : Nat} {x : AC} {V : Value} (h : Yt s n o x = some s') (hw : Wr ρ s w) (hn : ρ n = some (b, c)) (hx : Dd ρ x = some V) : Wr ρ s' (w.setCell ⟨b, o, none⟩ V) ∧ Mv ρ s w ρ s' (w.setCell ⟨b, o, none⟩ V) := by
  unfold Yt at h
  split at h
  · rename_i T m l hg
    split at h
    · rename_i l' hl'
      cases h1b : QE x
      · rw [h1b] at h; cases h
      · rw [h1b] at h; simp only [cond_true, Option.some.injEq] at h; subst h
        obtain ⟨b', c', L, R, h1, hB, hC, C, I⟩ := hw.blk n T m l hg
        rw [hn] at h1; injection h1 with h1; injection h1 with h1 h1'; subst h1; subst h1'
        have aS : Cs ρ [x] [V] := Cs.cons.2 ⟨V, [], rfl, hx, Cs.nil ρ⟩
        obtain ⟨ag, al⟩ := OI hl' hC aS
        have bl := hw.lt hn
        have U := hw.lim
        have ao : A1 [V] = true := by simp [A1, P6 h1b hx]
        simp only [List.length_cons, List.length_nil, Nat.zero_add] at ag
        have e1 : (L ++ R).set o V = (L.take o ++ [V] ++ L.drop (o + [V].length)) ++ R := by
          rw [List.set_append_left _ _ ω, List.set_eq_take_append_cons_drop, if_pos ω]; simp
        have J := ar (o := o) (V := V) hB
        rw [e1] at J
        exact MY (E := [b]) (N := n) (T := T) (m := m) (b := b) (c := c) (l := l') (L := L.take o ++ [V] ++ L.drop (o + [V].length)) (R := R) (s' := ⟨s.h.put 40 n (some (T, m, l')), s.nx⟩) (ρ' := ρ) hw (Nat.le_refl _) U (fun _ _ => rfl) hw.new (fun n' y j => by
            rw [ED n' ω] at j
            by_cases e : n' = n
            · rw [if_pos e] at j; injection j with j; exact .inl ⟨e, j.symm⟩
            · rw [if_neg e] at j
              refine .inr ⟨e, j, fun b' c' hq az => ?_⟩
              have au : b' = b := by simpa using az
              exact e (hw.inj n' n _ _ b c' c j hg (au ▸ hq) hn)) hn J al (FO (FO (IC C _) ao) (KH C _))
          ⟨fun hk => ⟨by have := (I.1 hk).1; simp only [List.length_append, List.length_take, List.length_drop, List.length_cons, List.length_nil] at this ⊢; omega, (I.1 hk).2⟩, I.2⟩ (Evo.setCell w ⟨b, o, none⟩ V) (fun y hy => by simp at hy; subst hy; exact ⟨n, _, c, hg, hn⟩) (.inr (by simp))
    · cases h
  · cases h
def eO : Option AC → Bool
  | some (.v (.int .u32 (.ofNat 0))) => true
  | _ => false
def eR (k : Nat) : Option AC → Bool
  | some (.v (.int .i32 (.ofNat n))) => Nat.beq n k
  | _ => false
theorem ZY {x : Option AC} (h : eO x = true) : x = some (.v (.int .u32 0)) := by
  unfold eO at h; split at h <;> first | rfl | cases h
theorem XW {k : Nat} {x : Option AC} (h : eR k x = true) : x = some (.v (.int .i32 (k : Nat))) := by
  unfold eR at h; split at h <;> first | (rw [← Nat.eq_of_beq_eq_true h]; rfl) | cases h
abbrev cV := FuncId → List AV → Hx → Option (AV × Hx)
def fS (E : cV) (n o : Nat) (x : AV) (s : Hx) : Option (AV × Hx) := match OE s n (o + 3) with
  | some (.i T n2 o2) => bif Nat.beq T 391 then E 354 [cv (.p n2 o2), x] s else none
  | _ => none
def fG (s : Hx) (n o : Nat) : Option Hx := match Yt s n o (.v (.int .u32 1)) with
  | some s3 => Yt s3 n (o + 1) (.v (.int .i32 0))
  | none => none
def fF (E : cV) (n o : Nat) (x : AV) (s : Hx) : Option (AV × Hx) := bif eO (OE s n o) && eR 1 (OE s n (o + 1)) then (match fG s n o with
  | some s4 => fS E n o x s4
  | none => none) else none
def ed (E : cV) (n o : Nat) (x : AV) (s : Hx) : Option (AV × Hx) := match E 233 [cv (.p n o)] s with
  | some (v, s2) => match v with
    | .t [] => fF E n o x s2
    | _ => none
  | none => none
def db (E : cV) : List AV → Hx → Option (AV × Hx)
  | [a, x], s => match a with
    | .w (.c (.p n o)) => bif eO (OE s n o) && eR 0 (OE s n (o + 1)) then (match Yt s n (o + 1) (.v (.int .i32 1)) with
      | some s1 => ed E n o x s1
      | none => none) else none
    | _ => none
  | _, _ => none
def K4 : RH := fun g => bif Nat.beq g 172 then some cw else bif Nat.beq g 125 then some dW else bif Nat.beq g 126 then some eG else none
theorem RF : NQ Tryz.prog ZK K4 := by
  intro g F h args vs s v s' ρ w hF hw hz ha
  unfold K4 at h
  cases h1 : Nat.beq g 172
  · rw [h1, cond_false] at h
    cases h2 : Nat.beq g 125
    · rw [h2, cond_false] at h
      cases h3 : Nat.beq g 126
      · rw [h3, cond_false] at h; cases h
      · rw [h3, cond_true] at h; injection h with h; subst h
        have := Nat.eq_of_beq_eq_true h3; subst this
        exact bV hF hw ha
    · rw [h2, cond_true] at h; injection h with h; subst h
      have := Nat.eq_of_beq_eq_true h2; subst this
      exact aI hF hw ha
  · rw [h1, cond_true] at h; injection h with h; subst h
    have := Nat.eq_of_beq_eq_true h1; subst this
    exact bw hF hw hz ha
def WW (E : cV) : RH := fun g => bif Nat.beq g 189 then some (db E) else K4 g
theorem fz : fM Tryz.prog := by
  intro g fn h
  have key : (Tryz.prog.funcs.toList.all fun fn => !(fn.name == "runtime.NumGoroutine")) = true := ζ
  have := List.all_eq_true.1 key fn (by rw [← Array.getElem?_toList] at h; exact List.mem_of_getElem? h)
  simpa using this
theorem eJ {ρ : Nm} {s : Hx} {w w' : World} (hw : Wr ρ s w) (he : Evo w w' []) : Wr ρ s w' :=
  ⟨fun n T m l C => by obtain ⟨b, c, L, R, h1, j, o⟩ := hw.blk n T m l C; exact ⟨b, c, L, R, h1, j.evo0 he, o⟩, hw.inj, hw.new, hw.lim⟩
theorem aG (v : Value) (w : World) : (method 556 391 v "Replace").run Tryz.prog w = .ok (354, v) w := ζ
theorem X6 (v x : Value) (w : World) : (callFunc 354 #[v, x]).run Tryz.prog w = .ok (.enter 354 #[v, x]) w := ζ
set_option maxRecDepth 100000 in
set_option maxHeartbeats 1600000 in
theorem fL (b off : Nat) (x : Value) (w : World) (J : w.cell? ⟨b, off, none⟩ = some (.int .u32 0)) (h1 : w.cell? ⟨b, off + 1, none⟩ = some (.int .i32 0)) (f1 : w.frozen? ⟨b, off + 1, none⟩ = false) {S : World → Prop}
    (hf : Calls Tryz.prog 233 #[.pointer (some ⟨b, off, none⟩)] (w.setCell ⟨b, off + 1, none⟩ (.int .i32 1)) fun e w' => e = .returned (.tuple #[]) ∧ S w')
    (hS : ∀ w', S w' → w'.cell? ⟨b, off, none⟩ = some (.int .u32 0) ∧ w'.cell? ⟨b, off + 1, none⟩ = some (.int .i32 1) ∧ w'.frozen? ⟨b, off, none⟩ = false ∧ w'.frozen? ⟨b, off + 1, none⟩ = false) {R : Value → World → Prop}
    (U : ∀ o, S o → ∃ p, ((o.drew.setCell ⟨b, off, none⟩ (.int .u32 1)).setCell ⟨b, off + 1, none⟩ (.int .i32 0)).cell? ⟨b, off + 3, none⟩ = some (.iface 391 p) ∧
      Calls Tryz.prog 354 #[p, x] ((o.drew.setCell ⟨b, off, none⟩ (.int .u32 1)).setCell ⟨b, off + 1, none⟩ (.int .i32 0)) fun e w' => ∃ V, e = .returned V ∧ R V w') :
    Calls Tryz.prog 189 #[.pointer (some ⟨b, off, none⟩), x] w fun e w' => ∃ V, e = .returned V ∧ R V w' := by
  have I := fv b off ⟨b, off, none⟩ 233 (fun args w => by exact Tryz.call233 args w) w J h1 f1 hf hS
  go_enter func189, ntmps189
  go_wp2_with (go_at_call 232; refine I.mono ?_; rintro e w' ⟨rfl, o, C, rfl⟩; obtain ⟨p, hp, j⟩ := U o C; generalize ((o.drew.setCell ⟨b, off, none⟩ (.int .u32 1)).setCell ⟨b, off + 1, none⟩ (.int .i32 0)) = w2 at hp j ⊢)
  go_wp2
  rw [aG p w2]
  simp only [Result.andThen_ok]
  rw [X6, Oper.upon_enter]
  refine j.mono ?_
  rintro e w' ⟨V, rfl, hR⟩
  go_wp2
  refine bodyPost_ret (results_tmp rfl _ _ _) rfl ⟨V, ?_, hR⟩
  rfl
def cy (E : cV) : Prop := ∀ g args vs s v s' ρ w, E g args s = some (v, s') → Wr ρ s w → ZK ρ s w → Alv ρ args vs → Jy Tryz.prog ρ s w g vs v s'
theorem a7 {E : cV} (hE : cy E) {args : List AV} {vs : List Value} {s s' : Hx} {v : AV} {ρ : Nm} {w : World} (h : db E args s = some (v, s')) (hw : Wr ρ s w) (hz : ZK ρ s w) (ha : Alv ρ args vs) : Jy Tryz.prog ρ s w 189 vs v s' := by
  unfold db at h
  split at h
  · rename_i a x
    split at h
    · rename_i n o
      obtain ⟨A, X, rfl, hA, hX⟩ := dy ha
      obtain ⟨b, c, hn, rfl⟩ := D1 rfl hA
      cases hb : (eO (OE s n o) && eR 0 (OE s n (o + 1)))
      · rw [hb] at h; cases h
      · rw [hb] at h; simp only [cond_true] at h
        simp only [Bool.and_eq_true] at hb
        obtain ⟨X0, h0, e0, _⟩ := Jr (ZY hb.1) hw hn
        obtain ⟨X1, h1, e1, f1⟩ := Jr (XW hb.2) hw hn
        injection e0 with e0; subst e0
        injection e1 with e1; subst e1
        split at h
        · rename_i s1 hs1
          obtain ⟨a_, ag⟩ := P5 (V := .int .i32 1) hs1 hw hn rfl
          have bb := UX _ _ _ _ _ _ hz ag
          unfold ed at h
          split at h
          · rename_i u s2 hu
            split at h
            · have hf := hE 233 _ [.pointer (some ⟨b, o, none⟩)] _ _ _ ρ _ hu a_ bb ⟨E0 hn, trivial⟩
              unfold fF at h
              cases hb2 : (eO (OE s2 n o) && eR 1 (OE s2 n (o + 1)))
              · rw [hb2] at h; cases h
              · rw [hb2] at h; simp only [cond_true] at h
                simp only [Bool.and_eq_true] at hb2
                split at h
                · rename_i s4 hs4
                  unfold fG at hs4
                  split at hs4
                  · rename_i s3 hs3
                    unfold fS at h
                    split at h
                    · rename_i T n2 o2 hg
                      cases hT : Nat.beq T 391
                      · rw [hT] at h; cases h
                      · rw [hT] at h; simp only [cond_true] at h
                        have := Nat.eq_of_beq_eq_true hT; subst this
                        have bc := hw.lt hn
                        have j : ∀ {ρ' w'}, Mv ρ s w ρ' s2 w' → ρ' n = some (b, c) := fun hm => (hm.ext n bc).trans hn
                        refine (fL b o X w h0 h1 f1 (S := fun w' => ∃ ρ', Wr ρ' s2 w' ∧ Mv ρ s w ρ' s2 w') (R := fun V w' => ∃ ρ', Av ρ' v V ∧ Wr ρ' s' w' ∧ Mv ρ s w ρ' s' w') ?_ ?_ ?_).mono ?_
                        · refine hf.mono ?_
                          rintro e w' ⟨V, ρ', rfl, hV, hw2, hm2⟩
                          obtain ⟨L, rfl, hL⟩ := hV
                          cases L with
                          | cons => exact hL.elim
                          | nil => exact ⟨rfl, ρ', hw2, ag.trans hm2⟩
                        · rintro w' ⟨ρ', hw2, hm2⟩
                          obtain ⟨Y0, g0, q0, z0⟩ := Jr (ZY hb2.1) hw2 (j hm2)
                          obtain ⟨Y1, g1, C, z1⟩ := Jr (XW hb2.2) hw2 (j hm2)
                          injection q0 with q0; subst q0
                          injection C with C; subst C
                          exact ⟨g0, g1, z0, z1⟩
                        · rintro w1 ⟨ρ', hw2, hm2⟩
                          have hd := Evo.drew w1 []
                          have al := eJ hw2 hd
                          obtain ⟨ba, aS⟩ := P5 (V := .int .u32 1) hs3 al (j hm2) rfl
                          obtain ⟨ao, aT⟩ := P5 (V := .int .i32 0) hs4 ba (j hm2) rfl
                          have J := ((hm2.trans (gF hd)).trans aS).trans aT
                          obtain ⟨Y, g1, C, _⟩ := Jr hg ao (j hm2)
                          have q2 : ∃ U c2, ρ' n2 = some (U, c2) ∧ Y = .iface 391 (.pointer (some ⟨U, o2, none⟩)) := by
                            simp only [Dd] at C
                            cases e : ρ' n2 with
                            | none => rw [e] at C; cases C
                            | some p => obtain ⟨U, c2⟩ := p; rw [e] at C; injection C with C; exact ⟨U, c2, rfl, C.symm⟩
                          obtain ⟨U, c2, a1, rfl⟩ := q2
                          refine ⟨_, g1, ?_⟩
                          have I := hE 354 _ [.pointer (some ⟨U, o2, none⟩), X] _ _ _ ρ' _ h ao (UX _ _ _ _ _ _ hz J) ⟨E0 a1, hX.mono (J.Ext hw), trivial⟩
                          refine I.mono ?_
                          rintro e w' ⟨V, ρ2, rfl, hV, hw5, hm5⟩
                          exact ⟨V, rfl, ρ2, hV, hw5, J.trans hm5⟩
                        · rintro e w' ⟨V, rfl, ρ', h5, h6, h7⟩
                          exact ⟨V, ρ', rfl, h5, h6, h7⟩
                    · cases h
                  · cases hs4
                · cases h
            · cases h
          · cases h
        · cases h
    · cases h
  · cases h
theorem Yb : Tryz.prog.follows .mixedOrders = true := ζ
theorem U0 {E : cV} (j : cy E) : NQ Tryz.prog ZK (WW E) := by
  intro g F h args vs s v s' ρ w hF hw hz ha
  unfold WW at h
  cases h1 : Nat.beq g 189
  · rw [h1, cond_false] at h; exact RF g F h args vs s v s' ρ w hF hw hz ha
  · rw [h1, cond_true] at h; injection h with h; subst h
    have := Nat.eq_of_beq_eq_true h1; subst this
    exact a7 j hF hw hz ha
theorem cG : cy (fun g a s => GY Tryz.prog K4 (ev Tryz.prog Qe K4 3000) g a s) := fun g args vs s v s' ρ w h hw o j =>
  Ku RF (XJ Yb UX fz Uf RF 3000).1 h hw o j
theorem bN (w : World) : Wr (fun _ => none) ⟨.e, 0⟩ w :=
  ⟨fun n T m l h => (by rw [KV] at h; cases h), fun n o x C b c j h => (by rw [KV] at h; cases h), fun _ _ => rfl, by decide⟩
def Yi : Option (AV × Hx) → Bool
  | some (.w (.c (.v (.bool true))), _) => true
  | _ => false
theorem Yc {t : Option (AV × Hx)} (C : Yi t = true) (he : GY Tryz.prog (WW fun g a s => GY Tryz.prog K4 (ev Tryz.prog Qe K4 3000) g a s) (ev Tryz.prog Qe (WW fun g a s => GY Tryz.prog K4 (ev Tryz.prog Qe K4 3000) g a s) 3000) 4 [] ⟨.e, 0⟩ = t)
    (w : World) (hw : ∃ m, w.cell? ⟨0, 0, none⟩ = some (.int .i64 m)) : Calls Tryz.prog 4 #[] w fun e w' => e = .returned (.bool true) ∧ Evo w w' [] := by
  have j : ∀ b, ¬ Qx (fun _ => none) ⟨.e, 0⟩ b := by
    rintro b ⟨n, x, c, h, _⟩; rw [KV] at h; cases h
  unfold Yi at C
  split at C
  · rename_i s'
    have J := Ku (U0 cG) (XJ Yb UX fz Uf (U0 cG) 3000).1 (vs := []) he (bN w) ⟨hw, j 0⟩ trivial
    refine J.mono ?_
    rintro e w' ⟨V, ρ', rfl, hV, _, hm⟩
    have o : V = .bool true := FQ rfl hV
    subst o
    exact ⟨rfl, hm.os, hm.tape, hm.output, hm.size, fun b I _ => hm.same b I (j b)⟩
  · cases C
theorem Vi : Yi (GY Tryz.prog (WW fun g a s => GY Tryz.prog K4 (ev Tryz.prog Qe K4 3000) g a s) (ev Tryz.prog Qe (WW fun g a s => GY Tryz.prog K4 (ev Tryz.prog Qe K4 3000) g a s) 3000) 4 [] ⟨.e, 0⟩) = true := ζ
theorem L7 (w : World) (hw : ∃ m, w.cell? ⟨0, 0, none⟩ = some (.int .i64 m)) : Calls Tryz.prog 4 #[] w fun e w' => e = .returned (.bool true) ∧ Evo w w' [] := Yc Vi rfl w hw
theorem cQ : Cn Tryz.prog 26 = some [(0, 1), (1, 1)] := ζ
theorem cN : Cy Tryz.prog 26 = some (2, 32, some (.agg #[(.slice none 0 0), (.int .i64 0)])) := ζ
theorem SU {bf n z : Nat} {F Y : List Nat} {l : List StV} {T : List Pr} {x : Entr} {a b : List Vc.Item} {o : World} (j : EntOk z o x a b) (U : Fnd o bf F l T n Y) (hn : n ≤ 1000) (C : Tab o) :
    Calls Tryz.prog 7 #[.pointer (some ⟨bf, 0, none⟩), .agg (Enc.enc x).toArray] o fun e w' => ∃ (I : List Nat) (l' : List StV) (T' : List Pr), (∃ r : Int, e = .returned (.int .i64 r)) ∧ Evo o w' F ∧ Fnd w' bf I l' T' (n + 1) Y ∧ (∀ g ∈ I, g ∈ F ∨ o.heap.size ≤ g) := by
  obtain ⟨b1, o1, r1, J, _⟩ := j.rs
  obtain ⟨b2, o2, r2, R, _⟩ := j.rt
  show Calls _ _ #[_, .agg #[.slice x.src.ao x.src.len x.src.cap, .slice x.tgt.ao x.tgt.len x.tgt.cap, S x.prev, S x.next, S x.author, S x.project, .int .i64 x.created, .int .i64 x.origin]] _ _
  rw [J, R]
  exact Tw U hn r1 r2 j.val (by have := j.al; omega) (by have := j.bl; omega) (by have := j.az; omega) (by have := j.bz; omega) j.prev j.next C
theorem Fnd.open {w : World} {bf n : Nat} {F Y : List Nat} {l : List StV} {T : List Pr} (h : Fnd w bf F l T n Y) : ∃ o I ao b cap FI A, Blk w bf 76 [.pointer (some ⟨o, 0, none⟩), .slice ao l.length cap, .int .i64 I] ∧ RowE w ao b 0 cap l ∧ (l ≠ [] → b < w.heap.size) ∧ Mp w o A FI ∧ RowsF (F ++ Y) w l T ∧ A.Perm (JL l T) ∧ (A.map (·.1)).Nodup := by
  obtain ⟨o, I, v, FI, A, h⟩ := h
  have j := h.own
  have hblk := h.blk
  obtain ⟨ao, cap, rfl⟩ := j.shape
  obtain ⟨_, b, h1, J⟩ := j.row_of
  exact ⟨o, I, ao, b, cap, FI, A, hblk, h1, fun C => (J C).2.2, h.idx, h.rows, h.perm, h.nodup⟩
theorem Hn {bf n : Nat} {F Y : List Nat} {l : List StV} {T : List Pr} {j : World} (o : Fnd j bf F l T n Y) (hn : n ≤ 1000) :
    Calls Tryz.prog 9 #[.pointer (some ⟨bf, 0, none⟩)] j fun e w' => ∃ v, ∃ es : List Entr, e = .returned v ∧ Evo j w' [] ∧ OwnE w' j.heap.size 35 v es ∧ es.length = l.length ∧ EsOk (v.ownBlock.toList ++ Y) w' es T := by
  have R : ∀ g ∈ Y, g < j.heap.size := by obtain ⟨C, U, v, FI, A, h⟩ := o; exact h.ylt
  have hl := o.len
  obtain ⟨C, U, ao, b, cap, FI, A, h1, I, _, _, J, _⟩ := o.open
  exact M0 h1 I J ω R
theorem dX {l : List StV} {T : List Pr} {j : Nat} (I : l.length = T.length) (C : j < l.length) : (JL l T)[j]? = some ((l.getD j default).id, Cp (T.getD j default).1) := by
  have o : (l.zip T)[j]? = some (l.getD j default, T.getD j default) := List.getElem?_zip_eq_some.2 ⟨getD_some C, getD_some ω⟩
  unfold JL
  rw [List.getElem?_map, o]
  rfl
theorem TZ {A : BG} {l : List StV} {T : List Pr} {q : List Vc.Item} {p : Int} {r : List Int} {j : Nat} (hc : PJ A q p r) (R : A.Perm (JL l T)) (hn : (A.map (·.1)).Nodup) (hl : l.length = T.length) (hj : j < l.length) (hm : (l.getD j default).id ∈ r) : T5 q p (0, Cp (T.getD j default).1) = true := by
  obtain ⟨y, hy, he, U⟩ := (PF hc).1 hm
  have h1 := R.mem_iff.1 hy
  obtain ⟨i, hi, I⟩ := List.getElem_of_mem h1
  have J : ((JL l T).map (·.1)).Nodup := (R.map _).nodup_iff.1 hn
  have h3 := dX hl hj
  obtain ⟨au, C⟩ := List.getElem?_eq_some_iff.1 h3
  have o := List.pairwise_iff_getElem.1 J
  have aS : ((JL l T).map (·.1)).length = (JL l T).length := List.length_map _
  have h5 : i = j := by
    rcases Nat.lt_trichotomy i j with h | h | h
    · exact absurd (by rw [List.getElem_map, List.getElem_map, I, C]; exact he) (o i j ω ω h)
    · exact h
    · exact absurd (by rw [List.getElem_map, List.getElem_map, I, C]; exact he.symm) (o j i ω ω h)
  subst h5
  rw [I] at C
  rw [C] at U
  exact U
theorem QL {bf n z bQ oQ : Nat} {F Y : List Nat} {l : List StV} {T : List Pr} {x : Quer} {a : List Vc.Item} {R : Int} {U w1 : World} (hF : Fnd U bf F l T n Y) (hn : n ≤ 1000) (j : QryOk z w1 x a) (hr : RowE U x.src.ao bQ oQ x.src.cap a) (he : x.src.len = a.length) (bb : 1 ≤ R ∧ R ≤ 102) :
    Calls Tryz.prog 14 #[.pointer (some ⟨bf, 0, none⟩), .slice none 0 0, .agg #[.slice x.src.ao x.src.len x.src.cap, S x.prev, S x.next, .int .i64 x.now, .int .i64 R, .int .i64 100]] U fun e w' =>
      ∃ (C : Option Addr) (b2 o I : Nat) (d : List MatV), e = .returned (.tuple #[.slice C d.length I, .int .i64 0]) ∧ Evo U w' [] ∧ RowE w' C b2 o I d ∧ ∀ m ∈ d, 0 ≤ m.en ∧ m.en.toNat < l.length ∧ T5 (Cp a) (min R 100) (0, Cp (T.getD m.en.toNat default).1) = true := by
  have hlen := hF.len
  have ba := hF.bd
  obtain ⟨bx, nx, ao, b, cap, FI, A, h1, h2, h3, h4, h5, h6, h7⟩ := hF.open
  have aT : A.length ≤ 1000000 := by rw [h6.length_eq]; unfold JL; rw [List.length_map, List.length_zip]; omega
  have a1 : ∀ q ∈ A, q.2.length ≤ 1000000 := fun q j => by
    have h8 := h6.mem_iff.1 j
    unfold JL at h8
    obtain ⟨⟨s, e⟩, h9, rfl⟩ := List.mem_map.1 h8
    obtain ⟨i, hi, ag⟩ := List.getElem_of_mem (List.of_mem_zip h9).2
    have := (ba i hi).2.1
    have au : T.getD i default = e := by simp [List.getD, hi, ag]
    rw [au] at this
    show (Cp e.1).length ≤ _
    omega
  rw [he]
  refine (QS h1 h2 h3 h4 h5 ω aT a1 hr j.val j.ne (by have := j.al; omega) (by have := j.az; omega) j.prev j.next (by have := j.now; omega) bb ω (by have := j.al; have := j.az; have := LM a; omega)).mono ?_
  rintro e w' ⟨C, b2, o, I, d, r, rfl, hE, hd, hc, hm⟩
  exact ⟨C, b2, o, I, d, rfl, hE, hd, fun m J => ⟨(hm m J).1, (hm m J).2.1, TZ hc h6 h7 hlen.1 (hm m J).2.1 (hm m J).2.2⟩⟩
theorem Ln {h : Hdr} {a : List Vc.Item} {j : World} (C : ∃ b off, RowE j h.ao b off h.cap a ∧ h.len = a.length) (I : EX a + a.length ≤ 1000000000) :
    Calls Tryz.prog 11 #[.slice h.ao h.len h.cap] j fun e w' => ∃ v, e = .returned v ∧ Evo j w' [] ∧ OwnE w' j.heap.size 111 v (Cp a) := by
  obtain ⟨b, off, h1, o⟩ := C
  rw [o]
  exact EP h1 I
theorem RowF.rd {F : List Nat} {w : World} {h : Hdr} {a : List Vc.Item} (o : RowF F w h a) : ∃ b off, RowE w h.ao b off h.cap a ∧ h.len = a.length := by
  obtain ⟨b, off, h1, j, _⟩ := o
  exact ⟨b, off, h1, j⟩
theorem bG {α : Type} [Enc α] {w : World} {ao : Option Addr} {b off cap : Nat} {l : List α} (h : RowE w ao b off cap l) (j : l ≠ []) : b < w.heap.size := by
  have o : 0 < l.length := List.length_pos_iff.2 j
  have h1 := h.at 0 o
  have C : 0 < (Enc.enc l[0]).length := by rw [Enc.len]; exact Enc.pos
  exact World.block_lt_of_cell? w _ (h1 0 _ (List.getElem?_eq_getElem C))
def xA (T : List Pr) (k : Nat) : BG := (List.range k).map fun i : Nat => ((i : Int), Cp (T.getD i default).1)
theorem QG (T : List Pr) (k : Nat) : (xA T k).length = k := by unfold xA; rw [List.length_map, List.length_range]
theorem cg {T : List Pr} {k : Nat} (hk : k < 1024) : Gz (xA T k) (k : Int) := by
  unfold Gz
  rw [QG]
  intro h
  rcases h with h | h
  · unfold xA at h
    simp only [List.map_map, List.mem_map, List.mem_range, Function.comp] at h
    obtain ⟨i, j, he⟩ := h
    omega
  · omega
theorem Z3 {T : List Pr} {k : Nat} (hk : k < 1024) : UA (xA T k) (k : Int) (Cp (T.getD k default).1) = xA T (k + 1) := by
  rw [Ko (cg hk)]; unfold xA; rw [List.range_succ, List.map_append]; rfl
theorem dN {T : List Pr} {n j : Nat} {q : List Vc.Item} {p : Int} {r : List Int} (o : PJ (xA T n) q p r) (C : j < n) (I : T5 q p (0, Cp (T.getD j default).1) = true) : (j : Int) ∈ r := by
  refine (PF o).2 ⟨((j : Int), Cp (T.getD j default).1), ?_, rfl, I⟩
  unfold xA
  exact List.mem_map.2 ⟨j, List.mem_range.2 C, rfl⟩
theorem fB {T : List Pr} {n : Nat} (h : ∀ i, i < T.length → (Cp (T.getD i default).1).length ≤ 1000) (C : n ≤ T.length) : ∀ q ∈ xA T n, q.2.length ≤ 1000000 := fun q j => by
  unfold xA at j
  obtain ⟨i, o, rfl⟩ := List.mem_map.1 j
  have := h i (by have := List.mem_range.1 o; omega)
  show (Cp (T.getD i default).1).length ≤ _
  omega
theorem gH {b n : Nat} {O FI F2 : List Nat} (h : ∀ g ∈ F2, g ∈ FI ∨ n ≤ g) : ∀ g ∈ O ++ (b :: F2), g ∈ O ++ (b :: FI) ∨ n ≤ g := fun g j => by
  rcases List.mem_append.1 j with j | j
  · exact .inl (List.mem_append_left _ j)
  · rcases List.mem_cons.1 j with rfl | j
    · exact .inl (List.mem_append_right _ List.mem_cons_self)
    · exact (h g j).imp_left fun h => List.mem_append_right _ (List.mem_cons_of_mem _ h)
set_option maxHeartbeats 8000000 in
theorem QV {b1 cv : Option Addr} {bL gf b2 bM ofM c9 : Nat} {l m : List Int} {th : Int} {w0 : World} (hl : RowE w0 b1 bL gf b2 l) (hm : RowE w0 cv bM ofM c9 m) (hK : -9223372036854775808 ≤ th ∧ th ≤ 9223372036854775807) (eT : Tab w0) (hz : ∃ q, w0.cell? ⟨0, 0, none⟩ = some (.int .i64 q)) :
    Calls Tryz.prog 3 #[.slice b1 l.length b2, .slice cv m.length c9, .int .i64 th] w0 fun e w' => e = .returned (.bool true) ∧ Evo w0 w' [] := by
 have ca := fun w9 (h9 : Evo w0 w9 []) => eT.evo0 h9; have e3 := fun w9 (h9 : Evo w0 w9 []) => hz.imp fun q hq => (World.cell?_of_block (h9.same 0 (World.block_lt_of_cell? w0 _ hq) (by simp))).trans hq
 refine AG (n := 106) func3 rfl ntmps3 rfl ?_
 have o : Evo w0 w0 [] := Evo.refl _ _
 have bB := A9 hl
 have e6 := hl.bd
 have a_ := A9 hm
 have e8 := hm.bd
 refine Zs (Zn BV (AE (Zs (Zo Bi (Zo (AQ rfl η underlying22) (Zo Ve (Zo Cb ?_)))))))
 refine Aj rfl BQ rfl (fun J => Bi) ?_
 refine Aj rfl BQ rfl (fun J => AQ rfl (Ar J) underlying22) ?_
 refine Aj rfl BQ rfl (fun J => C6 rfl (Ar J) η) ?_
 refine Zn FW (AH η (fun fs => ?_) (fun fs => ?_))
 refine Zs (Zr [] rfl η func4 (L7 _ (e3 _ o)) ?_)
 rintro e w2 ⟨rfl, hE2⟩
 refine ⟨_, rfl, ?_⟩
 have Q2 := hE2.size
 replace o := Z0 o hE2
 refine Zn BV (AM G7 ?_)
 exact ⟨rfl, o⟩
 refine AJ (Zs (Zo Bi (Zo (A2 (pv := [(0, .slice _ _ _)]) (zs := [_, _]) (cells := [_, _]) rfl cN η cQ η η) (CE (vs := [_, _]) η η rfl ?_))))
 intro b3 w4 J3 E4 B3 hzb3
 have Q4 := E4.size
 replace o := Z0 o E4
 have U := B3.at
 refine Zn fH (AE ?_)
 have gr := B3.lt
 refine AB (Zr [] rfl η func5 Th ?_)
 rintro e w5 ⟨ao, ff5, rfl, hE5, bm, hff5⟩
 refine ⟨_, rfl, ?_⟩
 have Q5 := hE5.size
 replace o := Z0 o hE5
 replace B3 := B3.evo0 hE5
 replace U := U.evo0 hE5
 have fo := bm.lt
 refine Zr [] rfl η func6 Lx ?_
 rintro e w6 ⟨aT, au, rfl, hE6, hx6, hfx6⟩
 refine ⟨_, rfl, ?_⟩
 have Q6 := hE6.size
 replace o := Z0 o hE6
 replace hl := bB _ o
 replace hm := a_ _ o
 replace B3 := B3.evo0 hE6
 replace U := U.evo0 hE6
 replace bm := bm.evo0 hE6
 refine Zo (AR (v := (.pointer (some ⟨ao, 0, none⟩))) rfl η) (Zn (AR (v := (.pointer (some ⟨aT, 0, none⟩))) rfl η) (AE (Zs (Zn Am (AK ?_)))))
 have fr : b3 ∉ au := (fun hm => by have := hfx6 _ hm; omega)
 have j := bm.toY (Y := b3 :: au) (fun g J => (List.mem_cons.1 J).elim (fun h9 => by omega) (hx6.lt g)) (fun g J hy => (List.mem_cons.1 hy).elim (fun h9 => by have := hff5 g J; omega) (fun h9 => by have := hfx6 g h9; have := fo g J; omega)); have C := hx6
 refine Aq (α := Nat) [10, 32, 33, 34, 35, 36, 37, 38, 39] (fun k g w => ∃ N9 : Nat, ∃ F : List Nat, ∃ lS : List StV, ∃ T : List Pr, g 10 = .int .i64 (k : Nat) ∧ Blk w b3 26 [.slice b1 l.length b2, .int .i64 (N9 : Nat)] ∧ N9 ≤ 3000 * k ∧ k ≤ 6 ∧ Fnd w ao F lS T k (b3 :: au) ∧ Mp w aT [] au ∧ (∀ g ∈ F, w4.heap.size ≤ g) ∧ w6.heap.size ≤ w.heap.size ∧ Evo w0 w []) (fun k => 6 - k) 0 ?_ ?_
 refine ⟨0, _, [], [], σ, B3, (Nat.zero_le _), (Nat.zero_le _), j, C, hff5, δ, o⟩
 rintro k g w8 ⟨N9, F, lS, T, hj9, B3, hN9, hk6, j, C, hFb, hzl7, o⟩
 have en := o.size
 have f_ := B3.lt
 replace hm := a_ _ o
 have U := B3.at
 refine Zk 10 hj9 ?_
 have bR : b3 ∉ F := fun hm => by have := hFb _ hm; omega
 refine AE (Zs (Zo AU (Zn Dn (AH η (fun dk => ?_) (fun dk => ?_)))))
 refine AJ (AE (AK (AB (Zo (AN (v := (.pointer (some ⟨ao, 0, none⟩))) rfl η) (Zo EA (Zr [.pointer _] rfl η func8 (Nk B3 (fun w9 h9 => bB _ (EY o h9 (.inl ω))) ω) ?_))))))
 rintro e hQ ⟨gP, ea12, eb12, Ne12, rfl, hen12, hNe12, hE12, hn12⟩
 refine ⟨_, rfl, ?_⟩
 have gR := hE12.size
 replace o := Z1 o hE12 ε
 replace hm := a_ _ o
 replace j := j.evoX hE12 (by simp)
 replace C := C.evo hE12 (fun g J hm => fr ((by simpa using hm : g = b3) ▸ J))
 replace B3 := hn12
 clear hn12
 have U := B3.at
 have gd := j.yf
 refine Zr [(.pointer (some ⟨ao, 0, none⟩)), .agg _] rfl η func7 (SU hen12 j ω (ca _ o)) ?_
 rintro e hR ⟨e_, l13, T13, ⟨pr13, rfl⟩, hE13, hfn13, hF13⟩
 refine ⟨_, rfl, ?_⟩
 have gS := hE13.size
 replace o := CL o hE13 (fun b9 bq => .inl (by have := hFb b9 bq; omega))
 replace hm := a_ _ o
  
 replace C := C.evo hE13 (fun g J hm => gd g hm (List.mem_cons_of_mem _ J))
 replace B3 := B3.evo hE13 (bR)
 replace U := U.evo hE13 (bR)
 replace j := hfn13
 refine Ag (AX (AB (Zo AU (Zo Br (Zn Am (Zg (k + 1) ?_))))))
 refine ⟨_, e_, _, _, σ, B3, ω, ω, j, C, (fun g J => (hF13 g J).elim (hFb g) (fun h => by omega)), δ, o⟩
 refine Ak rfl (AE (AE ?_))
 obtain rfl : k = 6 := by omega
 have c_ := C.lt; have hF := j.len; have bz := j.bd; have bA : ∀ g ∈ au, w4.heap.size ≤ g := fun g J => Nat.le_trans ω (hfx6 g J)
 refine AB (Zo (AN (v := (.pointer (some ⟨ao, 0, none⟩))) rfl η) (Zr [(.pointer (some ⟨ao, 0, none⟩))] rfl η func9 (Hn j ω) ?_))
 rintro e bc ⟨gz, es14, rfl, hE14, hoe14, hel14, hes14⟩
 refine ⟨_, rfl, ?_⟩
 have gT := hE14.size
 replace o := Z0 o hE14
 replace hl := bB _ o
 replace hm := a_ _ o
 replace B3 := B3.evo0 hE14
 replace j := j.evo0 hE14
 replace C := C.evo0 hE14
 replace U := U.evo0 hE14
 refine Zo (Ci rfl η underlying37 hoe14) (Zn AU (AK ?_))
 obtain ⟨ct, g15, c3, eU, ec, ds⟩ := hoe14.rowOf
 subst eU
 have a1 := hes14; have hJ : Evo bc bc au := Evo.refl _ _
 have br := fun w9 (h9 : Evo bc w9 au) => C1 ec h9 (fun ga hm => by have h2 := (ds ga).2; have := c_ _ hm; omega)
 refine Aq (α := Nat) [6, 11, 12, 43, 44, 45, 46, 47, 48, 49, 50, 51, 52, 53, 54, 55] (fun k g w => ∃ FX : List Nat, g 43 = .int .i64 (k : Nat) ∧ k ≤ es14.length ∧ EsOk ((Value.slice ct es14.length c3).ownBlock.toList ++ (b3 :: FX)) w es14 T ∧ Fnd w ao F lS T 6 (b3 :: FX) ∧ Mp w aT (xA T k) FX ∧ (∀ g ∈ FX, g ∈ au ∨ bc.heap.size ≤ g) ∧ (∀ g ∈ FX, w4.heap.size ≤ g) ∧ bc.heap.size ≤ w.heap.size ∧ Evo w0 w [] ∧ Evo bc w au) (fun k => es14.length - k) 0 ?_ ?_
 refine ⟨au, σ, δ, a1, j, C, (fun g J => .inl J), bA, δ, o, hJ⟩
 rintro k g e5 ⟨FX, hj18, hk_k, a1, j, C, hXJ, bA, hzl16, o, hJ⟩
 have cp := o.size
 have cm := hJ.size
 refine Zk 43 hj18 (Zs (Zn Dn (AE (AH η (fun dm => ?_) (fun dm => ?_)))))
 refine AJ (AE (AK (AE ?_)))
 have hL : Evo e5 e5 [] := Evo.refl _ _
 refine AB (Zo AU (Zo (Ab (k) rfl underlying37 Cv η η χ ω ((br _ hJ).addr (i := k) ω)) ?_))
 have b4 := fun (w' : World) (h : Evo bc w' au) => (br w' h).atD (k) ω
 refine Zo (AL rfl Ek Cv η rfl (b4 _ hJ)) (CU (zs := [_, _, _, _, _, _, _, _]) Cv η rfl ?_)
 intro b21 w22 J21 E22 B21 hzb21
 have gU := E22.size
 replace o := Z0 o E22
 replace hJ := Z0 hJ E22
 replace hL := Z0 hL E22
 refine Zo Am (Ai (v := .agg _) (vs := [_, _, _, _, _, _, _, _]) (cs' := [_, _, _, _, _, _, _, _]) η η B21 Cv η rfl η rfl η ?_)
 intro w23 E23 V23 hb_new
 have gV := E23.size
 replace o := Z1 o E23 ε
 replace hJ := Z1 hJ E23 ε
 replace hL := Z1 hL E23 ε
 replace B21 := hb_new
 clear hb_new
 refine Ag (AE ?_)
 replace a1 := a1.evo hL (by simp) (fun g J => .inl J); replace j := j.evo0 hL; replace C := C.evo0 hL
 refine AB (Zo (AN (v := (.pointer (some ⟨aT, 0, none⟩))) rfl η) (Zo AU (Zo (AD rfl η Dv) (Zo (AA rfl DZ η (B21.at.cell 0 η)) (Zr [.slice _ _ _] rfl η func11 (Ln ((a1 k _ _ (getD_some (show k < es14.length by omega)) (getD_some (show k < T.length by omega))).rd) (by have := (bz k ω).1; omega)) ?_)))))
 rintro e hS ⟨gN, rfl, hE24, hot24⟩
 refine ⟨_, rfl, ?_⟩
 have gW := hE24.size
 replace o := Z0 o hE24
 replace hJ := Z0 hJ hE24
 replace a1 := a1.evo hE24 (by simp) (fun g J => .inl J)
 replace j := j.evo0 hE24
 replace C := C.evo0 hE24
 obtain ⟨gh, hv, gk, e0, ej, gu⟩ := hot24.rowOf
 subst e0
 refine Zr [(.pointer (some ⟨aT, 0, none⟩)), .int _ _, .slice _ _ _] rfl η func10 (Lk C ej (fun x C => by have := (bz k ω).2.2 x C; omega) (by have := (bz k ω).2.1; omega)) ?_
 rintro e hT ⟨fg, rfl, hE26, hx26, hF26⟩
 refine ⟨_, rfl, ?_⟩
 replace a1 := a1.evo hE26 (fun x C => List.mem_append_right _ (List.mem_cons_of_mem _ C)) (gH hF26)
 replace j := j.evoY (hE26.mono (fun x C => List.mem_cons_of_mem _ C)) (fun g J => (List.mem_cons.1 J).elim (fun h9 => .inl (h9 ▸ List.mem_cons_self)) (fun h9 => (hF26 g h9).imp_left (List.mem_cons_of_mem _))) (fun g J => (List.mem_cons.1 J).elim (fun h9 => by have := hE26.size; omega) (hx26.lt g))
 have gX := hE26.size
 replace o := CL o hE26 (fun b9 bq => .inl (by have := bA b9 bq; omega))
 replace hJ := CL hJ hE26 (fun b9 bq => (hXJ b9 bq).symm)
  
  
  
 replace C := hx26
 refine Zn (Cd rfl η) (AH η (fun bS => ?_) (fun bS => ?_))
 exact absurd (cg ω) bS
 refine AJ (AX (AB (Zo Br (Zn AU (Zg (k + 1) ?_)))))
 refine ⟨fg, σ, δ, a1, j, (by rw [Z3 ω] at C; exact C), (fun g J => (hF26 g J).elim (hXJ g) (fun h => .inr ω)), (fun g J => (hF26 g J).elim (bA g) (fun h => by omega)), δ, o, hJ⟩
 refine Ak rfl (AE ?_)
 obtain rfl : k = es14.length := by omega
 have cb := C.lt
 refine AB (Zo Bi (Zo (A2 (pv := [(0, .slice _ _ _)]) (zs := [_, _]) (cells := [_, _]) rfl cN η cQ η η) (CE (vs := [_, _]) η η rfl ?_)))
 intro b28 w29 J28 E29 cr hzb28
 have gY := E29.size
 replace o := Z0 o E29
 replace j := j.evoN E29 ω
 replace C := C.evo0 E29
 refine Zr [.pointer _] rfl η func12 (T3 cr (fun w9 h9 => a_ _ (EY o h9 (.inl ω))) (by first | omega | decide)) ?_
 rintro e hU ⟨gQ, qa30, Nq30, rfl, hqn30, hNq30, hE30, hn30⟩
 refine ⟨_, rfl, ?_⟩
 have gZ := hE30.size
 replace o := Z1 o hE30 ε
 replace hm := a_ _ o
 replace j := j.evoX hE30 (fun x C => by rw [List.mem_singleton] at C; subst C; exact List.mem_cons.2 (.inl ω))
 replace C := C.evo hE30 (fun g J hm => by have h9 := cb g J; rw [List.mem_singleton] at hm; omega)
 replace cr := hn30
 clear hn30
 obtain ⟨bQ, oQ, R, dp, _⟩ := hqn30.rs; have hD := bG R hqn30.ne; have hI : EX qa30 + qa30.length ≤ 1000 := (by have := hqn30.al; have := hqn30.az; have := LM qa30; omega); have hG := IT qa30
 refine Bq (zs := [_, _, _, _, _, _]) (vs := [_, _, _, _, _, _]) KA η rfl η (fun _ => rfl) η rfl rfl η ?_
 intro b31 w32 J31 E32 B31 hzb31
 have g_ := E32.size
 replace o := Z0 o E32
 replace j := j.evoN E32 ω
 replace C := C.evo0 E32
 replace R := R.evo0 E32
 refine Ag (Zs (Zo AU (Zr [.int _ _, .int _ _] rfl η func13 (HI _ _ ω ω) ?_)))
 rintro e hW ⟨rfl, rfl⟩
 refine ⟨_, rfl, ?_⟩
 refine Zo Br (Zo (AD rfl η Ix) (Ai (v := .int _ _) (vs := [_]) (cs' := [_, _, _, _, _, _]) η η B31 Bd η rfl η rfl η ?_))
 intro w34 E34 V34 hb_new
 have ha := E34.size
 replace o := Z1 o E34 ε
 replace hm := a_ _ o
 replace j := j.evoX E34 (fun x C => by rw [List.mem_singleton] at C; subst C; exact List.mem_cons.2 (.inl ω))
 replace C := C.evo E34 (fun g J hm => by have h9 := cb g J; rw [List.mem_singleton] at hm; omega)
 replace R := R.evo E34 θ
 replace B31 := hb_new
 clear hb_new
 refine Zo (AD rfl η MT) (Ai (v := .int _ _) (vs := [_]) (cs' := [_, _, _, _, _, _]) η η B31 Bd η rfl η rfl η ?_)
 intro w35 E35 V35 hb_new
 have hb := E35.size
 replace o := Z1 o E35 ε
 replace hm := a_ _ o
 replace j := j.evoX E35 (fun x C => by rw [List.mem_singleton] at C; subst C; exact List.mem_cons.2 (.inl ω))
 replace C := C.evo E35 (fun g J hm => by have h9 := cb g J; rw [List.mem_singleton] at hm; omega)
 replace R := R.evo E35 θ
 replace B31 := hb_new
 clear hb_new
 refine Ag (Zs (Zo (AN (v := (.pointer (some ⟨ao, 0, none⟩))) rfl η) (Zo (AL rfl SB KA η rfl B31.at) (Zr [(.pointer (some ⟨ao, 0, none⟩)), .slice _ _ _, .agg _] rfl η func14 (QL j ω hqn30 R dp ω) ?_))))
 rintro e hX ⟨bf, bm36, om36, cm36, dm36, rfl, hE36, I, hd36⟩
 refine ⟨_, rfl, ?_⟩
 have hc := hE36.size
 replace o := Z0 o hE36
 replace j := j.evo0 hE36
 replace C := C.evo0 hE36
 replace R := R.evo0 hE36
 replace B31 := B31.evo0 hE36
 refine Zo PW (Zo (AI (v := (.slice bf dm36.length cm36)) rfl η η) (Zo (AI (v := .int _ _) rfl η η) (Zo (AR (v := (.slice bf dm36.length cm36)) rfl η) (Zn Am (AE ?_)))))
 have gb := R
 have ba := B31.at
 have dc := B31
 have ek := I
 have gq := o
 refine Aw ([]) ζ ?_
 intro w37 hE38 af
 have hd := hE38.size
 replace o := Z0 o hE38
 replace j := j.evo0 hE38
 replace C := C.evo0 hE38
 replace R := R.evo0 hE38
 replace B31 := B31.evo0 hE38
 replace I := I.evo0 hE38
 refine Zt (i := 0) η (fun w' hC => AN (v := (.pointer (some ⟨aT, 0, none⟩))) rfl η) af (Zt (i := 1) η (fun w' hC => AD rfl η Mk) af (Zt (i := 2) η (fun w' hC => AA rfl DZ η ((ba.evo0 hC).cell 0 η)) af (Zt (i := 4) η (fun w' hC => AD rfl η Ix) af (Zt (i := 5) η (fun w' hC => AA rfl Ae η ((ba.evo0 hC).cell 4 η)) af (Zt (i := 6) η (fun w' hC => Eg rfl η η) af ?_)))))
 refine Zh (i := 3) ?_
 refine Zr [.slice _ _ _] rfl η func11 (Ln ⟨bQ, oQ, R, dp⟩ ω) ?_
 rintro e hY ⟨gO, rfl, hE40, bb⟩
 refine ⟨_, rfl, ?_⟩
 have hf := hE40.size
 replace o := Z0 o hE40
 replace af := Z0 af hE40
 replace j := j.evo0 hE40
 replace C := C.evo0 hE40
 replace R := R.evo0 hE40
 replace I := I.evo0 hE40
 refine AZ af ?_
 refine Zh (i := 7) ?_
 obtain ⟨gi, hA, gm, e1, bs, gw⟩ := bb.rowOf
 subst e1
 refine Zr [(.pointer (some ⟨aT, 0, none⟩)), .slice _ _ _, .int _ _] rfl η func15 (Kd C bs (fun x C => by have := LD C; omega) ω (by rw [QG]; omega) (fB (fun i hi => (bz i hi).2.1) ω)) ?_
 rintro e bx ⟨e4, r42, rfl, hE42, hor42, hcr42⟩
 refine ⟨_, rfl, ?_⟩
 have hh := hE42.size
 replace o := Z0 o hE42
 replace hl := bB _ o
 replace hm := a_ _ o
 replace j := j.evo0 hE42
 replace C := C.evo0 hE42
 replace R := R.evo0 hE42
 replace I := I.evo0 hE42
 replace bb := bb.evo0 hE42
 replace bs := bs.evo0 hE42
 refine Ah ζ ?_
 refine Zh (i := 8) ?_
 refine Zo (AR (v := e4) rfl η) ?_
 refine Ah ζ ?_
 refine A5 ζ ?_
 refine AE (AE ?_)
 have ag : Evo bx bx [] := Evo.refl _ _
 obtain ⟨gj, hB, gn, e2, bt, gx⟩ := hor42.rowOf
 subst e2
 have b_ := A9 bt
 have bn := A9 I; have b8 := I.bd
 refine AB (Zo (AN (v := (.slice bf dm36.length cm36)) rfl η) (Zo (AQ rfl η underlying46) (Zn AU (AK (Aq (α := Nat) [6, 17, 81, 82, 83, 84, 85, 86, 87, 88, 89, 90, 91, 92] (fun k g w => g 81 = .int .i64 (k : Nat) ∧ k ≤ dm36.length ∧ (∃ Y, Fnd w ao F lS T 6 Y) ∧ Mp w aT (xA T es14.length) FX ∧ bx.heap.size ≤ w.heap.size ∧ Evo w0 w [] ∧ Evo bx w []) (fun k => dm36.length - k) 0 ?_ ?_)))))
 refine ⟨σ, δ, ⟨_, j⟩, C, δ, o, ag⟩
 rintro k g hZ ⟨dO, hk_k, j, C, hzl45, o, ag⟩
 have cq := o.size
 have bY := ag.size
 replace bt := b_ _ ag
 refine Zk 81 dO (Zs (Zn Dn (AE (AH η (fun dn => ?_) (fun dn => ?_)))))
 refine AJ (AE (AK (Zs (Zo AU (Zn Am (AE ?_))))))
 have eb := hd36 _ (EM (show k < dm36.length by omega)); have ea := dN hcr42 (show _ < es14.length by omega) eb.2.2; rw [Int.toNat_of_nonneg eb.1] at ea
 refine AB (Zo Bi (Zo (AN (v := (.slice bf dm36.length cm36)) rfl η) (Zo AU (Zo (Ab (k) rfl underlying46 EH η η χ ω ((bn _ ag).addr (i := k) ω)) ?_))))
 have b5 := fun (w' : World) (h : Evo bx w' []) => (bn w' h).atD (k) ω
 refine Zo (AD rfl η Io) (Zo (AA rfl Ae η ((b5 _ ag).cell 0 η)) (Zr [.slice _ _ _, .int _ _] rfl η func16 (O0 bt) ?_))
 rintro e h0 ⟨rfl, hE50⟩
 refine ⟨_, rfl, ?_⟩
 have hj := hE50.size
 replace o := Z0 o hE50
 replace ag := Z0 ag hE50
 replace j := j.imp fun _ h9 => h9.evo0 hE50
 replace C := C.evo0 hE50
 refine Zn (Cd rfl η) (AH η (fun bX => ?_) (fun bX => ?_))
 exact absurd ea bX
 refine AJ (AX (AB (Zo Br (Zn AU (Zg (k + 1) ?_)))))
 refine ⟨σ, δ, j, C, δ, o, ag⟩
 refine Ak rfl (AE ?_)
 obtain ⟨Y9, j⟩ := j
 refine AB (Zo AU (Zo DA (Zo Cb ?_)))
 refine Jh rfl BW η ?_
 refine Zo (AN (v := (.pointer (some ⟨aT, 0, none⟩))) rfl η) ?_
 refine Jh rfl BW η ?_
 refine Zr [(.pointer (some ⟨aT, 0, none⟩))] rfl η func17 (SH C) ?_
 rintro e h3 ⟨rfl, hE52⟩
 refine ⟨_, rfl, ?_⟩
 have hn := hE52.size
 replace o := Z0 o hE52
 replace j := j.evo0 hE52
 refine Jh rfl BW η ?_
 refine Zo (AN (v := (.pointer (some ⟨ao, 0, none⟩))) rfl η) ?_
 refine Jh rfl BW η ?_
 refine Zr [(.pointer (some ⟨ao, 0, none⟩))] rfl η func9 (Hn j ω) ?_
 rintro e h4 ⟨gM, es53, rfl, hE53, hoe53, hel53, hes53⟩
 refine ⟨_, rfl, ?_⟩
 have ho := hE53.size
 replace o := Z0 o hE53
 refine Jh rfl BW η ?_
 refine Zo (Ci rfl η underlying37 hoe53) ?_
 refine Jh rfl BW η ?_
 refine Zo DA ?_
 refine Zo (Cu rfl η (fun _ => η) rfl) ?_
 refine Zo Cb ?_
 refine Jh rfl BW (by exact ⟨rfl, by rw [QG]; omega⟩) ?_
 refine Zr [] rfl η func4 (L7 _ (e3 _ o)) ?_
 rintro e h5 ⟨rfl, hE54⟩
 refine ⟨_, rfl, ?_⟩
 have hp := hE54.size
 replace o := Z0 o hE54
 refine Zo (Cw rfl η (fun _ => η) rfl) ?_
 refine Zn BV (AM G7 ?_)
 exact ⟨Bn (decide_eq_true ⟨⟨rfl, by rw [QG]; omega⟩, rfl⟩), o⟩
end Go.Proofs.YtbgmlpbgofcfjaaGreatDoor
