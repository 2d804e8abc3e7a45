/-
  A guarded call that takes the next number. Generic over the program.
-/
import Derived.Test.YtkdgoghmkmpfnaaCvi
namespace Go.Vc
open Go Go.RowKit Go.IntWalk
theorem r_gnext {P : Program} {B : Exit → Act → World → Prop} {n : Nat} {k : List Kont} {f : Fr} {w : World} {ops : Array Oper} {rest : List Oper} {d : Nat} {op : Op} {t : TypeId} {pos : String} {aft : Array Edge} {j s : Nat} {b : Bool} {g : Prop} [Decidable g] {F : FuncId} {args : Array Value} {bs T N : Nat} {c0 : Value} {m : Int}
    (hj : (ops[j]?).bind (·.dst) = some s) (hw : Wanted f s b g) (hd : Nat.blt d n = true) (hrun : g → (execOp (opv f) ⟨some d, op, t, pos, aft, none⟩).run P w = .ok (.enter F args) w)
    (hc : g → Calls P F args w fun e w' => ∃ r, e = .returned (.int .i64 r) ∧ (0 ≤ r ∧ r < m) ∧ Evo w w' [bs] ∧ Blk w' bs T [c0, .int .i64 (N + 1 : Nat)]) (hb : Blk w bs T [c0, .int .i64 (N : Nat)])
    (h : ∀ r w' N', (g → 0 ≤ r ∧ r < m) → Evo w w' [bs] → N ≤ N' → N' ≤ N + 1 → Blk w' bs T [c0, .int .i64 (N' : Nat)] → KL P B n ops k rest (upd f d (gv g (.int .i64 r))) w') : KL P B n ops k (⟨some d, op, t, pos, aft, some (j, b)⟩ :: rest) f w := by
  by_cases hg : g
  · refine r_guard_yes hj (hw.yes hg) (r_opcall rfl rfl hd (hrun hg) (hc hg) ?_)
    rintro e w' ⟨r, h1, h2, h3, h4⟩
    refine ⟨_, h1, ?_⟩
    have h5 := h r w' (N + 1) (fun _ => h2) h3 (by omega) (Nat.le_refl _) h4
    rw [gv_yes hg] at h5
    exact h5
  · intro a ha
    have hwa := wanted_of ha hj hw
    unfold wpList
    rw [if_neg (by simp only [Region.wanted]; rw [hwa.2 hg]; simp)]
    have h3 := h 0 w N (fun h => absurd h hg) (Evo.refl _ _) (Nat.le_refl _) (by omega) hb _ (ha.put hd (gv g (.int .i64 0)))
    rw [gv_no hg] at h3
    exact h3
end Go.Vc
