/-
  strings.Builder: a variable of our own whose buffer grows; what copyCheck, WriteString and String meet. Generic over the program.
-/
import Derived.Test.YtomklacppmaljaaLb
import Derived.Lib.Builder
import Derived.Lib.AppendStr
import Derived.Lib.UnsafeStr
namespace Go.Vc
open Go Go.RowKit Go.IntWalk
section
variable {P : Program} {f : Fr} {w : World} {o : Oper}
theorem guard_ptr {op : BinOp} {t : TypeId} {x y : Operand} {a b : Option Addr} : (eqGuard op t x y (.pointer a) (.pointer b)).run P w = .ok () w := by cases op <;> simp [eqGuard]
theorem run_binP {op : BinOp} {t t2 : TypeId} {x y : Operand} {a b : Option Addr} {v : Value} (ho : o.op = .binOp op t x y t2) (hx : opv f x = .pointer a) (hy : opv f y = .pointer b) (h : (binOp op t (.pointer a) (.pointer b)).run P w = .ok v w) : (execOp (opv f) o).run P w = .ok (.value v) w := by
  unfold execOp; rw [ho]; simp only []; rw [hx, hy]; simp [guard_ptr, h]
theorem eql_nil_nil {tp te : TypeId} (hp : P.underlying tp = some (.pointer te)) : (binOp .eql tp (.pointer none) (.pointer none)).run P w = .ok (.bool true) w := by
  have h : ∀ d : Nat, (Op.equalIn (d + 1) tp (.pointer none) (.pointer none)).run P w = .ok true w := fun d => by
    simp [Op.equalIn, run_underlying hp]
  simp only [binOp]
  simp [Op.equal, Op.maxDepth, h 9999]
theorem eql_some_nil {tp te : TypeId} (a : Addr) (hp : P.underlying tp = some (.pointer te)) : (binOp .eql tp (.pointer (some a)) (.pointer none)).run P w = .ok (.bool false) w := by
  have h : ∀ d : Nat, (Op.equalIn (d + 1) tp (.pointer (some a)) (.pointer none)).run P w = .ok false w := fun d => by
    simp [Op.equalIn, run_underlying hp]
  simp only [binOp]
  simp [Op.equal, Op.maxDepth, h 9999]
theorem run_conv {src dst : TypeId} {x : Operand} {a v : Value} (ho : o.op = .convert src dst x) (hx : opv f x = a) (h : (convert src dst a).run P w = .ok v w) : (execOp (opv f) o).run P w = .ok (.value v) w := by
  unfold execOp; rw [ho]; simp only []; rw [hx]; simp [h]
theorem run_extNE {g : FuncId} {x : Operand} {ts : Array TypeId} {fn : Func} {v : Value} (ho : o.op = .call ⟨.value (.func g), #[x], ts⟩) (hx : opv f x = v) (hf : P.funcs[g]? = some fn) (hname : (fn.name == "runtime.NumGoroutine") = false) (hb : fn.body.isNone = true) (hn : Extern.findNext fn = none) (he : Extern.find fn = some Extern.AbiNoEscape.same) :
    (execOp (opv f) o).run P w = .ok (.value v) w := by
  unfold execOp; rw [ho]; simp only [resolve]
  have h1 : (callFunc g #[v]).run P w = .ok (.value v) w := by
    rw [run_callFunc_extern hf hname hb hn he, Lib.run_noEscape]
    simp [Result.andThen]
  rw [show (#[x] : Array Operand).map (opv f) = #[v] by simp [hx]]
  simpa [Deferred.ofValue, invoke] using h1
theorem blk_shape {b : Nat} {T : TypeId} {cs : List Value} (h : Blk w b T cs) : w.shape? b = some (T, cs.length) := by unfold Blk at h; simp [World.shape?, h]
end
section
variable {P : Program} {B : Exit → Act → World → Prop} {n : Nat} {k : List Kont} {f : Fr} {w : World} {ops : Array Oper} {rest : List Oper}
theorem strCells_S (t : Str) : Lib.strCells ⟨t.toArray⟩ = Lib.byteCells t := rfl
/-- 'append(b, s...)', 's' a string -/
theorem r_appendStr {base : Nat} {T U E d : Nat} {t : TypeId} {pos : String} {aft : Array Edge} {x y : Operand} {v : Value} {s u : Str} (hd : Nat.blt d n = true) (hu : P.underlying T = some (.slice E)) (hU : P.underlying U = some .string) (ht : tyP P E = some (1, 1, some (.int .u8 0)))
    (hown : w.ownsRow base E 1 v s.length (Lib.byteCells s)) (hx : opv f x = v) (hy : opv f y = S u) (hlen : s.length + u.length ≤ 140737488355328) (hbase : base ≤ w.heap.size)
    (h : ∀ v' w', Evo w w' v.ownBlock.toList → w'.ownsRow base E 1 v' (s ++ u).length (Lib.byteCells (s ++ u)) → (s ++ u = [] → v = .slice none 0 0 → v' = .slice none 0 0) → KL P B n ops k rest (upd f d v') w') :
    KL P B n ops k (⟨some d, .call ⟨.builtin .append, #[x, y], #[T, U]⟩, t, pos, aft, none⟩ :: rest) f w := by
  obtain ⟨i, hi, hs, hb, hz⟩ := info_of ht
  obtain ⟨v', w', hrun, hown', hg, hnil⟩ := Lib.run_append_own_string (P := P) (w := w) base T U t E i hu hU hi hz hs hb v s.length (Lib.byteCells s) hown ⟨u.toArray⟩ (by show s.length + u.length ≤ maxLen; unfold maxLen; omega) (by show s.length + u.length ≤ _; exact hlen) hbase
  refine r_op rfl rfl hd ?_ (h v' w' (Evo.grown hg) (by rw [Lib.byteCells_append, List.length_append]; exact hown') (fun e1 e2 => hnil.2 ⟨e2, by
    have := congrArg List.length e1; rw [List.length_append] at this; show u.length = 0; simp at this; simp [this.2]⟩))
  exact run_builtin (s := Builtin.append_ #[T, U] t #[v, .string ⟨u.toArray⟩]) rfl (by simp [hx, hy, S]) (fun cs => rfl) hrun
theorem evo_freeze {w : World} {g n : Nat} : Evo w (w.freeze ⟨g, 0, none⟩ n) [g] := by
  unfold World.freeze
  split
  · exact Evo.refl _ _
  · exact ⟨rfl, rfl, rfl, by simp, fun k hk hn => by
      simp only [Array.getElem?_modify]
      rw [if_neg (fun e => hn (by simp [e]))]⟩
section
variable {o : Oper}
theorem run_sdata {ts : Array TypeId} {x : Operand} {a : Addr} {n c : Nat} (ho : o.op = .call ⟨.builtin .unsafeSliceData, #[x], ts⟩) (hx : opv f x = .slice (some a) n c) (hc : c ≠ 0) : (execOp (opv f) o).run P w = .ok (.value (.pointer (some a))) w :=
  run_builtin (s := Builtin.unsafeSliceData_ ts o.type #[.slice (some a) n c]) ho (by simp [hx]) (fun cs => rfl) (Lib.run_unsafeSliceData_row w ts _ a n c hc)
theorem run_sdata0 {ts : Array TypeId} {x : Operand} {n c : Nat} (ho : o.op = .call ⟨.builtin .unsafeSliceData, #[x], ts⟩) (hx : opv f x = .slice none n c) : (execOp (opv f) o).run P w = .ok (.value (.pointer none)) w :=
  run_builtin (s := Builtin.unsafeSliceData_ ts o.type #[.slice none n c]) ho (by simp [hx]) (fun cs => rfl) (Lib.run_unsafeSliceData_nil w ts _ n c)
theorem run_ustr0 {pt it : TypeId} {x y : Operand} {p : Option Addr} (ho : o.op = .call ⟨.builtin .unsafeString, #[x, y], #[pt, it]⟩) (hx : opv f x = .pointer p) (hy : opv f y = .int .i64 ((([] : Str).length : Nat) : Int)) : (execOp (opv f) o).run P w = .ok (.value (S [])) w :=
  run_builtin (s := Builtin.unsafeString_ #[pt, it] o.type #[.pointer p, .int .i64 0]) ho (by simp [hx, hy]) (fun cs => rfl) (Lib.run_unsafeString_none w pt it _ p)
theorem run_ustr {pt it e : TypeId} {x y : Operand} {g cells : Nat} {l : Str} (ho : o.op = .call ⟨.builtin .unsafeString, #[x, y], #[pt, it]⟩) (hx : opv f x = .pointer (some ⟨g, 0, none⟩)) (hy : opv f y = .int .i64 ((l.length : Nat) : Int)) (hp : P.underlying pt = some (.pointer e)) (hc : P.cellsOf e = 1) (hsh : w.shape? g = some (e, cells)) (h0 : l ≠ []) (hn : l.length ≤ cells) (h63 : l.length ≤ 9223372036854775807)
    (hcell : ∀ j x, l[j]? = some x → w.cell? ⟨g, j, none⟩ = some (.int .u8 x.toNat)) : (execOp (opv f) o).run P w = .ok (.value (S l)) (w.freeze ⟨g, 0, none⟩ l.length) :=
  run_builtin (s := Builtin.unsafeString_ #[pt, it] o.type #[.pointer (some ⟨g, 0, none⟩), .int .i64 ((l.length : Nat) : Int)]) ho (by simp [hx, hy]) (fun cs => rfl) (Lib.run_unsafeString_row w pt it _ e hp hc g cells hsh l h0 hn h63 (fun j x hj => by rw [add_lit, Nat.zero_add]; exact hcell j x hj))
end
end
/-- what a builder in block 'b' holds: 's' -/
def BldAt (w : World) (base b TB E8 : Nat) (p : Value) (s : Str) : Prop := base ≤ b ∧ ∃ v, Blk w b TB [p, v] ∧ w.ownsRow base E8 1 v s.length (Lib.byteCells s) ∧ (s = [] → v = .slice none 0 0)
def Bld (w : World) (base b TB E8 : Nat) (s : Str) : Prop := BldAt w base b TB E8 (.pointer none) s ∨ BldAt w base b TB E8 (.pointer (some ⟨b, 0, none⟩)) s
theorem owns_shape {w : World} {base E : Nat} {v : Value} {s : Str} (h : w.ownsRow base E 1 v s.length (Lib.byteCells s)) : ∃ ao cap, v = .slice ao s.length cap := by
  rcases h.2 with ⟨hv, hn⟩ | ⟨g, cap, cur, hv, _⟩
  · exact ⟨none, 0, by rw [hv, hn]⟩
  · exact ⟨_, _, hv⟩
theorem owns_evo {w w' : World} {base E : Nat} {v : Value} {s : Str} {X : List Nat} (h : w.ownsRow base E 1 v s.length (Lib.byteCells s)) (he : Evo w w' X) (hn : ∀ g, v.ownBlock = some g → g ∉ X) : w'.ownsRow base E 1 v s.length (Lib.byteCells s) := by
  refine ⟨h.1, ?_⟩
  rcases h.2 with hv | ⟨g, cap, cur, hv, hb, hg, r⟩
  · exact .inl hv
  · exact .inr ⟨g, cap, cur, hv, hb, (he.same g (h.lt g (by rw [hv]; rfl)).2 (hn g (by rw [hv]; rfl))).trans hg, r⟩
theorem owns_ne {w : World} {base E b T : Nat} {v : Value} {s : Str} {cs : List Value} (h : w.ownsRow base E 1 v s.length (Lib.byteCells s)) (hb : Blk w b T cs) (hT : T ≠ E) : v.ownBlock ≠ some b := Lib.ownBlock_ne h hb hT
theorem owns_lt {w : World} {base E : Nat} {v : Value} {s : Str} (h : w.ownsRow base E 1 v s.length (Lib.byteCells s)) {g : Nat} (hg : v.ownBlock = some g) : base ≤ g ∧ g < w.heap.size := h.lt g hg
theorem Bld.evo0 {w w' : World} {base b TB E8 : Nat} {s : Str} (h : Bld w base b TB E8 s) (he : Evo w w' []) : Bld w' base b TB E8 s := by
  have k : ∀ p, BldAt w base b TB E8 p s → BldAt w' base b TB E8 p s := fun p ⟨h1, v, h2, h3, h4⟩ => ⟨h1, v, h2.evo0 he, owns_evo h3 he (by simp), h4⟩
  exact h.imp (k _) (k _)
theorem Bld.lt {w : World} {base b TB E8 : Nat} {s : Str} (h : Bld w base b TB E8 s) : base ≤ b ∧ b < w.heap.size := by
  rcases h with ⟨h1, v, h2, _⟩ | ⟨h1, v, h2, _⟩ <;> exact ⟨h1, h2.lt⟩
theorem Bld.fresh {w : World} {base b TB E8 : Nat} (hb : base ≤ b) (h : Blk w b TB [.pointer none, .slice none 0 0]) : Bld w base b TB E8 [] := .inl ⟨hb, _, h, World.ownsRow_nil _ _ _ _, fun _ => rfl⟩
/-- writes to a block of another type than a byte's, not the builder's own -/
theorem Bld.evo {w w' : World} {base b TB E8 g T : Nat} {s : Str} {cs : List Value} (h : Bld w base b TB E8 s) (he : Evo w w' [g]) (hg : Blk w g T cs) (hT : T ≠ E8) (hb : b ≠ g) : Bld w' base b TB E8 s := by
  have k : ∀ p, BldAt w base b TB E8 p s → BldAt w' base b TB E8 p s := fun p ⟨h1, v, h2, h3, h4⟩ => ⟨h1, v, h2.evo he (by simpa using hb), owns_evo h3 he (fun x hx hm => by
    have e : x = g := by simpa using hm
    subst e
    exact owns_ne h3 hg hT hx), h4⟩
  exact h.imp (k _) (k _)
theorem owns_form {w : World} {base E : Nat} {v : Value} {s : Str} (h : w.ownsRow base E 1 v s.length (Lib.byteCells s)) (hs : s ≠ []) : ∃ (g cap : Nat) (cs : List Value), v = .slice (some ⟨g, 0, none⟩) s.length cap ∧ base ≤ g ∧ Blk w g E cs ∧ s.length ≤ cap ∧ cs.length = cap ∧ (∀ (j : Nat) (x : UInt8), s[j]? = some x → cs[j]? = some (Value.int .u8 x.toNat)) := by
  have hc := fun g hg => h.cells (g := g) hg
  rcases h.2 with ⟨hv, hn⟩ | ⟨g, cap, cur, hv, hb, hg, hn, hcm, hz, ht⟩
  · exact absurd (List.eq_nil_of_length_eq_zero hn) hs
  · refine ⟨g, cap, cur.toList, hv, hb, by simpa [Blk] using hg, hn, by simpa using hz, fun j x hj => ?_⟩
    have h1 := hc g (by rw [hv]; rfl) j (.int .u8 x.toNat) (by simp [Lib.byteCells, hj])
    rw [add_lit, Nat.zero_add] at h1
    simp only [World.cell?, hg, Option.isSome_none, Bool.false_eq_true, if_false] at h1
    simpa using h1
theorem blk_cell {w : World} {g E : Nat} {cs : List Value} (h : Blk w g E cs) {j : Nat} {x : Value} (hj : cs[j]? = some x) : w.cell? ⟨g, j, none⟩ = some x := by have := h.at j x hj; rwa [Nat.zero_add] at this
end Go.Vc
