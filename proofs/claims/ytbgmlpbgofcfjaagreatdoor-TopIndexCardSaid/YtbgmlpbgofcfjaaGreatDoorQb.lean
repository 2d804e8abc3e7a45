/-
  Library, plain laws and walks that the statements reach (joined by a program out of smaller texts).
-/
import Derived.Test.YtbgmlpbgofcfjaaGreatDoorQa
import Derived.Test.YtbgmlpbgofcfjaaGreatDoorRows
import Derived.Sort.KeysCollected
import Derived.Sort.Walk0
import Derived.Lib.ConvBytes
import Derived.ArgAppend
import Derived.Laws.IdiomCopy
set_option linter.unusedVariables false
set_option linter.unusedSimpArgs false
namespace Go.Vc
open Go Go.RowKit
theorem Z0 {j w w' : World} {X : List Nat} (h : Evo j w X) (he : Evo w w' []) : Evo j w' X := CB h he
theorem Z1 {j w w' : World} {X : List Nat} {b : Nat} (h : Evo j w X) (he : Evo w w' [b]) (o : j.heap.size ≤ b ∨ b ∈ X) : Evo j w' X := EY h he o
theorem σ {p : Prop} (h : p := by first | exact rfl | exact congrArg (Value.int _) (by omega) | exact congrArg (Value.int _) (by dsimp only; omega) | exact congrArg (Value.int _) (by simp) | exact congrArg S (by simp)) : p := h
theorem ψ {p : Prop} (h : p := by repeat (first | (with_reducible exact Agree.merge _ _ _) | (with_reducible exact Agree.refl _ _) | (with_reducible refine Agree.upd ?_ _ _ rfl) | ((with_reducible refine Agree.inner ?_ ?_); (kernel_rfl)))) : p := h
section
variable {P : Program} {B : Exit → Act → World → Prop} {n : Nat} {k : List Kont} {f : Fr} {w w' : World} {ops : Array Oper} {rest : List Oper} {o : Oper}
theorem Zo {op : Op} {t : TypeId} {pos : String} {j : Array Edge} {d : Nat} {v : Value} {w' : World} (C : (execOp (opv f) ⟨some d, op, t, pos, j, none⟩).run P w = .ok (.value v) w') (h : KL P B n ops k rest (upd f d v) w') (I : Nat.blt d n = true := by exact rfl) : KL P B n ops k (⟨some d, op, t, pos, j, none⟩ :: rest) f w := Hs rfl rfl I C h
theorem Zn {op : Op} {t : TypeId} {pos : String} {j : Array Edge} {d : Nat} {v : Value} {w' : World} (C : (execOp (opv f) ⟨some d, op, t, pos, j, none⟩).run P w = .ok (.value v) w') (h : KF P B n k (upd f d v) w') (I : Nat.blt d n = true := by exact rfl) : KL P B n ops k [⟨some d, op, t, pos, j, none⟩] f w := Hs rfl rfl I C (Ag h)
theorem Zr (vs : List Value) {t : TypeId} {pos : String} {j : Array Edge} {d : Nat} {g : FuncId} {args : List Operand} {ts : Array TypeId} {fn : Func} {c : Code} {S : Ending → World → Prop} {op : Op} (ho : op = .call ⟨.value (.func g), args.toArray, ts⟩) (C : args.map (opv f) = vs) (U : P.funcs[g]? = some fn) (J : Calls P g vs.toArray w S)
    (h : ∀ e w', S e w' → ∃ v, e = .returned v ∧ KL P B n ops k rest (upd f d v) w') (I : fn.body = some c := by exact rfl) (hn : (fn.name == "runtime.NumGoroutine") = false := by kernel_rfl) (R : Nat.blt d n = true := by exact rfl) : KL P B n ops k (⟨some d, op, t, pos, j, none⟩ :: rest) f w := Ft rfl rfl R (BN ho C U I hn) J h
theorem Zk (i : Nat) {v : Value} (j : f i = v) (h : KF P B n k (upd f i v) w) : KF P B n k f w := dS j h
theorem Zs {id : Nat} {l : List Oper} {y : Code} (h : KL P B n l.toArray (.code y :: k) l f w) : KF P B n (.code (.seq (.region id l.toArray false) y) :: k) f w := AE (AB h)
theorem AU {x : Operand} {j : IntKind} {C : Int} (I : o.op = .move x := by exact rfl) (J : opv f x = .int j C := by exact rfl) : (execOp (opv f) o).run P w = .ok (.value (.int j C)) w := AN I J
theorem Bi {x : Operand} {a9 : Option Addr} {C j : Nat} (I : o.op = .move x := by exact rfl) (J : opv f x = .slice a9 C j := by exact rfl) : (execOp (opv f) o).run P w = .ok (.value (.slice a9 C j)) w := AN I J
theorem Cb {x : Operand} {j : Bool} (C : o.op = .move x := by exact rfl) (I : opv f x = .bool j := by exact rfl) : (execOp (opv f) o).run P w = .ok (.value (.bool j)) w := AN C I
theorem EA {x : Operand} {a9 : Option Addr} (j : o.op = .move x := by exact rfl) (C : opv f x = .pointer a9 := by exact rfl) : (execOp (opv f) o).run P w = .ok (.value (.pointer a9)) w := AN j C
theorem Ca {x : Operand} {j : List UInt8} (C : o.op = .move x := by exact rfl) (I : opv f x = S j := by exact rfl) : (execOp (opv f) o).run P w = .ok (.value (S j)) w := AN C I
theorem gL {x : Operand} {a9 : Array Value} (j : o.op = .move x := by exact rfl) (C : opv f x = .agg a9 := by exact rfl) : (execOp (opv f) o).run P w = .ok (.value (.agg a9)) w := AN j C
theorem TQ {x : Operand} {j : Option Nat} (C : o.op = .move x := by exact rfl) (I : opv f x = .map j := by exact rfl) : (execOp (opv f) o).run P w = .ok (.value (.map j)) w := AN C I
theorem PW {x : Operand} {a9 : Array Value} (j : o.op = .move x := by exact rfl) (C : opv f x = .tuple a9 := by exact rfl) : (execOp (opv f) o).run P w = .ok (.value (.tuple a9)) w := AN j C
theorem Am {x : Operand} {j : IntKind} {C : Int} (I : o.op = .assign x := by exact rfl) (J : opv f x = .int j C := by exact rfl) : (execOp (opv f) o).run P w = .ok (.value (.int j C)) w := AR I J
theorem Ew {x : Operand} {a9 : Option Addr} {C j : Nat} (I : o.op = .assign x := by exact rfl) (J : opv f x = .slice a9 C j := by exact rfl) : (execOp (opv f) o).run P w = .ok (.value (.slice a9 C j)) w := AR I J
theorem BV {x : Operand} {j : Bool} (C : o.op = .assign x := by exact rfl) (I : opv f x = .bool j := by exact rfl) : (execOp (opv f) o).run P w = .ok (.value (.bool j)) w := AR C I
theorem fH {x : Operand} {a9 : Option Addr} (j : o.op = .assign x := by exact rfl) (C : opv f x = .pointer a9 := by exact rfl) : (execOp (opv f) o).run P w = .ok (.value (.pointer a9)) w := AR j C
theorem Fa {x : Operand} {j : List UInt8} (C : o.op = .assign x := by exact rfl) (I : opv f x = S j := by exact rfl) : (execOp (opv f) o).run P w = .ok (.value (S j)) w := AR C I
theorem gJ {x : Operand} {a9 : Array Value} (j : o.op = .assign x := by exact rfl) (C : opv f x = .agg a9 := by exact rfl) : (execOp (opv f) o).run P w = .ok (.value (.agg a9)) w := AR j C
theorem c5 {x : Operand} {j : Option Nat} (C : o.op = .assign x := by exact rfl) (I : opv f x = .map j := by exact rfl) : (execOp (opv f) o).run P w = .ok (.value (.map j)) w := AR C I
theorem gK {x : Operand} {a9 : Array Value} (j : o.op = .assign x := by exact rfl) (C : opv f x = .tuple a9 := by exact rfl) : (execOp (opv f) o).run P w = .ok (.value (.tuple a9)) w := AR j C
theorem Br {t t2 : TypeId} {x y : Operand} {a b : Int} (C : o.op = .binOp .add t x y t2 := by exact rfl) (I : opv f x = .int .i64 a := by exact rfl) (J : opv f y = .int .i64 b := by exact rfl) (h1 : -9223372036854775808 ≤ a + b := by omega) (j : a + b ≤ 9223372036854775807 := by omega) : (execOp (opv f) o).run P w = .ok (.value (.int .i64 (a + b))) w := Bl C I J h1 j
theorem TP {t t2 : TypeId} {x y : Operand} {a b : Int} (C : o.op = .binOp .sub t x y t2 := by exact rfl) (I : opv f x = .int .i64 a := by exact rfl) (J : opv f y = .int .i64 b := by exact rfl) (h1 : -9223372036854775808 ≤ a - b := by omega) (j : a - b ≤ 9223372036854775807 := by omega) : (execOp (opv f) o).run P w = .ok (.value (.int .i64 (a - b))) w := FK C I J h1 j
theorem Dn {t t2 : TypeId} {x y : Operand} {j : IntKind} {a b : Int} (C : o.op = .binOp .lss t x y t2 := by exact rfl) (I : opv f x = .int j a := by exact rfl) (J : opv f y = .int j b := by exact rfl) : (execOp (opv f) o).run P w = .ok (.value (.bool (decide (a < b)))) w := Dc C I J
theorem Ve {t t2 : TypeId} {x y : Operand} {j : IntKind} {a b : Int} (C : o.op = .binOp .gtr t x y t2 := by exact rfl) (I : opv f x = .int j a := by exact rfl) (J : opv f y = .int j b := by exact rfl) : (execOp (opv f) o).run P w = .ok (.value (.bool (decide (b < a)))) w := C6 C I J
theorem DA {t t2 : TypeId} {x y : Operand} {j : IntKind} {a b : Int} (C : o.op = .binOp .eql t x y t2 := by exact rfl) (I : opv f x = .int j a := by exact rfl) (J : opv f y = .int j b := by exact rfl) : (execOp (opv f) o).run P w = .ok (.value (.bool (decide (a = b)))) w := BK C I J
theorem Ar {g : Prop} [Decidable g] {x : Operand} {v : Value} (j : g) (h : opv f x = gv g v := by exact rfl) : opv f x = v := OR h (fun h => h) j
theorem BW {s : Nat} {q : Prop} [Decidable q] (h : f s = .bool (decide q) := by exact rfl) : Wanted f s true q := fJ h
theorem BQ {s : Nat} {q : Prop} [Decidable q] (h : f s = .bool (decide q) := by exact rfl) : Wanted f s false (¬ q) := ez h
theorem FW {c a b : Operand} {q r : Prop} [Decidable q] [Decidable r] (J : o.op = .pick c a b := by exact rfl) (I : opv f c = .bool (decide q) := by exact rfl) (j : opv f a = .bool true := by exact rfl) (C : opv f b = gv (¬ q) (.bool (decide r)) := by exact rfl) : (execOp (opv f) o).run P w = .ok (.value (.bool (decide (q ∨ r)))) w := C4 J I j (fun R => OR C (fun h => h) R)
theorem Ht {c a b : Operand} {q r : Prop} [Decidable q] [Decidable r] (J : o.op = .pick c a b := by exact rfl) (I : opv f c = .bool (decide q) := by exact rfl) (j : opv f a = gv q (.bool (decide r)) := by exact rfl) (C : opv f b = .bool false := by exact rfl) : (execOp (opv f) o).run P w = .ok (.value (.bool (decide (q ∧ r)))) w := Cu J I (fun R => OR j (fun h => h) R) C
theorem Zg {α : Type} {M : List Nat} {J : α → Fr → World → Prop} {μ : α → Nat} {x : α} {f0 : Fr} (j : α) (hJ : J j f w) (I : μ j < μ x := by first | omega | (dsimp only; omega)) (hA : Agree M f0 f := by repeat (first | (with_reducible exact Agree.merge _ _ _) | (with_reducible exact Agree.refl _ _) | (with_reducible refine Agree.upd ?_ _ _ rfl) | ((with_reducible refine Agree.inner ?_ ?_); (kernel_rfl)))) :
    KF P B n (.stop (fun U R => ∃ j C, μ j < μ x ∧ Is n C U ∧ J j C R ∧ Agree M f0 C) :: k) f w := DN j I hJ hA
end
section
variable {P : Program} {B : Exit → Act → World → Prop} {n : Nat} {k : List Kont} {S : World → Prop} {ops : Array Oper} {fuel : Nat} {d : List Nat} {f : Fr} {w : World}
theorem Zt {i s : Nat} {op : Op} {t : TypeId} {pos : String} {j : Array Edge} {v : Value} (U : ops[i]? = some ⟨some s, op, t, pos, j, none⟩) (C : ∀ w', S w' → (execOp (opv f) ⟨some s, op, t, pos, j, none⟩).run P w' = .ok (.value v) w') (I : S w) (h : HA P B n k S ops fuel (i :: d) (upd f s v) w) (R : Nat.blt s n = true := by exact rfl) (J : Sg ops d i = true := by kernel_rfl) : HA P B n k S ops (fuel + 1) d f w := df U rfl rfl R J C I h
theorem Zh {i : Nat} {j : Oper} (h : KL P (BH P B n k S ops fuel i d) n ops [] [j] f w) (C : ops[i]? = some j := by exact rfl) (I : Jj ops d [i] = true := by kernel_rfl) : HA P B n k S ops (fuel + 1) d f w := fW I (EO C h)
end
section
variable {P : Program} {n : Nat} {C : World → Prop} {Q : Fr → Prop} {ops : Array Oper} {rest : List Oper} {f : Fr}
theorem Zq {op : Op} {t : TypeId} {pos : String} {j : Array Edge} {d : Nat} {v : Value} (I : ∀ w', C w' → (execOp (opv f) ⟨some d, op, t, pos, j, none⟩).run P w' = .ok (.value v) w') (h : KQ P n C Q ops rest (upd f d v)) (J : Nat.blt d n = true := by exact rfl) : KQ P n C Q ops (⟨some d, op, t, pos, j, none⟩ :: rest) f := fj rfl rfl J I h
end
section
variable {P : Program} {fn : Func} {n : Nat} {f : Fr} {w : World}
theorem C3 {s : Nat} {j : IntKind} {I : Int} (h : fn.results = #[.tmp s] := by exact rfl) (J : f s = .int j I := by exact rfl) : ∀ a, Is n f a → (results fn a.tmps).run P w = .ok (.int j I) w := C8 h J
theorem G7 {s : Nat} {j : Bool} (h : fn.results = #[.tmp s] := by exact rfl) (I : f s = .bool j := by exact rfl) : ∀ a, Is n f a → (results fn a.tmps).run P w = .ok (.bool j) w := C8 h I
end
theorem ϕ {α : Type} {a b : α} (h : a = b := by kernel_rfl) : some a = some b := congrArg some h
end Go.Vc
namespace Go.Proofs.YtbgmlpbgofcfjaaGreatDoor
open Go.RowKit Go.Vc Go.Proofs.Tryz
theorem ES {s : Ac} {R : World}  :
    Calls Tryz.prog 72 #[S s] R fun e w' => e = .returned (.bool (DJ s)) ∧ Evo R w' [] := by
 refine AG (n := 51) func72 rfl ntmps72 rfl ?_
 have J : Evo R R [] := Evo.refl _ _
 refine Zs (Zn BV (AE (Zs (Zo Ca (Zo (Bz rfl η underlying9) (Zo Dn (Zo Cb ?_)))))))
 refine Aj rfl BQ rfl (fun I => Ca) ?_
 refine Aj rfl BQ rfl (fun I => Bz rfl (Ar I) underlying9) ?_
 refine Aj rfl BQ rfl (fun I => C6 rfl (Ar I) η) ?_
 refine Zo FW (Zo Cb ?_)
 refine Aj rfl BQ rfl (fun I => Ca) ?_
 refine Aj rfl BQ rfl (fun I => Bb (0) rfl underlying9 (Ar I) η χ ω) ?_
 refine Aj rfl BQ rfl (fun I => Dc rfl (Ar I) η) ?_
 refine Zo FW (Zo Cb ?_)
 refine Aj rfl BQ rfl (fun I => Ca) ?_
 refine Aj rfl BQ rfl (fun I => Bb (0) rfl underlying9 (Ar I) η χ ω) ?_
 refine Aj rfl BQ rfl (fun I => C6 rfl (Ar I) η) ?_
 refine Zn FW (AH η (fun af => ?_) (fun af => ?_))
 refine Zs (Zn BV (AM G7 ?_))
 exact ⟨by rw [Tv ω], J⟩
 refine AJ (AE (Zs (Zn Am (AK (Aq (α := Nat) [2, 3, 4, 23, 24, 25, 26, 27, 28, 29, 30, 31, 32, 33, 34, 35, 36, 37, 38, 39, 40, 41, 42, 43, 44, 45, 46, 47, 48, 49, 50] (fun k g w => g 3 = .int .i64 (k : Nat) ∧ (1 ≤ k ∧ k ≤ s.length) ∧ (∀ j, 1 ≤ j → j < k → Oo (s.getD j 0) = true) ∧ R.heap.size ≤ w.heap.size ∧ Evo R w []) (fun k => s.length - k) 1 ?_ ?_)))))
 refine ⟨σ, δ, (fun j h1 h2 => by omega), δ, J⟩
 rintro k g w3 ⟨ao, hk, hall, hzl2, J⟩
 have U := J.size
 refine Zk 3 ao (AE (Zs (Zo AU (Zo Ca (Zo (Bz rfl η underlying9) (Zn Dn (AH η (fun ag => ?_) (fun ag => ?_))))))))
 refine AJ (AE (AK (Zs (Zo Ca (Zo AU (Zo (Bb (k) rfl underlying9 η η χ ω) (Zn Am (Zs (Zo AU ?_)))))))))
 refine Zo (CV rfl η η) (Zo Cb ?_)
 refine Aj rfl BW rfl (fun I => AU) ?_
 refine Aj rfl BW rfl (fun I => Dx rfl (Ar I) η) ?_
 refine Zo Ht (Zo Cb ?_)
 refine Aj rfl BQ rfl (fun I => AU) ?_
 refine Aj rfl BQ rfl (fun I => CV rfl (Ar I) η) ?_
 refine Aj rfl BQ rfl (fun I => AN (v := .bool _) rfl (Ar I)) ?_
 refine Aj rfl (GV η) rfl (fun I => AU) ?_
 refine Aj rfl (GV η) rfl (fun I => Dx rfl (Ar I) η) ?_
 refine Aj rfl BQ rfl (fun I => Cu rfl (Ar I) (fun hq => OR η (fun h => h) (And.intro I hq)) rfl) ?_
 refine Zo FW (Zo Cb ?_)
 refine Aj rfl BQ rfl (fun I => AU) ?_
 refine Aj rfl BQ rfl (fun I => BK rfl (Ar I) η) ?_
 refine Zo FW (Zn (Cd rfl η) (AH η (fun al => ?_) (fun al => ?_)))
 refine Zs (Zn BV (AM G7 ?_))
 exact ⟨by rw [TT (k := k) ω ω], J⟩
 refine AJ (AX (AB (Zo AU (Zo Br (Zn Am (Zg (k + 1) ?_))))))
 refine ⟨σ, δ, (fU hall (fun _ => (Oz _).2 ω)), δ, J⟩
 refine Ak rfl (Zs (Zn BV (AM G7 ?_)))
 exact ⟨by rw [(Hi s).2 ⟨by omega, by omega, by omega, fun j h1 h2 => hall j h1 ω⟩], J⟩
theorem Lo {s : Ac} {c : UInt8} {j : World}  :
    Calls Tryz.prog 236 #[S s, .int .u8 ((c.toNat : Nat) : Int)] j fun e w' => e = .returned (.int .i64 (Lib.indexByte s c)) ∧ Evo j w' [] := by
 refine AG (n := 8) func236 rfl ntmps236 rfl ?_
 have I : Evo j j [] := Evo.refl _ _
 refine Zs (Zn Am (Zs (Zo Ca (Zo AU (Zo (Ty (s := _) (c := _) rfl η η func273 rfl rfl rfl rfl) (Zn Am (AM C3 ?_)))))))
 exact ⟨rfl, I⟩
theorem Tz {s : Ac} {c : UInt8} {j : World}  :
    Calls Tryz.prog 198 #[S s, .int .u8 ((c.toNat : Nat) : Int)] j fun e w' => e = .returned (.int .i64 (Lib.indexByte s c)) ∧ Evo j w' [] := by
 refine AG (n := 8) func198 rfl ntmps198 rfl ?_
 have I : Evo j j [] := Evo.refl _ _
 refine Zs (Zn Am (Zs (Zo Ca (Zo AU (Zr [S _, .int _ _] rfl η func236 Lo ?_)))))
 rintro e R ⟨rfl, F1⟩
 refine ⟨_, rfl, ?_⟩
 have J := F1.size
 replace I := Z0 I F1
 refine Zn Am (AM C3 ?_)
 exact ⟨rfl, I⟩
theorem RZ {s : Ac} {c : UInt8} {U : World}  :
    Calls Tryz.prog 221 #[S s, S [c]] U fun e w' => e = .returned (.int .i64 (Lib.indexByte s c)) ∧ Evo U w' [] := by
 refine AG (n := 143) func221 rfl ntmps221 rfl ?_
 have J : Evo U U [] := Evo.refl _ _
 refine Zs (Zn Am (Zs (Zo Ca (Zo (Bz rfl η underlying9) (Zn Am (AE (AK (Zs (Zo AU ?_)))))))))
 refine Zo DA (Zo Cb ?_)
 refine Aj rfl BQ rfl (fun R => Ca) ?_
 refine Aj rfl BQ rfl (fun R => Ca) ?_
 refine Aj rfl BQ rfl (fun R => Fw rfl (Ar R) (Ar R)) ?_
 refine Zo FW (Zn BV (AH η (fun j => ?_) (fun j => ?_)))
 refine Zs (Zn Am (AM C3 ?_))
 exact ⟨by rw [aY j], J⟩
 refine Zs (Zo AU (Zo DA (Zn BV (AH η (fun I => ?_) (fun I => ?_)))))
 refine Zs (Zo Ca (Zo Ca (Zo (Bb (0) rfl underlying9 η η χ (by simp)) (Zr [S _, .int _ _] rfl η func236 Lo ?_))))
 rintro e w3 ⟨rfl, F3⟩
 refine ⟨_, rfl, ?_⟩
 have Q3 := F3.size
 replace J := Z0 J F3
 refine Zn Am (AM C3 ?_)
 exact ⟨rfl, J⟩
 exfalso; simp at I
theorem QN {s : Ac} {c : UInt8} {J : World} (hs : s.length ≤ 140737488355328) :
    Calls Tryz.prog 258 #[S s, S [c]] J fun e w' => e = .returned (.tuple #[S (JF s c).1, S (JF s c).2.1, .bool (JF s c).2.2]) ∧ Evo J w' [] := by
 refine AG (n := 23) func258 rfl ntmps258 rfl ?_
 have I : Evo J J [] := Evo.refl _ _
 refine Zs (Zo Fa (Zo Fa (Zn BV (AE (Zs (Zo Ca (Zo Ca (Zr [S _, S _] rfl η func221 RZ ?_))))))))
 rintro e w1 ⟨rfl, F1⟩
 refine ⟨_, rfl, ?_⟩
 have Q1 := F1.size
 replace I := Z0 I F1
 refine Zn Am (AE ?_)
 have U := ZP s c
 refine AB (Zo AU (Zn (CV rfl η η) (AH η (fun R => ?_) (fun R => ?_))))
 refine AE (Bt ζ ζ (Zq (fun w' j => Ca) (Zq (fun w' j => AU) (Zq (fun w' j => GP (0) ((s.takeWhile (fun x => x != c)).length) rfl underlying9 η cx (W5 η ω) τ τ) (Zq (fun w' j => Ca) (Zq (fun w' j => AU) (Zq (fun w' j => Ca) (Zq (fun w' j => Bz rfl η underlying9) (Zq (fun w' j => Bl rfl η η θ θ) ?_)))))))))
 refine Zq (fun w' j => GP ((s.takeWhile (fun x => x != c)).length + 1) (_) rfl underlying9 η (W5 η θ) Zp τ τ) (Zq (fun w' j => Fa) (Zq (fun w' j => Fa) (Zq (fun w' j => BV) (EV (fun w3 F4 => ?_)))))
 have Q3 := F4.size
 replace I := Z0 I F4
 refine AM (aw (v := S _) (u := S _) (x := .bool _) rfl η η η) ?_
 exact ⟨by unfold JF; rw [if_pos ω]; simp; rw [List.take_of_length_le (by simp)], I⟩
 refine AJ (Zs (Zo Ca (Zo Fa (Zo Fa (Zn BV (AM (aw (v := S _) (u := S _) (x := .bool _) rfl η η η) ?_))))))
 exact ⟨by unfold JF; rw [if_neg ω], I⟩
theorem Lt {s : Ac} {c : UInt8} {j : World} (R : s.length ≤ 140737488355328) :
    Calls Tryz.prog 223 #[S s, S [c]] j fun e w' => e = .returned (.tuple #[S (JF s c).1, S (JF s c).2.1, .bool (JF s c).2.2]) ∧ Evo j w' [] := by
 refine AG (n := 13) func223 rfl ntmps223 rfl ?_
 have I : Evo j j [] := Evo.refl _ _
 refine Zs (Zo Fa (Zo Fa (Zn BV (Zs (Zo Ca (Zo Ca (Zr [S _, S _] rfl η func258 (QN ω) ?_)))))))
 rintro e U ⟨rfl, F1⟩
 refine ⟨_, rfl, ?_⟩
 have J := F1.size
 replace I := Z0 I F1
 refine Zo (AI (v := S _) rfl η η) (Zo (AI (v := S _) rfl η η) (Zo (AI (v := .bool _) rfl η η) (Zo Fa (Zo Fa (Zn BV (AM (aw (v := S _) (u := S _) (x := .bool _) rfl η η η) ?_))))))
 exact ⟨rfl, I⟩
theorem UH {s : Ac} {j : World} (R : s.length ≤ 140737488355328) :
    Calls Tryz.prog 195 #[S s] j fun e w' => e = .returned (S (CJ s)) ∧ Evo j w' [] := by
 refine AG (n := 13) func195 rfl ntmps195 rfl ?_
 have I : Evo j j [] := Evo.refl _ _
 refine Zs (Zn Fa (Zs (Zo Ca (Zr [S _, S _] rfl η func223 (Lt ω) ?_))))
 rintro e U ⟨rfl, F1⟩
 refine ⟨_, rfl, ?_⟩
 have J := F1.size
 replace I := Z0 I F1
 refine Zo PW (Zo (AI (v := S _) rfl η η) (Zo (AI (v := S _) rfl η η) (Zo (AI (v := .bool _) rfl η η) (Zo Fa (Zo Fa (Zn BV (Zs (Zo Ca (Zn Fa ?_)))))))))
 refine AM (C8 (v := S _) rfl η) ?_
 exact ⟨by rw [← R4], I⟩
theorem GG {s : Ac} {J : World} (hs : s.length ≤ 140737488355328) :
    Calls Tryz.prog 82 #[S s] J fun e w' => e = .returned (S (CJ s)) ∧ Evo J w' [] := by
 refine AG (n := 18) func82 rfl ntmps82 rfl ?_
 have I : Evo J J [] := Evo.refl _ _
 refine Zs (Zn Fa (AE (Zs (Zn Am (AK (Aq (α := Nat) [2, 3, 4, 5, 6, 7, 8, 9, 10, 11, 12, 13, 14, 15, 16] (fun k g w => g 3 = .int .i64 (k : Nat) ∧ k ≤ s.length ∧ (∀ j, j < k → (s.getD j 0).toNat ≠ 32) ∧ J.heap.size ≤ w.heap.size ∧ Evo J w []) (fun k => s.length - k) 0 ?_ ?_))))))
 refine ⟨σ, δ, (fun j h1 => by omega), δ, I⟩
 rintro k g w2 ⟨ag, hk, hall, hzl1, I⟩
 have R := I.size
 refine Zk 3 ag (AE (Zs (Zo AU (Zo Ca (Zo (Bz rfl η underlying9) (Zn Dn (AH η (fun U => ?_) (fun U => ?_))))))))
 refine AJ (AE (AK (Zs (Zo Ca (Zo AU (Zo (Bb (k) rfl underlying9 η η χ ω) (Zn DA (AH η (fun af => ?_) (fun af => ?_)))))))))
 refine Zs (Zo Ca (Zo AU (Zo (by exact GP (0) (k) rfl underlying9 η cx (W5 η χ) τ τ) (Zn Fa (AM (C8 (v := S _) rfl η) ?_)))))
 exact ⟨by rw [XF hall ω ω]; simp, I⟩
 refine AJ (AX (AB (Zo AU (Zo Br (Zn Am (Zg (k + 1) ?_))))))
 refine ⟨σ, δ, (KR hall ω), δ, I⟩
 refine Ak rfl (Zs (Zo Ca (Zn Fa (AM (C8 (v := S _) rfl η) ?_))))
 exact ⟨by rw [WX (fun j hj => hall j ω)], I⟩
theorem KY {s : Ac} {R : World}  :
    Calls Tryz.prog 194 #[S s] R fun e w' => e = .returned (.bool (Ch s)) ∧ Evo R w' [] := by
 refine AG (n := 63) func194 rfl ntmps194 rfl ?_
 have J : Evo R R [] := Evo.refl _ _
 refine Zs (Zn BV (AE (Zs (Zo Ca (Zo (Bz rfl η underlying9) (Zo Ve (Zo Cb ?_)))))))
 refine Aj rfl BQ rfl (fun I => Ca) ?_
 refine Aj rfl BQ rfl (fun I => Bz rfl (Ar I) underlying9) ?_
 refine Aj rfl BQ rfl (fun I => BK rfl (Ar I) η) ?_
 refine Zo FW (Zo Cb ?_)
 refine Aj rfl BQ rfl (fun I => Ca) ?_
 refine Aj rfl BQ rfl (fun I => Ca) ?_
 refine Aj rfl BQ rfl (fun I => Bz rfl (Ar I) underlying9) ?_
 refine Aj rfl BQ rfl (fun I => FK rfl (Ar I) η ω ω) ?_
 refine Aj rfl BQ rfl (fun I => Bb ((s.length - 1)) rfl underlying9 (Ar I) (Ar I) ω ω) ?_
 refine Aj rfl BQ rfl (fun I => BK rfl (Ar I) η) ?_
 refine Zn FW (AH η (fun af => ?_) (fun af => ?_))
 refine Zs (Zn BV (AM G7 ?_))
 exact ⟨by rw [Qt ω], J⟩
 refine AJ (AE (Zs (Zn Am (AK (Aq (α := Nat) [2, 3, 23, 24, 25, 26, 27, 28, 29, 30, 31, 32, 33, 34, 35, 36, 37, 38, 39, 40, 41, 42, 43, 44, 45] (fun k g w => g 3 = .int .i64 (k : Nat) ∧ k ≤ s.length ∧ (∀ j, j < k → Lf (s.getD j 0) = true) ∧ R.heap.size ≤ w.heap.size ∧ Evo R w []) (fun k => s.length - k) 0 ?_ ?_)))))
 refine ⟨σ, δ, (fun j h1 => by omega), δ, J⟩
 rintro k g w3 ⟨ao, hk, hall, hzl2, J⟩
 have U := J.size
 refine Zk 3 ao (AE (Zs (Zo AU (Zo Ca (Zo (Bz rfl η underlying9) (Zn Dn (AH η (fun ag => ?_) (fun ag => ?_))))))))
 refine AJ (AE (AK (AE ?_)))
 have h4 := gG (s.getD k 0)
 refine AB (Zo Ca (Zo AU (Zo (Bb (k) rfl underlying9 η η χ ω) (Zo Dn (Zo Cb ?_)))))
 refine Aj rfl BQ rfl (fun I => Ca) ?_
 refine Aj rfl BQ rfl (fun I => AU) ?_
 refine Aj rfl BQ rfl (fun I => Bb (k) rfl underlying9 (Ar I) (Ar I) χ ω) ?_
 refine Aj rfl BQ rfl (fun I => C6 rfl (Ar I) η) ?_
 refine Zo FW (Zo Cb ?_)
 refine Aj rfl BQ rfl (fun I => Ca) ?_
 refine Aj rfl BQ rfl (fun I => AU) ?_
 refine Aj rfl BQ rfl (fun I => Bb (k) rfl underlying9 (Ar I) (Ar I) χ ω) ?_
 refine Dg rfl BQ rfl (fun I => BN rfl (BU (v := S _) η (BU (v := .int _ _) (Ar I) (rfl))) func198 rfl ζ) (fun I => (Tz ).mono (fun e w' h => ⟨h.1, h.2⟩)) (fun w6 F7 => ?_)
 have Q6 := F7.size
 replace J := Z0 J F7
 refine Aj rfl BQ rfl (fun I => CV rfl (Ar I) η) ?_
 refine Zn FW (AH η (fun al => ?_) (fun al => ?_))
 refine Zs (Zn BV (AM G7 ?_))
 exact ⟨by rw [OT k ω (fun h => by have h9 := (PV _).1 h; omega)], J⟩
 refine AJ (AX (AB (Zo AU (Zo Br (Zn Am (Zg (k + 1) ?_))))))
 refine ⟨σ, δ, (KR hall ((PV _).2 ω)), δ, J⟩
 refine Ak rfl (Zs (Zo Ca (Zr [S _, S _] rfl η func223 (Lt ω) ?_)))
 rintro e w9 ⟨rfl, F9⟩
 refine ⟨_, rfl, ?_⟩
 have Q9 := F9.size
 replace J := Z0 J F9
 refine Zo PW (Zo (AI (v := S _) rfl η η) (Zo (AI (v := S _) rfl η η) (Zo (AI (v := .bool _) rfl η η) (Zo Fa (Zo Fa (Zn BV (Zs (Zo Ca (Zr [S _] rfl η func72 ES ?_)))))))))
 rintro e aS ⟨rfl, F10⟩
 refine ⟨_, rfl, ?_⟩
 have au := F10.size
 replace J := Z0 J F10
 refine Zo (Cc rfl η) ?_
 refine Aj rfl BW rfl (fun I => Cc rfl η) ?_
 refine Aj rfl BW rfl (fun I => Cd rfl (Ar I)) ?_
 refine Aj rfl BW rfl (fun I => AN (v := .bool _) rfl (Ar I)) ?_
 refine Aj rfl (DU η) rfl (fun I => Ca) ?_
 refine Aj rfl (DU η) rfl (fun I => Bz rfl (Ar I) underlying9) ?_
 refine Aj rfl (DU η) rfl (fun I => C6 rfl (Ar I) η) ?_
 refine Aj rfl BW rfl (fun I => C4 rfl (Ar I) rfl (fun hq => OR η (fun h => h) (And.intro I hq))) ?_
 refine Zo Ht (Zn BV (AM G7 ?_))
 exact ⟨Bn (Sf ω ω (fun j hj => hall j ω)), J⟩
end Go.Proofs.YtbgmlpbgofcfjaaGreatDoor
namespace Go.Vc
open Go
def W6 (x : Item) : Bool := decide (¬ x.kind = 1)
def Dq (f : List Item) : List Item := f.filter W6
theorem Ct (f g : List Item) : Dq (f ++ g) = Dq f ++ Dq g := by simp [Dq]
theorem DE {x : Item} (h : x.kind = 1) : Dq [x] = [] := by unfold Dq; rw [List.filter_cons_of_neg (by simp [W6, h])]; rfl
theorem T6 {x : Item} (h : ¬ x.kind = 1) : Dq [x] = [x] := by unfold Dq; rw [List.filter_cons_of_pos (by simp [W6, h])]; rfl
theorem PZ (f : List Item) : Dq (Bf f) = Dq f := by
  refine OH (Q := fun f n => Dq n = Dq f) rfl (fun l x j => ?_) f
  rw [Ct]
  rcases HG (Bf l) x with ⟨h1, h2, e⟩ | ⟨h1, e⟩ | ⟨h1, e⟩ | ⟨h1, m, q, e0, hq, e⟩
  · rw [e, DE h1, List.append_nil, j]
  · rw [e, Ct, DE h1, DE (x := ⟨1, x.text, 0⟩) rfl, j]
  · rw [e, Ct, j]
  · rw [e, Ct, DE h1, DE (x := ⟨1, q.text ++ x.text, 0⟩) rfl, List.append_nil, List.append_nil, ← j, e0, Ct, DE hq, List.append_nil]
def Yk (t : Ac) : List Ac := [[114, 111, 116], [100, 97, 115, 32, 65, 117, 116, 111], [], [101, 105, 110, 32] ++ t, t]
theorem VV (t : Ac) : ∀ j, ((Yk t).getD j default).length ≤ t.length + 8
  | 0 => by show 3 ≤ _; omega
  | 1 => by show 8 ≤ _; omega
  | 2 => by show 0 ≤ _; omega
  | 3 => by show ([101, 105, 110, 32] ++ t : Ac).length ≤ _; rw [List.length_append]; show 4 + _ ≤ _; omega
  | 4 => by show t.length ≤ _; omega
  | _ + 5 => Nat.zero_le _
theorem Vj {f f2 : List Item} {x : Item} {t : Ac} (j : Dq f2 = Dq f) (I : ¬ x.kind = 1 → t = x.text) : Dq (Bf (f2 ++ [⟨x.kind, t, x.id⟩])) = Dq f ++ Dq [x] := by
  rw [PZ, Ct, j]
  congr 1
  by_cases h : x.kind = 1
  · rw [DE h, DE (x := ⟨x.kind, t, x.id⟩) h]
  · rw [I h]
theorem Vs (f : List Item) (k : Nat) (h : k < f.length) : Dq (f.take (k + 1)) = Dq (f.take k) ++ Dq [f.getD k default] := by rw [A7 f k h, Ct]
theorem Mo {f : List Item} (t : Ac) (i : Int) : Dq (Bf (f ++ [⟨1, t, i⟩])) = Dq f := by rw [PZ, Ct, DE (x := ⟨1, t, i⟩) rfl, List.append_nil]
def ad (c : UInt8) : UInt8 := if 65 ≤ c.toNat ∧ c.toNat ≤ 90 then c + 32 else c
def Ju (s : Ac) : Ac := s.map ad
theorem dJ {c : UInt8} (h : ¬ (65 ≤ c.toNat ∧ c.toNat ≤ 90)) : ad c = c := by unfold ad; rw [if_neg h]
theorem cC {c : UInt8} (h : 65 ≤ c.toNat ∧ c.toNat ≤ 90) : (ad c).toNat = c.toNat + 32 := by
  unfold ad; rw [if_pos h, UInt8.toNat_add]
  have j : (32 : UInt8).toNat = 32 := rfl
  omega
theorem cH {n : Int} (h1 : 0 ≤ n) (j : n ≤ 255) : IntKind.wrap .u8 n = n := by simp [IntKind.wrap, IntKind.bits, IntKind.signed]; omega
theorem Z9 {c : UInt8} (h1 : 65 ≤ c.toNat) (j : c.toNat ≤ 90) : IntKind.wrap .u8 (IntKind.wrap .u8 (((c.toNat : Nat) : Int) + 97) - 65) = (((ad c).toNat : Nat) : Int) := by
  rw [cH (n := (((c.toNat : Nat) : Int) + 97)) ω ω, cH ω ω, cC ⟨h1, j⟩]; omega
def Hw (s : Ac) (k : Nat) : Ac := Ju (s.take k) ++ s.drop k
@[simp] theorem lowK_len (s : Ac) (k : Nat) : (Hw s k).length = s.length := by simp [Hw, Ju]; omega
theorem Pu (s : Ac) : Hw s 0 = s := by simp [Hw, Ju]
theorem Xa {s : Ac} {k : Nat} (h : s.length ≤ k) : Hw s k = Ju s := by unfold Hw; rw [List.take_of_length_le h, List.drop_eq_nil_of_le h, List.append_nil]
theorem JV {s : Ac} {k : Nat} (h : k < s.length) : Hw s k = Ju (s.take k) ++ s.getD k 0 :: s.drop (k + 1) := by
  unfold Hw; rw [List.drop_eq_getElem_cons h]; simp [List.getD, h]
theorem O5 {s : Ac} {k : Nat} (h : k < s.length) : Hw s (k + 1) = Ju (s.take k) ++ ad (s.getD k 0) :: s.drop (k + 1) := by
  have e : s.getD k 0 = s[k] := by simp [List.getD, h]
  unfold Hw Ju; rw [List.take_succ_eq_append_getElem h, List.map_append, List.append_assoc, e]; rfl
theorem Sb {s : Ac} {k : Nat} (h : k < s.length) : (Hw s k).getD k default = s.getD k 0 := by
  have e : (Ju (s.take k)).length = k := by simp [Ju]; omega
  rw [JV h, List.getD_eq_getElem?_getD, List.getElem?_append_right ω, e]; simp
theorem KW {s : Ac} {k : Nat} (h : k < s.length) : (Hw s k).set k (ad (s.getD k 0)) = Hw s (k + 1) := by
  have e : (Ju (s.take k)).length = k := by simp [Ju]; omega
  rw [JV h, O5 h, List.set_append_right _ _ ω, e, Nat.sub_self]; rfl
theorem I8 {s : Ac} {k : Nat} (h : k < s.length) (j : ¬ (65 ≤ (s.getD k 0).toNat ∧ (s.getD k 0).toNat ≤ 90)) : Hw s (k + 1) = Hw s k := by
  rw [JV h, O5 h, dJ j]
def Dp (c : UInt8) : Int :=
  if c.toNat = 9 ∨ c.toNat = 10 ∨ c.toNat = 13 ∨ c.toNat = 32 then 2 else if c.toNat < 32 ∨ c.toNat = 127 then 1 else if 48 ≤ c.toNat ∧ c.toNat ≤ 57 then 3
  else if (97 ≤ c.toNat ∧ c.toNat ≤ 122) ∨ (65 ≤ c.toNat ∧ c.toNat ≤ 90) ∨ 128 ≤ c.toNat then 4 else 5
theorem WU {c : UInt8} (h : c.toNat = 9 ∨ c.toNat = 10 ∨ c.toNat = 13 ∨ c.toNat = 32) : Dp c = 2 := by unfold Dp; rw [if_pos h]
theorem SI {c : UInt8} (h1 : ¬ (c.toNat = 9 ∨ c.toNat = 10 ∨ c.toNat = 13 ∨ c.toNat = 32)) (h : c.toNat < 32 ∨ c.toNat = 127) : Dp c = 1 := by unfold Dp; rw [if_neg h1, if_pos h]
theorem Vt {c : UInt8} (h : 48 ≤ c.toNat ∧ c.toNat ≤ 57) : Dp c = 3 := by unfold Dp; rw [if_neg ω, if_neg ω, if_pos h]
theorem Td {c : UInt8} (h : (97 ≤ c.toNat ∧ c.toNat ≤ 122) ∨ (65 ≤ c.toNat ∧ c.toNat ≤ 90) ∨ 128 ≤ c.toNat) : Dp c = 4 := by unfold Dp; rw [if_neg ω, if_neg ω, if_neg ω, if_pos h]
theorem Xe {c : UInt8} (h1 : ¬ (c.toNat = 9 ∨ c.toNat = 10 ∨ c.toNat = 13 ∨ c.toNat = 32)) (j : ¬ (c.toNat < 32 ∨ c.toNat = 127)) (I : ¬ (48 ≤ c.toNat ∧ c.toNat ≤ 57)) (h : ¬ ((97 ≤ c.toNat ∧ c.toNat ≤ 122) ∨ (65 ≤ c.toNat ∧ c.toNat ≤ 90) ∨ 128 ≤ c.toNat)) : Dp c = 5 := by unfold Dp; rw [if_neg h1, if_neg j, if_neg I, if_neg h]
def Wf : List Ac → Ac → List Ac
  | [], s => [s]
  | y :: l, s => if s ≤ y then (if s < y then s :: y :: l else y :: l) else y :: Wf l s
section
variable {d : Bool} {o l : List Ac} {x : Ac} {k : Nat}
end
theorem Ut (a b : Ac) : blt a b = true ↔ a < b := by
  have h1 : blt a b = decide (a < b) := by unfold blt; exact Go.Proofs.bytesLess_eq a b
  rw [h1, decide_eq_true_iff]
theorem SE : ∀ {l : List Ac} {s x : Ac}, x ∈ Wf l s ↔ x ∈ l ∨ x = s
  | [], s, x => by simp [Wf]
  | y :: l, s, x => by
    unfold Wf
    split
    · rename_i h1
      split
      · simp only [List.mem_cons]
        constructor
        · rintro (h | h)
          · exact .inr h
          · exact .inl h
        · rintro (h | h)
          · exact .inr h
          · exact .inl h
      · rename_i h2
        have e : y = s := List.le_antisymm (List.not_lt.1 h2) h1
        subst e
        constructor
        · exact fun h => .inl h
        · rintro (h | h)
          · exact h
          · subst h; simp
    · rw [List.mem_cons, SE, List.mem_cons, or_assoc]
section
variable {d : Bool} {o l : List Ac} {x : Ac} {k : Nat}
end
structure Ende where
  strip : Ac
  add : Ac
deriving DecidableEq, Inhabited
structure Clas where
  name : Ac
  ends : List Ende
deriving DecidableEq, Inhabited
theorem Yj {m : List (Ac × Unit)} {l : List Ac} {f : Ac} (J : (m.map (·.1)).Nodup) (h : ∀ x, x ∈ m.map (·.1) ↔ x ∈ l) : ∀ x, x ∈ (Co m f ()).map (·.1) ↔ x ∈ Wf l f := fun x => by
  rw [SE, ← h]
  rcases IV f m with h1 | ⟨i, u, h1, _⟩
  · rw [FZ h1]; simp
  · rw [IL h1 J, List.map_set]
    have j := (List.getElem?_eq_some_iff.1 h1)
    have e : (m.map (·.1)).set i f = m.map (·.1) := by
      obtain ⟨j, R⟩ := j
      have : (m.map (·.1))[i]'(by simpa using j) = f := by simp [R]
      rw [← this]; exact List.set_getElem_self _
    have hm : f ∈ m.map (·.1) := by
      have := List.mem_of_getElem? h1
      exact List.mem_map.2 ⟨_, this, rfl⟩
    rw [show ((f, ()) : Ac × Unit).1 = f from rfl, e]
    constructor
    · exact .inl
    · rintro (I | rfl)
      · exact I
      · exact hm
def KeyIs (m : List (Ac × Unit)) (l : List Ac) : Prop := (m.map (·.1)).Nodup ∧ ∀ x, x ∈ m.map (·.1) ↔ x ∈ l
theorem KeyIs.one (s : Ac) : KeyIs (Co [] s ()) [s] := ⟨by simp [Co], fun x => by simp [Co]⟩
theorem KeyIs.add {m : List (Ac × Unit)} {l : List Ac} (h : KeyIs m l) (f : Ac) : KeyIs (Co m f ()) (Wf l f) := ⟨Gv f () m h.1, Yj h.1 h.2⟩
end Go.Vc
namespace Go.Vc
open Go Go.RowKit Go.IntWalk
abbrev ZX (c : UInt8) : Value := .int .u8 ((c.toNat : Nat) : Int)
def ByB (w : World) (b cap : Nat) (l : List UInt8) : Prop := ∃ (cur : Array Value) (E : TypeId), w.heap[b]? = some (.cells cur E (cap, cap + 1)) ∧ cur.size = cap ∧ l.length ≤ cap ∧ l.length ≤ 140737488355328 ∧ cur.toList.take l.length = l.map ZX
section
variable {w w' : World} {b cap : Nat} {l : List UInt8} {X : List Nat}
theorem ByB.lt (h : ByB w b cap l) : b < w.heap.size := by
  obtain ⟨cur, E, j, _⟩ := h
  rcases Nat.lt_or_ge b w.heap.size with h1 | h1
  · exact h1
  · rw [Array.getElem?_eq_none h1] at j; cases j
theorem ByB.evo (h : ByB w b cap l) (he : Evo w w' X) (J : b ∉ X) : ByB w' b cap l := by
  have I := h.lt
  obtain ⟨cur, E, j, r⟩ := h
  exact ⟨cur, E, (he.same b I J).trans j, r⟩
theorem ByB.evo0 (h : ByB w b cap l) (he : Evo w w' []) : ByB w' b cap l := h.evo he (by simp)
theorem ByB.len (h : ByB w b cap l) : l.length ≤ cap ∧ l.length ≤ 140737488355328 := by obtain ⟨cur, E, _, _, h1, j, _⟩ := h; exact ⟨h1, j⟩
theorem ByB.cell (h : ByB w b cap l) {i : Nat} (j : i < l.length) : w.cell? ⟨b, i, none⟩ = some (ZX (l.getD i 0)) := by
  obtain ⟨cur, E, R, h1, U, h3, J⟩ := h
  have I : (cur.toList.take l.length)[i]? = (l.map ZX)[i]? := by rw [J]
  rw [List.getElem?_take_of_lt j, Array.getElem?_toList, List.getElem?_map, List.getElem?_eq_getElem j] at I
  simp only [World.cell?, R, Option.isSome_none, Bool.false_eq_true, if_false]
  rw [I]
  simp [List.getD, j]
theorem ByB.row (h : ByB w b cap l) : RowE w (some ⟨b, 0, none⟩) b 0 cap l := by
  refine ⟨⟨by simpa using h.len.1, by simpa using h.len.2⟩, fun _ => rfl, fun i cs J => ?_⟩
  have I : i < l.length := by
    rcases Nat.lt_or_ge i l.length with h1 | h1
    · exact h1
    · rw [List.getElem?_eq_none (by simpa using h1)] at J; cases J
  rw [List.getElem?_map, List.getElem?_eq_getElem I] at J
  injection J with J
  subst J
  refine ⟨rfl, fun j v U => ?_⟩
  have af : j = 0 := by
    rcases Nat.eq_zero_or_pos j with h1 | h1
    · exact h1
    · rw [List.getElem?_eq_none (by show 1 ≤ j; exact h1)] at U; cases U
  subst af
  have R : some (ZX l[i]) = some v := U
  injection R with R
  have h3 := h.cell I
  have e : l.getD i 0 = l[i] := by simp [List.getD, I]
  rw [e, R] at h3
  have e2 : 0 + i * Enc.n UInt8 + 0 = i := by show 0 + i * 1 + 0 = i; omega
  rw [e2]; exact h3
end
section
variable {P : Program} {B : Exit → Act → World → Prop} {n : Nat} {k : List Kont} {f : Fr} {w : World} {ops : Array Oper} {rest : List Oper}
theorem dK {T U E d : Nat} {t : TypeId} {pos : String} {af : Array Edge} {x : Operand} {s : Ac} (hd : Nat.blt d n = true) (hs : P.underlying T = some .string) (hu : P.underlying U = some (.slice E)) (he : P.underlying E = some (.int .u8)) (hx : opv f x = S s) (hb : s.length ≤ 140737488355328)
    (h : ∀ b cap w', b = w.heap.size → Evo w w' [] → ByB w' b cap s → w'.heap.size = b + 1 → KL P B n ops k rest (upd f d (.slice (some ⟨b, 0, none⟩) s.length cap)) w') :
    KL P B n ops k (⟨some d, .convert T U x, t, pos, af, none⟩ :: rest) f w := by
  have hr := Lib.run_convert_string_bytes (P := P) w T U E ⟨s.toArray⟩ hs hu he
  have I : (⟨s.toArray⟩ : ByteArray).size = s.length := by simp [ByteArray.size]
  have R := grownCap_ge w (⟨s.toArray⟩ : ByteArray).size 0 E
  have J : (Lib.bytesCells w E ⟨s.toArray⟩).size = grownCap w (⟨s.toArray⟩ : ByteArray).size 0 E := by
    simp only [Lib.bytesCells, Array.size_append, Array.size_map, Array.size_replicate]
    have e : s.toArray.size = (⟨s.toArray⟩ : ByteArray).size := rfl
    rw [e]; omega
  have ag : ByB (Lib.bytesWorld w E ⟨s.toArray⟩) w.heap.size (grownCap w (⟨s.toArray⟩ : ByteArray).size 0 E) s := by
    refine ⟨Lib.bytesCells w E ⟨s.toArray⟩, E, by rw [Lib.bytesWorld_at_new, J], J, by rw [I] at R; rw [I]; exact R, hb, ?_⟩
    simp [Lib.bytesCells]
  refine Hs (v := .slice (some ⟨w.heap.size, 0, none⟩) s.length (grownCap w (⟨s.toArray⟩ : ByteArray).size 0 E)) (w' := Lib.bytesWorld w E ⟨s.toArray⟩) rfl rfl hd ?_ (h _ _ _ rfl ⟨rfl, rfl, rfl, by rw [Lib.bytesWorld_size]; omega, fun j hj _ => Lib.bytesWorld_at_old w E ⟨s.toArray⟩ j hj⟩ ag (Lib.bytesWorld_size w E ⟨s.toArray⟩))
  unfold execOp
  simp only []
  rw [hx, ← I]
  simp only [Sem.run_bind]
  rw [show S s = Value.string ⟨s.toArray⟩ from rfl, hr]
  rfl
theorem ByB.set {b cap i : Nat} {l : List UInt8} (c : UInt8) (h : ByB w b cap l) (hi : i < l.length) : ByB (w.setCell ⟨b, i, none⟩ (ZX c)) b cap (l.set i c) := by
  obtain ⟨cur, E, hb, h1, U, h3, h4⟩ := h
  refine ⟨cur.setIfInBounds i (ZX c), E, by simp [World.setCell, Array.getElem?_modify, hb], by simpa using h1, by simpa using U, by simpa using h3, ?_⟩
  rw [List.length_set, Array.toList_setIfInBounds]
  apply List.ext_getElem?
  intro j
  have J := congrArg (fun q : List Value => q[j]?) h4
  simp only [List.getElem?_take, List.getElem?_map] at J ⊢
  rw [List.getElem?_set, List.getElem?_set]
  have hc : i < cur.toList.length := by rw [Array.length_toList, h1]; omega
  by_cases R : j < l.length
  · simp only [R, if_true] at J ⊢
    by_cases I : i = j
    · subst I; rw [if_pos rfl, if_pos rfl, if_pos hc, if_pos hi]; rfl
    · simp only [I, if_false]; exact J
  · simp only [R, if_false]
    have : ¬ i = j := by omega
    simp [this, List.getElem?_eq_none (Nat.le_of_not_lt R)]
theorem Wx {T : TypeId} {t : TypeId} {pos : String} {af : Array Edge} {x y : Operand} {b cap bb : Nat} {z : Option Value} {l : List UInt8} {c : UInt8} (i : Nat) (hx : opv f x = .pointer (some ⟨b, i, none⟩)) (hy : opv f y = ZX c) (U : ByB w b cap l) (hi : i < l.length) (ht : Cy P T = some (1, bb, z))
    (h : ∀ w', Evo w w' [b] → w'.heap.size = w.heap.size → ByB w' b cap (l.set i c) → KL P B n ops k rest f w') :
    KL P B n ops k (⟨none, .store T x y, t, pos, af, none⟩ :: rest) f w := by
  refine UP (w' := w.setCell ⟨b, i, none⟩ (ZX c)) rfl rfl ?_ (h _ (Evo.setCell _ _ _) (by simp [World.setCell]) (U.set c hi))
  have I := U.cell hi
  have al : w.frozen? ⟨b, i, none⟩ = false := by
    have hl := U.len.1
    obtain ⟨cur, E, ag, h1, h2, h3, h4⟩ := U
    simp only [World.frozen?, ag]
    simp; omega
  have R := run_storeCells_cells (P := P) b i [ZX c] 0 w (by intro j J; simp at J; subst J; simp [I]) (by intro j J; simp at J; subst J; simpa using al) (by intro v hv; simp at hv; subst hv; rfl)
  have ao : (ZX c).cells = #[ZX c] := rfl
  simp only [execOp, Instr.storeAt, Instr.sureAddr, storeVar, hx, hy, Sem.run_bind, CF ht, ao, Sem.run_pure, Result.andThen_ok]
  simp
  simp at R
  rw [R]
  rfl
theorem Ts {T : TypeId} {t : TypeId} {pos : String} {I : Array Edge} {x y : Operand} {b cap J j : Nat} {z : Option Value} {l : List UInt8} {m : Int} (i : Nat) (c : UInt8) (hx : opv f x = .pointer (some ⟨b, j, none⟩)) (hj : j = i) (hy : opv f y = .int .u8 m) (hm : m = ((c.toNat : Nat) : Int)) (R : ByB w b cap l) (U : i < l.length) (ht : Cy P T = some (1, J, z))
    (h : ∀ w', Evo w w' [b] → w'.heap.size = w.heap.size → ByB w' b cap (l.set i c) → KL P B n ops k rest f w') :
    KL P B n ops k (⟨none, .store T x y, t, pos, I, none⟩ :: rest) f w := by
  subst hj; subst hm
  exact Wx _ hx hy R U ht h
def BA (w : World) (base : Nat) (E : TypeId) (v : Value) (l : List UInt8) : Prop := OwnE w base E v l ∨ ∃ b, v = .slice (some ⟨b, 0, none⟩) l.length l.length ∧ base ≤ b ∧ b < w.heap.size ∧ ByB w b l.length l ∧ l.length = 2
theorem BA.shape {base : Nat} {E : TypeId} {v : Value} {l : List UInt8} (h : BA w base E v l) : ∃ ao cap, v = .slice ao l.length cap := by
  rcases h with h | ⟨b, h, _⟩
  · exact h.shape
  · exact ⟨_, _, h⟩
theorem BA.own {base : Nat} {E : TypeId} {v : Value} {l : List UInt8} (h : BA w base E v l) (j : ¬ l.length = 2) : OwnE w base E v l := by
  rcases h with h | ⟨b, _, _, _, _, h⟩
  · exact h
  · exact absurd h j
theorem BA.evo0 {w' : World} {base : Nat} {E : TypeId} {v : Value} {l : List UInt8} (h : BA w base E v l) (he : Evo w w' []) : BA w' base E v l := by
  rcases h with h | ⟨b, h1, h2, h3, h4, h5⟩
  · exact .inl (h.evo0 he)
  · exact .inr ⟨b, h1, h2, Nat.lt_of_lt_of_le h3 he.size, h4.evo0 he, h5⟩
end
end Go.Vc
namespace Go.Proofs.YtbgmlpbgofcfjaaGreatDoor
open Go.RowKit Go.Vc Go.Proofs.Tryz
theorem fw : CQ Tryz.prog 5 = some false := ζ
theorem Hp : Cy Tryz.prog 5 = some (1, 1, some (.int .u8 0)) := ζ
theorem H3 {c : UInt8} {J : World}  :
    Calls Tryz.prog 93 #[.int .u8 ((c.toNat : Nat) : Int)] J fun e w' => e = .returned (.int .i64 (Dp c)) ∧ Evo J w' [] := by
 refine AG (n := 51) func93 rfl ntmps93 rfl ?_
 have I : Evo J J [] := Evo.refl _ _
 refine Zs (Zn Am (AE (AK (Zs (Zo AU (Zo DA (Zo Cb ?_)))))))
 refine Aj rfl BQ rfl (fun j => AU) ?_
 refine Aj rfl BQ rfl (fun j => BK rfl (Ar j) η) ?_
 refine Zo FW (Zo Cb ?_)
 refine Aj rfl BQ rfl (fun j => AU) ?_
 refine Aj rfl BQ rfl (fun j => BK rfl (Ar j) η) ?_
 refine Zo FW (Zo Cb ?_)
 refine Aj rfl BQ rfl (fun j => AU) ?_
 refine Aj rfl BQ rfl (fun j => BK rfl (Ar j) η) ?_
 refine Zo FW (Zn BV (AH η (fun R => ?_) (fun R => ?_)))
 refine Zs (Zn Am (AM C3 ?_))
 exact ⟨A3 (by rw [WU ω]), I⟩
 refine Zs (Zo AU (Zo Dn (Zo Cb ?_)))
 refine Aj rfl BQ rfl (fun j => AU) ?_
 refine Aj rfl BQ rfl (fun j => BK rfl (Ar j) η) ?_
 refine Zo FW (Zn BV (AH η (fun U => ?_) (fun U => ?_)))
 refine Zs (Zn Am (AM C3 ?_))
 exact ⟨A3 (by rw [SI ω ω]), I⟩
 refine Zs (Zo AU (Zo (CV rfl η η) (Zo Cb ?_)))
 refine Aj rfl BW rfl (fun j => AU) ?_
 refine Aj rfl BW rfl (fun j => Dx rfl (Ar j) η) ?_
 refine Zo Ht (Zn BV (AH η (fun af => ?_) (fun af => ?_)))
 refine Zs (Zn Am (AM C3 ?_))
 exact ⟨A3 (by rw [Vt ω]), I⟩
 refine Zs (Zo AU (Zo (CV rfl η η) (Zo Cb ?_)))
 refine Aj rfl BW rfl (fun j => AU) ?_
 refine Aj rfl BW rfl (fun j => Dx rfl (Ar j) η) ?_
 refine Zo Ht (Zo Cb ?_)
 refine Aj rfl BQ rfl (fun j => AU) ?_
 refine Aj rfl BQ rfl (fun j => CV rfl (Ar j) η) ?_
 refine Aj rfl BQ rfl (fun j => AN (v := .bool _) rfl (Ar j)) ?_
 refine Aj rfl (GV η) rfl (fun j => AU) ?_
 refine Aj rfl (GV η) rfl (fun j => Dx rfl (Ar j) η) ?_
 refine Aj rfl BQ rfl (fun j => Cu rfl (Ar j) (fun hq => OR η (fun h => h) (And.intro j hq)) rfl) ?_
 refine Zo FW (Zo Cb ?_)
 refine Aj rfl BQ rfl (fun j => AU) ?_
 refine Aj rfl BQ rfl (fun j => CV rfl (Ar j) η) ?_
 refine Zo FW (Zn BV (AH η (fun ag => ?_) (fun ag => ?_)))
 refine Zs (Zn Am (AM C3 ?_))
 exact ⟨A3 (by rw [Td ω]), I⟩
 refine AJ (AX (Zs (Zn Am (AM C3 ?_))))
 exact ⟨A3 (by rw [Xe ω ω ω ω]), I⟩
theorem Sj {s : Ac} {w0 : World} (hs : s.length ≤ 140737488355328) :
    Calls Tryz.prog 206 #[S s] w0 fun e w' => e = .returned (S (Ju s)) ∧ Evo w0 w' [] := by
 refine AG (n := 30) func206 rfl ntmps206 rfl ?_
 have R : Evo w0 w0 [] := Evo.refl _ _
 refine Zs (Zn Fa (Zs (Zo Ca (dK rfl underlying9 underlying157 underlying5 η τ ?_))))
 intro b1 capb1 w2 J1 E2 I Y1
 have Q2 := E2.size
 replace R := Z0 R E2
 have j := I.row
 refine Zn (AR (v := .slice (some ⟨b1, 0, none⟩) _ _) rfl η) (AE (Zs (Zo (AN (v := .slice (some ⟨b1, 0, none⟩) _ _) rfl η) (Zo (AQ rfl η underlying157) (Zn AU (AK (Aq (α := Nat) [4, 5, 10, 11, 12, 13, 14, 15, 16, 17, 18, 19, 20, 21, 22, 23, 24, 25, 26, 27] (fun k g w => g 10 = .int .i64 (k : Nat) ∧ k ≤ s.length ∧ ByB w b1 capb1 (Hw s k) ∧ RowE w (some ⟨b1, 0, none⟩) b1 0 capb1 (Hw s k) ∧ w2.heap.size ≤ w.heap.size ∧ Evo w0 w []) (fun k => s.length - k) 0 ?_ ?_)))))))
 refine ⟨σ, δ, (by rw [Pu]; exact I), (by rw [Pu]; exact j), δ, R⟩
 rintro k g w4 ⟨aS, hk_k, I, j, hzl3, R⟩
 have af := R.size
 refine Zk 10 aS ?_
 have bb := lowK_len s k
 have aT := fun h => Sb (s := s) (k := k) h
 have U := fun h => congrArg UInt8.toNat (Sb (s := s) (k := k) h)
 refine Zs (Zn Dn (AE (AH η (fun au => ?_) (fun au => ?_))))
 refine AJ (AE (AK (Zs (Zo AU (Zo (Ab (k) rfl underlying157 Hp η η χ ω (j.addr (i := k) ω)) ?_)))))
 have ao := j.atD (k) ω
 refine Zo (AA rfl fw η (ao.cell 0 η)) (Zo Am (Zn Am (Zs (Zo AU (Zo (CV rfl η η) (Zo Cb ?_))))))
 refine Aj rfl BW rfl (fun hg => AU) ?_
 refine Aj rfl BW rfl (fun hg => Dx rfl (Ar hg) η) ?_
 refine Zn Ht (AH η (fun az => ?_) (fun az => ?_))
 refine AB (Zo (AN (v := .slice (some ⟨b1, 0, none⟩) _ _) rfl η) (Zo AU (Zo AU (Zo (Xo rfl η η) (Zo (ZW rfl η η) (Zo (Ab (k) rfl underlying157 Hp η η χ ω (j.addr (i := k) ω)) ?_))))))
 have ba := j.atD (k) ω
 refine Ts (k) ((ad (s.getD k 0))) η (by first | omega | (show 0 + _ * 1 = _; omega)) η (by have h8 := aT ω; refine Eq.trans ?_ (Z9 (c := s.getD k 0) (by rw [← h8]; omega) (by rw [← h8]; omega)); rw [h8]) I ω Hp ?_
 intro w10 E10 V10 hy_new
 have a_ := E10.size
 replace R := Z1 R E10 ε
 have I := hy_new
 have j := I.row
 clear hy_new
 refine Ag (AX (AB (Zo Br (Zn AU (Zg (k + 1) ?_)))))
 refine ⟨σ, δ, (by first | (have J := I; rw [KW ω] at J; exact J) | (rw [I8 ω (by have := U ω; omega)]; exact I)), (by first | (have J := j; rw [KW ω] at J; exact J) | (rw [I8 ω (by have := U ω; omega)]; exact j)), δ, R⟩
 refine AJ (AX (AB (Zo Br (Zn AU (Zg (k + 1) ?_)))))
 refine ⟨σ, δ, (by first | (have J := I; rw [KW ω] at J; exact J) | (rw [I8 ω (by have := U ω; omega)]; exact I)), (by first | (have J := j; rw [KW ω] at J; exact J) | (rw [I8 ω (by have := U ω; omega)]; exact j)), δ, R⟩
 refine Ak rfl (Zs (Zo (AN (v := .slice (some ⟨b1, 0, none⟩) _ _) rfl η) (Zo (Hy rfl underlying157 underlying5 underlying9 η (by first | rfl | simp) j) (Zn Fa (AM (C8 (v := S _) rfl η) ?_)))))
 exact ⟨by rw [← Xa (k := k) ω], R⟩
end Go.Proofs.YtbgmlpbgofcfjaaGreatDoor
namespace Go.Vc
open Go Go.RowKit Go.IntWalk Go.Deep
instance : Enc Ende := ⟨2, fun x => [S x.strip, S x.add], fun _ => rfl, fun _ => rfl, by decide⟩
def fy (x : Ende) : Prop := x.strip.length ≤ 140737488351232 ∧ x.add.length ≤ 140737488351232
def fx (x : Clas) : Prop := x.name.length ≤ 140737488351232 ∧ (∀ y ∈ x.ends, fy y) ∧ x.ends.length ≤ 4398046510976
instance : Rep Clas where
  n := 2
  rep w cs x := (∃ ao b off cap, cs = [S x.name, .slice ao x.ends.length cap] ∧ RowE w ao b off cap x.ends) ∧ fx x
  len := fun ⟨⟨_, _, _, _, h, _⟩, _⟩ => by rw [h]; rfl
  evo0 := fun ⟨⟨ao, b, off, cap, h, hr⟩, hb⟩ he => ⟨⟨ao, b, off, cap, h, hr.evo0 he⟩, hb⟩
  pos := by decide
theorem EM {α : Type} [Inhabited α] {l : List α} {k : Nat} (h : k < l.length) : l.getD k default ∈ l := by
  have e : l.getD k default = l[k] := by simp [List.getD, h]
  rw [e]; exact List.getElem_mem _
section
variable {P : Program} {f : Fr} {w : World} {o : Oper}
theorem UW {g : FuncId} {xs : List Operand} {vs : List Value} (I : o.op = .makeFunc (.func g) #[] xs.toArray) (j : xs.map (opv f) = vs) : (execOp (opv f) o).run P w = .ok (.value (.func (.func g) #[] vs.toArray)) w := by
  unfold execOp; rw [I]; simp only []
  rw [show xs.toArray.map (opv f) = vs.toArray from by rw [← j]; simp]
  simp [Instr.makeFunc]
theorem DR {g : FuncId} {F : Operand} {args : List Operand} {ts : Array TypeId} {vs cs : List Value} {fn : Func} {c : Code} (ho : o.op = .call ⟨.value F, args.toArray, ts⟩) (J : opv f F = .func (.func g) #[] cs.toArray) (I : args.map (opv f) = vs)
    (U : P.funcs[g]? = some fn) (R : fn.body = some c) (hn : (fn.name == "runtime.NumGoroutine") = false) : (execOp (opv f) o).run P w = .ok (.enter g (vs ++ cs).toArray) w := by
  unfold execOp; rw [ho]; simp only [resolve]
  rw [show args.toArray.map (opv f) = vs.toArray from by rw [← I]; simp, J]
  have j : ¬ fn.name = "runtime.NumGoroutine" := by simpa using hn
  simp [Deferred.ofValue, invoke, callFunc, U, R, j]
end
section
variable {α β : Type} {P : Program} {B : Exit → Act → World → Prop} {n : Nat} {k : List Kont} {f : Fr} {w : World} {ops : Array Oper} {rest : List Oper} {K E : TypeId} {ek : α → Value} {ev : β → Value} {m : List (α × β)} {b : Nat}
end
end Go.Vc
namespace Go.Proofs.YtbgmlpbgofcfjaaGreatDoor
open Go.RowKit Go.Vc
theorem Tp {α : Type} [Inhabited α] {a b : List α} {k : Nat} (J : a.take k = b.take k) (j : k < a.length) (I : k < b.length) (h : a.getD k default = b.getD k default) : a.take (k + 1) = b.take (k + 1) := by
  rw [A7 a k j, A7 b k I, J, h]
end Go.Proofs.YtbgmlpbgofcfjaaGreatDoor
namespace Go.Vc
open Go Go.RowKit Go.IntWalk Go.Deep
def Oa (n : Nat) (s : Ac) : Ac := if n / 10 = 0 then UInt8.ofNat (48 + n % 10) :: s else Oa (n / 10) (UInt8.ofNat (48 + n % 10) :: s)
termination_by n
decreasing_by omega
theorem PG {n : Nat} (s : Ac) (h : n / 10 = 0) : Oa n s = UInt8.ofNat (48 + n % 10) :: s := by rw [Oa, if_pos h]
theorem aQ {n : Nat} (s : Ac) (h : ¬ n / 10 = 0) : Oa n s = Oa (n / 10) (UInt8.ofNat (48 + n % 10) :: s) := by rw [Oa, if_neg h]
theorem TN : ∀ (k n : Nat) (s : Ac), n < 10 ^ (k + 1) → (Oa n s).length ≤ s.length + (k + 1)
  | 0, n, s, h => by rw [PG s ω]; simp
  | k + 1, n, s, h => by
    by_cases h1 : n / 10 = 0
    · rw [PG s h1]; simp
    · rw [aQ s h1]
      have := TN k (n / 10) (UInt8.ofNat (48 + n % 10) :: s) (by rw [Nat.pow_succ] at h; omega)
      simp only [List.length_cons] at this
      omega
theorem Ui {a b : Ac} (h : a = b) : Ending.returned (S a) = .returned (S b) := by rw [h]
def FM : List Ac := [[], [], [121], [115], [97]]
def Ke : List Ac := [[115], [105, 101, 115], [], [101, 115], [97], [101, 114]]
def MadeE (es : List Ende) : Prop := es.Nodup ∧ ∀ e ∈ es, e.strip ∈ FM ∧ e.add ∈ Ke
def MadeP (cl : List Clas) (N i : Nat) : Prop := cl.length + i = N ∧ (∀ k, (h : k < cl.length) → (cl[k]'h).name = 99 :: Oa (N - k) []) ∧ ∀ x ∈ cl, MadeE x.ends ∧ x.ends.length ≤ 3
theorem MadeE.nil : MadeE [] := ⟨List.nodup_nil, by simp⟩
theorem MadeE.snoc {es : List Ende} {x : Ende} (h : MadeE es) (R : ¬ x ∈ es) (h1 : x.strip ∈ FM) (j : x.add ∈ Ke) : MadeE (es ++ [x]) := by
  refine ⟨?_, fun e he => ?_⟩
  · rw [List.nodup_append]
    refine ⟨h.1, by simp, fun a I b J => ?_⟩
    have : b = x := by simpa using J
    intro hab
    exact R (by rw [← this, ← hab]; exact I)
  · rcases List.mem_append.1 he with h3 | h3
    · exact h.2 e h3
    · have : e = x := by simpa using h3
      rw [this]; exact ⟨h1, j⟩
theorem MadeP.nil (N : Nat) : MadeP [] N N := ⟨by simp, by simp, by simp⟩
theorem MadeP.snoc {cl : List Clas} {N i : Nat} {es : List Ende} {m : Ac} (h : MadeP cl N i) (hi : 0 < i) (hm : m = 99 :: Oa i []) (he : MadeE es) (U : es.length ≤ 3) : MadeP (cl ++ [⟨m, es⟩]) N (i - 1) := by
  obtain ⟨h1, j, I⟩ := h
  refine ⟨by simp; omega, fun k hk => ?_, fun x hx => ?_⟩
  · rcases Nat.lt_or_ge k cl.length with h4 | h4
    · rw [List.getElem_append_left h4]; exact j k h4
    · rw [List.getElem_append_right h4]
      simp only [List.length_append, List.length_cons, List.length_nil] at hk
      have J : k - cl.length = 0 := by omega
      have R : N - k = i := by omega
      simp only [J, List.getElem_cons_zero]
      rw [R]; exact hm
  · rcases List.mem_append.1 hx with h4 | h4
    · exact I x h4
    · have : x = ⟨m, es⟩ := by simpa using h4
      rw [this]; exact ⟨he, U⟩
theorem Wa {s : Ac} (h : s ∈ FM) : s.length ≤ 1 := by
  have : ∀ s ∈ FM, s.length ≤ 1 := by decide
  exact this s h
theorem aj {s : Ac} (h : s ∈ Ke) : s.length ≤ 3 := by
  have : ∀ s ∈ Ke, s.length ≤ 3 := by decide
  exact this s h
theorem MadeE.bd {es : List Ende} (h : MadeE es) : ∀ e ∈ es, fy e := fun e he => by
  have h1 := Wa (h.2 e he).1
  have j := aj (h.2 e he).2
  exact ⟨by omega, by omega⟩
theorem XQ {es : List Ende} {n : Nat} (h : MadeE es) (j : es.length ≤ 3) (I : n ≤ 9) : fx ⟨99 :: Oa n [], es⟩ := by
  have := TN 0 n [] ω
  refine ⟨?_, h.bd, ?_⟩
  · simp only [List.length_cons, List.length_nil] at this ⊢; omega
  · show es.length ≤ _; omega
theorem MadeP.mem {cl : List Clas} {N i : Nat} (h : MadeP cl N i) {x : Clas} (j : x ∈ cl) : MadeE x.ends ∧ x.ends.length ≤ 3 := h.2.2 x j
theorem MadeP.bd {cl : List Clas} {N i : Nat} (h : MadeP cl N i) (R : N ≤ 9) : ∀ x ∈ cl, fx x := fun x J => by
  obtain ⟨k, hk, rfl⟩ := List.mem_iff_getElem.1 J
  have h1 := h.2.1 k hk
  have j := h.2.2 _ J
  have I := XQ (n := N - k) j.1 j.2 ω
  rw [← h1] at I
  exact I
section
variable {P : Program} {w : World} {f : Fr} {o : Oper}
theorem Lb (d : Nat) {T : TypeId} (u : P.underlying T = some .string) (a b : Ac) : (Op.equalIn (d + 1) T (S a) (S b)).run P w = .ok (a == b) w := by
  have := run_equalIn_string (P := P) w d T ⟨a.toArray⟩ ⟨b.toArray⟩ u
  rw [Fp, Fp] at this
  exact this
theorem Qz (d : Nat) {T : TypeId} {f0 f1 : Field} (hu : P.underlying T = some (.struct #[f0, f1])) (hp : P.stoodInHeld T = false) (n0 : f0.name ≠ "_") (n1 : f1.name ≠ "_")
    (o0 : f0.offset = 0) (o1 : f1.offset = 1) (u0 : P.underlying f0.type = some .string) (u1 : P.underlying f1.type = some .string)
    (a0 : CQ P f0.type = some false) (I : CQ P f1.type = some false) (x y : Ende) :
    (Op.equalIn (d + 2) T (.agg (Enc.enc x).toArray) (.agg (Enc.enc y).toArray)).run P w = .ok (decide (x = y)) w := by
  have j : P.fieldsOf T = #[f0, f1] := by simp [Program.fieldsOf, hu]
  rw [run_equalIn_struct (P := P) w (d + 1) T _ _ (by rw [j]; exact hu) hp, j]
  have p0 : ∀ (z : Ende), (part f0.type (Enc.enc z).toArray 0).run P w = .ok (S z.strip) w := fun z => C2 a0 rfl
  have p1 : ∀ (z : Ende), (part f1.type (Enc.enc z).toArray 1).run P w = .ok (S z.add) w := fun z => C2 I rfl
  have J := Lb (P := P) (w := w) d u0 x.strip y.strip
  have R := Lb (P := P) (w := w) d u1 x.add y.add
  have key : (Op.eqFields (d + 1) (Enc.enc x).toArray (Enc.enc y).toArray [f0, f1]).run P w = .ok ((x.strip == y.strip) && (x.add == y.add)) w := by
    simp only [Op.eqFields, n0, n1, o0, o1, ne_eq, not_false_eq_true, if_true, Sem.run_bind, p0, J, Result.andThen_ok]
    cases (x.strip == y.strip) with
    | false => simp
    | true =>
      simp only [Bool.not_true, Bool.false_eq_true, if_false, Sem.run_bind, p1, R, Result.andThen_ok, Bool.true_and]
      cases (x.add == y.add) with
      | false => simp
      | true => simp
  have U : ((x.strip == y.strip) && (x.add == y.add)) = decide (x = y) := by
    obtain ⟨k1, t1⟩ := x
    obtain ⟨k2, t2⟩ := y
    rw [Bool.eq_iff_iff]
    simp
  rw [← U]
  exact key
end
end Go.Vc
namespace Go.Proofs.YtbgmlpbgofcfjaaGreatDoor
open Go.RowKit Go.Vc Go.Proofs.Tryz
theorem VH : CQ Tryz.prog 22 = some false := ζ
theorem Ae : CQ Tryz.prog 3 = some false := ζ
theorem Mc : A8 Tryz.prog 26 0 = some 0 := ζ
theorem Dz : A8 Tryz.prog 26 1 = some 1 := ζ
theorem Bd : Cy Tryz.prog 3 = some (1, 8, some (.int .i64 0)) := ζ
theorem L9 (x n : Int) {j : World} (U : 1 ≤ n) (J : n ≤ 1000000000) :
    Calls Tryz.prog 13 #[.int .i64 x, .int .i64 n] j fun e w' => e = .returned (.int .i64 (x % n)) ∧ j = w' := by
 refine AG (n := 14) func13 rfl ntmps13 rfl ?_
 have R : Evo j j [] := Evo.refl _ _
 refine Zs (Zn Am (Zs (Zo AU (Zo AU (Zo (VQ rfl η η ω) (Zn Am (AE (Zs (Zo AU ?_)))))))))
 refine Zn Dn (AH η (fun I => ?_) (fun I => ?_))
 refine AB (Zo AU (Zo AU (Zo (Bl rfl η η (by have := MW x n ω; omega) (by have := MW x n ω; omega)) (Zn Am (Zs (Zo AU (Zn Am (AM C3 ?_))))))))
 exact ⟨A3 (by rw [← PD x n ω ω]), rfl⟩
 refine AJ (Zs (Zo AU (Zn Am (AM C3 ?_))))
 exact ⟨A3 (by rw [← PQ x n ω ω]), rfl⟩
theorem To {T bs : Nat} {ao : Option Addr} {b off cap : Nat} {l : List Int} {N : Nat} {n : Int} {U : World} (J : Blk U bs T [.slice ao l.length cap, .int .i64 (N : Nat)]) (hl : RowE U ao b off cap l) (hN : N ≤ 1000000) (hn : 1 ≤ n) (aS : n ≤ 1000000000) :
    Calls Tryz.prog 31 #[.pointer (some ⟨bs, 0, none⟩), .int .i64 n] U fun e w' => e = .returned (.int .i64 (L3 l N n)) ∧ Evo U w' [bs] ∧ Blk w' bs T [.slice ao l.length cap, .int .i64 (N + 1 : Nat)] := by
 have I := J.at
 refine AG (n := 36) func31 rfl ntmps31 rfl ?_
 have R : Evo U U [bs] := Evo.refl _ _
 have al := hl.bd
 refine Zs (Zn Am (Zs (Zn Am (AE (AE (Bt ζ ζ (Zq (fun w' j => EA) (Zq (fun w' j => Au rfl η) (Zq (fun w' j => AD rfl η Dz) ?_)))))))))
 refine Zq (fun w' j => AA rfl Ae η ((I.evo0 j).cell 1 η)) (Zq (fun w' j => EA) (Zq (fun w' j => Au rfl η) (Zq (fun w' j => AD rfl η Mc) (Zq (fun w' j => AA rfl VH η ((I.evo0 j).cell 0 η)) (Zq (fun w' j => AQ rfl η underlying22) (Zq (fun w' j => Dc rfl η η) (EV (fun w1 F2 => ?_))))))))
 have Q1 := F2.size
 replace R := Z0 R F2
 replace J := J.evo0 F2
 replace I := I.evo0 F2
 replace hl := hl.evo0 F2
 refine AH η (fun az => ?_) (fun az => ?_)
 refine Bt ζ ζ (Zq (fun w' j => EA) (Zq (fun w' j => Au rfl η) (Zq (fun w' j => AD rfl η Mc) (Zq (fun w' j => AA rfl VH η ((I.evo0 j).cell 0 η)) (Zq (fun w' j => EA) (Zq (fun w' j => Au rfl η) (Zq (fun w' j => AD rfl η Dz) (Zq (fun w' j => AA rfl Ae η ((I.evo0 j).cell 1 η)) (Zq (fun w' j => Ab (N) rfl underlying22 Bd η η χ ω (hl.addr (i := N) ω)) ?_)))))))))
 have au := hl.atD (N) ω
 refine Zq (fun w' j => AA rfl Ae η ((au.evo0 j).cell 0 η)) (Zq (fun w' j => Am) (EV (fun w5 F6 => ?_)))
 have Q5 := F6.size
 replace R := Z0 R F6
 replace J := J.evo0 F6
 replace I := I.evo0 F6
 refine Zs (Zo EA (Zo (Au rfl η) (Zo (AD rfl η Dz) (Zo (AA rfl Ae η (I.cell 1 η)) (Zo Br (Zo (Au rfl η) (Zo (AD rfl η Dz) (Ai (v := .int _ _) (vs := [_]) (cs' := [_, _]) η η J Bd η rfl η rfl η ?_))))))))
 intro w7 E7 V7 hb_new
 have Q7 := E7.size
 replace R := Z1 R E7 (.inr (by simp))
 replace J := hb_new
 clear hb_new
 refine Ag (Zs (Zo AU (Zo AU (Zr [.int _ _, .int _ _] rfl η func13 (L9 _ _ ω ω) ?_))))
 rintro e w8 ⟨rfl, rfl⟩
 refine ⟨_, rfl, ?_⟩
 refine Zn Am (AM C3 ?_)
 exact ⟨A3 (by first | rfl | (unfold L3; simp [List.getD, List.getElem?_eq_none (by omega : l.length ≤ N)]; done)), R, J⟩
 refine AJ (Zs (Zo EA (Zo (Au rfl η) (Zo (AD rfl η Dz) (Zo (AA rfl Ae η (I.cell 1 η)) (Zo Br (Zo (Au rfl η) (Zo (AD rfl η Dz) (Ai (v := .int _ _) (vs := [_]) (cs' := [_, _]) η η J Bd η rfl η rfl η ?_)))))))))
 intro w9 E9 V9 hb_new
 have Q9 := E9.size
 replace R := Z1 R E9 (.inr (by simp))
 replace J := hb_new
 clear hb_new
 refine Ag (Zs (Zo AU (Zo AU (Zr [.int _ _, .int _ _] rfl η func13 (L9 _ _ ω ω) ?_))))
 rintro e aT ⟨rfl, rfl⟩
 refine ⟨_, rfl, ?_⟩
 refine Zn Am (AM C3 ?_)
 exact ⟨A3 (by first | rfl | (unfold L3; simp [List.getD, List.getElem?_eq_none (by omega : l.length ≤ N)]; done)), R, J⟩
theorem Dt {I : World} {T j : Nat} {ao : Option Addr} {b off cap : Nat} {l : List Int} {N : Nat} {n : Int} (hb : Blk I j T [.slice ao l.length cap, .int .i64 (N : Nat)]) (hl : RowE I ao b off cap l) (hN : N ≤ 1000000) (R : 1 ≤ n) (J : n ≤ 1000000000) :
    Calls Tryz.prog 31 #[.pointer (some ⟨j, 0, none⟩), .int .i64 n] I fun e w' => ∃ r, e = .returned (.int .i64 r) ∧ (0 ≤ r ∧ r < n) ∧ Evo I w' [j] ∧ Blk w' j T [.slice ao l.length cap, .int .i64 (N + 1 : Nat)] :=
  (To hb hl hN R J).mono fun e w' ⟨h1, U, h3⟩ => ⟨_, h1, Ss l N n R, U, h3⟩
end Go.Proofs.YtbgmlpbgofcfjaaGreatDoor
namespace Go.Vc
open Go Go.RowKit Go.IntWalk
section
variable {P : Program} {ops : Array Oper} {Q : Exit → Act → World → Prop} {S : World → Prop}
def YC (P : Program) (ops : Array Oper) (S : World → Prop) (o : Oper) (v : Value) (a : Act) : Prop :=
  Region.wanted o (yielded ops a.tmps) = true ∧ ∀ w, S w → ∃ g args, (execOp a.eval o).run P w = .ok (.enter g args) w ∧ Calls P g args w (fun e w' => e = .returned v ∧ w' = w)
theorem YC.of_same {o : Oper} {v : Value} {a j : Act} (I : YC P ops S o v a) (he : execOp j.eval o = execOp a.eval o) (hw : Region.wanted o (yielded ops j.tmps) = Region.wanted o (yielded ops a.tmps)) : YC P ops S o v j := by
  unfold YC at *
  rw [he, hw]
  exact I
theorem YC.wpOp {i : Nat} {o : Oper} {v : Value} {a : Act} (J : ops[i]? = some o) (U : YC P ops S o v a) {K : Act → World → Prop} {w : World} (I : S w) (h : K (a.put o.dst v) w) : wpOp P ops Q i K a w := by
  unfold Go.wpOp
  simp only [J]
  obtain ⟨hw, R⟩ := U
  obtain ⟨g, args, h1, j⟩ := R w I
  simp only [hw, if_true, Oper.wp, h1, Oper.upon]
  refine .inl (Calls.mono j (fun e w' he => ?_))
  obtain ⟨rfl, rfl⟩ := he
  exact h
theorem Vz {j : Nat} {I J : Oper} {v : Value} (hj : ops[j]? = some J) (al : I.apart ops J = true)
    (ao : ∀ cs b, I.op ≠ .select cs b) (ag : ∀ cs b, J.op ≠ .select cs b)
    (hQ : ∀ c a w, Q (.panic c) (a.put I.dst v) w → Q (.panic c) a w) {K : Act → World → Prop} {a : Act} {w : World}
    (R : YC P ops S I v a) (h : wpOp P ops Q j K (a.put I.dst v) w) :
    wpOp P ops Q j (fun a' w' => YC P ops S I v a' ∧ K (a'.put I.dst v) w') a w := by
  obtain ⟨h1, h2, h3⟩ := Oper.apart_spec al
  have keep : ∀ (a : Act), YC P ops S I v a → ∀ u, YC P ops S I v (a.put J.dst u) := fun a R u =>
    R.of_same (execOp_put I ao a J.dst u h3) (wanted_put I a J.dst u h3)
  have U : ∀ d, YC P ops S I v { a with defers := d :: a.defers } := fun d => R.of_same rfl rfl
  unfold wpOp at *
  simp only [hj] at *
  rw [wanted_put J a I.dst v h1] at h
  split
  · rename_i hw
    simp only [hw, if_true] at h
    rcases h with h | ⟨hasks, hlets⟩
    case inr => exact .inr ⟨by unfold Oper.asks at *; rw [execOp_put J ag a I.dst v h1] at hasks; exact hasks, hlets⟩
    refine .inl ?_
    unfold Oper.wp at *
    rw [execOp_put J ag a I.dst v h1] at h
    generalize (execOp a.eval J).run P w = r at *
    cases r with
    | ok n w' =>
      cases n <;> simp only [Oper.upon] at h ⊢
      case value u => exact ⟨keep a R u, by rw [← Act.put_comm a v u h2]; exact h⟩
      case skip => exact ⟨keep a R _, by rw [← Act.put_comm a v undef h2]; exact h⟩
      case defer d =>
        refine ⟨keep _ (U d) _, ?_⟩
        rw [← Act.put_comm _ v undef h2, ← Act.put_defers]
        exact h
      case enter f args =>
        refine Calls.mono h fun e au he => ?_
        cases e with
        | returned u => exact ⟨keep a R u, by rw [← Act.put_comm a v u h2]; exact he⟩
        | panicked c => exact hQ _ _ _ he
        | outgrown => exact he
      case row row args => exact Rows.mono h fun u au he => ⟨keep a R u, by rw [← Act.put_comm a v u h2]; exact he⟩
    | halt x w' =>
      cases x <;> simp only [Oper.upon] at h ⊢
      case panic u => exact hQ _ _ _ h
  · rename_i hw
    simp only [hw] at h
    exact ⟨keep a R _, by rw [← Act.put_comm a v undef h2]; exact h⟩
theorem Tb {i : Nat} {oi : Oper} {v : Value} (hi : ops[i]? = some oi) (aT : ∀ (j : Nat) (o : Oper) cs b, ops[j]? = some o → o.op ≠ .select cs b) (hQ : ∀ c a w, Q (.panic c) (a.put oi.dst v) w → Q (.panic c) a w) :
    ∀ (m : Nat) (l : Array Bool) (a : Act) (w : World), Ed ops l = true → (∀ j oj, ops[j]? = some oj → j ≠ i → l.getD j true = false → (∀ e ∈ oj.after, Region.binds .any e = true → e.on ≠ i) → oi.apart ops oj = true) →
      i ∈ Region.ready .any ops l → YC P ops S oi v a → S w → AnyF P ops Q S m (l.setIfInBounds i true) (a.put oi.dst v) w → AnyF P ops Q S (m + 1) l a w := by
  have bx : i < ops.size := (Array.getElem?_eq_some_iff.1 hi).1
  intro m
  induction m with
  | zero =>
    intro l a w _ _ hr hy hS H
    refine ⟨fun h => absurd (h ▸ hr) (by simp), fun j hj => ?_⟩
    by_cases I : j = i
    · subst I; exact hy.wpOp hi hS ⟨fun _ => hS, H⟩
    · have h1 := ready_mono hj I
      rw [H.1] at h1
      exact absurd h1 (by simp)
  | succ m ih =>
    intro l a w hcl hfree hr hy hS H
    refine ⟨fun h => absurd (h ▸ hr) (by simp), fun j hj => ?_⟩
    by_cases I : j = i
    · subst I; exact hy.wpOp hi hS ⟨fun _ => hS, H⟩
    · have h1 := H.2 j (ready_mono hj I)
      obtain ⟨ag, oj, al, az⟩ := mem_ready.1 hj
      have h0 := (mem_ready.1 hr).1
      have bs : l.getD i false = false := by
        rcases Nat.lt_or_ge i l.size with h' | h'
        · simp [h'] at h0 ⊢; exact h0
        · simp [Array.getElem?_eq_none h'] at h0
      have bn : ∀ e ∈ oj.after, Region.binds .any e = true → e.on ≠ i := fun e he hb heq => by
        have R := az e he hb
        rw [heq, bs] at R
        cases R
      have au : l.getD i true = false := by simpa using h0
      have U : ∀ e ∈ oj.after, Region.binds .any e = true → l.getD e.on true = true := fun e he hb => by
        have R := az e he hb
        rcases Nat.lt_or_ge e.on l.size with h' | h'
        · simp [h'] at R ⊢; exact R
        · simp [Array.getElem?_eq_none h']
      have bf : ∀ ok, ops[i]? = some ok → ∀ e ∈ ok.after, Region.binds .any e = true → l.getD e.on true = true := fun ok J e he hb => by
        obtain ⟨_, o2, ao, ba⟩ := mem_ready.1 hr
        rw [J] at ao; injection ao with ao; subst ao
        have R := ba e he hb
        rcases Nat.lt_or_ge e.on l.size with h' | h'
        · simp [h'] at R ⊢; exact R
        · simp [Array.getElem?_eq_none h']
      have bl := Li hcl I bx al U au ag bf
      have bd : Ed ops (l.setIfInBounds j true) = true := Nb fun k ok J hk e he hb => by
        have a1 : ∀ q, l.getD q true = true → (l.setIfInBounds j true).getD q true = true := fun q hq => by
          by_cases bm : j = q
          · subst bm
            rcases Nat.lt_or_ge j l.size with h' | h'
            · simp [h']
            · simp
          · rw [getD_set_ne true bm]; exact hq
        by_cases af : j = k
        · subst af
          rw [al] at J; injection J with J; subst J
          exact a1 _ (U e he hb)
        · rw [getD_set_ne true af] at hk
          exact a1 _ (HZ hcl J hk e he hb)
      have h2 := Vz al (hfree j oj al I ag bn) (fun cs b => aT i oi cs b hi) (fun cs b => aT j oj cs b al) hQ hy h1
      refine wpOp_mono (fun a' w' R => ?_) h2
      have bc := R.2.1 bl
      refine ⟨fun _ => bc, ih (l.setIfInBounds j true) a' w' bd (fun k ok hk bt au bz => ?_) (ready_mono hr (Ne.symm I)) R.1 bc ?_⟩
      · refine hfree k ok hk bt ?_ bz
        by_cases af : j = k
        · subst af; exact ag
        · rw [getD_set_ne true af] at au; exact au
      · rw [Array.setIfInBounds_comm _ _ I]
        exact R.2.2
end
section
variable {P : Program} {B : Exit → Act → World → Prop} {n : Nat} {k : List Kont} {f : Fr} {w : World} {ops : Array Oper} {S : World → Prop} {fuel : Nat} {d : List Nat}
theorem U9 {i s : Nat} {R : Oper} {v : Value} (hi : ops[i]? = some R) (hg : R.guard = none) (I : R.dst = some s) (hd : Nat.blt s n = true) (j : Sg ops d i = true)
    (J : ∀ w', S w' → ∃ g args, (execOp (opv f) R).run P w' = .ok (.enter g args) w' ∧ Calls P g args w' (fun e af => e = .returned v ∧ af = w')) (hS : S w) (h : HA P B n k S ops fuel (i :: d) (upd f s v) w) : HA P B n k S ops (fuel + 1) d f w := by
  intro a ha
  simp only [Sg, Bool.and_eq_true] at j
  refine Tb (v := v) hi (Region.noSelect_spec j.1.1.1) (fun _ _ _ h => (h : False).elim) fuel (bK ops d) a w j.2 (Region.free_spec hi j.1.1.2) (by simpa using j.1.2) ⟨by simp [Region.wanted, hg], fun w' U => ?_⟩ hS ?_
  · rw [ha.eval]; exact J w' U
  · rw [I]; exact h _ (ha.put hd v)
end
def Sd (ops : Array Oper) : Bool := (List.range ops.size).all fun i => match ops[i]? with
  | some o => o.after.all fun e => !(Region.binds .any e) || Nat.blt e.on i
  | none => true
def BI (n : Nat) (I : Array Bool → Fr → World → Prop) (l : Array Bool) : Exit → Act → World → Prop
  | .normal, a, w => ∃ f, Is n f a ∧ I l f w
  | _, _, _ => False
section
variable {P : Program} {B : Exit → Act → World → Prop} {n : Nat} {k : List Kont} {ops : Array Oper} {I : Array Bool → Fr → World → Prop}
theorem ei {f : Fr} {w : World} {i : Nat} {J : Oper} {l : Array Bool} (U : ops[i]? = some J) (h : KL P (BI n I l) n ops [] [J] f w) : ∀ a, Is n f a → wpOp P ops (HQ P B k) i (fun R w' => BI n I l .normal R w') a w := by
  intro a ha
  have h1 := h a ha
  unfold wpOp
  simp only [U]
  unfold wpList at h1
  split
  · rename_i hw
    rw [if_pos hw] at h1
    rcases h1 with h1 | ⟨_, _, _, j⟩
    · refine .inl ?_
      unfold Oper.wp at h1 ⊢
      generalize (execOp a.eval J).run P w = r at h1 ⊢
      cases r with
      | ok nx w' =>
        cases nx <;> simp only [Oper.upon] at h1 ⊢ <;>
          first
            | exact h1
            | exact Calls.mono h1 (fun e af he => by cases e <;> first | exact he | exact (he : False).elim | (obtain ⟨_, _, j⟩ := he; exact (j : False).elim))
            | exact Rows.mono h1 (fun _ _ he => he)
      | halt x w' => cases x <;> simp only [Oper.upon] at h1 ⊢ <;> first | exact (h1 : False).elim | exact h1
    · exact (j : False).elim
  · rename_i hw
    rw [if_neg hw] at h1
    exact h1
theorem SA {l : Array Bool} {m : Nat} (j : l.size = m) (h : ∀ i, i < m → l.getD i true = true) : l = Array.replicate m true := by
  refine Array.ext (by simp [j]) fun i h1 J => ?_
  have := h i ω
  simp only [Array.getElem_replicate]
  rw [← this]
  simp [h1]
theorem aX {l : Array Bool} (j : Sd ops = true) (hs : l.size = ops.size) (hr : Region.ready .any ops l = []) : ∀ i, i < ops.size → l.getD i true = true := by
  intro i
  induction i using Nat.strongRecOn with
  | _ i ih =>
    intro hi
    cases hu : l.getD i true with
    | true => rfl
    | false =>
      have h1 := List.all_eq_true.1 j i (List.mem_range.2 hi)
      rw [Array.getElem?_eq_getElem hi] at h1
      have U := Array.all_eq_true_iff_forall_mem.1 h1
      have : i ∈ Region.ready .any ops l := mem_ready.2 ⟨by first | exact hu | simpa using hu, ops[i], Array.getElem?_eq_getElem hi, fun e he hb => by
        have J := U e he
        rw [hb] at J
        simp only [Bool.not_true, Bool.false_or] at J
        have h4 : e.on < i := by simpa using J
        have R := ih e.on h4 ω
        have h6 : e.on < l.size := by omega
        simp [h6] at R ⊢; exact R⟩
      rw [hr] at this
      cases this
theorem Xp (af : Sd ops = true) (J : ∀ i oi, ops[i]? = some oi → ∀ l f w, l.getD i true = false → (∀ e ∈ oi.after, Region.binds .any e = true → l.getD e.on false = true) → I l f w → KL P (BI n I (l.setIfInBounds i true)) n ops [] [oi] f w)
    (j : ∀ f w, I (Array.replicate ops.size true) f w → KF P B n k f w) :
    ∀ (m : Nat) (l : Array Bool) (a : Act) (w : World) (f : Fr), l.size = ops.size → Is n f a → I l f w → l.toList.count false ≤ m → wpAny P .any ops (HQ P B k) m l a w
  | 0, l, a, w, f, hs, ha, hI, hc => by
    have U : ∀ i, i < ops.size → l.getD i true = true := fun i hi => by
      have h0 : l.toList.count false = 0 := by omega
      rw [List.count_eq_zero] at h0
      have h1 : i < l.size := by omega
      cases R : l[i] with
      | true => simp [h1, R]
      | false => exact absurd (by rw [← R]; exact Array.getElem_mem_toList h1) h0
    have hl := SA hs U
    refine ⟨List.eq_nil_iff_forall_not_mem.2 fun i hi => ?_, ?_⟩
    · obtain ⟨h1, oi, R, _⟩ := mem_ready.1 hi
      have h3 : i < ops.size := (Array.getElem?_eq_some_iff.1 R).1
      rw [U i h3] at h1
      cases h1
    · rw [hl] at hI
      exact NoPanic.normal (j f w hI a ha)
  | m + 1, l, a, w, f, hs, ha, hI, hc => by
    refine ⟨fun hr => ?_, fun i hi => ?_⟩
    · have hl := SA hs (aX af hs hr)
      rw [hl] at hI
      exact NoPanic.normal (j f w hI a ha)
    · obtain ⟨h1, oi, R, h3⟩ := mem_ready.1 hi
      have h4 := ei (B := B) (k := k) R (J i oi R l f w (by first | exact h1 | simpa using h1) h3 hI) a ha
      refine wpOp_mono (fun a' w' h5 => ?_) h4
      obtain ⟨f', aS, az⟩ := h5
      have h6 : i < ops.size := (Array.getElem?_eq_some_iff.1 R).1
      have h7 : i < l.toList.length := by simp; omega
      refine Xp af J j m _ a' w' f' (by simp [hs]) aS az ?_
      rw [Array.toList_setIfInBounds, List.count_set h7]
      have h8 : l.toList[i] = false := by
        have h9 : i < l.size := by omega
        simp [h9] at h1
        simpa using h1
      have ao : 0 < l.toList.count false := List.count_pos_iff.2 (h8 ▸ List.getElem_mem h7)
      simp [h8]
      simp at hc ao
      omega
theorem eu {id : Nat} {f : Fr} {w : World} {ol : List Oper} (I : Array Bool → Fr → World → Prop) (hm : P.follows .mixedOrders = true) (R : Sd ol.toArray = true)
    (h0 : ∀ w1, Evo w w1 [] → I (Array.replicate ol.toArray.size false) f w1)
    (J : ∀ f w, I (Array.replicate ol.toArray.size true) f w → KF P B n k f w)
    (j : ∀ i U, ol.toArray[i]? = some U → ∀ l f w, l.getD i true = false → (∀ e ∈ U.after, Region.binds .any e = true → l.getD e.on false = true) → I l f w → KL P (BI n I (l.setIfInBounds i true)) n ol.toArray [] [U] f w) :
    KF P B n (.code (.region id ol.toArray true) :: k) f w := by
  intro a ha
  show (Code.region id ol.toArray true).wp P (Kx P B k) a w
  refine wp_region_noPanic (wp_region_any hm (Xp R j J _ _ a _ f (by simp) ha (h0 _ (Evo.drew _ _)) ?_))
  simp [List.count_replicate]
def Steps (P : Program) (n : Nat) (I : Array Bool → Fr → World → Prop) (ops : Array Oper) : Nat → List Oper → Prop
  | _, [] => True
  | i, o :: r => (∀ l f w, l.getD i true = false → (∀ e ∈ o.after, Region.binds .any e = true → l.getD e.on false = true) → I l f w → KL P (BI n I (l.setIfInBounds i true)) n ops [] [o] f w) ∧ Steps P n I ops (i + 1) r
theorem Steps.get {ops : Array Oper} : ∀ {r : List Oper} {i : Nat}, Steps P n I ops i r → ∀ j o, r[j]? = some o → ∀ l f w, l.getD (i + j) true = false → (∀ e ∈ o.after, Region.binds .any e = true → l.getD e.on false = true) → I l f w → KL P (BI n I (l.setIfInBounds (i + j) true)) n ops [] [o] f w
  | [], _, _, j, o, hj => by simp at hj
  | a :: r, i, h, 0, o, hj => by
    simp at hj; subst hj
    exact h.1
  | a :: r, i, h, j + 1, o, hj => by
    have := Steps.get h.2 j o (by simpa using hj)
    rw [show i + (j + 1) = i + 1 + j by omega]
    exact this
theorem BJ {f : Fr} {w : World} {l : Array Bool} (h : I l f w) : KL P (BI n I l) n ops [] [] f w := fun _ j => ⟨f, j, h⟩
theorem fR {id : Nat} {f : Fr} {w : World} {ol : List Oper} (I : Array Bool → Fr → World → Prop) (hm : P.follows .mixedOrders = true) (R : Sd ol.toArray = true)
    (h0 : ∀ U, Evo w U [] → I (Array.replicate ol.toArray.size false) f U)
    (J : ∀ f w, I (Array.replicate ol.toArray.size true) f w → KF P B n k f w)
    (j : Steps P n I ol.toArray 0 ol) : KF P B n (.code (.region id ol.toArray true) :: k) f w :=
  eu I hm R h0 J fun i oi hi l f w h1 h2 h3 => by
    have := j.get i oi (by simpa using hi) l f w (by simpa using h1) h2 h3
    simpa using this
theorem cT {id : Nat} {f : Fr} {w : World} {ol : List Oper} (M : List Nat) (I : Array Bool → Fr → World → Prop) (hm : P.follows .mixedOrders = true) (R : Sd ol.toArray = true)
    (h0 : ∀ U, Evo w U [] → I (Array.replicate ol.toArray.size false) f U)
    (J : ∀ g w, I (Array.replicate ol.toArray.size true) g w → KF P B n k (merge M f g) w)
    (j : Steps P n (fun l g w => I l g w ∧ Agree M f g) ol.toArray 0 ol) : KF P B n (.code (.region id ol.toArray true) :: k) f w :=
  fR (fun l g w => I l g w ∧ Agree M f g) hm R (fun U he => ⟨h0 U he, Agree.refl _ _⟩) (fun g w ⟨h1, h2⟩ => by have := J g w h1; rwa [Kb h2] at this) j
theorem BB {f g : Fr} {M : List Nat} {ops : Array Oper} {w : World} {l : List Oper} {j : Exit → Act → World → Prop} (J : Agree M f g) (h : KL P j n ops [] l (merge M f g) w) : KL P j n ops [] l g w := by rwa [Kb J] at h
end
section
variable {P : Program} {B : Exit → Act → World → Prop} {n : Nat} {k : List Kont} {f : Fr} {w : World} {ops : Array Oper} {S : World → Prop} {fuel : Nat} {d : List Nat}
end
def HH (o : Oper) (j : Nat) : Bool := o.after.any fun e => Region.binds .any e && Nat.beq e.on j
theorem BO {o : Oper} {l : Array Bool} (U : ∀ e ∈ o.after, Region.binds .any e = true → l.getD e.on false = true) (j : Nat) (h : HH o j = true) : l.getD j false = true := by
  obtain ⟨e, he, J⟩ := Array.any_eq_true'.1 h
  simp only [Bool.and_eq_true] at J
  have := U e he J.1
  have R : e.on = j := by simpa using J.2
  rwa [R] at this
theorem Cj {l : Array Bool} {i : Nat} (h : l.getD i true = false) : l.getD i false = false ∧ i < l.size := by
  rcases Nat.lt_or_ge i l.size with h1 | h1
  · simp [h1] at h ⊢; exact h
  · simp [Array.getElem?_eq_none h1] at h
theorem DQ {l : Array Bool} {i j : Nat} (h : j ≠ i) : (l.setIfInBounds i true).getD j false = l.getD j false := by
  simp [Array.getElem?_setIfInBounds, Ne.symm h]
theorem Fu {l : Array Bool} {i : Nat} (h : i < l.size) : (l.setIfInBounds i true).getD i false = true := by
  simp [h]
theorem Af {M : List Nat} {f g : Fr} : ∀ q, elemN q M = true → merge M f g q = g q := fun q h => by simp only [merge, h, cond_true]
theorem An {M : List Nat} {f g : Fr} {i : Nat} {v : Value} (h : ∀ q, elemN q M = true → f q = g q) (J : g i = v) : ∀ q, elemN q M = true → upd f i v q = g q := fun q j => by
  by_cases e : q = i
  · subst e; rw [En, J]
  · rw [FA _ _ _ _ e]; exact h q j
theorem Ax {M : List Nat} {f g : Fr} {d : Nat} {v : Value} (h : ∀ q, elemN q M = true → f q = g q) : ∀ q, elemN q M = true → q ≠ d → upd f d v q = g q := fun q J j => by rw [FA _ _ _ _ j]; exact h q J
def M9 : List Nat := [9, 31, 32, 33, 34, 35, 36, 37, 38, 39, 40, 41]
def Oi (j : Nat) : Nat := [31, 32, 33, 34, 35, 36, 37, 38, 39, 40, 41, 9].getD j 0
def fc (l : Array Bool) : Nat := (l.getD 2 false).toNat + (l.getD 7 false).toNat
def WM (z bs EN : Nat) : Nat → Fr → World → Prop
  | 0, g, w => ∃ b, (z ≤ b ∧ b < w.heap.size) ∧ g 31 = .slice (some ⟨b, 0, none⟩) 5 5 ∧ RowE w (some ⟨b, 0, none⟩) b 0 5 FM
  | 1, g, _ => g 32 = .pointer (some ⟨bs, 0, none⟩)
  | 2, g, _ => ∃ r, g 33 = .int .i64 r ∧ 0 ≤ r ∧ r < 5
  | 3, g, w => ∃ b j s, (z ≤ b ∧ b < w.heap.size) ∧ g 34 = .pointer (some ⟨b, j, none⟩) ∧ At w b j [S s] ∧ s ∈ FM
  | 4, g, _ => ∃ s, g 35 = S s ∧ s ∈ FM
  | 5, g, w => ∃ b, (z ≤ b ∧ b < w.heap.size) ∧ g 36 = .slice (some ⟨b, 0, none⟩) 6 6 ∧ RowE w (some ⟨b, 0, none⟩) b 0 6 Ke
  | 6, g, _ => g 37 = .pointer (some ⟨bs, 0, none⟩)
  | 7, g, _ => ∃ r, g 38 = .int .i64 r ∧ 0 ≤ r ∧ r < 6
  | 8, g, w => ∃ b j s, (z ≤ b ∧ b < w.heap.size) ∧ g 39 = .pointer (some ⟨b, j, none⟩) ∧ At w b j [S s] ∧ s ∈ Ke
  | 9, g, _ => ∃ s, g 40 = S s ∧ s ∈ Ke
  | 10, g, _ => ∃ s t, g 41 = .agg #[S s, S t] ∧ s ∈ FM ∧ t ∈ Ke
  | 11, g, w => ∃ b, (z ≤ b ∧ b < w.heap.size) ∧ g 9 = .pointer (some ⟨b, 0, none⟩) ∧ ∃ s t, Blk w b EN [S s, S t]
  | _, _, _ => True
def dE (z EN : Nat) (g : Fr) (w : World) : Prop := ∃ b s t, (z ≤ b ∧ b < w.heap.size) ∧ g 9 = .pointer (some ⟨b, 0, none⟩) ∧ Blk w b EN [S s, S t] ∧ s ∈ FM ∧ t ∈ Ke
def I9 (wR : World) (bs EN T N2 : Nat) (c : Value) (l : Array Bool) (g : Fr) (w : World) : Prop :=
  Evo wR w [bs] ∧ Blk w bs T [c, .int .i64 (N2 + fc l : Nat)] ∧ ((l.getD 12 false = false ∧ ∀ j, l.getD j false = true → WM wR.heap.size bs EN j g w) ∨ (l.getD 12 false = true ∧ dE wR.heap.size EN g w ∧ ∀ j, j < 12 → l.getD j false = true))
theorem ee {z bs EN d : Nat} (au : bs < z) {g g' : Fr} {w w' : World} (he : Evo w w' [bs]) (J : ∀ q, elemN q M9 = true → q ≠ d → g' q = g q) : ∀ j, Oi j ≠ d → WM z bs EN j g w → WM z bs EN j g' w' := by
  have az := he.size
  intro j hj h
  match j with
  | 0 => obtain ⟨b, h1, R, U⟩ := h; exact ⟨b, by omega, by rw [J 31 rfl hj]; exact R, U.evo he θ⟩
  | 1 => show g' 32 = _; rw [J 32 rfl hj]; exact h
  | 2 => obtain ⟨r, R, U⟩ := h; exact ⟨r, by rw [J 33 rfl hj]; exact R, U⟩
  | 3 => obtain ⟨b, q, s, h1, R, U, h4⟩ := h; exact ⟨b, q, s, by omega, by rw [J 34 rfl hj]; exact R, U.evo he θ, h4⟩
  | 4 => obtain ⟨r, R, U⟩ := h; exact ⟨r, by rw [J 35 rfl hj]; exact R, U⟩
  | 5 => obtain ⟨b, h1, R, U⟩ := h; exact ⟨b, by omega, by rw [J 36 rfl hj]; exact R, U.evo he θ⟩
  | 6 => show g' 37 = _; rw [J 37 rfl hj]; exact h
  | 7 => obtain ⟨r, R, U⟩ := h; exact ⟨r, by rw [J 38 rfl hj]; exact R, U⟩
  | 8 => obtain ⟨b, q, s, h1, R, U, h4⟩ := h; exact ⟨b, q, s, by omega, by rw [J 39 rfl hj]; exact R, U.evo he θ, h4⟩
  | 9 => obtain ⟨r, R, U⟩ := h; exact ⟨r, by rw [J 40 rfl hj]; exact R, U⟩
  | 10 => obtain ⟨s, t, R, U⟩ := h; exact ⟨s, t, by rw [J 41 rfl hj]; exact R, U⟩
  | 11 => obtain ⟨b, h1, R, s, t, U⟩ := h; exact ⟨b, by omega, by rw [J 9 rfl hj]; exact R, s, t, U.evo he θ⟩
  | _ + 12 => trivial
theorem Xr {i j : Nat} (J : i < 12) (R : j < 12) (h : j ≠ i) : Oi j ≠ Oi i := by
  have : ∀ i, i < 12 → ∀ j, j < 12 → j ≠ i → Oi j ≠ Oi i := by decide
  exact this i J j R h
theorem I9.deps {wR w : World} {R EN T N2 : Nat} {c : Value} {l : Array Bool} {g : Fr} {i : Nat} (hi : i < 13) (hu : l.getD i true = false) (h : I9 wR R EN T N2 c l g w) :
    Evo wR w [R] ∧ Blk w R T [c, .int .i64 (N2 + fc l : Nat)] ∧ l.getD 12 false = false ∧ ∀ j, l.getD j false = true → WM wR.heap.size R EN j g w := by
  obtain ⟨h1, h2, J | J⟩ := h
  · exact ⟨h1, h2, J.1, J.2⟩
  · by_cases U : i = 12
    · subst U
      rw [(Cj hu).1] at J; exact absurd J.1 (by simp)
    · have := J.2.2 i ω; rw [(Cj hu).1] at this; cases this
theorem I9.step {wR w w' : World} {R EN T N2 : Nat} {c : Value} {l : Array Bool} {g g' : Fr} {i : Nat} (hi : i < 12) (hu : l.getD i true = false) (au : R < wR.heap.size) (ao : l.getD 12 false = false) (hP : ∀ j, l.getD j false = true → WM wR.heap.size R EN j g w)
    (az : Evo w w' [R]) (he : Evo wR w' [R]) (hb : Blk w' R T [c, .int .i64 (N2 + fc (l.setIfInBounds i true) : Nat)]) (aS : ∀ q, elemN q M9 = true → q ≠ Oi i → g' q = g q) (hn : WM wR.heap.size R EN i g' w') :
    I9 wR R EN T N2 c (l.setIfInBounds i true) g' w' := by
  refine ⟨he, hb, .inl ⟨by rw [DQ ω]; exact ao, fun j hj => ?_⟩⟩
  by_cases U : j = i
  · subst U; exact hn
  · rw [DQ U] at hj
    by_cases J : j < 12
    · exact ee au az aS j (Xr hi J U) (hP j hj)
    · match j, J with
      | j + 12, _ => trivial
      | 0, h | 1, h | 2, h | 3, h | 4, h | 5, h | 6, h | 7, h | 8, h | 9, h | 10, h | 11, h => exact absurd υ h
theorem I9.last {U w' : World} {R EN T N2 : Nat} {c : Value} {l : Array Bool} {g' : Fr} (hu : l.getD 12 true = false) (J : ∀ j, j < 12 → l.getD j false = true)
    (he : Evo U w' [R]) (hb : Blk w' R T [c, .int .i64 (N2 + fc (l.setIfInBounds 12 true) : Nat)]) (hn : dE U.heap.size EN g' w') : I9 U R EN T N2 c (l.setIfInBounds 12 true) g' w' :=
  ⟨he, hb, .inr ⟨Fu (Cj hu).2, hn, fun j hj => by rw [DQ ω]; exact J j hj⟩⟩
theorem I9.init {wR w : World} {J EN T R : Nat} {c : Value} {g : Fr} (he : Evo wR w [J]) (hb : Blk w J T [c, .int .i64 (R : Nat)]) : I9 wR J EN T R c (Array.replicate 13 false) g w :=
  ⟨he, hb, .inl ⟨rfl, fun j U => by
    rcases Nat.lt_or_ge j 13 with h | h
    · simp [h] at U
    · simp [Array.getElem?_eq_none (show (Array.replicate 13 false).size ≤ j by simpa using h)] at U⟩⟩
theorem I9.done {R w : World} {j U T N2 : Nat} {c : Value} {g : Fr} (h : I9 R j U T N2 c (Array.replicate 13 true) g w) : Evo R w [j] ∧ Blk w j T [c, .int .i64 (N2 + 2 : Nat)] ∧ dE R.heap.size U g w := by
  obtain ⟨h1, h2, J | J⟩ := h
  · exact absurd J.1 υ
  · exact ⟨h1, h2, J.2.1⟩
section
variable {α : Type} [Rep α] {w w' : World} {base : Nat} {E : TypeId} {Y : List Nat} {v : Value} {l : List α}
theorem Yx {m b base : Nat} {E : TypeId} {w : World} (h : Blk w b E []) (j : base ≤ b) : Own w base E m (.slice (some ⟨b, 0, none⟩) 0 0) [] :=
  ⟨⟨by simp, .inr ⟨b, 0, #[], rfl, j, by simpa [Blk] using h, by simp, by simp [maxLen], by simp, by simp⟩⟩, by simp, by simp⟩
theorem Wc {β : Type} [Enc β] {b base : Nat} {E : TypeId} {w : World} (h : Blk w b E []) (j : base ≤ b) : OwnE (α := β) w base E (.slice (some ⟨b, 0, none⟩) 0 0) [] := Yx h j
end
section
variable {P : Program} {B : Exit → Act → World → Prop} {n : Nat} {k : List Kont} {f : Fr} {w : World} {ops : Array Oper} {rest : List Oper}
end
def Kl (inner : UInt8 → Bool) (a b : UInt8) : Ac → Nat
  | [] => 0
  | c :: t => if inner c = true then 1 + Kl inner a b t else if c = a ∨ c = b then (match t with
      | [] => 0
      | d :: t' => if inner d = true then 2 + Kl inner a b t' else 0) else 0
theorem MU (inner : UInt8 → Bool) (a b : UInt8) : ∀ s : Ac, Kl inner a b s ≤ s.length
  | [] => Nat.le_refl _
  | [c] => by
    unfold Kl
    split
    · simp [Kl]
    · split <;> simp
  | c :: d :: t => by
    have h1 := MU inner a b (d :: t)
    have h2 := MU inner a b t
    unfold Kl
    simp only [List.length_cons] at *
    split
    · omega
    · split
      · split <;> omega
      · omega
theorem Rm {s : Ac} {n : Nat} (h : n + 1 < s.length) : s.drop n = s.getD n default :: s.getD (n + 1) default :: s.drop (n + 2) := by
  rw [List.drop_eq_getElem_cons ω, List.drop_eq_getElem_cons h]
  simp [List.getD, h, Nat.lt_of_succ_lt h]
theorem Js {s : Ac} {n : Nat} (h : n < s.length) : s.drop n = s.getD n default :: s.drop (n + 1) := by
  rw [List.drop_eq_getElem_cons h]; simp [List.getD, h]
section
variable {inner : UInt8 → Bool} {a b : UInt8} {s : Ac} {n : Nat}
theorem ZT (h : s.length ≤ n) : Kl inner a b (s.drop n) = 0 := by rw [List.drop_eq_nil_of_le h]; rfl
theorem Ux (h : n < s.length) (j : inner (s.getD n default) = true) : Kl inner a b (s.drop n) = 1 + Kl inner a b (s.drop (n + 1)) := by
  rw [Js h]; conv => lhs; unfold Kl
  rw [if_pos j]
theorem dL (h : n + 1 < s.length) (J : ¬ inner (s.getD n default) = true) (R : s.getD n default = a ∨ s.getD n default = b) (j : inner (s.getD (n + 1) default) = true) : Kl inner a b (s.drop n) = 2 + Kl inner a b (s.drop (n + 2)) := by
  rw [Rm h]; conv => lhs; unfold Kl
  rw [if_neg J, if_pos R]
  dsimp only
  rw [if_pos j]
theorem eV (h : n < s.length) (hi : ¬ inner (s.getD n default) = true) (hj : ¬ (s.getD n default = a ∨ s.getD n default = b) ∨ ¬ n + 1 < s.length ∨ ¬ inner (s.getD (n + 1) default) = true) : Kl inner a b (s.drop n) = 0 := by
  by_cases h1 : n + 1 < s.length
  · rw [Rm h1]; unfold Kl
    rw [if_neg hi]
    split
    · rename_i h3
      dsimp only
      rw [if_neg (by rcases hj with h | h | h
                     · exact absurd h3 h
                     · exact absurd h1 h
                     · exact h)]
    · rfl
  · rw [Js h, List.drop_eq_nil_of_le ω]; unfold Kl
    rw [if_neg hi]
    split <;> rfl
end
def Uw : Ac → Nat
  | [] => 0
  | c :: t => if Dp c = 2 then 1 + Uw t else 0
theorem U1 : ∀ s : Ac, Uw s ≤ s.length
  | [] => Nat.le_refl _
  | c :: t => by
    have h1 := U1 t
    unfold Uw
    simp only [List.length_cons]
    split <;> omega
theorem c6 {s : Ac} {n : Nat} (h : s.length ≤ n) : Uw (s.drop n) = 0 := by rw [List.drop_eq_nil_of_le h]; rfl
theorem dB {s : Ac} {n : Nat} (h : n < s.length) (j : Dp (s.getD n default) = 2) : Uw (s.drop n) = 1 + Uw (s.drop (n + 1)) := by
  rw [Js h]; conv => lhs; unfold Uw
  rw [if_pos j]
theorem fN {s : Ac} {n : Nat} (h : n < s.length) (j : ¬ Dp (s.getD n default) = 2) : Uw (s.drop n) = 0 := by
  rw [Js h]; unfold Uw; rw [if_neg j]
def WO (c : UInt8) : Bool := decide (Dp c = 4) || decide (Dp c = 3)
def NP (c : UInt8) : Bool := decide (Dp c = 3)
def Du (s : Ac) : Int × Nat :=
  if Dp (s.getD 0 default) = 4 then (6, 1 + Kl WO 39 45 (s.drop 1))
  else if Dp (s.getD 0 default) = 3 then (7, 1 + Kl NP 46 44 (s.drop 1))
  else if Dp (s.getD 0 default) = 2 then (8, 1 + Uw (s.drop 1))
  else (9, 1)
theorem KT (s : Ac) : 1 ≤ (Du s).2 := by
  unfold Du
  repeat' split
  all_goals (dsimp only; omega)
theorem YR {s : Ac} (h : s ≠ []) : (Du s).2 ≤ s.length := by
  have R : 0 < s.length := List.length_pos_iff.2 h
  have h1 := MU WO 39 45 (s.drop 1)
  have j := MU NP 46 44 (s.drop 1)
  have J := U1 (s.drop 1)
  rw [List.length_drop] at h1 j J
  unfold Du
  repeat' split
  all_goals (dsimp only; omega)
def Jl (s : Ac) : List Item :=
  if h : s = [] then [] else ⟨(Du s).1, s.take (Du s).2, 0⟩ :: Jl (s.drop (Du s).2)
termination_by s.length
decreasing_by
  have h1 := KT s
  have h2 : 0 < s.length := List.length_pos_iff.2 h
  rw [List.length_drop]; omega
theorem Em : Jl [] = [] := by unfold Jl; simp
theorem K0 {s : Ac} (h : s ≠ []) : Jl s = ⟨(Du s).1, s.take (Du s).2, 0⟩ :: Jl (s.drop (Du s).2) := by
  conv => lhs; unfold Jl
  rw [dif_neg h]
theorem Sw : ∀ (n : Nat) (s : Ac), s.length = n → (Jl s).length ≤ s.length := by
  intro n
  induction n using Nat.strongRecOn with
  | ind n ih =>
    intro s hs
    by_cases h : s = []
    · subst h; rw [Em]; simp
    · have h1 := KT s
      have J : 0 < s.length := List.length_pos_iff.2 h
      rw [K0 h]
      have j := ih _ (by rw [← hs]; show (s.drop (Du s).2).length < s.length; rw [List.length_drop]; omega) (s.drop (Du s).2) rfl
      rw [List.length_drop] at j
      rw [List.length_cons]; omega
def NJ (x : Item) : List Item := if x.kind = 1 then Jl x.text else if 2 ≤ x.kind ∧ x.kind ≤ 5 then [x] else []
def Cp (f : List Item) : List Item := f.flatMap NJ
theorem FR {f : List Item} {k : Nat} (h : k < f.length) : Cp (f.take (k + 1)) = Cp (f.take k) ++ NJ (f.getD k default) := by
  unfold Cp; rw [A7 f k h]; simp
def EX (f : List Item) : Nat := (f.map (fun x => x.text.length)).sum
theorem IT : ∀ f : List Item, (Cp f).length ≤ EX f + f.length
  | [] => by simp [Cp]
  | x :: f => by
    have h1 := IT f
    have j : (NJ x).length ≤ x.text.length + 1 := by
      unfold NJ
      split
      · have := Sw _ x.text rfl; omega
      · split <;> simp
    have e : Cp (x :: f) = NJ x ++ Cp f := by simp [Cp]
    rw [e, List.length_append, List.length_cons]
    simp only [EX, List.map_cons, List.sum_cons] at *
    omega
end Go.Vc
namespace Go.Proofs.YtbgmlpbgofcfjaaGreatDoor
open Go.RowKit Go.Vc Go.Proofs.Tryz
theorem ff {c d : UInt8} : ((c.toNat : Nat) : Int) = ((d.toNat : Nat) : Int) ↔ c = d := ⟨fun h => UInt8.toNat_inj.1 ω, fun h => by rw [h]⟩
theorem c8 {c : UInt8} : WO c = true ↔ (Dp c = 4 ∨ Dp c = 3) := by unfold WO; simp
section
variable {inner : UInt8 → Bool} {a b : UInt8} {s : Ac} {n : Nat}
theorem Mb (J : inner (s.getD n 0) = false) (j : (((((s.getD n 0).toNat : Nat) : Int) = (((([a, b] : Ac).getD 0 0).toNat : Nat) : Int) ∨ (((s.getD n 0).toNat : Nat) : Int) = (((([a, b] : Ac).getD 1 0).toNat : Nat) : Int)) ∧ (n : Int) + 1 < (s.length : Int)) ∧ inner (s.getD (n + 1) 0) = true) :
    Kl inner a b (s.drop n) = 2 + Kl inner a b (s.drop (n + 2)) :=
  dL ω (by show ¬ inner (s.getD n 0) = true; rw [J]; simp) (j.1.1.imp ff.1 ff.1) j.2
theorem XE (hn : n < s.length) (U : inner (s.getD n 0) = false) (R : ¬ ((((((s.getD n 0).toNat : Nat) : Int) = (((([a, b] : Ac).getD 0 0).toNat : Nat) : Int) ∨ (((s.getD n 0).toNat : Nat) : Int) = (((([a, b] : Ac).getD 1 0).toNat : Nat) : Int)) ∧ (n : Int) + 1 < (s.length : Int)) ∧ inner (s.getD (n + 1) 0) = true)) :
    Kl inner a b (s.drop n) = 0 := by
  refine eV hn (by show ¬ inner (s.getD n 0) = true; rw [U]; simp) ?_
  by_cases h1 : s.getD n 0 = a ∨ s.getD n 0 = b
  · by_cases j : n + 1 < s.length
    · exact .inr (.inr fun J => R ⟨⟨h1.imp ff.2 ff.2, by omega⟩, J⟩)
    · exact .inr (.inl j)
  · exact .inl h1
end
theorem KB {c : UInt8} {j : World}  :
    Calls Tryz.prog 95 #[.int .u8 ((c.toNat : Nat) : Int)] j fun e w' => e = .returned (.bool (WO c)) ∧ Evo j w' [] := by
 refine AG (n := 12) func95 rfl ntmps95 rfl ?_
 have J : Evo j j [] := Evo.refl _ _
 refine Zs (Zn BV (Zs (Zo AU (Zr [.int _ _] rfl η func93 H3 ?_))))
 rintro e w1 ⟨rfl, F1⟩
 refine ⟨_, rfl, ?_⟩
 have U := F1.size
 replace J := Z0 J F1
 refine Zn Am (Zs (Zo AU (Zo DA (Zo Cb ?_))))
 refine Aj rfl BQ rfl (fun R => AU) ?_
 refine Aj rfl BQ rfl (fun R => BK rfl (Ar R) η) ?_
 refine Zo FW (Zn BV (AM G7 ?_))
 exact ⟨Bn (by rw [Bool.eq_iff_iff, decide_eq_true_iff, c8]), J⟩
theorem LZ {c : UInt8} {j : World}  :
    Calls Tryz.prog 96 #[.int .u8 ((c.toNat : Nat) : Int)] j fun e w' => e = .returned (.bool (NP c)) ∧ Evo j w' [] := by
 refine AG (n := 6) func96 rfl ntmps96 rfl ?_
 have J : Evo j j [] := Evo.refl _ _
 refine Zs (Zn BV (Zs (Zo AU (Zr [.int _ _] rfl η func93 H3 ?_))))
 rintro e U ⟨rfl, F1⟩
 refine ⟨_, rfl, ?_⟩
 have R := F1.size
 replace J := Z0 J F1
 refine Zo DA (Zn BV (AM G7 ?_))
 exact ⟨rfl, J⟩
theorem Oc {s : Ac} {w0 : World} (hs : s.length ≤ 140737488355328) (aT : 1 ≤ s.length) :
    Calls Tryz.prog 94 #[S s, S [39, 45], .func (.func 95) #[] #[]] w0 fun e w' => e = .returned (.int .i64 ((1 + Kl WO 39 45 (s.drop 1) : Nat) : Int)) ∧ Evo w0 w' [] := by
 refine AG (n := 54) func94 rfl ntmps94 rfl ?_
 have R : Evo w0 w0 [] := Evo.refl _ _
 refine Zs (Zn Am (Zs (Zn Am (AE (AK (Aq (α := Nat) [6, 7, 8, 9, 10, 11, 12, 13, 14, 15, 16, 17, 18, 19, 20, 21, 22, 23, 24, 25, 26, 27, 28, 29, 30, 31, 32, 33, 34, 35, 36, 37, 38, 39, 40, 41, 42, 43, 44, 45, 46, 47, 48, 49, 50, 51, 52] (fun n g w => g 7 = .int .i64 (n : Nat) ∧ (1 ≤ n ∧ n ≤ s.length) ∧ n + Kl WO 39 45 (s.drop n) = 1 + Kl WO 39 45 (s.drop 1) ∧ w0.heap.size ≤ w.heap.size ∧ Evo w0 w []) (fun n => s.length - n) 1 ?_ ?_))))))
 refine ⟨rfl, δ, δ, δ, R⟩
 rintro n g w2 ⟨aS, hn1, hj, hzl1, R⟩
 have au := R.size
 refine Zk 7 aS (AE (Zs (Zo AU (Zo Ca (Zo (Bz rfl η underlying9) (Zn Dn (AH η (fun az => ?_) (fun az => ?_))))))))
 refine AJ (AK (AK (Zs (Zo (AN (v := .func _ _ _) rfl η) (Zo Ca (Zo AU (Zo (Bb (n) rfl underlying9 η η χ ω) (Ft rfl rfl rfl (DR (vs := [.int _ _]) (cs := []) rfl η η func95 rfl ζ) KB ?_))))))))
 rintro e w5 ⟨rfl, F5⟩
 refine ⟨_, rfl, ?_⟩
 have Q5 := F5.size
 replace R := Z0 R F5
 refine Zn BV (JB η (fun af => ?_) (fun af => ?_))
 refine AB (Zo AU (Zo Br (Ao (i := 20) (v := .int .i64 ((n + 1 : Nat) : Int)) (congrArg (Value.int _) ω) (Zn Am (AX (AX (Zg (n + 1) ?_)))))))
 refine ⟨rfl, δ, (by first | (have h8 := Ux (a := 39) (b := 45) (s := s) (n := n) ω af; omega) | (have h8 := Mb (a := 39) (b := 45) (inner := WO) (s := s) (n := n) κ af; omega)), δ, R⟩
 refine AE (Bt ζ ζ (Zq (fun w' j => Ca) (Zq (fun w' j => AU) (Zq (fun w' j => Bb (n) rfl underlying9 η η χ ω) (Zq (fun w' j => Ca) (Zq (fun w' j => Bb (0) rfl underlying9 η η χ υ) (Zq (fun w' j => BK rfl η η) (Zq (fun w' j => Cb) ?_))))))))
 refine GA rfl BQ rfl (fun J w' j => Ca) ?_
 refine GA rfl BQ rfl (fun J w' j => AU) ?_
 refine GA rfl BQ rfl (fun J w' j => Bb (n) rfl underlying9 (Ar J) (Ar J) χ ω) ?_
 refine GA rfl BQ rfl (fun J w' j => Ca) ?_
 refine GA rfl BQ rfl (fun J w' j => Bb (1) rfl underlying9 (Ar J) η χ υ) ?_
 refine GA rfl BQ rfl (fun J w' j => BK rfl (Ar J) (Ar J)) ?_
 refine Zq (fun w' j => C4 rfl η rfl (fun hq => OR η (fun h => h) hq)) ?_
 refine Zq (fun w' j => Cb) ?_
 refine GA rfl BW rfl (fun J w' j => AU) ?_
 refine GA rfl BW rfl (fun J w' j => Bl rfl (Ar J) η ω ω) ?_
 refine GA rfl BW rfl (fun J w' j => Ca) ?_
 refine GA rfl BW rfl (fun J w' j => Bz rfl (Ar J) underlying9) ?_
 refine GA rfl BW rfl (fun J w' j => Dc rfl (Ar J) (Ar J)) ?_
 refine Zq (fun w' j => Cu rfl η (fun hq => OR η (fun h => h) hq) rfl) ?_
 refine Zq (fun w' j => Cb) ?_
 refine GA rfl BW rfl (fun J w' j => AN (v := .func _ _ _) rfl η) ?_
 refine GA rfl BW rfl (fun J w' j => Ca) ?_
 refine GA rfl BW rfl (fun J w' j => AU) ?_
 refine GA rfl BW rfl (fun J w' j => Bl rfl (Ar J) η ω ω) ?_
 refine GA rfl BW rfl (fun J w' j => Bb ((n + 1)) rfl underlying9 (Ar J) (Ar J) ω ω) ?_
 refine MZ rfl BW rfl (fun J w' j => DR (cs := []) rfl (Ar J) (BU (v := .int _ _) (Ar J) (rfl)) func95 rfl ζ) (fun J w' j => (KB ).mono (fun e a1 h => ⟨h.1, CB j h.2⟩)) ?_
 refine Zq (fun w' j => Cw rfl η (fun hq => OR η (fun h => h) hq) rfl) ?_
 refine Zq (fun w' j => BV) (EV (fun w7 F8 => ?_))
 have Q7 := F8.size
 replace R := Z0 R F8
 refine AH η (fun U => ?_) (fun U => ?_)
 refine AB (Zo AU (Zo Br (Ao (i := 52) (v := .int .i64 ((n + 2 : Nat) : Int)) (congrArg (Value.int _) ω) (Zn Am (AX (AX (Zg (n + 2) ?_)))))))
 refine ⟨rfl, δ, (by first | (have h8 := Ux (a := 39) (b := 45) (s := s) (n := n) ω U; omega) | (have h8 := Mb (a := 39) (b := 45) (inner := WO) (s := s) (n := n) κ U; omega)), δ, R⟩
 refine Zs (Zo AU (Zn Am (AM C3 ?_)))
 exact ⟨A3 (by have h8 := XE (a := 39) (b := 45) (inner := WO) (s := s) (n := n) ω κ U; omega), R⟩
 refine Ak rfl (Zs (Zo AU (Zn Am (AM C3 ?_))))
 exact ⟨A3 (by have h8 := ZT (a := 39) (b := 45) (inner := WO) (s := s) (n := n) ω; omega), R⟩
theorem OP {s : Ac} {w0 : World} (hs : s.length ≤ 140737488355328) (aT : 1 ≤ s.length) :
    Calls Tryz.prog 94 #[S s, S [46, 44], .func (.func 96) #[] #[]] w0 fun e w' => e = .returned (.int .i64 ((1 + Kl NP 46 44 (s.drop 1) : Nat) : Int)) ∧ Evo w0 w' [] := by
 refine AG (n := 54) func94 rfl ntmps94 rfl ?_
 have R : Evo w0 w0 [] := Evo.refl _ _
 refine Zs (Zn Am (Zs (Zn Am (AE (AK (Aq (α := Nat) [6, 7, 8, 9, 10, 11, 12, 13, 14, 15, 16, 17, 18, 19, 20, 21, 22, 23, 24, 25, 26, 27, 28, 29, 30, 31, 32, 33, 34, 35, 36, 37, 38, 39, 40, 41, 42, 43, 44, 45, 46, 47, 48, 49, 50, 51, 52] (fun n g w => g 7 = .int .i64 (n : Nat) ∧ (1 ≤ n ∧ n ≤ s.length) ∧ n + Kl NP 46 44 (s.drop n) = 1 + Kl NP 46 44 (s.drop 1) ∧ w0.heap.size ≤ w.heap.size ∧ Evo w0 w []) (fun n => s.length - n) 1 ?_ ?_))))))
 refine ⟨rfl, δ, δ, δ, R⟩
 rintro n g w2 ⟨aS, hn1, hj, hzl1, R⟩
 have au := R.size
 refine Zk 7 aS (AE (Zs (Zo AU (Zo Ca (Zo (Bz rfl η underlying9) (Zn Dn (AH η (fun az => ?_) (fun az => ?_))))))))
 refine AJ (AK (AK (Zs (Zo (AN (v := .func _ _ _) rfl η) (Zo Ca (Zo AU (Zo (Bb (n) rfl underlying9 η η χ ω) (Ft rfl rfl rfl (DR (vs := [.int _ _]) (cs := []) rfl η η func96 rfl ζ) LZ ?_))))))))
 rintro e w5 ⟨rfl, F5⟩
 refine ⟨_, rfl, ?_⟩
 have Q5 := F5.size
 replace R := Z0 R F5
 refine Zn BV (JB η (fun af => ?_) (fun af => ?_))
 refine AB (Zo AU (Zo Br (Ao (i := 20) (v := .int .i64 ((n + 1 : Nat) : Int)) (congrArg (Value.int _) ω) (Zn Am (AX (AX (Zg (n + 1) ?_)))))))
 refine ⟨rfl, δ, (by first | (have h8 := Ux (a := 46) (b := 44) (s := s) (n := n) ω af; omega) | (have h8 := Mb (a := 46) (b := 44) (inner := NP) (s := s) (n := n) κ af; omega)), δ, R⟩
 refine AE (Bt ζ ζ (Zq (fun w' j => Ca) (Zq (fun w' j => AU) (Zq (fun w' j => Bb (n) rfl underlying9 η η χ ω) (Zq (fun w' j => Ca) (Zq (fun w' j => Bb (0) rfl underlying9 η η χ υ) (Zq (fun w' j => BK rfl η η) (Zq (fun w' j => Cb) ?_))))))))
 refine GA rfl BQ rfl (fun J w' j => Ca) ?_
 refine GA rfl BQ rfl (fun J w' j => AU) ?_
 refine GA rfl BQ rfl (fun J w' j => Bb (n) rfl underlying9 (Ar J) (Ar J) χ ω) ?_
 refine GA rfl BQ rfl (fun J w' j => Ca) ?_
 refine GA rfl BQ rfl (fun J w' j => Bb (1) rfl underlying9 (Ar J) η χ υ) ?_
 refine GA rfl BQ rfl (fun J w' j => BK rfl (Ar J) (Ar J)) ?_
 refine Zq (fun w' j => C4 rfl η rfl (fun hq => OR η (fun h => h) hq)) ?_
 refine Zq (fun w' j => Cb) ?_
 refine GA rfl BW rfl (fun J w' j => AU) ?_
 refine GA rfl BW rfl (fun J w' j => Bl rfl (Ar J) η ω ω) ?_
 refine GA rfl BW rfl (fun J w' j => Ca) ?_
 refine GA rfl BW rfl (fun J w' j => Bz rfl (Ar J) underlying9) ?_
 refine GA rfl BW rfl (fun J w' j => Dc rfl (Ar J) (Ar J)) ?_
 refine Zq (fun w' j => Cu rfl η (fun hq => OR η (fun h => h) hq) rfl) ?_
 refine Zq (fun w' j => Cb) ?_
 refine GA rfl BW rfl (fun J w' j => AN (v := .func _ _ _) rfl η) ?_
 refine GA rfl BW rfl (fun J w' j => Ca) ?_
 refine GA rfl BW rfl (fun J w' j => AU) ?_
 refine GA rfl BW rfl (fun J w' j => Bl rfl (Ar J) η ω ω) ?_
 refine GA rfl BW rfl (fun J w' j => Bb ((n + 1)) rfl underlying9 (Ar J) (Ar J) ω ω) ?_
 refine MZ rfl BW rfl (fun J w' j => DR (cs := []) rfl (Ar J) (BU (v := .int _ _) (Ar J) (rfl)) func96 rfl ζ) (fun J w' j => (LZ ).mono (fun e a1 h => ⟨h.1, CB j h.2⟩)) ?_
 refine Zq (fun w' j => Cw rfl η (fun hq => OR η (fun h => h) hq) rfl) ?_
 refine Zq (fun w' j => BV) (EV (fun w7 F8 => ?_))
 have Q7 := F8.size
 replace R := Z0 R F8
 refine AH η (fun U => ?_) (fun U => ?_)
 refine AB (Zo AU (Zo Br (Ao (i := 52) (v := .int .i64 ((n + 2 : Nat) : Int)) (congrArg (Value.int _) ω) (Zn Am (AX (AX (Zg (n + 2) ?_)))))))
 refine ⟨rfl, δ, (by first | (have h8 := Ux (a := 46) (b := 44) (s := s) (n := n) ω U; omega) | (have h8 := Mb (a := 46) (b := 44) (inner := NP) (s := s) (n := n) κ U; omega)), δ, R⟩
 refine Zs (Zo AU (Zn Am (AM C3 ?_)))
 exact ⟨A3 (by have h8 := XE (a := 46) (b := 44) (inner := NP) (s := s) (n := n) ω κ U; omega), R⟩
 refine Ak rfl (Zs (Zo AU (Zn Am (AM C3 ?_))))
 exact ⟨A3 (by have h8 := ZT (a := 46) (b := 44) (inner := NP) (s := s) (n := n) ω; omega), R⟩
theorem Vl {s : Ac} (h : Dp (s.getD 0 default) = 4) : Du s = (6, 1 + Kl WO 39 45 (s.drop 1)) := by unfold Du; rw [if_pos h]
theorem XV {s : Ac} (h : ¬ Dp (s.getD 0 default) = 4) (j : Dp (s.getD 0 default) = 3) : Du s = (7, 1 + Kl NP 46 44 (s.drop 1)) := by unfold Du; rw [if_neg h, if_pos j]
theorem UG {s : Ac} (h : ¬ Dp (s.getD 0 default) = 4) (j : ¬ Dp (s.getD 0 default) = 3) (J : Dp (s.getD 0 default) = 2) : Du s = (8, 1 + Uw (s.drop 1)) := by unfold Du; rw [if_neg h, if_neg j, if_pos J]
theorem WE {s : Ac} (h : ¬ Dp (s.getD 0 default) = 4) (j : ¬ Dp (s.getD 0 default) = 3) (J : ¬ Dp (s.getD 0 default) = 2) : Du s = (9, 1) := by unfold Du; rw [if_neg h, if_neg j, if_neg J]
theorem dU {s : Ac} {k : Nat} (hk : k ≤ s.length) (h : ¬ ((k : Int) < (s.length : Int) ∧ Dp (s.getD k 0) = 2)) : Uw (s.drop k) = 0 := by
  by_cases h1 : k < s.length
  · exact fN h1 (fun j => h ⟨by omega, j⟩)
  · exact c6 ω
theorem Mg {p : Int × Nat} {a : Int} {b : Nat} (h : p = (a, b)) : Ending.returned (.tuple #[.int .i64 a, .int .i64 ((b : Nat) : Int)]) = .returned (.tuple #[.int .i64 p.1, .int .i64 ((p.2 : Nat) : Int)]) := by rw [h]
theorem Sp {s : Ac} {w0 : World} (hs : s.length ≤ 140737488355328) (aT : 1 ≤ s.length) :
    Calls Tryz.prog 35 #[S s] w0 fun e w' => e = .returned (.tuple #[.int .i64 (Du s).1, .int .i64 (((Du s).2 : Nat) : Int)]) ∧ Evo w0 w' [] := by
 refine AG (n := 32) func35 rfl ntmps35 rfl ?_
 have j : Evo w0 w0 [] := Evo.refl _ _
 refine Zs (Zo Am (Zn Am (AE (Zs (Zo Ca (Zo (Bb (0) rfl underlying9 η η χ ω) (Zr [.int _ _] rfl η func93 H3 ?_)))))))
 rintro e w1 ⟨rfl, F1⟩
 refine ⟨_, rfl, ?_⟩
 have Q1 := F1.size
 replace j := Z0 j F1
 refine Ag (AK (Zs (Zo DA (Zn BV (AH η (fun U => ?_) (fun U => ?_))))))
 refine Zs (Zo Ca (Zr [S _, S _, .func _ _ _] rfl η func94 (id (Oc (s := s) ω ω)) ?_))
 rintro e w3 ⟨rfl, F3⟩
 refine ⟨_, rfl, ?_⟩
 have Q3 := F3.size
 replace j := Z0 j F3
 refine Zo Am (Zn Am (AM (Fy (v := .int _ _) (u := .int _ _) rfl η η) ?_))
 exact ⟨Mg (Vl U), j⟩
 refine Zs (Zo DA (Zn BV (AH η (fun af => ?_) (fun af => ?_))))
 refine Zs (Zo Ca (Zr [S _, S _, .func _ _ _] rfl η func94 (id (OP (s := s) ω ω)) ?_))
 rintro e w5 ⟨rfl, F5⟩
 refine ⟨_, rfl, ?_⟩
 have Q5 := F5.size
 replace j := Z0 j F5
 refine Zo Am (Zn Am (AM (Fy (v := .int _ _) (u := .int _ _) rfl η η) ?_))
 exact ⟨Mg (XV κ af), j⟩
 refine Zs (Zo DA (Zn BV (AH η (fun ao => ?_) (fun ao => ?_))))
 refine Zs (Zn Am (AE (AK (Aq (α := Nat) [4, 18, 19, 20, 21, 22, 23, 24, 25, 26, 27, 28, 29, 30] (fun k g w => g 4 = .int .i64 (k : Nat) ∧ (1 ≤ k ∧ k ≤ s.length) ∧ k + Uw (s.drop k) = 1 + Uw (s.drop 1) ∧ w1.heap.size ≤ w.heap.size ∧ Evo w0 w []) (fun k => s.length - k) 1 ?_ ?_))))
 refine ⟨rfl, δ, δ, δ, j⟩
 rintro k g w8 ⟨au, hk1, hb, hzl7, j⟩
 have ag := j.size
 refine Zk 4 au (AE (Zs (Zo AU (Zo Ca (Zo (Bz rfl η underlying9) (Zo Dn (Zo Cb ?_)))))))
 refine Aj rfl BW rfl (fun R => Ca) ?_
 refine Aj rfl BW rfl (fun R => AU) ?_
 refine Aj rfl BW rfl (fun R => Bb (k) rfl underlying9 (Ar R) (Ar R) χ ω) ?_
 refine Dg rfl BW rfl (fun R => BN rfl (BU (v := .int _ _) (Ar R) (rfl)) func93 rfl ζ) (fun R => (H3 ).mono (fun e w' h => ⟨h.1, h.2⟩)) (fun a_ F11 => ?_)
 have az := F11.size
 replace j := Z0 j F11
 refine Aj rfl BW rfl (fun R => BK rfl (Ar R) η) ?_
 refine Zn Ht (AH η (fun J => ?_) (fun J => ?_))
 refine AJ (AK (AB (Zo AU (Zo Br (Zn Am (AX (Zg (k + 1) ?_)))))))
 refine ⟨σ, δ, (by have h8 := dB (s := s) (n := k) ω J.2; omega), δ, j⟩
 refine Ak rfl (Zs (Zo AU (Zo Am (Zn Am (AM (Fy (v := .int _ _) (u := .int _ _) rfl η η) ?_)))))
 exact ⟨Mg (by rw [UG κ κ κ]; have h8 := dU (s := s) (k := k) ω J; congr 1; omega), j⟩
 refine AJ (AX (Zs (Zo Am (Zn Am (AM (Fy (v := .int _ _) (u := .int _ _) rfl η η) ?_)))))
 exact ⟨Mg (WE κ κ κ), j⟩
theorem YF {r : Ac} {l L : List Vc.Item} {p : Int × Nat} (J : Du r = p) (j : l ++ Jl r = L) (R : ¬ r = []) : (l ++ [⟨p.1, r.take p.2, 0⟩]) ++ Jl (r.drop p.2) = L := by
  rw [K0 R, J] at j
  rw [List.append_assoc]; exact j
theorem U2 : ∀ (f : List Vc.Item) (k : Nat), (f.getD k default).text.length ≤ EX f
  | [], k => by show ([] : Ac).length ≤ _; exact Nat.zero_le _
  | x :: f, 0 => by simp [EX]
  | x :: f, k + 1 => by
    have := U2 f k
    simp only [EX, List.map_cons, List.sum_cons, List.getD_cons_succ] at *
    omega
theorem LG : ∀ (f : List Vc.Item) (k : Nat), EX (f.take k) ≤ EX f
  | [], k => by simp
  | x :: f, 0 => by simp [EX]
  | x :: f, k + 1 => by
    have := LG f k
    simp only [EX, List.take_succ_cons, List.map_cons, List.sum_cons] at *
    omega
theorem V5 (f : List Vc.Item) (k : Nat) (h : k < f.length) : EX (f.take k) + (f.getD k default).text.length ≤ EX f := by
  have h1 := LG f (k + 1)
  rw [A7 f k h] at h1
  simpa [EX] using h1
theorem Cr {x : Vc.Item} (h : x.kind = 1) : NJ x = Jl x.text := if_pos h
theorem Gs {x : Vc.Item} (h : x.kind = 2 ∨ x.kind = 3 ∨ x.kind = 4 ∨ x.kind = 5) : NJ x = [x] := by unfold NJ; rw [if_neg ω, if_pos ω]
theorem FV {x : Vc.Item} (h : ¬ x.kind = 1) (j : ¬ x.kind = 2) (J : ¬ x.kind = 3) (R : ¬ x.kind = 4) (U : ¬ x.kind = 5) : NJ x = [] := by unfold NJ; rw [if_neg h, if_neg ω]
theorem di (s : Ac) : (Jl s).length ≤ s.length := Sw _ s rfl
theorem CP : CQ Tryz.prog 71 = some true := ζ
theorem BX : CQ Tryz.prog 9 = some false := ζ
theorem Ba : A8 Tryz.prog 111 0 = some 0 := ζ
theorem Fq : A8 Tryz.prog 111 1 = some 1 := ζ
theorem CG : A8 Tryz.prog 71 0 = some 0 := ζ
theorem Bp : A8 Tryz.prog 71 1 = some 1 := ζ
theorem HU : Cn Tryz.prog 111 = some [(0, 1), (1, 1), (2, 1)] := ζ
theorem Aa : Cy Tryz.prog 111 = some (3, 32, some (.agg #[(.int .i64 0), (.string ⟨#[]⟩), (.int .i64 0)])) := ζ
theorem AY : Cy Tryz.prog 71 = some (3, 32, some (.agg #[(.int .i64 0), (.string ⟨#[]⟩), (.int .i64 0)])) := ζ
theorem VA {r : Ac} (h : ¬ r = []) : 0 < r.length := List.length_pos_iff.2 h
theorem EP {ao : Option Addr} {b off cap : Nat} {f : List Vc.Item} {w0 : World} (hf : RowE w0 ao b off cap f) (hz : EX f + f.length ≤ 1000000000) :
    Calls Tryz.prog 11 #[.slice ao f.length cap] w0 fun e w' => ∃ v, e = .returned v ∧ Evo w0 w' [] ∧ OwnE w' w0.heap.size 111 v (Cp f) := by
 refine AG (n := 50) func11 rfl ntmps11 rfl ?_
 have J : Evo w0 w0 [] := Evo.refl _ _
 have ba := A9 hf
 have bn := hf.bd
 refine Zs (Zn Ew (Zs (Zn Ew (AE (Zs (Zo Bi (Zo (AQ rfl η underlying33) (Zn AU (AK ?_)))))))))
 refine Aq (α := Nat) [3, 5, 6, 7, 8, 11, 12, 13, 14, 15, 16, 17, 18, 19, 20, 21, 22, 23, 24, 25, 26, 27, 28, 29, 30, 31, 32, 33, 34, 35, 36, 37, 38, 39, 40, 41, 42, 43, 44, 45, 46, 47, 48] (fun k g w => ∃ vo : Value, g 11 = .int .i64 (k : Nat) ∧ g 3 = vo ∧ k ≤ f.length ∧ OwnE w w0.heap.size 111 vo (Cp (f.take k)) ∧ w0.heap.size ≤ w.heap.size ∧ Evo w0 w []) (fun k => f.length - k) 0 ?_ ?_
 refine ⟨_, σ, rfl, δ, (OwnE.nil _ _ _), δ, J⟩
 rintro k g w2 ⟨vo, hj3, hj4, hk_k, j, hzl1, J⟩
 have bm := J.size
 refine Zk 11 hj3 (Zk 3 hj4 ?_)
 have b1 := IT (f.take k); have bS := LG f k
 have bR := U2 f k
 have bY : (f.take k).length ≤ k := List.length_take_le _ _
 have bQ := di (f.getD k default).text
 have bX := fun h => V5 f k h
 refine Zs (Zn Dn (AE (AH η (fun bq => ?_) (fun bq => ?_))))
 refine AJ (AE (AK (Zs (Zo (Ab (k) rfl underlying33 AY η η χ ω ((ba _ J).addr (i := k) ω)) ?_))))
 have bc := fun (w' : World) (h : Evo w0 w' []) => (ba w' h).atD (k) ω
 have bo := bc _ J
 refine Zo (AL rfl CP AY η rfl bo) ?_
 have bt := fun g U => (j.block (g := g) U).2
 refine Bq (zs := [_, _, _]) (vs := [_, _, _]) AY η rfl η (fun _ => rfl) η rfl rfl η ?_
 intro b8 w9 J8 E9 B8 Y8
 have Q9 := E9.size
 replace J := Z0 J E9
 replace hf := ba _ J
 replace j := j.evo0 E9
 refine Ag (Zs (Zo (AD rfl η CG) (Zn (AA rfl Ae η (B8.at.cell 0 η)) (AK (AE (Zs (Zo DA (Zn BV (AH η (fun aS => ?_) (fun aS => ?_))))))))))
 refine AJ (Dy η aS (AB (Zo (AN (v := vo) rfl η) (Zo (AL rfl CP AY η rfl B8.at) (BL (u := .agg _) (y := (f.getD k default : Vc.Item)) rfl rfl underlying40 Aa η j (fun _ => η) η ξ (τ) (τ) ω ?_)))))
 intro q_v11 v11 w12 E12 hov11 hlv11
 have bz := E12.size
 replace J := AP J E12 (fun g U => .inl (by first | exact (j.block U).1 | (have := j.block U; omega)))
 refine Zn (AR (v := v11) rfl η) (AX (AX (AB (Zo Br (Zn AU (Zg (k + 1) ?_))))))
 refine ⟨_, σ, rfl, δ, (by rw [FR ω]; first | (rw [Cr κ]; have h8 : r = [] := Classical.not_not.1 κ; rw [h8, Em, List.append_nil] at hacc; rw [← hacc]; exact R) | (rw [Cr κ]; exact hov11) | (rw [Gs (by first | exact .inl κ | exact .inr (.inl κ) | exact .inr (.inr (.inl κ)) | exact .inr (.inr (.inr κ)))]; exact hov11) | (rw [FV κ κ κ κ κ, List.append_nil]; exact hov11)), δ, J⟩
 refine Zs (Zo DA (Zn BV (AH η (fun aT => ?_) (fun aT => ?_))))
 refine AJ (Dy η aT (AB (Zo (AN (v := vo) rfl η) (Zo (AL rfl CP AY η rfl B8.at) (BL (u := .agg _) (y := (f.getD k default : Vc.Item)) rfl rfl underlying40 Aa η j (fun _ => η) η ξ (τ) (τ) ω ?_)))))
 intro q_v14 v14 w15 E15 hov14 hlv14
 have bA := E15.size
 replace J := AP J E15 (fun g U => .inl (by first | exact (j.block U).1 | (have := j.block U; omega)))
 refine Zn (AR (v := v14) rfl η) (AX (AX (AB (Zo Br (Zn AU (Zg (k + 1) ?_))))))
 refine ⟨_, σ, rfl, δ, (by rw [FR ω]; first | (rw [Cr κ]; have h8 : r = [] := Classical.not_not.1 κ; rw [h8, Em, List.append_nil] at hacc; rw [← hacc]; exact R) | (rw [Cr κ]; exact hov14) | (rw [Gs (by first | exact .inl κ | exact .inr (.inl κ) | exact .inr (.inr (.inl κ)) | exact .inr (.inr (.inr κ)))]; exact hov14) | (rw [FV κ κ κ κ κ, List.append_nil]; exact hov14)), δ, J⟩
 refine Zs (Zo DA (Zn BV (AH η (fun a1 => ?_) (fun a1 => ?_))))
 refine AJ (Dy η a1 (AB (Zo (AN (v := vo) rfl η) (Zo (AL rfl CP AY η rfl B8.at) (BL (u := .agg _) (y := (f.getD k default : Vc.Item)) rfl rfl underlying40 Aa η j (fun _ => η) η ξ (τ) (τ) ω ?_)))))
 intro q_v17 v17 w18 E18 hov17 hlv17
 have bB := E18.size
 replace J := AP J E18 (fun g U => .inl (by first | exact (j.block U).1 | (have := j.block U; omega)))
 refine Zn (AR (v := v17) rfl η) (AX (AX (AB (Zo Br (Zn AU (Zg (k + 1) ?_))))))
 refine ⟨_, σ, rfl, δ, (by rw [FR ω]; first | (rw [Cr κ]; have h8 : r = [] := Classical.not_not.1 κ; rw [h8, Em, List.append_nil] at hacc; rw [← hacc]; exact R) | (rw [Cr κ]; exact hov17) | (rw [Gs (by first | exact .inl κ | exact .inr (.inl κ) | exact .inr (.inr (.inl κ)) | exact .inr (.inr (.inr κ)))]; exact hov17) | (rw [FV κ κ κ κ κ, List.append_nil]; exact hov17)), δ, J⟩
 refine AB (Zo DA (Zn BV (AH η (fun bf => ?_) (fun bf => ?_))))
 refine AB (Zo (AN (v := vo) rfl η) (Zo (AL rfl CP AY η rfl B8.at) (BL (u := .agg _) (y := (f.getD k default : Vc.Item)) rfl rfl underlying40 Aa η j (fun _ => η) η ξ (τ) (τ) ω ?_)))
 intro q_v20 v20 w21 E21 hov20 hlv20
 have bF := E21.size
 replace J := AP J E21 (fun g U => .inl (by first | exact (j.block U).1 | (have := j.block U; omega)))
 refine Zn (AR (v := v20) rfl η) (AX (AX (AB (Zo Br (Zn AU (Zg (k + 1) ?_))))))
 refine ⟨_, σ, rfl, δ, (by rw [FR ω]; first | (rw [Cr κ]; have h8 : r = [] := Classical.not_not.1 κ; rw [h8, Em, List.append_nil] at hacc; rw [← hacc]; exact R) | (rw [Cr κ]; exact hov20) | (rw [Gs (by first | exact .inl κ | exact .inr (.inl κ) | exact .inr (.inr (.inl κ)) | exact .inr (.inr (.inr κ)))]; exact hov20) | (rw [FV κ κ κ κ κ, List.append_nil]; exact hov20)), δ, J⟩
 refine Zs (Zo DA (Zn BV (AH η (fun bl => ?_) (fun bl => ?_))))
 refine Zs (Zo (AD rfl η Bp) (Zo (AA rfl BX η (B8.at.cell 1 η)) (Zn Fa (AK (Aq (α := Ac) [3, 6, 7, 8, 30, 31, 32, 33, 34, 35, 36, 37, 38, 39, 40, 41, 42, 43, 44, 45, 46, 47] (fun r g w => ∃ az : Value, ∃ l : List Vc.Item, g 6 = S r ∧ g 3 = az ∧ OwnE w w0.heap.size 111 az l ∧ l ++ Jl r = Cp (f.take k) ++ Jl (f.getD k default).text ∧ r.length ≤ (f.getD k default).text.length ∧ w9.heap.size ≤ w.heap.size ∧ Evo w0 w []) (fun r => r.length) (f.getD k default).text ?_ ?_)))))
 refine ⟨_, _, rfl, rfl, j, rfl, (Nat.le_refl _), δ, J⟩
 rintro r g b3 ⟨az, l, hj25, hj26, R, hacc, hrl, hzl23, J⟩
 have bb := J.size
 refine Zk 6 hj25 (Zk 3 hj26 ?_)
 have bs := congrArg List.length hacc
 rw [List.length_append, List.length_append] at bs
 refine AE (Zs (Zo Ca (Zn (Ds rfl η η) (AH η (fun a_ => ?_) (fun a_ => ?_)))))
 refine AJ (AK (AE ?_))
 have au : ¬ r = [] := a_; have bx := YR au; have b2 := KT r; have b0 := VA au
 refine AB (Zo Ca (Zr [S _] rfl η func35 (Sp ω ω) ?_))
 rintro e b4 ⟨rfl, F28⟩
 refine ⟨_, rfl, ?_⟩
 have bL := F28.size
 replace J := Z0 J F28
 replace R := R.evo0 F28
 refine Zo PW (Zo (AI (v := .int _ _) rfl η η) (Zo (AI (v := .int _ _) rfl η η) (Zo Am (Zn Am (Zs (Zo (AN (v := az) rfl η) (Zo AU (Zo Ca (Zo AU ?_)))))))))
 refine Zo (by exact GP (0) ((Du r).2) rfl underlying9 η cx (W5 η ω) τ τ) (Zo (A2 (pv := [(0, .int _ _), (1, S _)]) (zs := [_, _, _]) (cells := [_, _, _]) rfl Aa η HU η η) (BL (u := .agg _) (y := (⟨(Du r).1, r.take (Du r).2, 0⟩ : Vc.Item)) rfl rfl underlying40 Aa η R (fun _ => η) η ξ (τ) (τ) ω ?_))
 intro q_v29 v29 w30 E30 hov29 hlv29
 have bM := E30.size
 replace J := AP J E30 (fun g U => .inl (by first | exact (R.block U).1 | (have := R.block U; omega)))
 refine Zn (AR (v := v29) rfl η) (AB (Zo Ca (Zo AU (Zo (by exact GP ((Du r).2) (_) rfl underlying9 η (W5 η ω) Zp τ τ) (Zn Fa (AX (DN (r.drop (Du r).2) ?_ ?_ ?_)))))))
 rw [List.length_drop]; have := VA au; omega
 refine ⟨_, _, (congrArg S (List.take_of_length_le (by rw [List.length_drop]; exact Nat.le_refl _))), rfl, hov29, (YF (p := ((Du r).1, (Du r).2)) rfl hacc au), (by rw [List.length_drop]; omega), δ, J⟩
 exact ψ
 refine Ak rfl (AX (AX (AB (Zo Br (Zn AU (Zg (k + 1) ?_))))))
 refine ⟨_, σ, rfl, δ, (by rw [FR ω]; first | (rw [Cr κ]; have h8 : r = [] := Classical.not_not.1 κ; rw [h8, Em, List.append_nil] at hacc; rw [← hacc]; exact R) | (rw [Cr κ]; exact R) | (rw [Gs (by first | exact .inl κ | exact .inr (.inl κ) | exact .inr (.inr (.inl κ)) | exact .inr (.inr (.inr κ)))]; exact R) | (rw [FV κ κ κ κ κ, List.append_nil]; exact R)), δ, J⟩
 refine AJ (AX (AX (AB (Zo Br (Zn AU (Zg (k + 1) ?_))))))
 refine ⟨_, σ, rfl, δ, (by rw [FR ω]; first | (rw [Cr κ]; have h8 : r = [] := Classical.not_not.1 κ; rw [h8, Em, List.append_nil] at hacc; rw [← hacc]; exact R) | (rw [Cr κ]; exact j) | (rw [Gs (by first | exact .inl κ | exact .inr (.inl κ) | exact .inr (.inr (.inl κ)) | exact .inr (.inr (.inr κ)))]; exact j) | (rw [FV κ κ κ κ κ, List.append_nil]; exact j)), δ, J⟩
 refine Ak rfl (Zs (Zo (AN (v := vo) rfl η) (Zn (AR (v := vo) rfl η) (AM (C8 (v := vo) rfl η) ?_))))
 exact ⟨_, rfl, J, by rw [List.take_of_length_le ω] at j; exact j⟩
def IX (x : Vc.Item) : Ac := if x.kind = 6 then Ju x.text else x.text
theorem YY {x : Vc.Item} (h : x.kind = 6) : IX x = Ju x.text := if_pos h
theorem ZU {x : Vc.Item} (h : ¬ x.kind = 6) : IX x = x.text := if_neg h
theorem Db {x : Vc.Item} {R : World} (hx : x.text.length ≤ 140737488355328) :
    Calls Tryz.prog 147 #[.agg (Enc.enc x).toArray] R fun e w' => e = .returned (S (IX x)) ∧ Evo R w' [] := by
 refine AG (n := 11) func147 rfl ntmps147 rfl ?_
 have J : Evo R R [] := Evo.refl _ _
 refine Zs (CE (vs := [_, _, _]) η η rfl ?_)
 intro b1 w2 J1 E2 B1 Y1
 have U := E2.size
 replace J := Z0 J E2
 refine Zn Fa (AE (Zs (Zo (AD rfl η Ba) (Zo (AA rfl Ae η (B1.at.cell 0 η)) (Zn DA (AH η (fun j => ?_) (fun j => ?_)))))))
 refine Zs (Zo (AD rfl η Fq) (Zo (AA rfl BX η (B1.at.cell 1 η)) (Zr [S _] rfl η func206 (Sj τ) ?_)))
 rintro e w4 ⟨rfl, F4⟩
 refine ⟨_, rfl, ?_⟩
 have Q4 := F4.size
 replace J := Z0 J F4
 refine Zn Fa (AM (C8 (v := S _) rfl η) ?_)
 exact ⟨Ui (by rw [YY j]), J⟩
 refine AJ (Zs (Zo (AD rfl η Fq) (Zo (AA rfl BX η (B1.at.cell 1 η)) (Zn Fa (AM (C8 (v := S _) rfl η) ?_)))))
 exact ⟨Ui (by rw [ZU j]), J⟩
theorem CO : A8 Tryz.prog 71 2 = some 2 := ζ
theorem GQ {x : Vc.Item} {J : World}  :
    Calls Tryz.prog 131 #[.agg (Enc.enc x).toArray] J fun e w' => e = .returned (.bool (Bh x)) ∧ Evo J w' [] := by
 refine AG (n := 16) func131 rfl ntmps131 rfl ?_
 have R : Evo J J [] := Evo.refl _ _
 refine Zs (CE (vs := [_, _, _]) η η rfl ?_)
 intro b1 w2 J1 E2 B1 Y1
 have U := E2.size
 replace R := Z0 R E2
 refine Zn BV (Zs (Zo (AD rfl η CG) (Zo (AA rfl Ae η (B1.at.cell 0 η)) (Zo DA (Zo Cb ?_)))))
 refine Aj rfl BQ rfl (fun j => AD rfl η CG) ?_
 refine Aj rfl BQ rfl (fun j => AA rfl Ae (Ar j) (B1.at.cell 0 η)) ?_
 refine Aj rfl BQ rfl (fun j => BK rfl (Ar j) η) ?_
 refine Zo FW (Zo Cb ?_)
 refine Aj rfl BQ rfl (fun j => AD rfl η CG) ?_
 refine Aj rfl BQ rfl (fun j => AA rfl Ae (Ar j) (B1.at.cell 0 η)) ?_
 refine Aj rfl BQ rfl (fun j => BK rfl (Ar j) η) ?_
 refine Zo FW (Zn BV (AM G7 ?_))
 exact ⟨Bn (by rw [Bool.eq_iff_iff, decide_eq_true_iff, Gg]), R⟩
theorem Jm {x : Vc.Item} {J : World}  :
    Calls Tryz.prog 144 #[.agg (Enc.enc x).toArray] J fun e w' => e = .returned (.bool (Bh x)) ∧ Evo J w' [] := by
 refine AG (n := 16) func144 rfl ntmps144 rfl ?_
 have R : Evo J J [] := Evo.refl _ _
 refine Zs (CE (vs := [_, _, _]) η η rfl ?_)
 intro b1 w2 J1 E2 B1 Y1
 have U := E2.size
 replace R := Z0 R E2
 refine Zn BV (Zs (Zo (AD rfl η CG) (Zo (AA rfl Ae η (B1.at.cell 0 η)) (Zo DA (Zo Cb ?_)))))
 refine Aj rfl BQ rfl (fun j => AD rfl η CG) ?_
 refine Aj rfl BQ rfl (fun j => AA rfl Ae (Ar j) (B1.at.cell 0 η)) ?_
 refine Aj rfl BQ rfl (fun j => BK rfl (Ar j) η) ?_
 refine Zo FW (Zo Cb ?_)
 refine Aj rfl BQ rfl (fun j => AD rfl η CG) ?_
 refine Aj rfl BQ rfl (fun j => AA rfl Ae (Ar j) (B1.at.cell 0 η)) ?_
 refine Aj rfl BQ rfl (fun j => BK rfl (Ar j) η) ?_
 refine Zo FW (Zn BV (AM G7 ?_))
 exact ⟨Bn (by rw [Bool.eq_iff_iff, decide_eq_true_iff, Gg]), R⟩
theorem Se {x : Vc.Item} {R : World}  :
    Calls Tryz.prog 116 #[.agg (Enc.enc x).toArray] R fun e w' => e = .returned (.int .i64 (Ex x)) ∧ Evo R w' [] := by
 refine AG (n := 9) func116 rfl ntmps116 rfl ?_
 have J : Evo R R [] := Evo.refl _ _
 refine Zs (CE (vs := [_, _, _]) η η rfl ?_)
 intro b1 w2 J1 E2 B1 Y1
 have U := E2.size
 replace J := Z0 J E2
 refine Zn Am (AE (Zs (Zo (AD rfl η CG) (Zo (AA rfl Ae η (B1.at.cell 0 η)) (Zn DA (AH η (fun j => ?_) (fun j => ?_)))))))
 refine Zs (Zo (AD rfl η Bp) (Zo (AA rfl BX η (B1.at.cell 1 η)) (Zo (Bz rfl η underlying9) (Zn Am (AM C3 ?_)))))
 exact ⟨by unfold Ex; rw [if_pos j], J⟩
 refine AJ (Zs (Zn Am (AM C3 ?_)))
 exact ⟨by unfold Ex; rw [if_neg j], J⟩
theorem QH {ao : Option Addr} {b off cap : Nat} {f : List Vc.Item} {J : World} (hf : RowE J ao b off cap f) (az : Small f) :
    Calls Tryz.prog 55 #[.slice ao f.length cap] J fun e w' => e = .returned (.int .i64 (DP f)) ∧ Evo J w' [] := by
 obtain ⟨bc, bf⟩ := az
 refine AG (n := 18) func55 rfl ntmps55 rfl ?_
 have j : Evo J J [] := Evo.refl _ _
 have U := A9 hf
 have ag := hf.bd
 refine Zs (Zn Am (Zs (Zn Am (AE (Zs (Zo Bi (Zo (AQ rfl η underlying33) (Zn AU (AK ?_)))))))))
 refine Aq (α := Nat) [3, 5, 8, 9, 10, 11, 12, 13, 14, 15, 16] (fun k g w => g 8 = .int .i64 (k : Nat) ∧ g 3 = .int .i64 (DP (f.take k)) ∧ k ≤ f.length ∧ J.heap.size ≤ w.heap.size ∧ Evo J w []) (fun k => f.length - k) 0 ?_ ?_
 refine ⟨σ, η, δ, δ, j⟩
 rintro k g w2 ⟨au, hj4, hk_k, hzl1, j⟩
 have af := j.size
 refine Zk 8 au (Zk 3 hj4 (Zs (Zn Dn (AE (AH η (fun al => ?_) (fun al => ?_))))))
 refine AJ (AE (AK (Zs (Zo (Ab (k) rfl underlying33 AY η η χ ω ((U _ j).addr (i := k) ω)) ?_))))
 have R := fun (w' : World) (h : Evo J w' []) => (U w' h).atD (k) ω
 refine Zo (AL rfl CP AY η rfl (R _ j)) (Bq (zs := [_, _, _]) (vs := [_, _, _]) AY η rfl η (fun _ => rfl) η rfl rfl η ?_)
 intro b7 w8 J7 E8 B7 Y7
 have Q8 := E8.size
 replace j := Z0 j E8
 refine Ag ?_
 have aT := NB (f.take k); have a1 := DX f k; have a_ := Xz (f.getD k default); have ba := El f k; have bb : (f.take k).length ≤ f.length := by rw [List.length_take]; omega
 refine AB (Zo AU (Zo (AL rfl CP AY η rfl B7.at) (Zr [.agg _] rfl η func116 Se ?_)))
 rintro e w9 ⟨rfl, F9⟩
 refine ⟨_, rfl, ?_⟩
 have Q9 := F9.size
 replace j := Z0 j F9
 refine Zo Br (Zn Am (AX (AB (Zo Br (Zn AU (Zg (k + 1) ?_))))))
 refine ⟨σ, (congrArg (Value.int _) (by first | (rw [HV f k ω]; done) | (rw [HV f k ω]; unfold Ex; rw [if_pos κ]) | (rw [HV f k ω]; unfold Ex; rw [if_neg κ]))), δ, δ, j⟩
 refine Ak rfl (Zs (Zo AU (Zn Am (AM C3 ?_))))
 exact ⟨A3 (by rw [List.take_of_length_le ω]), j⟩
theorem TR {ao : Option Addr} {b off cap : Nat} {f : List Vc.Item} {x : Vc.Item} {w0 : World} (hf : RowE w0 ao b off cap f) (bc : Small f) :
    Calls Tryz.prog 132 #[.slice ao f.length cap, .agg (Enc.enc x).toArray] w0 fun e w' => e = .returned (.bool (!(f.any (Fz x)))) ∧ Evo w0 w' [] := by
 obtain ⟨bq, br⟩ := bc
 refine AG (n := 40) func132 rfl ntmps132 rfl ?_
 have U : Evo w0 w0 [] := Evo.refl _ _
 have al := A9 hf
 have aT := hf.bd
 refine Zs (CE (vs := [_, _, _]) η η rfl ?_)
 intro b1 w2 J1 E2 B1 Y1
 have Q2 := E2.size
 replace U := Z0 U E2
 replace hf := al _ U
 refine Zn BV (AE (Zs (Zo Bi (Zo (AQ rfl η underlying33) (Zn AU (AK (Aq (α := Nat) [4, 6, 9, 10, 11, 12, 13, 14, 15, 16, 17, 18, 19, 20, 21, 22, 23, 24, 25, 26, 27, 28, 29, 30, 31, 32, 33, 34, 35, 36, 37, 38, 39] (fun k g w => g 9 = .int .i64 (k : Nat) ∧ k ≤ f.length ∧ Blk w b1 71 [.int .i64 x.kind, S x.text, .int .i64 x.id] ∧ (∀ j, j < k → Fz x (f.getD j default) = false) ∧ w2.heap.size ≤ w.heap.size ∧ Evo w0 w []) (fun k => f.length - k) 0 ?_ ?_)))))))
 refine ⟨σ, δ, B1, (fun j h1 => by omega), δ, U⟩
 rintro k g w4 ⟨ba, hk_k, B1, hall, hzl3, U⟩
 have aS := U.size
 have bf := B1.lt
 refine Zk 9 ba (Zs (Zn Dn (AE (AH η (fun a1 => ?_) (fun a1 => ?_)))))
 refine AJ (AE (AK (Zs (Zo (Ab (k) rfl underlying33 AY η η χ ω ((al _ U).addr (i := k) ω)) ?_))))
 have az := fun (w' : World) (h : Evo w0 w' []) => (al w' h).atD (k) ω
 refine Zo (AL rfl CP AY η rfl (az _ U)) (Bq (zs := [_, _, _]) (vs := [_, _, _]) AY η rfl η (fun _ => rfl) η rfl rfl η ?_)
 intro b9 w10 J9 E10 B9 Y9
 have bl := E10.size
 replace U := Z0 U E10
 replace B1 := B1.evo0 E10
 refine Ag (AE (AE ?_))
 have bo := El f k
 refine AB (Zo (AL rfl CP AY η rfl B9.at) (Zr [.agg _] rfl η func131 GQ ?_))
 rintro e bt ⟨rfl, F11⟩
 refine ⟨_, rfl, ?_⟩
 have bm := F11.size
 replace U := Z0 U F11
 replace B1 := B1.evo0 F11
 replace B9 := B9.evo0 F11
 refine Zo (Fh rfl η) (Zo (Cc rfl η) ?_)
 refine Aj rfl BQ rfl (fun J => AD rfl η CO) ?_
 refine Aj rfl BQ rfl (fun J => AA rfl Ae (Ar J) (B9.at.cell 2 η)) ?_
 refine Aj rfl BQ rfl (fun J => AD rfl η CO) ?_
 refine Aj rfl BQ rfl (fun J => AA rfl Ae (Ar J) (B1.at.cell 2 η)) ?_
 refine Aj rfl BQ rfl (fun J => BP rfl (Ar J) (Ar J)) ?_
 refine Zn FW (AH η (fun ag => ?_) (fun ag => ?_))
 refine Ak rfl (AB (Zo Br (Zn AU (Zg (k + 1) ?_))))
 refine ⟨σ, δ, B1, (KR hall (by first | exact Pf ag | exact Oy ag)), δ, U⟩
 refine AJ (AE (Bt ζ ζ (Zq (fun w' R => AD rfl η CG) (Zq (fun w' R => AA rfl Ae η ((B1.at.evo0 R).cell 0 η)) (Zq (fun w' R => BP rfl η η) (Zq (fun w' R => Cb) ?_))))))
 refine GA rfl BQ rfl (fun J w' R => AD rfl η CG) ?_
 refine GA rfl BQ rfl (fun J w' R => AA rfl Ae (Ar J) ((B9.at.evo0 R).cell 0 η)) ?_
 refine GA rfl BQ rfl (fun J w' R => BP rfl (Ar J) η) ?_
 refine Zq (fun w' R => C4 rfl η rfl (fun hq => OR η (fun h => h) hq)) ?_
 refine Zq (fun w' R => Cb) ?_
 refine GA rfl BQ rfl (fun J w' R => AD rfl η Bp) ?_
 refine GA rfl BQ rfl (fun J w' R => AA rfl BX (Ar J) ((B9.at.evo0 R).cell 1 η)) ?_
 refine MZ rfl BQ rfl (fun J w' R => BN rfl (BU (v := S _) (Ar J) (rfl)) func195 rfl ζ) (fun J w' R => (UH ω).mono (fun e bs h => ⟨h.1, CB R h.2⟩)) ?_
 refine GA rfl BQ rfl (fun J w' R => AD rfl η Bp) ?_
 refine GA rfl BQ rfl (fun J w' R => AA rfl BX (Ar J) ((B1.at.evo0 R).cell 1 η)) ?_
 refine GA rfl BQ rfl (fun J w' R => Ds rfl (Ar J) (Ar J)) ?_
 refine Zq (fun w' R => C4 rfl η rfl (fun hq => OR η (fun h => h) hq)) ?_
 refine EV (fun bx F14 => ?_)
 have bn := F14.size
 replace U := Z0 U F14
 replace B1 := B1.evo0 F14
 refine AH η (fun af => ?_) (fun af => ?_)
 refine Zs (Zn BV (AM G7 ?_))
 exact ⟨Bn (by rw [cB (d := default) k ω (Wb κ af)]; rfl), U⟩
 refine AJ (AX (AB (Zo Br (Zn AU (Zg (k + 1) ?_)))))
 refine ⟨σ, δ, B1, (KR hall (by first | exact Pf af | exact Oy af)), δ, U⟩
 refine Ak rfl (Zs (Zn BV (AM G7 ?_)))
 exact ⟨Bn (by rw [eK (d := default) (fun j hj => hall j ω)]; rfl), U⟩
theorem LS {ao : Option Addr} {b off cap : Nat} {f : List Vc.Item} {i : Nat} {U : World} (hf : RowE U ao b off cap f) (hi : i < f.length) :
    Calls Tryz.prog 130 #[.slice ao f.length cap, .int .i64 (i : Nat)] U fun e w' => e = .returned (.bool (Bx (f.take i) (f.getD i default))) ∧ Evo U w' [] := by
 refine AG (n := 76) func130 rfl ntmps130 rfl ?_
 have J : Evo U U [] := Evo.refl _ _
 have R := A9 hf
 have au := hf.bd
 refine Zs (Zn BV (Zs (Zo Bi (Zo AU (Zo (Ab (i) rfl underlying33 AY η η χ ω (hf.addr (i := i) ω)) ?_)))))
 have af := fun (w' : World) (h : Evo U w' []) => (R w' h).atD (i) ω
 refine Zo (AL rfl CP AY η rfl (af _ J)) (Bq (zs := [_, _, _]) (vs := [_, _, _]) AY η rfl η (fun _ => rfl) η rfl rfl η ?_)
 intro b2 w3 J2 E3 B2 Y2
 have Q3 := E3.size
 replace J := Z0 J E3
 refine Ag (AE (Zs (Zo (AD rfl η CG) (Zn (AA rfl Ae η (B2.at.cell 0 η)) (AK (Zs (Zo DA (Zn BV (AH η (fun az => ?_) (fun az => ?_))))))))))
 refine Zs (Zo (AD rfl η Bp) (Zo (AA rfl BX η (B2.at.cell 1 η)) (Zo (Ds rfl η η) (Zo Cb ?_))))
 refine Aj rfl BW rfl (fun j => AD rfl η CO) ?_
 refine Aj rfl BW rfl (fun j => AA rfl Ae (Ar j) (B2.at.cell 2 η)) ?_
 refine Aj rfl BW rfl (fun j => BK rfl (Ar j) η) ?_
 refine Zo Ht (Zo Cb ?_)
 refine Aj rfl BW rfl (fun j => AU) ?_
 refine Aj rfl BW rfl (fun j => BK rfl (Ar j) η) ?_
 refine Aj rfl BW rfl (fun j => AN (v := .bool _) rfl (Ar j)) ?_
 refine Aj rfl (DU η) rfl (fun j => Bi) ?_
 refine Aj rfl (DU η) rfl (fun j => AU) ?_
 refine Aj rfl (DU η) rfl (fun j => FK rfl (Ar j) η ω ω) ?_
 refine Aj rfl (DU η) rfl (fun j => Ab ((i - 1)) rfl underlying33 AY (Ar j) (Ar j) ω ω ((R _ J).addr (i := (i - 1)) ω)) ?_
 refine Aj rfl (DU η) rfl (fun j => AD rfl (Ar j) CG) ?_
 refine Aj rfl (DU η) rfl (fun j => AA rfl Ae (Ar j) (((R _ J).atD ((i - 1)) ω).cell 0 η)) ?_
 refine Aj rfl (DU η) rfl (fun j => BP rfl (Ar j) η) ?_
 refine Aj rfl BW rfl (fun j => C4 rfl (Ar j) rfl (fun hq => OR η (fun h => h) (And.intro j hq))) ?_
 refine Zo Ht (Zn BV (AM G7 ?_))
 exact ⟨Bn (by rw [Bool.eq_iff_iff, decide_eq_true_iff, SY hi κ]), J⟩
 refine Zs (Zo DA (Zn BV (AH η (fun aS => ?_) (fun aS => ?_))))
 refine Zs (Zo (AD rfl η Bp) (Zo (AA rfl BX η (B2.at.cell 1 η)) (Zr [S _] rfl η func72 ES ?_)))
 rintro e w6 ⟨rfl, F6⟩
 refine ⟨_, rfl, ?_⟩
 have Q6 := F6.size
 replace J := Z0 J F6
 replace B2 := B2.evo0 F6
 refine Zo (Cc rfl η) ?_
 refine Aj rfl BW rfl (fun j => AD rfl η CO) ?_
 refine Aj rfl BW rfl (fun j => AA rfl Ae (Ar j) (B2.at.cell 2 η)) ?_
 refine Aj rfl BW rfl (fun j => BK rfl (Ar j) η) ?_
 refine Zo Ht (Zn BV (AM G7 ?_))
 exact ⟨Bn (by rw [Bool.eq_iff_iff, decide_eq_true_iff, Lc κ]), J⟩
 refine AE (Zs (Zo DA (Zn BV (AH η (fun al => ?_) (fun al => ?_)))))
 refine AJ (Dy η al (Zs (Zo (AD rfl η Bp) (Zo (AA rfl BX η (B2.at.cell 1 η)) (Zr [S _] rfl η func194 KY ?_)))))
 rintro e w8 ⟨rfl, F8⟩
 refine ⟨_, rfl, ?_⟩
 have Q8 := F8.size
 replace J := Z0 J F8
 replace B2 := B2.evo0 F8
 refine Zo (Cc rfl η) ?_
 refine Aj rfl BW rfl (fun j => AD rfl η CO) ?_
 refine Aj rfl BW rfl (fun j => AA rfl Ae (Ar j) (B2.at.cell 2 η)) ?_
 refine Aj rfl BW rfl (fun j => CV rfl (Ar j) η) ?_
 refine Zo Ht (Zo Cb ?_)
 refine Aj rfl BW rfl (fun j => AD rfl η CO) ?_
 refine Aj rfl BW rfl (fun j => AA rfl Ae (Ar j) (B2.at.cell 2 η)) ?_
 refine Aj rfl BW rfl (fun j => Dx rfl (Ar j) η) ?_
 refine Zo Ht (Zn BV (AM G7 ?_))
 exact ⟨Bn (by rw [Bool.eq_iff_iff, decide_eq_true_iff, C5 (.inl κ)]), J⟩
 refine AB (Zo DA (Zn BV (AH η (fun aT => ?_) (fun aT => ?_))))
 refine Zs (Zo (AD rfl η Bp) (Zo (AA rfl BX η (B2.at.cell 1 η)) (Zr [S _] rfl η func194 KY ?_)))
 rintro e bf ⟨rfl, F10⟩
 refine ⟨_, rfl, ?_⟩
 have a_ := F10.size
 replace J := Z0 J F10
 replace B2 := B2.evo0 F10
 refine Zo (Cc rfl η) ?_
 refine Aj rfl BW rfl (fun j => AD rfl η CO) ?_
 refine Aj rfl BW rfl (fun j => AA rfl Ae (Ar j) (B2.at.cell 2 η)) ?_
 refine Aj rfl BW rfl (fun j => CV rfl (Ar j) η) ?_
 refine Zo Ht (Zo Cb ?_)
 refine Aj rfl BW rfl (fun j => AD rfl η CO) ?_
 refine Aj rfl BW rfl (fun j => AA rfl Ae (Ar j) (B2.at.cell 2 η)) ?_
 refine Aj rfl BW rfl (fun j => Dx rfl (Ar j) η) ?_
 refine Zo Ht (Zn BV (AM G7 ?_))
 exact ⟨Bn (by rw [Bool.eq_iff_iff, decide_eq_true_iff, C5 (.inr κ)]), J⟩
 refine Zs (Zo DA (Zn BV (AH η (fun ag => ?_) (fun ag => ?_))))
 refine Zs (Zo (AD rfl η Bp) (Zo (AA rfl BX η (B2.at.cell 1 η)) (Zr [S _] rfl η func72 ES ?_)))
 rintro e bl ⟨rfl, F12⟩
 refine ⟨_, rfl, ?_⟩
 have ba := F12.size
 replace J := Z0 J F12
 replace B2 := B2.evo0 F12
 refine Zo (Cc rfl η) ?_
 refine Aj rfl BW rfl (fun j => AD rfl η CO) ?_
 refine Aj rfl BW rfl (fun j => AA rfl Ae (Ar j) (B2.at.cell 2 η)) ?_
 refine Aj rfl BW rfl (fun j => CV rfl (Ar j) η) ?_
 refine Zo Ht (Zo Cb ?_)
 refine Aj rfl BW rfl (fun j => AD rfl η CO) ?_
 refine Aj rfl BW rfl (fun j => AA rfl Ae (Ar j) (B2.at.cell 2 η)) ?_
 refine Aj rfl BW rfl (fun j => Dx rfl (Ar j) η) ?_
 refine Zo Ht (Zn BV (AM G7 ?_))
 exact ⟨Bn (by rw [Bool.eq_iff_iff, decide_eq_true_iff, EL κ]), J⟩
 refine AJ (AX (Zs (Zn BV (AM G7 ?_))))
 exact ⟨Bn (by rw [Qy κ κ κ κ κ]), J⟩
theorem Es : Cy Tryz.prog 9 = some (1, 16, some (.string ⟨#[]⟩)) := ζ
theorem Dw {ao : Option Addr} {b off cap : Nat} {f : List Vc.Item} {w0 : World} (hf : RowE w0 ao b off cap f) (bb : Small f) :
    Calls Tryz.prog 69 #[.slice ao f.length cap] w0 fun e w' => e = .returned (.int .i64 (D7 f)) ∧ Evo w0 w' [] := by
 have bz := bb.1; have bA := bb.2
 refine AG (n := 35) func69 rfl ntmps69 rfl ?_
 have j : Evo w0 w0 [] := Evo.refl _ _
 have af := A9 hf
 have bc := hf.bd
 refine Zs (Zn Am (AE (Zs (Zo Bi (Zo (AQ rfl η underlying33) (Zo Ve (Zo Cb ?_)))))))
 refine Aj rfl BQ rfl (fun U => Bi) ?_
 refine Dg rfl BQ rfl (fun U => BN rfl (BU (v := .slice _ _ _) (Ar U) (rfl)) func55 rfl ζ) (fun U => (QH hf κ).mono (fun e w' h => ⟨h.1, h.2⟩)) (fun w1 F2 => ?_)
 have Q1 := F2.size
 replace j := Z0 j F2
 replace hf := af _ j
 refine Aj rfl BQ rfl (fun U => C6 rfl (Ar U) η) ?_
 refine Zn FW (AH η (fun bl => ?_) (fun bl => ?_))
 refine Zs (Zn Am (AM C3 ?_))
 exact ⟨A3 (by rw [WG κ]), j⟩
 refine AJ (AE (Zs (Zo Bi (Zo (AQ rfl η underlying33) (Zn AU (AK (Aq (α := Nat) [2, 3, 4, 15, 16, 17, 18, 19, 20, 21, 22, 23, 24, 25, 26, 27, 28, 29, 30, 31, 32, 33, 34] (fun k g w => g 15 = .int .i64 (k : Nat) ∧ k ≤ f.length ∧ D7 f = Bo (f.take k) (f.drop k) ∧ w1.heap.size ≤ w.heap.size ∧ Evo w0 w []) (fun k => f.length - k) 0 ?_ ?_)))))))
 refine ⟨σ, δ, (by rw [Pk ω]; rfl), δ, j⟩
 rintro k g w5 ⟨bn, hk_k, hv, hzl4, j⟩
 have ba := j.size
 refine Zk 15 bn (Zs (Zn Dn (AE (AH η (fun bm => ?_) (fun bm => ?_)))))
 refine AJ (AE (AK (Zs (Zo AU (Zo (Ab (k) rfl underlying33 AY η η χ ω ((af _ j).addr (i := k) ω)) ?_)))))
 have a_ := fun (w' : World) (h : Evo w0 w' []) => (af w' h).atD (k) ω
 refine Zo (AL rfl CP AY η rfl (a_ _ j)) (CU (zs := [_, _, _]) AY η rfl ?_)
 intro b9 w10 J9 E10 B9 Y9
 have bq := E10.size
 replace j := Z0 j E10
 refine Zo Am (Ai (v := .agg _) (vs := [_, _, _]) (cs' := [_, _, _]) η η B9 AY η rfl η rfl η ?_)
 intro w11 E11 V11 hb_new
 have br := E11.size
 replace j := Z1 j E11 ε
 replace hf := af _ j
 replace B9 := hb_new
 clear hb_new
 refine Ag (AE (Zs (Zo Bi (Zo AU (Zr [.slice _ _ _, .int _ _] rfl η func130 (LS hf ω) ?_)))))
 rintro e bF ⟨rfl, F12⟩
 refine ⟨_, rfl, ?_⟩
 have bs := F12.size
 replace j := Z0 j F12
 replace B9 := B9.evo0 F12
 refine Zn (Fh rfl η) (JB η (fun al => ?_) (fun al => ?_))
 have ag : ¬ Bx (f.take k) (f.getD k default) = true := by simpa using al
 refine Zs (Zn Am (AM C3 ?_))
 exact ⟨A3 (by rw [hv, XA ω (by rw [PA ag]; decide), PA ag]), j⟩
 have ag : Bx (f.take k) (f.getD k default) = true := by simpa using al
 refine AJ (AE (Bt ζ ζ (Zq (fun w' R => AL rfl CP AY η rfl (B9.at.evo0 R)) (Je rfl rfl rfl (fun w' R => BN rfl (BU (v := .agg _) η (rfl)) func131 rfl ζ) (fun w' R => (GQ ).mono (fun e bo h => ⟨h.1, CB R h.2⟩)) (Zq (fun w' R => Cc rfl η) ?_)))))
 refine GA rfl BW rfl (fun U w' R => Bi) ?_
 refine GA rfl BW rfl (fun U w' R => AU) ?_
 refine GA rfl BW rfl (fun U w' R => P1 (0) (k) rfl underlying33 AY (Ar U) ((af _ j).evo0 R) cx (W5 (Ar U) ω) τ τ List.drop_zero) ?_
 have bf := fun (w' : World) (h : Evo w0 w' []) => (by have h9 := ((af w' h).take (k)).drop (0); rw [List.drop_zero] at h9; exact h9)
 have au := (by have h9 := ((af _ j).take (k)).drop (0); rw [List.drop_zero] at h9; exact h9)
 have aS := au.bd
 refine GA rfl BW rfl (fun U w' R => AL rfl CP AY η rfl (B9.at.evo0 R)) ?_
 refine MZ rfl BW rfl (fun U w' R => BN rfl (BU (v := .slice _ _ _) (Ar U) (BU (v := .agg _) (Ar U) (rfl))) func132 rfl ζ) (fun U w' R => (TR (au.evo0 R) (by first | assumption | exact UC κ _)).mono (fun e bo h => ⟨h.1, CB R h.2⟩)) ?_
 refine GA rfl BW rfl (fun U w' R => Fh rfl (Ar U)) ?_
 refine Zq (fun w' R => Cw rfl η (fun hq => OR η (fun h => h) hq) rfl) ?_
 refine EV (fun bL F16 => ?_)
 have bt := F16.size
 replace j := Z0 j F16
 refine AH η (fun J => ?_) (fun J => ?_)
 refine Zs (Zn Am (AM C3 ?_))
 exact ⟨A3 (by rw [hv, XA ω (by rw [Kv ag J.1 (by simpa using J.2)]; decide), Kv ag J.1 (by simpa using J.2)]), j⟩
 refine AJ (AX (AB (Zo Br (Zn AU (Zg (k + 1) ?_)))))
 refine ⟨σ, δ, (by rw [hv, c7 ω (Hv ag (by simpa using J))]), δ, j⟩
 refine Ak rfl (Zs (Zn Am (AM C3 ?_)))
 exact ⟨A3 (by rw [hv, bu ω]), j⟩
def KF : List Vc.Item := [⟨2, [98], 1⟩, ⟨1, [97, 98], 0⟩, ⟨3, [98], 1⟩]
theorem Eu : Cn Tryz.prog 71 = some [(0, 1), (1, 1), (2, 1)] := ζ
theorem MB {ao : Option Addr} {b off cap : Nat} {f : List Vc.Item} {w0 : World} (hf : RowE w0 ao b off cap f) (bm : Small f) :
    Calls Tryz.prog 115 #[.slice ao f.length cap] w0 fun e w' => ∃ v, e = .returned v ∧ Evo w0 w' [] ∧ OwnE w' w0.heap.size 71 v (Bf f) := by
 have b4 := bm.1; have b5 := bm.2
 refine AG (n := 56) func115 rfl ntmps115 rfl ?_
 have J : Evo w0 w0 [] := Evo.refl _ _
 have U := A9 hf
 have bt := hf.bd
 refine Zs (Zn Ew (Zs (Zn Ew (AE (Zs (Zn Am (AK (Aq (α := Nat) [3, 4, 5, 6, 7, 8, 9, 10, 11, 12, 13, 14, 15, 16, 17, 18, 19, 20, 21, 22, 23, 24, 25, 26, 27, 28, 29, 30, 31, 32, 33, 34, 35, 36, 37, 38, 39, 40, 41, 42, 43, 44, 45, 46, 47, 48, 49, 50, 51, 52, 53, 54] (fun i0 g w => ∃ vo : Value, g 4 = .int .i64 (i0 : Nat) ∧ g 3 = vo ∧ OwnE w w0.heap.size 71 vo (Bf (f.take i0)) ∧ i0 ≤ f.length ∧ (i0 < f.length → (f.getD i0 default).kind = 1 → DI (Bf (f.take i0))) ∧ w0.heap.size ≤ w.heap.size ∧ Evo w0 w []) (fun i0 => f.length - i0) 0 ?_ ?_))))))))
 refine ⟨_, σ, rfl, (OwnE.nil _ _ _), δ, (fun _ _ => N8), δ, J⟩
 rintro i0 g w2 ⟨vo, hj3, hj4, j, Zp, hnt, hzl1, J⟩
 have bl := J.size
 replace hf := U _ J
 refine Zk 4 hj3 (Zk 3 hj4 (AE (Zs (Zo AU (Zo Bi (Zo (AQ rfl η underlying33) (Zn Dn (AH η (fun bz => ?_) (fun bz => ?_)))))))))
 refine AJ (AK (AE (AE ?_)))
 have bF := D9 (f.take i0); have bL : (f.take i0).length ≤ i0 := List.length_take_le _ _; have bb := DX f i0; have bM := El f i0
 refine AB (Zo Bi (Zo AU (Zo (Ab (i0) rfl underlying33 AY η η χ ω (hf.addr (i := i0) ω)) ?_)))
 have az := fun (w' : World) (h : Evo w0 w' []) => (U w' h).atD (i0) ω
 have bx := az _ J
 refine Zo (AD rfl η CG) (Zo (AA rfl Ae η (bx.cell 0 η)) (Zn (BP rfl η η) (AH η (fun bA => ?_) (fun bA => ?_))))
 refine Zs (Zo (AN (v := vo) rfl η) (Zo Bi (Zo AU (Zo (Ab (i0) rfl underlying33 AY η η χ ω (hf.addr (i := i0) ω)) ?_))))
 have aS := fun (w' : World) (h : Evo w0 w' []) => (U w' h).atD (i0) ω
 refine Zo (AL rfl CP AY η rfl (aS _ J)) (BL (u := .agg _) (y := ⟨_, _, _⟩) rfl rfl underlying33 AY η j (fun _ => η) η ξ (τ) (τ) ω ?_)
 intro q_v9 v9 w10 E10 hov9 hlv9
 have b0 := E10.size
 replace J := AP J E10 (fun g R => .inl (by first | exact (j.block R).1 | (have := j.block R; omega)))
 refine Zn (AR (v := v9) rfl η) (Zs (Zo AU (Zo Br (Zn Am (Ak rfl (Zg (i0 + 1) ?_))))))
 refine ⟨_, σ, rfl, (by rw [Bc f i0 ω, CI κ]; exact hov9), δ, (fun _ _ => by rw [Bc f i0 ω, CI κ]; exact Rz κ), δ, J⟩
 refine AJ (AE ?_)
 have bc := fun g R => (j.block (g := g) R).2
 have ba := hnt ω ω
 refine AB (Zn Ew (AE (AK (Aq (α := Nat) [4, 5, 25, 26, 27, 28, 29, 30, 31, 32, 33, 34, 35, 36, 37, 38, 39, 40, 41, 42, 43, 44, 45] (fun i g w => ∃ vb : Value, ∃ bs : Ac, g 4 = .int .i64 (i : Nat) ∧ g 5 = vb ∧ OwnE w w0.heap.size 71 vo (Bf (f.take i0)) ∧ OwnE w w2.heap.size 5 vb bs ∧ i0 ≤ i ∧ i ≤ f.length ∧ bs.length ≤ Ay (f.take i) ∧ (Bf (f.take i)) = JQ (Bf (f.take i0)) bs ∧ (i0 < i ∨ (i < f.length ∧ (f.getD i default).kind = 1)) ∧ w2.heap.size ≤ w.heap.size ∧ Evo w0 w []) (fun i => f.length - i) i0 ?_ ?_))))
 refine ⟨_, [], σ, rfl, δ, (OwnE.nil _ _ _), δ, δ, (by simp), (Oj _).symm, (.inr ω), δ, J⟩
 rintro i g b6 ⟨vb, bs, hj13, hj14, j, hbb, hii, hil, hbl, hjn, hgo, hzl11, J⟩
 have au := J.size
 refine Zk 4 hj13 (Zk 5 hj14 (AE (Zs (Zo AU (Zo Bi (Zo (AQ rfl η underlying33) (Zo Dn (Zo Cb ?_))))))))
 refine Aj rfl BW rfl (fun R => Bi) ?_
 refine Aj rfl BW rfl (fun R => AU) ?_
 refine Aj rfl BW rfl (fun R => Ab (i) rfl underlying33 AY (Ar R) (Ar R) χ ω ((U _ J).addr (i := i) ω)) ?_
 refine Aj rfl BW rfl (fun R => AD rfl (Ar R) CG) ?_
 refine Aj rfl BW rfl (fun R => AA rfl Ae (Ar R) (((U _ J).atD (i) ω).cell 0 η)) ?_
 refine Aj rfl BW rfl (fun R => BK rfl (Ar R) η) ?_
 refine Zn Ht (AH η (fun aT => ?_) (fun aT => ?_))
 refine AJ (AK (AE ?_))
 have bb := DX f (i + 1); have b3 := Ck f i ω
 refine AB (Zo (AN (v := vb) rfl η) (Zo Bi (Zo AU (Zo (Ab (i) rfl underlying33 AY η η χ ω ((U _ J).addr (i := i) ω)) ?_))))
 have al := fun (w' : World) (h : Evo w0 w' []) => (U w' h).atD (i) ω
 refine Zo (AD rfl η Bp) (Zo (AA rfl BX η ((al _ J).cell 1 η)) (FU rfl underlying157 underlying9 Hp rfl hbb η η τ ω ?_))
 intro v17 w18 E18 hov17
 have b1 := E18.size
 replace J := AP J E18 (fun g R => .inl (by first | exact (hbb.block R).1 | (have := hbb.block R; omega)))
 replace j := j.evo E18 (by intro g R hm; have bB := Option.mem_toList.1 hm; have h1 := hbb.block bB; have h2 := bc g R; omega)
 refine Zn (AR (v := v17) rfl η) (AB (Zo AU (Zo Br (Zn Am (AX (Zg (i + 1) ?_))))))
 refine ⟨_, _, σ, rfl, δ, hov17, δ, δ, (by rw [List.length_append, Ck f i ω]; omega), (by rw [Bc f i ω, hjn, Vo ba ω]), (.inl ω), δ, J⟩
 refine Ak rfl (AE ?_)
 have bX : i0 < i := hgo.resolve_right ω
 have bF := D9 (f.take i0); have bL : (f.take i0).length ≤ i0 := List.length_take_le _ _; have bb := DX f i0; have bM := El f i0
 refine AB (Zo (AN (v := vb) rfl η) (Zo (Ci rfl η underlying157 hbb) (Zn Ve (AH η (fun a1 => ?_) (fun a1 => ?_)))))
 obtain ⟨bQ, g20, bR, bn, bf, bS⟩ := hbb.rowOf
 subst bn
 refine AB (Zo (AN (v := vo) rfl η) (Zo Bi (Zo (Hy rfl underlying157 underlying5 underlying9 η (by first | rfl | simp) bf) (Zo (A2 (pv := [(0, .int _ _), (1, S _)]) (zs := [_, _, _]) (cells := [_, _, _]) rfl AY η Eu η η) (BL (u := .agg _) (y := ⟨_, _, _⟩) rfl rfl underlying33 AY η j (fun _ => η) η ξ (τ) (τ) ω ?_)))))
 intro q_v21 v21 w22 E22 hov21 hlv21
 have b2 := E22.size
 replace J := AP J E22 (fun g R => .inl (by first | exact (j.block R).1 | (have := j.block R; omega)))
 refine Zn (AR (v := v21) rfl η) (AX (Zg i ?_))
 refine ⟨_, σ, rfl, (by first | (rw [hjn, PO ω]; exact hov21) | (rw [hjn, RQ ω]; exact hov21)), δ, (fun h1 h2 => absurd h2 ω), δ, J⟩
 refine AJ (AX (Zg i ?_))
 refine ⟨_, σ, rfl, (by first | (rw [hjn, PO ω]; exact j) | (rw [hjn, RQ ω]; exact j)), δ, (fun h1 h2 => absurd h2 ω), δ, J⟩
 refine Ak rfl (Zs (Zo (AN (v := vo) rfl η) (Zn (AR (v := vo) rfl η) (AM (C8 (v := vo) rfl η) ?_))))
 exact ⟨_, rfl, J, by rw [List.take_of_length_le ω] at j; exact j⟩
theorem DZ : CQ Tryz.prog 33 = some false := ζ
theorem NV : Cy Tryz.prog 33 = some (1, 24, some (.slice none 0 0)) := ζ
end Go.Proofs.YtbgmlpbgofcfjaaGreatDoor
