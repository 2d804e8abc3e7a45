/-
  Classes whose cells are told one by one: a slice of our own of classes whose endings grow.
-/
import Derived.Test.YtomklacppmaljaaCls
namespace Go.Vc
open Go Go.RowKit Go.IntWalk Go.Deep
structure Raw2 where
  a : Value
  b : Value
  ok : oneCells [a, b] = true
instance : Inhabited Raw2 := ⟨⟨S [], S [], rfl⟩⟩
instance : Enc Raw2 := ⟨2, fun x => [x.a, x.b], fun _ => rfl, fun x => x.ok, by decide⟩
def rawS (m : Str) (ao : Option Addr) (n cap : Nat) : Raw2 := ⟨S m, .slice ao n cap, rfl⟩
theorem raw_form {rl : List Raw2} {M : Nat} (h : rl.length = M) (hM : 2 ≤ M) (hM2 : M ≤ 1000) (hk : ∀ k, k < rl.length → rl.getD k default = rawS (99 :: decW (M - k) []) none 0 0) :
    ∃ m0 m1 rest, rl = rawS m0 none 0 0 :: rawS m1 none 0 0 :: rest ∧ m0.length ≤ 20 ∧ m1.length ≤ 20 ∧ ∀ x ∈ rest, ∃ m : Str, m.length ≤ 20 ∧ x = rawS m none 0 0 := by
  have hd : ∀ n, n ≤ 1000 → (99 :: decW n []).length ≤ 20 := fun n hn => by
    have := decW_len 3 n [] (by omega)
    simp only [List.length_cons, List.length_nil] at this ⊢; omega
  match rl, h, hk with
  | x :: y :: rest, h, hk =>
    have h0 := hk 0 (by simp)
    have h1 := hk 1 (by simp)
    have h0' : x = rawS (99 :: decW (M - 0) []) none 0 0 := h0
    have h1' : y = rawS (99 :: decW (M - 1) []) none 0 0 := h1
    refine ⟨_, _, rest, by rw [h0', h1'], hd _ (by omega), hd _ (by omega), fun z hz => ?_⟩
    obtain ⟨k, hk2, rfl⟩ := List.mem_iff_getElem.1 hz
    have h2 := hk (k + 2) (by simp only [List.length_cons]; omega)
    refine ⟨_, hd (M - (k + 2)) (by omega), ?_⟩
    rw [← h2]; simp [List.getD, hk2]
  | [_], h, _ => simp at h; omega
  | [], h, _ => simp at h; omega
theorem raw_rest {w : World} : ∀ rest : List Raw2, (∀ x ∈ rest, ∃ m : Str, m.length ≤ 20 ∧ x = rawS m none 0 0) → ∃ L : List Clas, L.length = rest.length ∧ RepL w (rest.map Enc.enc) L
  | [], _ => ⟨[], rfl, RepL.nil _⟩
  | x :: rest, h => by
    obtain ⟨L, h1, h2⟩ := raw_rest (w := w) rest (fun y hy => h y (by simp [hy]))
    obtain ⟨m, hm, rfl⟩ := h x (by simp)
    refine ⟨⟨m, []⟩ :: L, by simp [h1], ?_⟩
    exact (RepL.one (clas_nil w ⟨by show m.length ≤ _; omega, by simp, Nat.zero_le _⟩)).append h2
theorem raw_row {w : World} {ao : Option Addr} {b cap : Nat} {m0 m1 : Str} {ao0 ao1 : Option Addr} {b0 off0 cp0 b1 off1 cp1 : Nat} {es fs : List Ende} {rest : List Raw2} (h : RowE w ao b 0 cap (rawS m0 ao0 es.length cp0 :: rawS m1 ao1 fs.length cp1 :: rest)) (h0 : RowE w ao0 b0 off0 cp0 es) (h1 : RowE w ao1 b1 off1 cp1 fs)
    (hr : ∀ x ∈ rest, ∃ m : Str, m.length ≤ 20 ∧ x = rawS m none 0 0) (hm0 : m0.length ≤ 20) (hm1 : m1.length ≤ 20) (he : ∀ e ∈ es, BdE e) (hf : ∀ e ∈ fs, BdE e) (hl0 : es.length ≤ 1000) (hl1 : fs.length ≤ 1000) :
    ∃ L : List Clas, L.length = (rawS m0 ao0 es.length cp0 :: rawS m1 ao1 fs.length cp1 :: rest).length ∧ RowR w ao b 0 cap L := by
  obtain ⟨L, hL1, hL2⟩ := raw_rest (w := w) rest hr
  refine ⟨⟨m0, es⟩ :: ⟨m1, fs⟩ :: L, by simp [hL1], _, h, ?_⟩
  have r0 : Rep.rep w (Enc.enc (rawS m0 ao0 es.length cp0)) (⟨m0, es⟩ : Clas) := ⟨⟨ao0, b0, off0, cp0, rfl, h0⟩, by show m0.length ≤ _; omega, he, by show es.length ≤ _; omega⟩
  have r1 : Rep.rep w (Enc.enc (rawS m1 ao1 fs.length cp1)) (⟨m1, fs⟩ : Clas) := ⟨⟨ao1, b1, off1, cp1, rfl, h1⟩, by show m1.length ≤ _; omega, hf, by show fs.length ≤ _; omega⟩
  exact (RepL.one r0).append ((RepL.one r1).append hL2)
theorem raw_snoc {rl : List Raw2} {M i : Nat} (hl : rl.length + i = M) (hi : 0 < i) (h : ∀ k, k < rl.length → rl.getD k default = rawS (99 :: decW (M - k) []) none 0 0) :
    ∀ k, k < (rl ++ [rawS (99 :: decW i []) none 0 0]).length → (rl ++ [rawS (99 :: decW i []) none 0 0]).getD k default = rawS (99 :: decW (M - k) []) none 0 0 := fun k hk => by
  rcases Nat.lt_or_ge k rl.length with h1 | h1
  · have e : (rl ++ [rawS (99 :: decW i []) none 0 0]).getD k default = rl.getD k default := by simp [List.getD, List.getElem?_append_left h1]
    rw [e]; exact h k h1
  · have h2 : k = rl.length := by simp at hk; omega
    subst h2
    have e : (rl ++ [rawS (99 :: decW i []) none 0 0]).getD rl.length default = rawS (99 :: decW i []) none 0 0 := by simp [List.getD]
    rw [e, show M - rl.length = i by omega]
end Go.Vc
