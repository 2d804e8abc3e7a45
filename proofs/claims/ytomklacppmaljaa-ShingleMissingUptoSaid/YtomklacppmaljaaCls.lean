/-
  Classes in slices of our own: stores of their endings.
-/
import Derived.Test.YtomklacppmaljaaPw
import Derived.Test.YtomklacppmaljaaOws
import Derived.Test.YtomklacppmaljaaApk
namespace Go.Vc
open Go Go.RowKit Go.IntWalk Go.Deep
theorem clas_one (w : World) (cs : List Value) (x : Clas) (h : Rep.rep w cs x) : oneCells cs = true := by
  obtain ⟨⟨ao, b, off, cap, rfl, _⟩, _⟩ := h
  rfl
theorem clas_set {w : World} {c : List Value} {x : Clas} {ao : Option Addr} {b off cap : Nat} {es : List Ende} (h : Rep.rep w c x) (hr : RowE w ao b off cap es) (hb : BdC ⟨x.name, es⟩) : Rep.rep w (c.take 1 ++ [.slice ao es.length cap] ++ c.drop (1 + 1)) (⟨x.name, es⟩ : Clas) := by
  obtain ⟨⟨ao', b', off', cap', rfl, _⟩, _⟩ := h
  exact ⟨⟨ao, b, off, cap, rfl, hr⟩, hb⟩
/-- the endings that are stored are a slice of our own -/
theorem clas_setO {w : World} {base E : Nat} {Y : List Nat} {v : Value} {ao : Option Addr} {n cap : Nat} {es : List Ende} {l : List Clas} {i : Nat} (hn : n = es.length) (h : OwnE w base E (.slice ao n cap) es) (hY : ∀ y ∈ Y, y < base) (hv : ∀ g, v.ownBlock = some g → g < base) (hb : ∀ x, l[i]? = some x → BdC ⟨x.name, es⟩) :
    ∀ w' c x, Evo w w' (Y ++ v.ownBlock.toList) → l[i]? = some x → Rep.rep w' c x → Rep.rep w' (c.take 1 ++ [.slice ao n cap] ++ c.drop (1 + 1)) (⟨(l.getD i default).name, es⟩ : Clas) := fun w' c x he hx hr => by
  subst hn
  have h2 := h.evo he (fun g hg hm => by
    have hb := (h.block hg).1
    rcases List.mem_append.1 hm with h3 | h3
    · have := hY g h3; omega
    · have := hv g (by simpa using h3); omega)
  obtain ⟨ao', g, cap', hv2, hr2, _⟩ := h2.rowOf
  simp only [Value.slice.injEq, true_and] at hv2
  obtain ⟨rfl, rfl⟩ := hv2
  have e : l.getD i default = x := by simp [List.getD, hx]
  rw [e]
  exact clas_set hr hr2 (hb x hx)
end Go.Vc
