/- Printed by eng2.py out of 15/spec.py. -/
import Derived.Test.YteehongibjkjlaaMod
set_option linter.unusedVariables false
set_option linter.unusedSimpArgs false
set_option maxRecDepth 10000
namespace Go.Proofs.Yteehongibjkjlaa
open Go.RowKit Classical
theorem notin_on {xs : List ByteArray} {key x : ByteArray} {i : Nat} (h : ∀ j x, j < i → xs[j]? = some x → x ≠ key) (hx : xs[i]? = some x) (hn : ¬ x = key) : ∀ j x, j < i + 1 → xs[j]? = some x → x ≠ key := fun j y hj hy => by
  by_cases hji : j < i
  · exact h j y hji hy
  · obtain rfl : j = i := by omega
    rw [hx] at hy; cases hy; exact hn
theorem notin_all {xs : List ByteArray} {key : ByteArray} {i : Nat} (h : ∀ j x, j < i → xs[j]? = some x → x ≠ key) (hi : xs.length ≤ i) : ¬ key ∈ xs := fun hm => by
  obtain ⟨j, hj, rfl⟩ := List.mem_iff_getElem.1 hm
  exact h j _ (by omega) (List.getElem?_eq_getElem hj) rfl
theorem rises_on' {xs : List ByteArray} {i : Nat} {x y : ByteArray} (hi : 1 ≤ i) (h : Rises xs i) (hx : xs[((i : Int) - 1).toNat]? = some x) (hy : xs[((i : Int)).toNat]? = some y) (h1 : slt x y = true) : Rises xs (i + 1) := by
  obtain ⟨k, rfl⟩ : ∃ k, i = k + 1 := ⟨i - 1, by omega⟩
  rw [show (((k + 1 : Nat) : Int) - 1).toNat = k by omega] at hx
  rw [show (((k + 1 : Nat) : Int)).toNat = k + 1 by omega] at hy
  exact rises_on h hx hy h1
theorem rises_not {xs : List ByteArray} {i : Nat} {x y : ByteArray} (hi : 1 ≤ i) (hx : xs[((i : Int) - 1).toNat]? = some x) (hy : xs[((i : Int)).toNat]? = some y) (h1 : slt x y = false) : ¬ Rises xs xs.length := fun h => by
  obtain ⟨k, rfl⟩ : ∃ k, i = k + 1 := ⟨i - 1, by omega⟩
  rw [show (((k + 1 : Nat) : Int) - 1).toNat = k by omega] at hx
  rw [show (((k + 1 : Nat) : Int)).toNat = k + 1 by omega] at hy
  obtain ⟨hk, _⟩ := List.getElem?_eq_some_iff.1 hy
  rw [h k x y hk hx hy] at h1; cases h1
end Go.Proofs.Yteehongibjkjlaa
