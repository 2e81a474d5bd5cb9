/- Printed by eng2.py out of 09a/spec.py. -/
import Derived.Test.YtlblipkcbmcfkaaTy
set_option linter.unusedVariables false
set_option linter.unusedSimpArgs false
set_option maxRecDepth 10000
namespace Go.Proofs.Ytlblipkcbmcfkaa
open Go.RowKit Classical
theorem vtrue' {p : Prop} {i : Decidable p} (h : p) : Value.bool true = Value.bool (@decide p i) := by rw [decide_eq_true h]
theorem vfalse' {p : Prop} {i : Decidable p} (h : ¬ p) : Value.bool false = Value.bool (@decide p i) := by rw [decide_eq_false h]
theorem bdec' {p q : Prop} {i : Decidable p} {j : Decidable q} (h : q ↔ p) : Value.bool (@decide p i) = Value.bool (@decide q j) := by
  by_cases hp : p
  · rw [decide_eq_true hp, decide_eq_true (h.2 hp)]
  · rw [decide_eq_false hp, decide_eq_false (fun hq => hp (h.1 hq))]
theorem bnot' {p q : Prop} {i : Decidable p} {j : Decidable q} (h : q ↔ ¬ p) : Value.bool (!@decide p i) = Value.bool (@decide q j) := by
  by_cases hp : p
  · rw [decide_eq_true hp, decide_eq_false (fun hq => h.1 hq hp)]; rfl
  · rw [decide_eq_false hp, decide_eq_true (h.2 hp)]; rfl
theorem notin_on' {α : Type} {xs : List α} {key x : α} {i : Nat} (h : ∀ j x, j < i → xs[j]? = some x → x ≠ key) (hx : xs[((i : Int)).toNat]? = some x) (hn : ¬ x = key) : ∀ j x, j < i + 1 → xs[j]? = some x → x ≠ key := fun j y hj hy => by
  have hx' : xs[i]? = some x := hx
  by_cases hji : j < i
  · exact h j y hji hy
  · obtain rfl : j = i := by omega
    rw [hx'] at hy; cases hy; exact hn
theorem notin_all' {α : Type} {xs : List α} {key : α} {i : Nat} (h : ∀ j x, j < i → xs[j]? = some x → x ≠ key) (hi : xs.length ≤ i) : ¬ key ∈ xs := fun hm => by
  obtain ⟨j, hj, rfl⟩ := List.mem_iff_getElem.1 hm
  exact h j _ (by omega) (List.getElem?_eq_getElem hj) rfl
end Go.Proofs.Ytlblipkcbmcfkaa
