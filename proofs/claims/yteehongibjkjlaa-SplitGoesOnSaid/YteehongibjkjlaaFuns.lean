/- Printed by eng2.py out of 15/spec.py. -/
import Derived.Test.YteehongibjkjlaaStrs
set_option linter.unusedVariables false
set_option linter.unusedSimpArgs false
set_option maxRecDepth 10000
namespace Go.Proofs.Yteehongibjkjlaa
open Go.RowKit Classical
theorem ba_pos {x : ByteArray} (h : ¬ x = ByteArray.empty) : 1 ≤ x.size := by
  rcases Nat.eq_zero_or_pos x.size with h1 | h1
  · exact absurd (ByteArray.ext (Array.eq_empty_of_size_eq_zero h1)) h
  · exact h1
theorem keys_no {xs : List ByteArray} {x : ByteArray} {i : Nat} (hx : xs[((i : Int)).toNat]? = some x) (h : x.size = 0 ∨ 16 < x.size) : ¬ KeysOk xs := fun hk => by
  obtain ⟨hj, _⟩ := List.getElem?_eq_some_iff.1 hx
  have := hk.1 _ x hj hx
  omega
theorem rises_first {xs : List ByteArray} {i : Nat} (h : Rises xs i) (hi : i ≤ 0) : Rises xs (i + 1) := rises_0 (by omega)
theorem bnot_dec {p q : Prop} {i : Decidable p} {j : Decidable q} (h : q ↔ ¬ p) : Value.bool (!@decide p i) = Value.bool (@decide q j) := by
  by_cases hp : p
  · rw [decide_eq_true hp, decide_eq_false (fun hq => h.1 hq hp)]; rfl
  · rw [decide_eq_false hp, decide_eq_true (h.2 hp)]; rfl
theorem bdec {p q : Prop} {i : Decidable p} {j : Decidable q} (h : q ↔ p) : Value.bool (@decide p i) = Value.bool (@decide q j) := by
  by_cases hp : p
  · rw [decide_eq_true hp, decide_eq_true (h.2 hp)]
  · rw [decide_eq_false hp, decide_eq_false (fun hq => hp (h.1 hq))]
theorem bnot_b {b : Bool} {p q : Prop} {j : Decidable q} (hb : b = true ↔ p) (h : q ↔ ¬ p) : Value.bool (!b) = Value.bool (@decide q j) := by
  cases b with
  | true => rw [decide_eq_false (fun hq => h.1 hq (hb.1 rfl))]; rfl
  | false => rw [decide_eq_true (h.2 fun hp => absurd (hb.2 hp) (by decide))]; rfl
theorem fv_dec {P : Program} {fv : Value} {args : List Value} {W : World} {L : List Res} {p : Prop} {i : Decidable p} (h : FV P fv args W L (fun r L' => r = .bool (@decide p i) ∧ L = L')) : FV P fv args W L (fun r L' => ∃ b : Bool, (b = true ↔ p) ∧ r = .bool b ∧ L = L') :=
  h.mono fun _ _ h => ⟨_, decide_eq_true_iff, h.1, h.2⟩
theorem vtrue {p : Prop} {i : Decidable p} (h : p) : Value.bool true = Value.bool (@decide p i) := by rw [decide_eq_true h]
theorem vfalse {p : Prop} {i : Decidable p} (h : ¬ p) : Value.bool false = Value.bool (@decide p i) := by rw [decide_eq_false h]
theorem none_on {α : Type} {p : α → Prop} {xs : List α} {x : α} {i : Nat} (h : ∀ j x, j < i → xs[j]? = some x → ¬ p x) (hx : xs[i]? = some x) (hn : ¬ p x) : ∀ j x, j < i + 1 → xs[j]? = some x → ¬ p x := fun j y hj hy => by
  by_cases hji : j < i
  · exact h j y hji hy
  · obtain rfl : j = i := by omega
    rw [hx] at hy; cases hy; exact hn
theorem none_all {α : Type} {p : α → Prop} {xs : List α} {i : Nat} (h : ∀ j x, j < i → xs[j]? = some x → ¬ p x) (hi : xs.length ≤ i) : ¬ ∃ x ∈ xs, p x := fun ⟨x, hm, hp⟩ => by
  obtain ⟨j, hj, rfl⟩ := List.mem_iff_getElem.1 hm
  exact h j _ (by omega) (List.getElem?_eq_getElem hj) hp
end Go.Proofs.Yteehongibjkjlaa
