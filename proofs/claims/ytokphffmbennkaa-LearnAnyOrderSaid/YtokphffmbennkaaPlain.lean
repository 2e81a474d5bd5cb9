/- What is known of a log's places: the plain law. -/
import Derived.Test.YtokphffmbennkaaMap
set_option linter.unusedVariables false
set_option linter.unusedSimpArgs false
namespace Go.Proofs.Ytokphffmbennkaa
open Go.RowKit
section
variable {β : Type}
def fresh (D : List (Int × β)) (slot : Int) : Bool := decide (0 ≤ slot ∧ slot < 64) && (mget D slot).isNone
def lrn (D : List (Int × β)) (slot : Int) (v : β) : List (Int × β) := if fresh D slot then mset D slot v else D
structure ChOk (D : List (Int × β)) (wh : Nat) : Prop where
  range : ∀ j, mget D j ≠ none → 0 ≤ j ∧ j < 64
  all : ∀ j : Nat, j < wh → mget D (j : Int) ≠ none
  next : mget D (wh : Int) = none
variable {D : List (Int × β)} {wh u : Nat} {slot : Int} {v : β}
theorem chOk_nil : ChOk ([] : List (Int × β)) 0 := ⟨fun j h => absurd rfl h, fun j h => absurd h (by omega), rfl⟩
theorem chOk_le (ok : ChOk D wh) : wh ≤ 64 := Nat.le_of_not_lt fun h => by
  have := ok.range _ (ok.all 64 h)
  omega
theorem fresh_t (h : (mget D slot).isSome = true) : fresh D slot = false := by
  unfold fresh
  cases hm : mget D slot with
  | none => rw [hm] at h; cases h
  | some x => simp
theorem fresh_lt (h : slot < 0) : fresh D slot = false := by
  unfold fresh
  rw [decide_eq_false (by omega)]; rfl
theorem fresh_ge (h : 64 ≤ slot) : fresh D slot = false := by
  unfold fresh
  rw [decide_eq_false (by omega)]; rfl
theorem fresh_of (h1 : (mget D slot).isSome = false) (h2 : 0 ≤ slot) (h3 : slot < 64) : fresh D slot = true := by
  unfold fresh
  cases hm : mget D slot with
  | none => simp; omega
  | some x => rw [hm] at h1; cases h1
theorem lrn_no (h : fresh D slot = false) : lrn D slot v = D := by unfold lrn; rw [h]; rfl
theorem lrn_yes (h : fresh D slot = true) : lrn D slot v = mset D slot v := by unfold lrn; rw [h]; rfl
theorem fresh_parts (h : fresh D slot = true) : 0 ≤ slot ∧ slot < 64 ∧ mget D slot = none := by
  unfold fresh at h
  simp only [Bool.and_eq_true, decide_eq_true_eq, Option.isNone_iff_eq_none] at h
  exact ⟨h.1.1, h.1.2, h.2⟩
theorem chOk_start (ok : ChOk D wh) : ∀ j : Nat, j < wh → mget (mset D slot v) (j : Int) ≠ none := fun j hj => by
  rw [mget_set]
  split
  · simp
  · exact ok.all j hj
theorem chOk_range (ok : ChOk D wh) (hf : fresh D slot = true) : ∀ j, mget (mset D slot v) j ≠ none → 0 ≤ j ∧ j < 64 := fun j hj => by
  have := fresh_parts hf
  rw [mget_set] at hj
  split at hj
  · rename_i e; subst e; omega
  · exact ok.range j hj
theorem chOk_less (ok : ChOk D wh) (hf : fresh D slot = true) (h : (mget (mset D slot v) (u : Int)).isSome = true) : u < 64 := by
  have := chOk_range (v := v) ok hf (u : Int) (by intro h0; rw [h0] at h; cases h)
  omega
theorem chOk_next (hu : ∀ j : Nat, j < u → mget (mset D slot v) (j : Int) ≠ none) (h : (mget (mset D slot v) (u : Int)).isSome = true) : ∀ j : Nat, j < u + 1 → mget (mset D slot v) (j : Int) ≠ none := fun j hj => by
  by_cases e : j = u
  · subst e; intro h0; rw [h0] at h; cases h
  · exact hu j (by omega)
theorem chOk_end (ok : ChOk D wh) (hf : fresh D slot = true) (hu : ∀ j : Nat, j < u → mget (mset D slot v) (j : Int) ≠ none) (h : mget (mset D slot v) (u : Int) = none) : ChOk (mset D slot v) u := ⟨chOk_range ok hf, hu, h⟩
/-- Values from a place on, without a gap. -/
def fromL (D : List (Int × β)) : Int → Nat → List β
  | _, 0 => []
  | q, n + 1 => match mget D q with
    | none => []
    | some v => v :: fromL D (q + 1) n
theorem fromL_none {q : Int} {n : Nat} (h : mget D q = none) : fromL D q n = [] := by
  cases n with
  | zero => rfl
  | succ n => simp only [fromL, h]
theorem fromL_stop {q : Int} {n : Nat} (h : n = 0) : fromL D q n = [] := by subst h; rfl
theorem from_le {xs : List β} {q : Int} {n : Nat} (ok : ChOk D wh) (h : fromL D slot n = xs ++ fromL D q (n - xs.length)) (hl : (xs.length : Int) = q - slot) : True := trivial
theorem from_next {xs : List β} {q most : Int} {v : β} (ok : ChOk D wh) (h : fromL D slot most.toNat = xs ++ fromL D q (most.toNat - xs.length)) (hl : (xs.length : Int) = q - slot) (hp : xs ≠ [] → 0 ≤ slot) (hm : (xs.length : Int) < most) (hv : mget D q = some v) :
    fromL D slot most.toNat = (xs ++ [v]) ++ fromL D (q + 1) (most.toNat - (xs ++ [v]).length) ∧ ((xs ++ [v]).length : Int) = q + 1 - slot ∧ (xs ++ [v] ≠ [] → 0 ≤ slot) ∧ (xs ++ [v]).length ≤ 64 := by
  have hr := ok.range q (by rw [hv]; simp)
  have h0 : 0 ≤ slot := by
    by_cases e : xs = []
    · subst e; simp at hl; omega
    · exact hp e
  refine ⟨?_, by simp; omega, fun _ => h0, by simp; omega⟩
  obtain ⟨n, hn⟩ : ∃ n, most.toNat - xs.length = n + 1 := ⟨most.toNat - xs.length - 1, by omega⟩
  rw [h, hn]
  simp only [fromL, hv, List.append_assoc, List.cons_append, List.nil_append, List.length_append, List.length_cons, List.length_nil]
  rw [show most.toNat - (xs.length + (0 + 1)) = n by omega]
theorem chOk_wh (ok : ChOk D wh) (n : Nat) (h1 : ∀ j : Nat, j < n → mget D (j : Int) ≠ none) (h2 : mget D (n : Int) = none) : wh = n := by
  rcases Nat.lt_trichotomy wh n with h | h | h
  · exact absurd ok.next (h1 wh h)
  · exact h
  · exact absurd h2 (ok.all n h)
theorem mget_lrn (D : List (Int × β)) (slot : Int) (v : β) (j : Int) : mget (lrn D slot v) j = if fresh D slot = true ∧ slot = j then some v else mget D j := by
  unfold lrn
  by_cases h : fresh D slot = true
  · rw [if_pos h, mget_set]
    by_cases e : slot = j
    · rw [if_pos e, if_pos ⟨h, e⟩]
    · rw [if_neg e, if_neg (fun x => e x.2)]
  · rw [if_neg h, if_neg (fun x => h x.1)]
theorem mget_keep {j : Int} (h : mget D j ≠ none) : mget (lrn D slot v) j = mget D j := by
  rw [mget_lrn]
  split
  · rename_i e
    obtain ⟨h1, rfl⟩ := e
    exact absurd (fresh_parts h1).2.2 h
  · rfl
theorem chOk_mono {wh' : Nat} (ok : ChOk D wh) (ok' : ChOk (lrn D slot v) wh') : wh ≤ wh' := Nat.le_of_not_lt fun h => by
  have := ok.all wh' h
  have h2 := ok'.next
  rw [mget_keep this] at h2
  exact this h2
theorem fresh_nil (s : Int) : fresh ([] : List (Int × β)) s = decide (0 ≤ s ∧ s < 64) := by simp [fresh, mget_nil]
theorem once_start {s : Int} {v : β} : mget (lrn ([] : List (Int × β)) s v) s = if fresh ([] : List (Int × β)) s = true then some v else none := by
  rw [mget_lrn]
  by_cases h : fresh ([] : List (Int × β)) s = true
  · rw [if_pos ⟨h, rfl⟩, if_pos h]
  · rw [if_neg (fun x => h x.1), if_neg h]; rfl
theorem once_next {s : Int} {v0 : β} (ok : ChOk D wh) (h : mget D s = if fresh ([] : List (Int × β)) s = true then some v0 else none) : mget (lrn D slot v) s = if fresh ([] : List (Int × β)) s = true then some v0 else none := by
  by_cases hf : fresh ([] : List (Int × β)) s = true
  · rw [if_pos hf] at h ⊢
    rw [mget_keep (by rw [h]; simp), h]
  · rw [if_neg hf] at h ⊢
    rw [mget_lrn]
    split
    · rename_i e
      obtain ⟨h1, rfl⟩ := e
      have := fresh_parts h1
      rw [fresh_nil] at hf
      simp at hf
      omega
    · exact h
end
end Go.Proofs.Ytokphffmbennkaa
