/- The document's answer for layer 13, held in two arrays of one block: the plain law. -/
import Derived.Test.YtokphffmbennkaaPlain
import Derived.Test.YtokphffmbennkaaTy
set_option linter.unusedVariables false
set_option linter.unusedSimpArgs false
namespace Go.Proofs.Ytokphffmbennkaa
open Go.RowKit
def rcs (kn : List Bool) (vl : List ByteArray) : Array Value := (kn.map Value.bool ++ vl.map Value.string).toArray
structure RefOk (D : List (Int × ByteArray)) (kn : List Bool) (vl : List ByteArray) : Prop where
  lk : kn.length = 64
  lv : vl.length = 64
  is : ∀ j : Nat, j < 64 → kn.getD j false = (mget D (j : Int)).isSome
  val : ∀ (j : Nat) (v : ByteArray), j < 64 → mget D (j : Int) = some v → vl.getD j ByteArray.empty = v
section
variable {kn : List Bool} {vl : List ByteArray} {q : Int} {D : List (Int × ByteArray)} {wh : Nat} {slot : Int} {v : ByteArray}
theorem rcs_kn (hk : kn.length = 64) (h0 : 0 ≤ q) (h1 : q < 64) : (rcs kn vl)[0 + q.toNat * 1]? = some (.bool (kn.getD q.toNat false)) := by
  unfold rcs
  simp only [List.getElem?_toArray, Nat.zero_add, Nat.mul_one]
  rw [List.getElem?_append_left (by simp; omega), List.getElem?_map, List.getD_eq_getElem?_getD, List.getElem?_eq_getElem (by omega)]
  rfl
theorem rcs_vl (hk : kn.length = 64) (hv : vl.length = 64) (h0 : 0 ≤ q) (h1 : q < 64) : (rcs kn vl)[64 + q.toNat * 1]? = some (.string (vl.getD q.toNat ByteArray.empty)) := by
  unfold rcs
  simp only [List.getElem?_toArray, Nat.mul_one]
  rw [List.getElem?_append_right (by simp; omega), List.length_map, hk, List.getElem?_map, List.getD_eq_getElem?_getD, show 64 + q.toNat - 64 = q.toNat by omega, List.getElem?_eq_getElem (by omega)]
  rfl
theorem rcs_size (hk : kn.length = 64) (hv : vl.length = 64) : (rcs kn vl).size = 128 := by simp [rcs, hk, hv]
theorem rcs_setk (hk : kn.length = 64) (h0 : 0 ≤ q) (h1 : q < 64) (b : Bool) : (rcs kn vl).setIfInBounds (0 + q.toNat * 1) (.bool b) = rcs (kn.set q.toNat b) vl := by
  apply Array.toList_inj.1
  simp only [rcs, Array.toList_setIfInBounds, Nat.zero_add, Nat.mul_one]
  rw [List.set_append_left _ _ (by simp; omega), List.map_set]
theorem rcs_setv (hk : kn.length = 64) (hv : vl.length = 64) (h0 : 0 ≤ q) (h1 : q < 64) (u : ByteArray) : (rcs kn vl).setIfInBounds (64 + q.toNat * 1) (.string u) = rcs kn (vl.set q.toNat u) := by
  apply Array.toList_inj.1
  simp only [rcs, Array.toList_setIfInBounds, Nat.mul_one]
  rw [List.set_append_right _ _ (by simp; omega), List.length_map, hk, show 64 + q.toNat - 64 = q.toNat by omega, List.map_set]
def kn0 : List Bool := List.replicate 64 false
def vl0 : List ByteArray := List.replicate 64 ByteArray.empty
theorem refOk_nil : RefOk [] kn0 vl0 := ⟨by simp [kn0], by simp [vl0], fun j hj => by
  rw [mget_nil, List.getD_eq_getElem?_getD, kn0, List.getElem?_replicate, if_pos hj]; rfl, fun j v hj h => by cases h⟩
theorem refOk_is (ok : RefOk D kn vl) (h0 : 0 ≤ q) (h1 : q < 64) : kn.getD q.toNat false = (mget D q).isSome := by
  have := ok.is q.toNat (by omega)
  rw [this, show ((q.toNat : Nat) : Int) = q by omega]
theorem refOk_val (ok : RefOk D kn vl) (h0 : 0 ≤ q) (h1 : q < 64) (h : mget D q = some v) : vl.getD q.toNat ByteArray.empty = v := ok.val q.toNat v (by omega) (by rw [show ((q.toNat : Nat) : Int) = q by omega]; exact h)
theorem refOk_learn (ok : RefOk D kn vl) (hf : fresh D slot = true) : RefOk (lrn D slot v) (kn.set slot.toNat true) (vl.set slot.toNat v) := by
  obtain ⟨h0, h1, h2⟩ := fresh_parts hf
  refine ⟨by simp [ok.lk], by simp [ok.lv], fun j hj => ?_, fun j u hj hm => ?_⟩
  · rw [mget_lrn, List.getD_eq_getElem?_getD, List.getElem?_set]
    by_cases e : slot.toNat = j
    · have e2 : slot = (j : Int) := by omega
      rw [if_pos e, if_pos (by rw [ok.lk]; omega), if_pos ⟨hf, e2⟩]
      rfl
    · have e2 : ¬ slot = (j : Int) := by omega
      rw [if_neg e, if_neg (fun x => e2 x.2), ← List.getD_eq_getElem?_getD]
      exact ok.is j hj
  · rw [mget_lrn] at hm
    rw [List.getD_eq_getElem?_getD, List.getElem?_set]
    by_cases e : slot.toNat = j
    · have e2 : slot = (j : Int) := by omega
      rw [if_pos ⟨hf, e2⟩] at hm
      cases hm
      rw [if_pos e, if_pos (by rw [ok.lv]; omega)]
      rfl
    · have e2 : ¬ slot = (j : Int) := by omega
      rw [if_neg (fun x => e2 x.2)] at hm
      rw [if_neg e, ← List.getD_eq_getElem?_getD]
      exact ok.val j u hj hm
theorem fresh_is (ok : RefOk D kn vl) (h0 : 0 ≤ slot) (h1 : slot < 64) : fresh D slot = !(kn.getD slot.toNat false) := by
  rw [refOk_is ok h0 h1]
  unfold fresh
  rw [decide_eq_true ⟨h0, h1⟩]
  cases mget D slot <;> rfl
/-- What is known lies in range. -/
def InR (D : List (Int × ByteArray)) : Prop := ∀ j, mget D j ≠ none → 0 ≤ j ∧ j < 64
theorem get_out (hr : InR D) (h : slot < 0 ∨ 64 ≤ slot) : mget D slot = none := by
  cases hm : mget D slot with
  | none => rfl
  | some x => have := hr slot (by rw [hm]; simp); omega
theorem len_le {u : Nat} (co : ChOk D wh) (hu : ∀ j : Nat, j < u → mget D (j : Int) ≠ none) : u ≤ wh := Nat.le_of_not_lt fun h => hu wh h co.next
theorem len_lt {u : Nat} (co : ChOk D wh) (hu : ∀ j : Nat, j < u → mget D (j : Int) ≠ none) (h : (mget D (u : Int)).isSome = true) : u < wh := by
  have h1 := len_le co hu
  rcases Nat.lt_or_ge u wh with h2 | h2
  · exact h2
  · have : u = wh := by omega
    subst this
    rw [co.next] at h; cases h
theorem rfrom_next {xs : List ByteArray} {q most : Int} (hr : InR D) (h : fromL D slot most.toNat = xs ++ fromL D q (most.toNat - xs.length)) (hl : (xs.length : Int) = q - slot) (hp : 0 ≤ slot) (hm : (xs.length : Int) < most) (hv : mget D q = some v) :
    fromL D slot most.toNat = (xs ++ [v]) ++ fromL D (q + 1) (most.toNat - (xs ++ [v]).length) ∧ ((xs ++ [v]).length : Int) = q + 1 - slot ∧ 0 ≤ slot ∧ (xs ++ [v]).length ≤ 64 := by
  have hr := hr q (by rw [hv]; simp)
  refine ⟨?_, by simp; omega, hp, by simp; omega⟩
  obtain ⟨n, hn⟩ : ∃ n, most.toNat - xs.length = n + 1 := ⟨most.toNat - xs.length - 1, by omega⟩
  rw [h, hn]
  simp only [fromL, hv, List.append_assoc, List.cons_append, List.nil_append, List.length_append, List.length_cons, List.length_nil]
  rw [show most.toNat - (xs.length + (0 + 1)) = n by omega]
end
end Go.Proofs.Ytokphffmbennkaa
