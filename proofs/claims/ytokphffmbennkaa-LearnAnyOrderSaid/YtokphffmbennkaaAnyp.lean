/- What is learnt in any order: the plain law. -/
import Derived.Test.YtokphffmbennkaaPlain
import Derived.Test.YtokphffmbennkaaSlice
set_option linter.unusedVariables false
set_option linter.unusedSimpArgs false
namespace Go.Proofs.Ytokphffmbennkaa
open Go.RowKit
structure AnyOk (n : Nat) (D : List (Int × Int)) (R : List Int) : Prop where
  get : ∀ q : Int, mget D q = if 0 ≤ q ∧ q < n ∧ q ∉ R then some (3 * q) else none
  sorted : R.Pairwise (· < ·)
  inr : ∀ q ∈ R, 0 ≤ q ∧ q < n
def iot (n : Nat) : List Int := (List.range n).map fun (i : Nat) => (i : Int)
theorem iot_len (n : Nat) : (iot n).length = n := by simp [iot]
theorem iot_succ (n : Nat) : iot n ++ [(n : Int)] = iot (n + 1) := by simp [iot, List.range_succ]
theorem any_start (n : Nat) : AnyOk n [] (iot n) where
  get := fun q => by
    rw [mget_nil, if_neg]
    rintro ⟨h0, h1, h2⟩
    exact h2 (List.mem_map.2 ⟨q.toNat, List.mem_range.2 (by omega), by omega⟩)
  sorted := by
    unfold iot
    rw [List.pairwise_map]
    exact List.pairwise_lt_range.imp (fun h => by omega)
  inr := fun q hq => by
    obtain ⟨i, hi, rfl⟩ := List.mem_map.1 hq
    have := List.mem_range.1 hi
    omega
theorem any_low {n wh : Nat} {D : List (Int × Int)} {R : List Int} {x : Int} (ok : ChOk D wh) (h : AnyOk n D R) (hx : R[0]? = some x) : (wh : Int) = x := by
  match R, hx with
  | y :: R', hx =>
    obtain rfl : y = x := by simpa using hx
    have h1 := h.inr y (by simp)
    have h2 := chOk_wh ok y.toNat (fun j hj => by
      rw [h.get, if_pos]
      · simp
      · refine ⟨by omega, by omega, fun hm => ?_⟩
        rcases List.mem_cons.1 hm with h3 | h3
        · omega
        · have := (List.pairwise_cons.1 h.sorted).1 _ h3; omega) (by rw [h.get, if_neg]; rintro ⟨_, _, h3⟩; exact h3 (by rw [Int.toNat_of_nonneg h1.1]; simp))
    omega
theorem any_fresh {n : Nat} {D : List (Int × Int)} {R : List Int} {x : Int} {k : Nat} (h : AnyOk n D R) (hn : n ≤ 64) (hx : R[k]? = some x) : fresh D x = true := by
  have hm := List.mem_of_getElem? hx
  have h1 := h.inr x hm
  refine fresh_of ?_ h1.1 (by omega)
  rw [h.get, if_neg]
  · rfl
  · rintro ⟨_, _, h3⟩; exact h3 hm
theorem any_next {n : Nat} {D : List (Int × Int)} {R : List Int} {x : Int} {k : Nat} (h : AnyOk n D R) (hn : n ≤ 64) (hx : R[k]? = some x) : AnyOk n (lrn D x (3 * x)) (R.take k ++ R.drop (k + 1)) := by
  have hf := any_fresh h hn hx
  have hsp : R = R.take k ++ x :: R.drop (k + 1) := by
    obtain ⟨hk, hg⟩ := List.getElem?_eq_some_iff.1 hx
    rw [← hg, List.getElem_cons_drop, List.take_append_drop]
  have hs := h.sorted
  rw [hsp, List.pairwise_append, List.pairwise_cons] at hs
  obtain ⟨s1, ⟨s2, s3⟩, s4⟩ := hs
  have hxi := h.inr x (List.mem_of_getElem? hx)
  refine ⟨fun q => ?_, ?_, ?_⟩
  · rw [mget_lrn, h.get]
    by_cases hq : x = q
    · subst hq
      rw [if_pos ⟨hf, rfl⟩, if_pos]
      refine ⟨hxi.1, hxi.2, fun hm => ?_⟩
      rcases List.mem_append.1 hm with h1 | h1
      · have := s4 _ h1 x (by simp); omega
      · have := s2 _ h1; omega
    · rw [if_neg (fun h9 => hq h9.2)]
      have : q ∈ R ↔ q ∈ R.take k ++ R.drop (k + 1) := by
        conv => lhs; rw [hsp]
        simp only [List.mem_append, List.mem_cons]
        constructor
        · rintro (h1 | rfl | h1)
          · exact .inl h1
          · exact absurd rfl hq
          · exact .inr h1
        · rintro (h1 | h1)
          · exact .inl h1
          · exact .inr (.inr h1)
      simp only [this]
  · rw [List.pairwise_append]
    exact ⟨s1, s3, fun a ha b hb => s4 a ha b (by simp [hb])⟩
  · intro q hq
    refine h.inr q ?_
    rw [hsp]
    rcases List.mem_append.1 hq with h1 | h1
    · simp [h1]
    · simp [h1]
theorem any_wh {n wh : Nat} {D : List (Int × Int)} (ok : ChOk D wh) (h : AnyOk n D []) : wh = n :=
  chOk_wh ok n (fun j hj => by rw [h.get, if_pos ⟨by omega, by omega, by simp⟩]; simp) (by rw [h.get, if_neg]; omega)
theorem any_from {n : Nat} {D : List (Int × Int)} (h : AnyOk n D []) : ∀ (m i : Nat), i ≤ n → n - i ≤ m → (fromL D (i : Int) m).length = n - i ∧ ∀ j : Nat, ∀ x, (fromL D (i : Int) m)[j]? = some x → x = 3 * ((i : Int) + j)
  | 0, i, h1, h2 => ⟨by simp [fromL]; omega, fun j x hx => by simp [fromL] at hx⟩
  | m + 1, i, h1, h2 => by
    by_cases hi : i = n
    · subst hi
      have : mget D (i : Int) = none := by rw [h.get, if_neg]; omega
      rw [fromL_none this]
      exact ⟨by simp, fun j x hx => by simp at hx⟩
    · have hg : mget D (i : Int) = some (3 * (i : Int)) := by rw [h.get, if_pos ⟨by omega, by omega, by simp⟩]
      obtain ⟨h3, h4⟩ := any_from h m (i + 1) (by omega) (by omega)
      have he : fromL D (i : Int) (m + 1) = (3 * (i : Int)) :: fromL D ((i + 1 : Nat) : Int) m := by simp only [fromL, hg]; rfl
      rw [he]
      refine ⟨by rw [List.length_cons, h3]; omega, fun j x hx => ?_⟩
      match j, hx with
      | 0, hx => simp at hx; omega
      | j + 1, hx =>
        rw [List.getElem?_cons_succ] at hx
        have := h4 j x hx
        omega
theorem sub_rest {α : Type} (R : List α) (k : Nat) : sub R 0 k ++ sub R (k + 1) R.length = R.take k ++ R.drop (k + 1) := by
  simp [sub]
end Go.Proofs.Ytokphffmbennkaa
