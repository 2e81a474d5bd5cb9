/- Frames: the plain law. -/
import Derived.Test.YtoigakfglgdjdaaEyep
set_option linter.unusedVariables false
set_option linter.unusedSimpArgs false
namespace Go.Proofs.Ytoigakfglgdjdaa
open Go.RowKit
def headB (n : Nat) : List UInt8 := [UInt8.ofNat (n / 256), UInt8.ofNat n]
def sum4 (s : BitVec 32) : List UInt8 := [UInt8.ofNat s.toNat, UInt8.ofNat (s.toNat / 256), UInt8.ofNat (s.toNat / 65536), UInt8.ofNat (s.toNat / 16777216)]
def sealB (xs : List UInt8) : BitVec 32 := sumB (headB xs.length ++ xs)
def frameB (xs : List UInt8) : List UInt8 := headB xs.length ++ sum4 (sealB xs) ++ xs
theorem frameB_len (xs : List UInt8) : (frameB xs).length = xs.length + 6 := by simp [frameB, headB, sum4]
/-- What Frame answers. -/
def frR (xs : List UInt8) : List UInt8 × Nat := if 4096 < xs.length then ([], 1) else (frameB xs, 0)
theorem frR_no {xs : List UInt8} (h : 4096 < xs.length) : frR xs = ([], 1) := by simp [frR, h]
theorem frR_yes {xs : List UInt8} (h : ¬ 4096 < xs.length) : frR xs = (frameB xs, 0) := by simp [frR, h]
/-- How long a frame's body says that it is. -/
def lenB (xs : List UInt8) : Nat := match xs with
  | a :: b :: _ => a.toNat * 256 + b.toNat
  | _ => 0
theorem lenB_get {xs : List UInt8} {a b : UInt8} (h0 : xs[0]? = some a) (h1 : xs[1]? = some b) : lenB xs = a.toNat * 256 + b.toNat := by
  match xs, h0, h1 with
  | _ :: _ :: _, h0, h1 => simp at h0 h1; subst h0; subst h1; rfl
/-- What Unframe answers: the body, how many bytes it took, the error's number. -/
def unR (xs : List UInt8) : List UInt8 × Nat × Nat :=
  if xs.length < 6 then ([], 0, 30) else if 4096 < lenB xs then ([], 0, 31) else if xs.length < 6 + lenB xs then ([], 0, 30)
  else if frameB (sub xs 6 (6 + lenB xs)) = sub xs 0 (6 + lenB xs) then (sub xs 6 (6 + lenB xs), 6 + lenB xs, 0) else ([], 0, 33)
theorem unR_short {xs : List UInt8} (h : xs.length < 6) : unR xs = ([], 0, 30) := by simp [unR, h]
theorem unR_form {xs : List UInt8} (h : ¬ xs.length < 6) (h2 : 4096 < lenB xs) : unR xs = ([], 0, 31) := by simp [unR, h, h2]
theorem unR_cut {xs : List UInt8} (h : ¬ xs.length < 6) (h2 : ¬ 4096 < lenB xs) (h3 : xs.length < 6 + lenB xs) : unR xs = ([], 0, 30) := by simp [unR, h, h2, h3]
theorem unR_sum {xs : List UInt8} (h : ¬ xs.length < 6) (h2 : ¬ 4096 < lenB xs) (h3 : ¬ xs.length < 6 + lenB xs) (h4 : ¬ frameB (sub xs 6 (6 + lenB xs)) = sub xs 0 (6 + lenB xs)) : unR xs = ([], 0, 33) := by simp [unR, h, h2, h3, h4]
theorem unR_ok {xs : List UInt8} (h : ¬ xs.length < 6) (h2 : ¬ 4096 < lenB xs) (h3 : ¬ xs.length < 6 + lenB xs) (h4 : frameB (sub xs 6 (6 + lenB xs)) = sub xs 0 (6 + lenB xs)) : unR xs = (sub xs 6 (6 + lenB xs), 6 + lenB xs, 0) := by simp [unR, h, h2, h3, h4]
theorem eq_of_get {xs ys : List UInt8} (hl : xs.length = ys.length) (h : ∀ j, j < xs.length → xs[j]? = ys[j]?) : xs = ys := List.ext_getElem? fun j => by
  rcases Nat.lt_or_ge j xs.length with h1 | h1
  · exact h j h1
  · rw [List.getElem?_eq_none h1, List.getElem?_eq_none (by omega)]
theorem all_next {xs ys : List UInt8} {i : Nat} {x : UInt8} (h : ∀ j, j < i → xs[j]? = ys[j]?) (hx : xs[i]? = some x) (hy : ys[i]? = some x) : ∀ j, j < i + 1 → xs[j]? = ys[j]? := fun j hj => by
  by_cases hji : j < i
  · exact h j hji
  · obtain rfl : j = i := by omega
    rw [hx, hy]
theorem fdivK {n k : Nat} : (n : Int).fdiv (k : Int) = ((n / k : Nat) : Int) := by rw [Int.fdiv_eq_ediv_of_nonneg _ (by omega)]; omega
theorem fdiv256 (n : Nat) : (n : Int).fdiv 256 = ((n / 256 : Nat) : Int) := fdivK (k := 256)
theorem shr8 (s : BitVec 32) : (v32 s).fdiv 256 = ((s.toNat / 256 : Nat) : Int) := fdivK (k := 256)
theorem shr16 (s : BitVec 32) : (v32 s).fdiv 65536 = ((s.toNat / 65536 : Nat) : Int) := fdivK (k := 65536)
theorem shr24 (s : BitVec 32) : (v32 s).fdiv 16777216 = ((s.toNat / 16777216 : Nat) : Int) := fdivK (k := 16777216)
theorem or8 (a b : UInt8) : ibits .or .i64 ((a.toNat * 256 : Nat) : Int) (b.toNat : Int) = ((a.toNat * 256 + b.toNat : Nat) : Int) := by
  have ha := a.toNat_lt
  have hb := b.toNat_lt
  show IntKind.i64.wrap ((BitVec.ofInt 64 ((a.toNat * 256 : Nat) : Int) ||| BitVec.ofInt 64 (b.toNat : Int)).toNat : Int) = _
  rw [bvnat0, bvnat0, BitVec.toNat_or, BitVec.toNat_ofNat, BitVec.toNat_ofNat, Nat.mod_eq_of_lt (by omega), Nat.mod_eq_of_lt (by omega)]
  have h := Nat.two_pow_add_eq_or_of_lt (i := 8) (b := b.toNat) (by omega) a.toNat
  have e : a.toNat * 256 ||| b.toNat = a.toNat * 256 + b.toNat := by
    rw [Nat.mul_comm a.toNat]; exact h.symm
  rw [e]
  exact wrap_i64 (by omega) (by omega)
theorem shl8 (a : UInt8) : IntKind.i64.wrap ((a.toNat : Int) * 256) = ((a.toNat * 256 : Nat) : Int) := by
  have ha := a.toNat_lt
  rw [wrap_i64 (by omega) (by omega)]; omega
/-- What was framed is read. -/
theorem headB_len {n : Nat} (h : n ≤ 4096) (s : List UInt8) : lenB (headB n ++ s) = n := by
  show (UInt8.ofNat (n / 256)).toNat * 256 + (UInt8.ofNat n).toNat = n
  simp; omega
theorem lenB_frame {xs s : List UInt8} (h : xs.length ≤ 4096) : lenB (frameB xs ++ s) = xs.length := by
  unfold frameB; rw [List.append_assoc, List.append_assoc]; exact headB_len h _
theorem sub_mid {α : Type} {p q r : List α} {l h : Nat} (hl : l = p.length) (hh : h = p.length + q.length) : sub (p ++ q ++ r) l h = q := by
  subst hl; subst hh
  rw [sub, ← List.length_append, List.take_left, List.drop_left]
theorem unR_frame {xs s : List UInt8} (h : xs.length ≤ 4096) : unR (frameB xs ++ s) = (xs, 6 + xs.length, 0) := by
  have hl := frameB_len xs
  have h1 : lenB (frameB xs ++ s) = xs.length := lenB_frame h
  have h2 : sub (frameB xs ++ s) 6 (6 + xs.length) = xs := by
    show sub ((headB xs.length ++ sum4 (sealB xs)) ++ xs ++ s) 6 (6 + xs.length) = xs
    exact sub_mid rfl rfl
  have h3 : sub (frameB xs ++ s) 0 (6 + xs.length) = frameB xs := by
    rw [sub, List.drop_zero, show 6 + xs.length = (frameB xs).length by omega, List.take_left]
  rw [unR_ok (by simp; omega) (by rw [h1]; omega) (by rw [h1]; simp; omega) (by rw [h1, h2, h3]), h1, h2]
theorem frameB_body (xs : List UInt8) : sub (frameB xs) 6 (frameB xs).length = xs := by
  have hl := frameB_len xs
  unfold sub
  rw [List.take_length]
  rfl
/-- What is cut off is short, or says so. -/
theorem unR_part {xs : List UInt8} {n : Nat} (h : xs.length ≤ 4096) (hn : n < (frameB xs).length) (s : List UInt8) : (unR ((frameB xs ++ s).take n)).2.2 = 30 ∨ (unR ((frameB xs ++ s).take n)).2.2 = 31 := by
  have hl := frameB_len xs
  have hlen : ((frameB xs ++ s).take n).length = n := by simp; omega
  by_cases h6 : n < 6
  · left; rw [unR_short (by omega)]
  · have h1 : lenB ((frameB xs ++ s).take n) = xs.length := by
      obtain ⟨m, rfl⟩ : ∃ m, n = m + 2 := ⟨n - 2, by omega⟩
      have h9 : ∀ t : List UInt8, lenB (t.take (m + 2)) = lenB t := fun t => by
        match t with
        | [] => rfl
        | [_] => rfl
        | _ :: _ :: _ => rfl
      rw [h9]
      exact lenB_frame h
    left
    rw [unR_cut (by omega) (by omega) (by omega)]
end Go.Proofs.Ytoigakfglgdjdaa
