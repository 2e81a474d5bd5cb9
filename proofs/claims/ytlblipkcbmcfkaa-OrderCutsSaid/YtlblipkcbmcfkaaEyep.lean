/- Numbers and texts that are read: the plain law. -/
import Derived.Test.YtlblipkcbmcfkaaPlain
set_option linter.unusedVariables false
set_option linter.unusedSimpArgs false
namespace Go.Proofs.Ytlblipkcbmcfkaa
open Go.RowKit
/-- A number is read: its value, the error's number, how many bytes it took; k: how many were read ahead of these. -/
def numR : Nat → Nat → List UInt8 → Nat × Nat × Nat
  | _, _, [] => (0, 30, 0)
  | k, n, b :: t =>
    if k = 9 ∧ 1 < b.toNat then (0, 31, 0)
    else if b.toNat < 128 then (if b.toNat = 0 ∧ 0 < k then (0, 31, 0) else (n + b.toNat % 128 * 128 ^ k, 0, k + 1))
    else numR (k + 1) (n + b.toNat % 128 * 128 ^ k) t
theorem numR_bad {k n : Nat} {b : UInt8} {t : List UInt8} (h : k = 9) (h2 : 1 < b.toNat) : numR k n (b :: t) = (0, 31, 0) := by rw [numR, if_pos ⟨h, h2⟩]
theorem numR_zero {k n : Nat} {b : UInt8} {t : List UInt8} (h1 : b.toNat < 128) (h : b.toNat = 0) (h2 : 0 < k) : numR k n (b :: t) = (0, 31, 0) := by
  rw [numR, if_neg (by omega), if_pos h1, if_pos ⟨h, h2⟩]
theorem numR_end {k n : Nat} {b : UInt8} {t : List UInt8} (h0 : ¬ (k = 9 ∧ 1 < b.toNat)) (h1 : b.toNat < 128) (h : ¬ (b.toNat = 0 ∧ 0 < k)) : numR k n (b :: t) = (n + b.toNat % 128 * 128 ^ k, 0, k + 1) := by
  rw [numR, if_neg h0, if_pos h1, if_neg h]
theorem numR_on {k n : Nat} {b : UInt8} {t : List UInt8} (h0 : ¬ (k = 9 ∧ 1 < b.toNat)) (h1 : ¬ b.toNat < 128) : numR k n (b :: t) = numR (k + 1) (n + b.toNat % 128 * 128 ^ k) t := by
  rw [numR, if_neg h0, if_neg h1]
theorem pow_split (k : Nat) : 128 ^ (k + 1) = 128 ^ k * 128 := Nat.pow_succ ..
theorem numR_next {k n : Nat} {b : UInt8} (hn : n < 128 ^ k) : n + b.toNat % 128 * 128 ^ k < 128 ^ (k + 1) := by
  have h1 : b.toNat % 128 ≤ 127 := by omega
  have h2 := Nat.mul_le_mul_right (128 ^ k) h1
  rw [pow_split]
  omega
/-- What is read took no more than there is. -/
theorem numR_used : ∀ (t : List UInt8) (k n : Nat), (numR k n t).2.2 ≤ k + t.length ∧ ((numR k n t).2.1 ≠ 0 → (numR k n t).2.2 = 0 ∧ (numR k n t).1 = 0) ∧ ((numR k n t).2.1 = 0 → 0 < (numR k n t).2.2) ∧ (numR k n t).2.1 ≤ 31
  | [], k, n => by simp [numR]
  | b :: t, k, n => by
    have ih := numR_used t (k + 1) (n + b.toNat % 128 * 128 ^ k)
    rw [numR]
    split
    · simp
    · split
      · split
        · simp
        · simp
      · simp only [List.length_cons]
        exact ⟨by omega, ih.2⟩
theorem low_of_ge {b : UInt8} (n : Nat) (h : b = (UInt8.ofNat n ||| 128)) : b.toNat % 128 = n % 128 ∧ ¬ b.toNat < 128 := by
  subst h; rw [or_low]; omega
theorem pow_le9 {k : Nat} (h : k ≤ 9) : 128 ^ k ≤ 9223372036854775808 := by
  have := Nat.pow_le_pow_right (n := 128) (by omega) h
  exact Nat.le_trans this (by decide)
/-- What was written is read. -/
theorem numR_numB (s : List UInt8) : ∀ (m k n : Nat), k ≤ 9 → m * 128 ^ k < 18446744073709551616 → (0 < k → 0 < m) → numR k n (numB m ++ s) = (n + m * 128 ^ k, 0, k + (numB m).length) := by
  intro m
  induction m using Nat.strongRecOn with
  | _ m ih =>
    intro k n hk hm h0
    by_cases h : m < 128
    · rw [numB_lt h]
      show numR k n (UInt8.ofNat m :: s) = _
      have h1 := of_low h
      rw [numR_end]
      · rw [h1]; simp [Nat.mod_eq_of_lt h]
      · rw [h1]; rintro ⟨rfl, h2⟩
        have : 128 ^ 9 = 9223372036854775808 := by decide
        rw [this] at hm; omega
      · rw [h1]; exact h
      · rw [h1]; rintro ⟨h2, h3⟩; have := h0 h3; omega
    · rw [numB_ge (by omega)]
      show numR k n ((UInt8.ofNat m ||| 128) :: (numB (m / 128) ++ s)) = _
      have h1 := or_low m
      have hk9 : k < 9 := by
        rcases Nat.lt_or_ge k 9 with h9 | h9
        · exact h9
        · exfalso
          obtain rfl : k = 9 := by omega
          have : 128 ^ 9 = 9223372036854775808 := by decide
          rw [this] at hm; omega
      rw [numR_on (by rw [h1]; omega) (by rw [h1]; omega)]
      have hd : m / 128 * 128 ^ (k + 1) ≤ m * 128 ^ k := by
        rw [pow_split, ← Nat.mul_assoc, Nat.mul_right_comm]
        exact Nat.mul_le_mul_right _ (Nat.div_mul_le_self m 128)
      rw [ih (m / 128) (by omega) (k + 1) _ (by omega) (by omega) (by omega)]
      rw [h1]
      have e1 : (m % 128 + 128) % 128 = m % 128 := by omega
      have e2 : n + m % 128 * 128 ^ k + m / 128 * 128 ^ (k + 1) = n + m * 128 ^ k := by
        rw [pow_split, ← Nat.mul_assoc, Nat.mul_right_comm, Nat.add_assoc, ← Nat.add_mul, Nat.add_comm (m % 128), Nat.mul_comm (m / 128), Nat.div_add_mod]
      rw [e1, e2]
      simp
      omega
/-- Nothing shorter is. -/
theorem numR_cut : ∀ (m k n j : Nat), j < (numB m).length → k ≤ 9 → m * 128 ^ k < 18446744073709551616 → numR k n ((numB m).take j) = (0, 30, 0) := by
  intro m
  induction m using Nat.strongRecOn with
  | _ m ih =>
    intro k n j hj hk hm
    cases j with
    | zero => simp [numR]
    | succ j =>
      by_cases h : m < 128
      · rw [numB_lt h] at hj; simp at hj
      · rw [numB_ge (n := m) (by omega)] at hj ⊢
        rw [List.take_succ_cons]
        have h1 := or_low m
        have hk9 : k < 9 := by
          rcases Nat.lt_or_ge k 9 with h9 | h9
          · exact h9
          · exfalso
            obtain rfl : k = 9 := by omega
            have : 128 ^ 9 = 9223372036854775808 := by decide
            rw [this] at hm; omega
        rw [numR_on (by rw [h1]; omega) (by rw [h1]; omega)]
        have hd : m / 128 * 128 ^ (k + 1) ≤ m * 128 ^ k := by
          rw [pow_split, ← Nat.mul_assoc, Nat.mul_right_comm]
          exact Nat.mul_le_mul_right _ (Nat.div_mul_le_self m 128)
        exact ih (m / 128) (by omega) (k + 1) _ j (by simpa using hj) (by omega) (by omega)
/-- A text is read: its bytes, the error's number, how many bytes it took. -/
def textR (t : List UInt8) : List UInt8 × Nat × Nat :=
  let r := numR 0 0 t
  if r.2.1 ≠ 0 then ([], r.2.1, 0) else if t.length - r.2.2 < r.1 then ([], 30, 0) else (sub t r.2.2 (r.2.2 + r.1), 0, r.2.2 + r.1)
theorem sub_drop {α : Type} (ys : List α) (u v : Nat) : sub (ys.drop u) 0 v = sub ys u (u + v) := by
  simp only [sub, List.drop_zero]
  rw [List.take_drop]
theorem textR_err {t : List UInt8} (h : (numR 0 0 t).2.1 ≠ 0) : textR t = ([], (numR 0 0 t).2.1, 0) := by simp [textR, h]
theorem textR_short {t : List UInt8} (h : (numR 0 0 t).2.1 = 0) (h2 : t.length - (numR 0 0 t).2.2 < (numR 0 0 t).1) : textR t = ([], 30, 0) := by simp [textR, h, h2]
theorem textR_ok {t : List UInt8} (h : (numR 0 0 t).2.1 = 0) (h2 : ¬ t.length - (numR 0 0 t).2.2 < (numR 0 0 t).1) : textR t = (sub t (numR 0 0 t).2.2 ((numR 0 0 t).2.2 + (numR 0 0 t).1), 0, (numR 0 0 t).2.2 + (numR 0 0 t).1) := by simp [textR, h, h2]
theorem textR_len (t : List UInt8) : (textR t).1.length ≤ t.length := by
  unfold textR
  dsimp only
  split
  · simp
  · split
    · simp
    · simp [sub]; omega
def endR (t : List UInt8) : Nat := if 0 < t.length then 32 else 0
def byteR : List UInt8 → UInt8 × Nat × Nat
  | [] => (0, 30, 0)
  | b :: t => (b, 0, 1)
theorem byteR_get {t : List UInt8} {b : UInt8} (h : t[0]? = some b) : byteR t = (b, 0, 1) := by
  cases t with
  | nil => cases h
  | cons c t => simp at h; subst h; rfl
theorem byteR_nil {t : List UInt8} (h : t.length = 0) : byteR t = (0, 30, 0) := by
  rw [List.eq_nil_of_length_eq_zero h]; rfl
theorem bvnat0 (n : Nat) : BitVec.ofInt 64 (n : Int) = BitVec.ofNat 64 n := by
  apply BitVec.eq_of_toNat_eq
  simp
theorem numR_self {n : Nat} (h : n < 18446744073709551616) : numR 0 0 (numB n) = (n, 0, (numB n).length) := by
  have := numR_numB [] n 0 0 (by omega) (by omega) (by omega)
  simpa using this
theorem numR_part {n j : Nat} (h : n < 18446744073709551616) (hj : j < (numB n).length) : numR 0 0 ((numB n).take j) = (0, 30, 0) := numR_cut n 0 0 j hj (by omega) (by omega)
theorem sub_take {α : Type} (xs : List α) (j : Nat) : sub xs 0 j = xs.take j := by simp [sub]
theorem numB_split (n : Nat) : (numB n).length = 1 + (if n / 128 = 0 then 0 else (numB (n / 128)).length) := by
  by_cases h : n < 128
  · rw [numB_lt h, if_pos (by omega)]; rfl
  · rw [numB_ge (by omega), if_neg (by omega)]; simp; omega
theorem textR_cut {bs : List UInt8} {n : Nat} (hs : bs.length < 18446744073709551616) (h : n < (numB bs.length ++ bs).length) : textR ((numB bs.length ++ bs).take n) = ([], 30, 0) := by
  by_cases h1 : n < (numB bs.length).length
  · have h2 : (numB bs.length ++ bs).take n = (numB bs.length).take n := List.take_append_of_le_length (by omega)
    have h3 := numR_part hs h1
    rw [h2, textR_err (by rw [h3]; simp), h3]
  · have h2 : (numB bs.length ++ bs).take n = numB bs.length ++ bs.take (n - (numB bs.length).length) := by
      rw [List.take_append, List.take_of_length_le (by omega)]
    have h3 := numR_numB (bs.take (n - (numB bs.length).length)) bs.length 0 0 (by omega) (by omega) (by omega)
    rw [List.length_append] at h
    rw [h2, textR_short (by rw [h3]) (by rw [h3]; simp; omega)]
theorem byteR_at {D ds ys : List UInt8} {n i : Nat} {x : UInt8} (hd : ds = sub D 0 n) (hy : ys = ds.drop i) (hi : i < n) (hx : D[i]? = some x) : byteR ys = (x, 0, 1) := by
  refine byteR_get ?_
  rw [hy, List.getElem?_drop, hd, sub_get (by omega), ← hx]
  simp
/-! ### The machine's words -/
theorem and_mask (k : Int) (m : Nat) (hm : m < 4611686018427387904) : ∃ q : Nat, q ≤ m ∧ ibits .and .i64 k (m : Int) = (q : Int) := by
  refine ⟨(BitVec.ofInt 64 k &&& BitVec.ofInt 64 (m : Int)).toNat, ?_, ?_⟩
  · rw [bvnat0, BitVec.toNat_and, BitVec.toNat_ofNat, Nat.mod_eq_of_lt (by omega)]
    exact Nat.and_le_right
  · have h : (BitVec.ofInt 64 k &&& BitVec.ofInt 64 (m : Int)).toNat ≤ m := by
      rw [bvnat0, BitVec.toNat_and, BitVec.toNat_ofNat, Nat.mod_eq_of_lt (by omega)]
      exact Nat.and_le_right
    show IntKind.i64.wrap _ = _
    exact wrap_i64 (by show (_ : Int) ≤ ((BitVec.ofInt 64 k &&& BitVec.ofInt 64 (m : Int)).toNat : Int); omega) (by show ((BitVec.ofInt 64 k &&& BitVec.ofInt 64 (m : Int)).toNat : Int) ≤ _; omega)
theorem tmodN {q n : Nat} : (q : Int).tmod (n : Int) = ((q % n : Nat) : Int) := by rw [Int.tmod_eq_emod_of_nonneg (by omega)]; omega
theorem bvnat (n : Nat) : BitVec.ofInt 64 (n : Int) = BitVec.ofNat 64 n := by
  apply BitVec.eq_of_toNat_eq
  simp
theorem or64 {n x p : Nat} (hn : n < 2 ^ p) (hx : x * 2 ^ p < 18446744073709551616) (hn2 : n < 18446744073709551616) : ibits .or .u64 (n : Int) ((x * 2 ^ p : Nat) : Int) = ((n + x * 2 ^ p : Nat) : Int) := by
  show IntKind.u64.wrap ((BitVec.ofInt 64 (n : Int) ||| BitVec.ofInt 64 ((x * 2 ^ p : Nat) : Int)).toNat : Int) = _
  rw [bvnat, bvnat, BitVec.toNat_or, BitVec.toNat_ofNat, BitVec.toNat_ofNat, Nat.mod_eq_of_lt (by omega), Nat.mod_eq_of_lt (by omega)]
  have h := Nat.two_pow_add_eq_or_of_lt hn x
  have e : n ||| x * 2 ^ p = n + x * 2 ^ p := by
    rw [Nat.or_comm, Nat.mul_comm x, ← h]; omega
  have h64 : n + x * 2 ^ p < 2 ^ 64 := by
    rw [← e]; exact Nat.or_lt_two_pow (by omega) (by omega)
  rw [e, wrap_u64 (by omega) (by omega)]
theorem pow7 (k : Nat) : 128 ^ k = 2 ^ (7 * k) := by rw [show (128 : Nat) = 2 ^ 7 by rfl, ← Nat.pow_mul]
theorem shl7 {k x : Nat} (hk : k ≤ 9) (hx : x * 128 ^ k < 18446744073709551616) : IntKind.u64.wrap ((x : Int) * 2 ^ (min ((7 * (k : Int)).toNat) IntKind.u64.bits)) = ((x * 2 ^ (7 * k) : Nat) : Int) := by
  have h1 : min ((7 * (k : Int)).toNat) IntKind.u64.bits = 7 * k := by simp [IntKind.bits]; omega
  rw [h1]
  have h2 : (x : Int) * 2 ^ (7 * k) = ((x * 2 ^ (7 * k) : Nat) : Int) := by simp
  rw [h2, wrap_u64 (by omega) (by rw [← pow7]; omega)]
theorem x_bound {k : Nat} {b : UInt8} (hk : k ≤ 9) (h : ¬ (k = 9 ∧ 1 < b.toNat)) : b.toNat % 128 * 128 ^ k < 18446744073709551616 := by
  by_cases h9 : k = 9
  · subst h9
    have : 128 ^ 9 = 9223372036854775808 := by decide
    rw [this]; omega
  · have h1 : b.toNat % 128 ≤ 127 := by omega
    have h2 := Nat.mul_le_mul_right (128 ^ k) h1
    have h3 := Nat.pow_le_pow_right (n := 128) (by omega) (show k ≤ 8 by omega)
    have : 128 ^ 8 = 72057594037927936 := by decide
    omega
theorem tmod128b (b : UInt8) : ((b.toNat : Nat) : Int).tmod 128 = ((b.toNat % 128 : Nat) : Int) := tmod128 b.toNat
theorem or7 {k n : Nat} {b : UInt8} (hk : k ≤ 9) (hn : n < 128 ^ k) (h : ¬ (k = 9 ∧ 1 < b.toNat)) : ibits .or .u64 (n : Int) ((b.toNat % 128 * 2 ^ (7 * k) : Nat) : Int) = ((n + b.toNat % 128 * 128 ^ k : Nat) : Int) := by
  have hx := x_bound hk h
  have := pow_le9 hk
  rw [pow7] at hn hx ⊢
  rw [or64 hn hx (by rw [pow7] at this; omega)]
theorem mul7 {k : Nat} {b : UInt8} (hk : k ≤ 9) (h : ¬ (k = 9 ∧ 1 < b.toNat)) : IntKind.u64.wrap (((b.toNat % 128 : Nat) : Int) * ((128 ^ k : Nat) : Int)) = ((b.toNat % 128 * 128 ^ k : Nat) : Int) := by
  have := x_bound hk h
  rw [← Int.natCast_mul]
  exact wrap_u64 (by omega) (by omega)
theorem add7 {k n : Nat} {b : UInt8} (hk : k ≤ 9) (hn : n < 128 ^ k) (h : ¬ (k = 9 ∧ 1 < b.toNat)) : IntKind.u64.wrap ((n : Int) + ((b.toNat % 128 * 128 ^ k : Nat) : Int)) = ((n + b.toNat % 128 * 128 ^ k : Nat) : Int) := by
  have h1 := x_bound hk h
  have h2 := numR_next (b := b) hn
  have h3 : n + b.toNat % 128 * 128 ^ k < 18446744073709551616 := by
    by_cases h9 : k = 9
    · subst h9
      have : 128 ^ 9 = 9223372036854775808 := by decide
      rw [this] at hn ⊢
      have : b.toNat % 128 ≤ 1 := by omega
      omega
    · have := pow_le9 (show k + 1 ≤ 9 by omega); omega
  rw [wrap_u64 (by omega) (by omega)]
  omega
theorem weight7 {k : Nat} (hk : k < 9) : IntKind.u64.wrap (((128 ^ k : Nat) : Int) * 128) = ((128 ^ (k + 1) : Nat) : Int) := by
  have := pow_le9 (show k + 1 ≤ 9 by omega)
  have e : ((128 ^ k : Nat) : Int) * 128 = ((128 ^ (k + 1) : Nat) : Int) := by rw [pow_split, Int.natCast_mul]; rfl
  rw [e]
  generalize 128 ^ (k + 1) = p at this
  exact wrap_u64 (by omega) (by omega)
theorem cu64 (b : UInt8) : IntKind.u64.wrap (b.toNat : Int) = (b.toNat : Int) := by have := b.toNat_lt; exact wrap_u64 (by omega) (by omega)
theorem drop_get {α : Type} {xs : List α} {j : Nat} {x : α} (h : xs[j]? = some x) : xs.drop j = x :: xs.drop (j + 1) := by
  obtain ⟨hl, rfl⟩ := List.getElem?_eq_some_iff.1 h
  exact List.drop_eq_getElem_cons hl
end Go.Proofs.Ytlblipkcbmcfkaa
