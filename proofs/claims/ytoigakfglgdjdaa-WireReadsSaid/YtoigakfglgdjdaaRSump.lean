/- The document's check sum: the division of a list of bits, as arithmetic on one number. -/
import Derived.Test.YtoigakfglgdjdaaBurstp
set_option linter.unusedVariables false
set_option linter.unusedSimpArgs false
namespace Go.Proofs.Ytoigakfglgdjdaa
open Go.RowKit
def bit (M j : Nat) : Int := if M.testBit j then 1 else 0
def bl (n M : Nat) : List Int := (List.range n).map (bit M)
theorem bl_len (n M : Nat) : (bl n M).length = n := by simp [bl]
theorem bl_get {n M j : Nat} (h : j < n) : (bl n M)[j]? = some (bit M j) := by simp [bl, h]
theorem bl_app (n M : Nat) : bl (n + 1) M = bl n M ++ [bit M n] := by simp [bl, List.range_succ]
theorem bl_nil (M : Nat) : bl 0 M = [] := rfl
theorem test_one (p j : Nat) : (1 <<< p).testBit j = decide (p = j) := by
  rw [Nat.shiftLeft_eq, Nat.one_mul, Nat.testBit_two_pow]
theorem bl_flip {n M j : Nat} (h : j < n) : (bl n M).set j (1 - bit M j) = bl n (M ^^^ (1 <<< j)) := by
  apply List.ext_getElem?
  intro k
  rw [List.getElem?_set]
  by_cases hk : k < n
  · rw [bl_get hk, bl_get hk]
    by_cases e : j = k
    · subst e
      rw [if_pos rfl, if_pos (by rw [bl_len]; exact h)]
      simp only [bit, Nat.testBit_xor, test_one]
      cases M.testBit j <;> simp
    · rw [if_neg e]
      simp only [bit, Nat.testBit_xor, test_one, decide_eq_false e, Bool.xor_false]
  · rw [List.getElem?_eq_none (by rw [bl_len]; omega), List.getElem?_eq_none (by rw [bl_len]; omega)]
    by_cases e : j = k
    · omega
    · rw [if_neg e]
theorem bN_lt : ∀ bs : List UInt8, bN bs < 2 ^ (8 * bs.length)
  | [] => by simp [bN]
  | b :: bs => by
    have h := bN_lt bs
    have hb := b.toNat_lt
    show b.toNat ^^^ (bN bs <<< 8) < _
    apply Nat.xor_lt_two_pow
    · exact Nat.lt_of_lt_of_le hb (by simp only [List.length_cons]; exact Nat.pow_le_pow_right (by decide) (by omega))
    · rw [Nat.shiftLeft_eq]
      have h2 : 2 ^ (8 * (b :: bs).length) = 2 ^ (8 * bs.length) * 2 ^ 8 := by rw [← Nat.pow_add]; congr 1
      rw [h2]
      exact Nat.mul_lt_mul_of_pos_right h (by decide)
theorem bN_bit : ∀ {bs : List UInt8} {i k : Nat} {b : UInt8}, bs[i]? = some b → k < 8 → (bN bs).testBit (8 * i + k) = b.toNat.testBit k
  | [], i, k, b, h, hk => by cases h
  | c :: bs, 0, k, b, h, hk => by
    simp only [List.getElem?_cons_zero, Option.some.injEq] at h
    subst h
    show (c.toNat ^^^ (bN bs <<< 8)).testBit _ = _
    rw [Nat.testBit_xor, Nat.testBit_shiftLeft]
    simp [show ¬ 8 ≤ k by omega]
  | c :: bs, i + 1, k, b, h, hk => by
    have h1 := bN_bit (bs := bs) (i := i) (k := k) (b := b) (by simpa using h) hk
    show (c.toNat ^^^ (bN bs <<< 8)).testBit _ = _
    rw [Nat.testBit_xor, Nat.testBit_shiftLeft, Nat.testBit_lt_two_pow (Nat.lt_of_lt_of_le c.toNat_lt (show 2 ^ 8 ≤ 2 ^ (8 * (i + 1) + k) from Nat.pow_le_pow_right (by decide) (by omega)))]
    rw [show 8 * (i + 1) + k - 8 = 8 * i + k by omega, h1]
    simp [show 8 ≤ 8 * (i + 1) + k by omega]
theorem bN_msg {bs : List UInt8} {i k : Nat} {b : UInt8} (h : bs[i]? = some b) (hk : k < 8) : ((b.toNat / 2 ^ k % 2 : Nat) : Int) = bit (bN bs) (8 * i + k) := by
  rw [bit, bN_bit h hk, Nat.testBit_eq_decide_div_mod_eq]
  have := Nat.mod_two_eq_zero_or_one (b.toNat / 2 ^ k)
  rcases this with h | h <;> simp [h]
theorem bN_zero {bs : List UInt8} {j : Nat} (h : 8 * bs.length ≤ j) : bit (bN bs) j = 0 := by
  rw [bit, Nat.testBit_lt_two_pow (Nat.lt_of_lt_of_le (bN_lt bs) (Nat.pow_le_pow_right (by decide) h))]
  rfl
theorem ones_step (M k : Nat) : (M ^^^ (2 ^ k - 1)) ^^^ (1 <<< k) = M ^^^ (2 ^ (k + 1) - 1) := by
  rw [Nat.xor_assoc]
  congr 1
  apply Nat.eq_of_testBit_eq
  intro j
  rw [Nat.testBit_xor, test_one, Nat.testBit_two_pow_sub_one, Nat.testBit_two_pow_sub_one]
  by_cases e : k = j
  · subst e; simp
  · rw [decide_eq_false e, Bool.xor_false, decide_eq_decide]; omega
/-- The division. -/
def pw : List Nat := [32, 28, 27, 26, 25, 23, 22, 20, 19, 18, 14, 13, 11, 10, 9, 8, 6, 0]
def xk (k : Nat) : Nat := (pw.take k).foldl (fun a p => a ^^^ (1 <<< (32 - p))) 0
theorem xk_step {k p : Nat} (h : pw[k]? = some p) : xk (k + 1) = xk k ^^^ (1 <<< (32 - p)) := by
  unfold xk
  rw [List.take_add_one, h]
  simp [List.foldl_append]
theorem pw_le {k p : Nat} (h : pw[k]? = some p) : p ≤ 32 := by
  have hm := List.mem_of_getElem? h
  simp only [pw, List.mem_cons, List.not_mem_nil, or_false] at hm
  omega
theorem xk_all : xk 18 = 4394350321 := by decide
def dv : Nat → Nat → Nat
  | 0, M => M
  | i + 1, M => if (dv i M).testBit i then dv i M ^^^ (4394350321 <<< i) else dv i M
theorem dv_cr (M : Nat) : ∀ i : Nat, dv i M >>> i = crK i M
  | 0 => rfl
  | i + 1 => by
    rw [crK_last, ← dv_cr M i]
    unfold cr
    have ht : (dv i M).testBit i = decide ((dv i M >>> i) % 2 = 1) := by
      rw [Nat.testBit_eq_decide_div_mod_eq, Nat.shiftRight_eq_div_pow]
    by_cases h : (dv i M >>> i) % 2 = 1
    · rw [if_pos h]
      show (if (dv i M).testBit i then dv i M ^^^ (4394350321 <<< i) else dv i M) >>> (i + 1) = _
      rw [ht, decide_eq_true h, if_pos rfl, Nat.shiftRight_add, Nat.shiftRight_xor_distrib]
      have h1 : (4394350321 <<< i) >>> i = 4394350321 := by rw [Nat.shiftLeft_shiftRight]
      rw [h1, Nat.shiftRight_xor_distrib]
      rfl
    · rw [if_neg h]
      show (if (dv i M).testBit i then dv i M ^^^ (4394350321 <<< i) else dv i M) >>> (i + 1) = _
      rw [ht, decide_eq_false h, if_neg (by simp), Nat.shiftRight_add]
theorem flip_at {M i p k : Nat} (hp : pw[k]? = some p) : (M ^^^ (xk k <<< i)) ^^^ (1 <<< (i + 32 - p)) = M ^^^ (xk (k + 1) <<< i) := by
  have hle := pw_le hp
  rw [xk_step hp, Nat.shiftLeft_xor_distrib, ← Nat.xor_assoc, ← Nat.shiftLeft_add]
  congr 2
  omega
/-- What comes out. -/
def outN (R : Nat) : Nat → Nat
  | 0 => 0
  | k + 1 => outN R k + if R.testBit k then 0 else 2 ^ k
theorem outN_eq (R : Nat) : ∀ k : Nat, outN R k + R % 2 ^ k + 1 = 2 ^ k
  | 0 => by simp [outN, Nat.mod_one]
  | k + 1 => by
    have h := outN_eq R k
    have h1 : R % 2 ^ (k + 1) = R % 2 ^ k + 2 ^ k * (R / 2 ^ k % 2) := Nat.mod_pow_succ
    have h2 : R.testBit k = decide (R / 2 ^ k % 2 = 1) := Nat.testBit_eq_decide_div_mod_eq
    show outN R k + (if R.testBit k then 0 else 2 ^ k) + R % 2 ^ (k + 1) + 1 = _
    rw [h1, h2, Nat.pow_succ]
    rcases Nat.mod_two_eq_zero_or_one (R / 2 ^ k) with h3 | h3 <;> rw [h3] <;> simp <;> omega
theorem sum_out (bs : List UInt8) : outN (crK (8 * bs.length) (bN bs ^^^ (2 ^ 32 - 1))) 32 = (sumB bs).toNat := by
  have h1 := fold_bN bs (BitVec.allOnes 32)
  rw [BitVec.toNat_allOnes, Nat.xor_comm] at h1
  have h2 := outN_eq (crK (8 * bs.length) (bN bs ^^^ (2 ^ 32 - 1))) 32
  rw [← h1] at h2 ⊢
  have h3 := (List.foldl crcB (BitVec.allOnes 32) bs).isLt
  rw [Nat.mod_eq_of_lt h3] at h2
  show _ = (~~~ crcL bs).toNat
  unfold crcL
  rw [BitVec.toNat_not]
  omega
abbrev pwL : List Int := [32, 28, 27, 26, 25, 23, 22, 20, 19, 18, 14, 13, 11, 10, 9, 8, 6, 0]
theorem pwL_get {k : Nat} {x : Int} (h : pwL[k]? = some x) : ∃ p : Nat, x = (p : Int) ∧ pw[k]? = some p ∧ p ≤ 32 := by
  have h1 : pwL = pw.map (fun (p : Nat) => (p : Int)) := rfl
  rw [h1, List.getElem?_map] at h
  obtain ⟨p, hp, he⟩ := Option.map_eq_some_iff.1 h
  exact ⟨p, he.symm, hp, pw_le hp⟩
theorem shr8k (b : UInt8) {k : Nat} (hk : k < 8) : (b.toNat : Int).fdiv (2 ^ (min ((k : Int)).toNat IntKind.u8.bits)) = ((b.toNat / 2 ^ k : Nat) : Int) := by
  have h1 : min ((k : Int)).toNat IntKind.u8.bits = k := by simp [IntKind.bits]; omega
  rw [h1]
  have h2 : ((2 : Int) ^ k) = ((2 ^ k : Nat) : Int) := by simp
  rw [h2, fdivK]
theorem and1i64 {q : Nat} (h : q < 256) : ibits .and .i64 (q : Int) 1 = ((q % 2 : Nat) : Int) := by
  show IntKind.i64.wrap ((BitVec.ofInt 64 (q : Int) &&& BitVec.ofInt 64 (1 : Int)).toNat : Int) = _
  have h1 : BitVec.ofInt 64 (q : Int) = BitVec.ofNat 64 q := bvnat0 q
  rw [h1]
  have h2 : (BitVec.ofNat 64 q &&& BitVec.ofInt 64 (1 : Int)).toNat = q % 2 := by
    rw [BitVec.toNat_and, BitVec.toNat_ofNat, Nat.mod_eq_of_lt (by omega)]
    show q &&& 1 = _
    rw [Nat.and_one_is_mod]
  rw [h2, wrap_i64 (by omega) (by omega)]
theorem shl1u32 {k : Nat} (hk : k < 32) : IntKind.u32.wrap (1 * 2 ^ (min ((k : Int)).toNat IntKind.u32.bits)) = ((2 ^ k : Nat) : Int) := by
  have h1 : min ((k : Int)).toNat IntKind.u32.bits = k := by simp [IntKind.bits]; omega
  have h2 : ((2 : Int) ^ k) = ((2 ^ k : Nat) : Int) := by simp
  have h3 : 2 ^ k < 2 ^ 32 := Nat.pow_lt_pow_right (by decide) hk
  have h4 : ∀ r : Nat, r < 4294967296 → IntKind.u32.wrap (r : Int) = (r : Int) := fun r hr => wrap_u32 (by omega) (by omega)
  rw [h1, h2, Int.one_mul, h4 _ h3]
theorem out_lt (R : Nat) {k : Nat} (hk : k < 32) : outN R k + 2 ^ k ≤ 4294967295 := by
  have h1 := outN_eq R k
  have h2 : 2 ^ (k + 1) ≤ 2 ^ 32 := Nat.pow_le_pow_right (by decide) (by omega)
  rw [Nat.pow_succ] at h2
  omega
theorem dv_on {i M : Nat} (h : (dv i M).testBit i = true) : dv i M ^^^ (xk 18 <<< i) = dv (i + 1) M := by
  rw [xk_all]
  show _ = if (dv i M).testBit i then _ else _
  rw [if_pos h]
theorem dv_off {i M : Nat} (h : (dv i M).testBit i = false) : dv i M = dv (i + 1) M := by
  show _ = if (dv i M).testBit i then _ else _
  rw [if_neg (by rw [h]; simp)]
theorem bit_one_ {M j : Nat} (h : bit M j = 1) : M.testBit j = true := by
  unfold bit at h; split at h
  · assumption
  · cases h
theorem bit_zero_ {M j : Nat} (h : ¬ bit M j = 1) : M.testBit j = false := by
  unfold bit at h; split at h
  · exact absurd rfl h
  · rename_i h2; simpa using h2
theorem out_on {R w : Nat} (h : R.testBit w = false) : (outN R (w + 1) : Int) = (outN R w : Int) + ((2 ^ w : Nat) : Int) := by
  show ((outN R w + if R.testBit w then 0 else 2 ^ w : Nat) : Int) = _
  rw [if_neg (by rw [h]; simp)]; simp
theorem out_off {R w : Nat} (h : R.testBit w = true) : (outN R (w + 1) : Int) = (outN R w : Int) := by
  show ((outN R w + if R.testBit w then 0 else 2 ^ w : Nat) : Int) = _
  rw [if_pos h]; rfl
theorem dv_bit {n w M : Nat} : (dv n M).testBit (n + w) = (crK n M).testBit w := by rw [← dv_cr, Nat.testBit_shiftRight]
theorem wrapN64 {n : Nat} (h : n < 9223372036854775808) : IntKind.i64.wrap (n : Int) = (n : Int) := wrap_i64 (by omega) (by omega)
theorem bit01 (M j : Nat) : bit M j = 0 ∨ bit M j = 1 := by unfold bit; split <;> simp
end Go.Proofs.Ytoigakfglgdjdaa
