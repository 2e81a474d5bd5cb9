/- Orders that are read: the plain law. -/
import Derived.Test.YtlblipkcbmcfkaaOWrite
import Derived.Test.YtlblipkcbmcfkaaEyep
set_option linter.unusedVariables false
set_option linter.unusedSimpArgs false
namespace Go.Proofs.Ytlblipkcbmcfkaa
open Go.RowKit Classical
def smR (ys : List UInt8) : Int := ((min (numR 0 0 ys).1 2147483647 : Nat) : Int)
theorem numR_lt : ∀ (t : List UInt8) (k n : Nat), k ≤ 9 → n < 128 ^ k → (numR k n t).1 < 18446744073709551616
  | [], k, n, _, _ => by simp [numR]
  | b :: t, k, n, hk, hn => by
    have h9 := numR_next (b := b) hn
    rw [numR]
    split
    · simp
    · rename_i h
      split
      · split
        · simp
        · show n + b.toNat % 128 * 128 ^ k < _
          by_cases hk9 : k = 9
          · subst hk9
            have : 128 ^ 9 = 9223372036854775808 := by decide
            rw [this] at hn ⊢; omega
          · have := pow_le9 (k := k + 1) (by omega); omega
      · exact numR_lt t (k + 1) _ (by omega) h9
theorem numR_of {m : Nat} {s t : List UInt8} (hm : m < 18446744073709551616) (h : t = numB m ++ s) : (numR 0 0 t).1 = m ∧ (numR 0 0 t).2.1 = 0 ∧ t.drop (numR 0 0 t).2.2 = s := by
  have h1 := numR_numB s m 0 0 (by omega) (by omega) (by omega)
  rw [h, h1]
  refine ⟨by simp, rfl, ?_⟩
  show List.drop (0 + (numB m).length) _ = _
  rw [Nat.zero_add, List.drop_left]
theorem nB_of {x : Int} {s t : List UInt8} (h0 : 0 ≤ x) (hx : x < 18446744073709551616) (h : t = nB x ++ s) : ((numR 0 0 t).1 : Int) = x ∧ (numR 0 0 t).2.1 = 0 ∧ t.drop (numR 0 0 t).2.2 = s := by
  obtain ⟨h1, h2, h3⟩ := numR_of (m := x.toNat) (by omega) h
  exact ⟨by omega, h2, h3⟩
theorem bts_data (s : ByteArray) : bts s.data.toList = s := by cases s; simp [bts]
theorem textR_ofL {v s t : List UInt8} (hv : v.length < 18446744073709551616) (h : t = numB v.length ++ v ++ s) : (textR t).1 = v ∧ t.drop (textR t).2.2 = s := by
  rw [List.append_assoc] at h
  have h1 := numR_numB (v ++ s) v.length 0 0 (by omega) (by omega) (by omega)
  have h2 : numR 0 0 t = (v.length, 0, (numB v.length).length) := by rw [h, h1]; simp
  have h3 : ¬ t.length - (numR 0 0 t).2.2 < (numR 0 0 t).1 := by rw [h2, h]; simp
  rw [textR_ok (by rw [h2]) h3, h2]
  have h4 : t.drop (numB v.length).length = v ++ s := by rw [h, List.drop_left]
  refine ⟨?_, ?_⟩
  · show sub t _ _ = v
    rw [← sub_drop, h4, sub_take, List.take_left]
  · show t.drop (_ + _) = s
    rw [← List.drop_drop, h4, List.drop_left]
theorem strR_of {v : ByteArray} {s t : List UInt8} (hv : v.size ≤ 1000000) (h : t = strB v ++ s) : bts (textR t).1 = v ∧ t.drop (textR t).2.2 = s := by
  have hl : v.data.toList.length = v.size := by simp
  obtain ⟨h1, h2⟩ := textR_ofL (v := v.data.toList) (s := s) (t := t) (by omega) (by rw [h]; unfold strB; rfl)
  exact ⟨by rw [h1, bts_data], h2⟩
theorem smR_of {x : Int} {s t : List UInt8} (h0 : 0 ≤ x) (hx : x ≤ 2147483647) (h : t = nB x ++ s) : smR t = x ∧ t.drop (numR 0 0 t).2.2 = s := by
  obtain ⟨h1, _, h3⟩ := nB_of h0 (by omega) h
  exact ⟨by unfold smR; omega, h3⟩
theorem smR_ofN {m : Nat} {s t : List UInt8} (hx : m ≤ 2147483647) (h : t = numB m ++ s) : smR t = (m : Int) ∧ t.drop (numR 0 0 t).2.2 = s := by
  obtain ⟨h1, _, h3⟩ := numR_of (by omega) h
  exact ⟨by unfold smR; omega, h3⟩
theorem smR_0 (t : List UInt8) : 0 ≤ smR t ∧ smR t ≤ 2147483647 := by unfold smR; omega
theorem num_0 (t : List UInt8) : (numR 0 0 t).1 < 18446744073709551616 := numR_lt t 0 0 (by omega) (by omega)
/-! ### The number turned back -/
def unzig (n : Int) : Int := if n % 2 = 0 then n / 2 else -(n / 2) - 1
theorem unzig_zig {n : Int} : unzig (zig n) = n := by unfold unzig zig; split <;> split <;> omega
theorem unzig_0 {n : Int} (h : 0 ≤ n ∧ n < 18446744073709551616) : -9223372036854775808 ≤ unzig n ∧ unzig n ≤ 9223372036854775807 := by unfold unzig; split <;> omega
theorem and1 {n : Nat} (h : n < 18446744073709551616) : ibits .and .u64 (n : Int) 1 = ((n % 2 : Nat) : Int) := by
  show IntKind.u64.wrap ((BitVec.ofInt 64 (n : Int) &&& BitVec.ofInt 64 1).toNat : Int) = _
  have h1 := bv_nat (n : Int) (by omega) (by omega)
  rw [BitVec.toNat_and, show (BitVec.ofInt 64 1).toNat = 1 from rfl, Nat.and_one_is_mod, show (BitVec.ofInt 64 (n : Int)).toNat = n by omega, wrap_u64 (by omega) (by omega)]
theorem back_unzig {n : Nat} (h : n < 18446744073709551616) : ibits .xor .i64 ((n / 2 : Nat) : Int) (-((n % 2 : Nat) : Int)) = unzig (n : Int) := by
  show IntKind.i64.wrap ((BitVec.ofInt 64 _ ^^^ BitVec.ofInt 64 _).toNat : Int) = _
  have h1 := bv_nat ((n / 2 : Nat) : Int) (by omega) (by omega)
  by_cases h0 : n % 2 = 0
  · rw [h0]
    rw [show BitVec.ofInt 64 (-((0 : Nat) : Int)) = 0#64 from rfl, BitVec.xor_zero, h1, wrap_i64 (by omega) (by omega)]
    unfold unzig; rw [if_pos (by omega)]; omega
  · rw [show n % 2 = 1 by omega]
    rw [show BitVec.ofInt 64 (-((1 : Nat) : Int)) = BitVec.allOnes 64 from by decide, BitVec.xor_allOnes, BitVec.toNat_not]
    have e : IntKind.i64.wrap ((2 ^ 64 - 1 - (BitVec.ofInt 64 ((n / 2 : Nat) : Int)).toNat : Nat) : Int) = -((n / 2 : Nat) : Int) - 1 := by
      simp [IntKind.wrap, IntKind.signed, IntKind.bits] at h1 ⊢; omega
    rw [e]
    unfold unzig; rw [if_neg (by omega)]; omega
/-! ### Texts -/
def TxGood (ss : List ByteArray) (rest ys : List UInt8) : Prop := ys = numB ss.length ++ textsB ss ++ rest ∧ ss.length ≤ 8 ∧ ∀ x ∈ ss, x.size ≤ 1000000
structure TxInv (y0 : List UInt8) (n j : Nat) (out : List ByteArray) (ys : List UInt8) : Prop where
  len : out.length = j
  is : ∀ ss rest, TxGood ss rest y0 → n = ss.length ∧ out = ss.take j ∧ ys = textsB (ss.drop j) ++ rest
theorem take_snoc {α : Type} {xs : List α} {i : Nat} (hi : i < xs.length) : xs.take (i + 1) = xs.take i ++ [xs[i]] := List.take_succ_eq_append_getElem hi
theorem TxInv.start {y0 y1 : List UInt8} {n : Nat} (hn : (n : Int) = min (smR y0) 9) (h : y1 = y0.drop (numR 0 0 y0).2.2) : TxInv y0 n 0 [] y1 := ⟨rfl, fun ss rest ⟨g1, g2, g3⟩ => by
  rw [List.append_assoc] at g1
  obtain ⟨e1, e2⟩ := smR_ofN (m := ss.length) (by omega) g1
  exact ⟨by omega, rfl, by rw [h, e2]; rfl⟩⟩
theorem TxInv.on {y0 ys y' : List UInt8} {n j : Nat} {out : List ByteArray} (h : TxInv y0 n j out ys) (hj : j < n) (h' : y' = ys.drop (textR ys).2.2) : TxInv y0 n (j + 1) (out ++ [bts (textR ys).1]) y' := ⟨by rw [List.length_append, h.len]; rfl, fun ss rest g => by
  obtain ⟨e1, e2, e3⟩ := h.is ss rest g
  have hl : j < ss.length := by omega
  rw [List.drop_eq_getElem_cons hl] at e3
  obtain ⟨f1, f2⟩ := strR_of (t := ys) (v := ss[j]) (s := textsB (ss.drop (j + 1)) ++ rest) (g.2.2 _ (List.getElem_mem hl)) (by rw [e3]; unfold textsB; rw [List.flatMap_cons, List.append_assoc])
  exact ⟨e1, by rw [take_snoc hl, e2, f1], by rw [h', f2]⟩⟩
theorem TxInv.fin {y0 ys : List UInt8} {n j : Nat} {out : List ByteArray} (h : TxInv y0 n j out ys) (hj : n ≤ j) : ∀ ss rest, TxGood ss rest y0 → out = ss ∧ ys = rest := fun ss rest g => by
  obtain ⟨e1, e2, e3⟩ := h.is ss rest g
  rw [List.take_of_length_le (by omega)] at e2
  rw [List.drop_of_length_le (by omega)] at e3
  exact ⟨e2, e3⟩
end Go.Proofs.Ytlblipkcbmcfkaa
