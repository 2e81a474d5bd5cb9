/- Bits of numbers: masks, rests. -/
import Derived.Test.YtlblipkcbmcfkaaRange
set_option linter.unusedVariables false
set_option linter.unusedSimpArgs false
namespace Go.Proofs.Ytlblipkcbmcfkaa
open Go.RowKit
theorem bofnat (n : Nat) : BitVec.ofInt 64 (n : Int) = BitVec.ofNat 64 n := by
  apply BitVec.eq_of_toNat_eq
  simp
/-- x & m: some number up to m. -/
theorem band64 (k : Int) (m : Nat) (hm : m < 4611686018427387904) : ∃ q : Nat, q ≤ m ∧ ibits .and .i64 k (m : Int) = (q : Int) := by
  have h : (BitVec.ofInt 64 k &&& BitVec.ofInt 64 (m : Int)).toNat ≤ m := by
    rw [bofnat, BitVec.toNat_and, BitVec.toNat_ofNat, Nat.mod_eq_of_lt (by omega)]
    exact Nat.and_le_right
  refine ⟨(BitVec.ofInt 64 k &&& BitVec.ofInt 64 (m : Int)).toNat, h, ?_⟩
  show IntKind.i64.wrap _ = _
  exact wrap_i64 (by show (_ : Int) ≤ ((BitVec.ofInt 64 k &&& BitVec.ofInt 64 (m : Int)).toNat : Int); omega) (by show ((BitVec.ofInt 64 k &&& BitVec.ofInt 64 (m : Int)).toNat : Int) ≤ _; omega)
theorem tmodI {q n : Nat} : (q : Int).tmod (n : Int) = ((q % n : Nat) : Int) := by rw [Int.tmod_eq_emod_of_nonneg (by omega)]; omega
theorem wtdiv {q n : Nat} (h : q < 9223372036854775808) : IntKind.i64.wrap ((q : Int).tdiv (n : Int)) = ((q / n : Nat) : Int) := by
  rw [Int.tdiv_eq_ediv_of_nonneg (by omega)]
  have h1 : q / n ≤ q := Nat.div_le_self _ _
  have h2 : ((q : Int) / (n : Int)) = ((q / n : Nat) : Int) := by simp
  have h3 : ∀ r : Nat, r ≤ q → IntKind.i64.wrap (r : Int) = (r : Int) := fun r hr => wrap_i64 (by omega) (by omega)
  rw [h2, h3 _ h1]
end Go.Proofs.Ytlblipkcbmcfkaa
