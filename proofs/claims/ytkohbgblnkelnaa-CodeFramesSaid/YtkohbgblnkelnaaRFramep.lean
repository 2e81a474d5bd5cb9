/- The document's frames: the plain law. -/
import Derived.Test.YtkohbgblnkelnaaFramep
import Derived.Test.YtkohbgblnkelnaaBits
set_option linter.unusedVariables false
set_option linter.unusedSimpArgs false
namespace Go.Proofs.Ytkohbgblnkelnaa
open Go.RowKit
theorem cv8m (n : Nat) : IntKind.u8.wrap ((n % 256 : Nat) : Int) = ((UInt8.ofNat n).toNat : Int) := by
  simp [IntKind.wrap, IntKind.signed, IntKind.bits]
theorem shr32k (s : BitVec 32) {k : Nat} (hk : k ≤ 32) : (v32 s).fdiv (2 ^ (min ((k : Int)).toNat IntKind.u32.bits)) = ((s.toNat / 2 ^ k : Nat) : Int) := by
  have h1 : min ((k : Int)).toNat IntKind.u32.bits = k := by simp [IntKind.bits]; omega
  have h2 : ((2 : Int) ^ k) = ((2 ^ k : Nat) : Int) := by simp
  rw [h1, h2]
  exact fdivK
theorem sum4_take (s : BitVec 32) {i : Nat} (h : i < 4) : (sum4 s).take i ++ [UInt8.ofNat (s.toNat / 2 ^ (8 * i))] = (sum4 s).take (i + 1) := by
  match i, h with
  | 0, _ => simp [sum4]
  | 1, _ => simp [sum4]
  | 2, _ => simp [sum4]
  | 3, _ => simp [sum4]
end Go.Proofs.Ytkohbgblnkelnaa
