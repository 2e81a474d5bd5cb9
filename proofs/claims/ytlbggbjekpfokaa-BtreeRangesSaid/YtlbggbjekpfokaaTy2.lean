
/- Types of the laws with the document's list. -/
import Derived.Test.YtlbggbjekpfokaaTy
set_option linter.unusedVariables false
namespace Go.Proofs.Ytlbggbjekpfokaa
open Go.RowKit
theorem ti40 : TI Try.prog 40 (.agg #[.string ByteArray.empty, .int .i64 0]) 2 24 := by unfold TI; kernel_rfl
theorem ti30 : TI Try.prog 30 (.agg #[.slice none 0 0]) 1 24 := by unfold TI; kernel_rfl
theorem ti32 : TI Try.prog 32 (.agg #[.int .i64 0, .string ByteArray.empty, .int .i64 0]) 3 32 := by unfold TI; kernel_rfl
theorem ti27 : TI Try.prog 27 (.pointer none) 1 8 := by unfold TI; kernel_rfl
theorem ti28 : TI Try.prog 28 (.slice none 0 0) 1 24 := by unfold TI; kernel_rfl
theorem ti22 : TI Try.prog 22 (.slice none 0 0) 1 24 := by unfold TI; kernel_rfl
structure ItR where
  f_Key : ByteArray
  f_Value : Int
abbrev e_ItR : Enc ItR := ⟨40, 2, 24, (.agg #[.string ByteArray.empty, .int .i64 0]), fun x => [.string x.f_Key, .int .i64 x.f_Value]⟩
theorem e_ItR_ok : EncOk Try.prog e_ItR := ⟨ti40, rfl, Nat.lt_of_lt_of_le Nat.zero_lt_one (Nat.le_of_ble_eq_true rfl), fun _ => rfl, fun x v hv => by simp at hv; rcases hv with rfl | rfl <;> rfl⟩
structure Op where
  f_Kind : Int
  f_Key : ByteArray
  f_Value : Int
abbrev e_Op : Enc Op := ⟨32, 3, 32, (.agg #[.int .i64 0, .string ByteArray.empty, .int .i64 0]), fun x => [.int .i64 x.f_Kind, .string x.f_Key, .int .i64 x.f_Value]⟩
theorem e_Op_ok : EncOk Try.prog e_Op := ⟨ti32, rfl, Nat.lt_of_lt_of_le Nat.zero_lt_one (Nat.le_of_ble_eq_true rfl), fun _ => rfl, fun x v hv => by simp at hv; rcases hv with rfl | rfl | rfl <;> rfl⟩
theorem sp40 : StructP Try.prog 40 #[(0, 1), (1, 1)] := ⟨_, Try.underlying40, fun w => by kernel_rfl⟩
theorem sp30 : StructP Try.prog 30 #[(0, 1)] := ⟨_, Try.underlying30, fun w => by kernel_rfl⟩
theorem sp32 : StructP Try.prog 32 #[(0, 1), (1, 1), (2, 1)] := ⟨_, Try.underlying32, fun w => by kernel_rfl⟩
def RfT (k : Nat) (s : List ItR) : Res := obj (fun _ : Option Addr × Nat => True) fun x => [blk k (.cells #[.slice x.1 (s).length x.2] 30 (0, 0)), row e_ItR.T e_ItR.sz x.1 (s).length x.2 (flat e_ItR s)]
end Go.Proofs.Ytlbggbjekpfokaa
