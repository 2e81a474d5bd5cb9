/- Printed by eng2.py out of 12/spec2.py. -/
import Derived.Test.YtakjmdeckngnlaaTy
import Derived.Test.YtakjmdeckngnlaaPart
set_option linter.unusedVariables false
set_option linter.unusedSimpArgs false
set_option maxRecDepth 10000
namespace Go.Proofs.Ytakjmdeckngnlaa
open Go.RowKit
theorem ti5 : TI Try.prog 5 (.int .u8 0) 1 1 := by unfold TI; kernel_rfl
theorem ti139 : TI Try.prog 139 (.agg #[.int .i64 0, .int .i64 0, .int .u64 0, .string ByteArray.empty]) 4 40 := by unfold TI; kernel_rfl
theorem ti130 : TI Try.prog 130 (.agg #[.slice none 0 0, .slice none 0 0]) 2 48 := by unfold TI; kernel_rfl
theorem ti132 : TI Try.prog 132 (.agg #[.pointer none, .int .i64 0]) 2 16 := by unfold TI; kernel_rfl
theorem ti127 : TI Try.prog 127 (.slice none 0 0) 1 24 := by unfold TI; kernel_rfl
theorem ti128 : TI Try.prog 128 (.slice none 0 0) 1 24 := by unfold TI; kernel_rfl
theorem ti126 : TI Try.prog 126 (.pointer none) 1 8 := by unfold TI; kernel_rfl
theorem ti103 : TI Try.prog 103 (.pointer none) 1 8 := by unfold TI; kernel_rfl
theorem ti135 : TI Try.prog 135 (.pointer none) 1 8 := by unfold TI; kernel_rfl
theorem ti125 : TI Try.prog 125 (.agg #[.int .i64 0, .int .i64 0, .int .u64 0, .int .i64 0]) 4 32 := by unfold TI; kernel_rfl
theorem ti115 : TI Try.prog 115 (.agg #[.slice none 0 0, .slice none 0 0]) 2 48 := by unfold TI; kernel_rfl
theorem ti117 : TI Try.prog 117 (.agg #[.pointer none, .int .i64 0]) 2 16 := by unfold TI; kernel_rfl
theorem ti112 : TI Try.prog 112 (.slice none 0 0) 1 24 := by unfold TI; kernel_rfl
theorem ti113 : TI Try.prog 113 (.slice none 0 0) 1 24 := by unfold TI; kernel_rfl
theorem ti111 : TI Try.prog 111 (.pointer none) 1 8 := by unfold TI; kernel_rfl
theorem ti95 : TI Try.prog 95 (.pointer none) 1 8 := by unfold TI; kernel_rfl
theorem ti121 : TI Try.prog 121 (.pointer none) 1 8 := by unfold TI; kernel_rfl
theorem ti106 : TI Try.prog 106 (.agg #[.int .u64 0, .pointer none]) 2 16 := by unfold TI; kernel_rfl
theorem ti98 : TI Try.prog 98 (.agg #[.int .u64 0, .pointer none]) 2 16 := by unfold TI; kernel_rfl
theorem ti75 : TI Try.prog 75 (.pointer none) 1 8 := by unfold TI; kernel_rfl
theorem ti63 : TI Try.prog 63 (.pointer none) 1 8 := by unfold TI; kernel_rfl
theorem ti50 : TI Try.prog 50 (.pointer none) 1 8 := by unfold TI; kernel_rfl
theorem ti25 : TI Try.prog 25 (.pointer none) 1 8 := by unfold TI; kernel_rfl
theorem ti67 : TI Try.prog 67 (.slice none 0 0) 1 24 := by unfold TI; kernel_rfl
theorem ti74 : TI Try.prog 74 (.slice none 0 0) 1 24 := by unfold TI; kernel_rfl
theorem ti60 : TI Try.prog 60 (.slice none 0 0) 1 24 := by unfold TI; kernel_rfl
theorem ti61 : TI Try.prog 61 (.slice none 0 0) 1 24 := by unfold TI; kernel_rfl
theorem sp139 : StructP Try.prog 139 #[(0, 1), (1, 3)] := ⟨_, Try.underlying139, fun w => by kernel_rfl⟩
theorem sp130 : StructP Try.prog 130 #[(0, 1), (1, 1)] := ⟨_, Try.underlying130, fun w => by kernel_rfl⟩
theorem sp132 : StructP Try.prog 132 #[(0, 1), (1, 1)] := ⟨_, Try.underlying132, fun w => by kernel_rfl⟩
theorem sp125 : StructP Try.prog 125 #[(0, 1), (1, 3)] := ⟨_, Try.underlying125, fun w => by kernel_rfl⟩
theorem sp115 : StructP Try.prog 115 #[(0, 1), (1, 1)] := ⟨_, Try.underlying115, fun w => by kernel_rfl⟩
theorem sp117 : StructP Try.prog 117 #[(0, 1), (1, 1)] := ⟨_, Try.underlying117, fun w => by kernel_rfl⟩
theorem sp106 : StructP Try.prog 106 #[(0, 1), (1, 1)] := ⟨_, Try.underlying106, fun w => by kernel_rfl⟩
theorem sp98 : StructP Try.prog 98 #[(0, 1), (1, 1)] := ⟨_, Try.underlying98, fun w => by kernel_rfl⟩
abbrev e8 : Enc UInt8 := ⟨5, 1, 1, (.int .u8 0), fun x => [.int .u8 (x.toNat : Int)]⟩
theorem e8_ok : EncOk Try.prog e8 := ⟨ti5, rfl, Nat.zero_lt_one, fun _ => rfl, fun x v hv => by simp at hv; subst hv; rfl⟩
abbrev eN126 : Enc Nat := ⟨126, 1, 8, (.pointer none), fun x => [.pointer (some ⟨x, 0, none⟩)]⟩
theorem eN126_ok : EncOk Try.prog eN126 := ⟨ti126, rfl, Nat.zero_lt_one, fun _ => rfl, fun x v hv => by simp at hv; subst hv; rfl⟩
abbrev eN111 : Enc Nat := ⟨111, 1, 8, (.pointer none), fun x => [.pointer (some ⟨x, 0, none⟩)]⟩
theorem eN111_ok : EncOk Try.prog eN111 := ⟨ti111, rfl, Nat.zero_lt_one, fun _ => rfl, fun x v hv => by simp at hv; subst hv; rfl⟩
abbrev eVPS : Enc Nat := ⟨75, 1, 8, (.pointer none), fun x => [.pointer (some ⟨x, 0, none⟩)]⟩
theorem eVPS_ok : EncOk Try.prog eVPS := ⟨ti75, rfl, Nat.zero_lt_one, fun _ => rfl, fun x v hv => by simp at hv; subst hv; rfl⟩
abbrev eVPI : Enc Nat := ⟨63, 1, 8, (.pointer none), fun x => [.pointer (some ⟨x, 0, none⟩)]⟩
theorem eVPI_ok : EncOk Try.prog eVPI := ⟨ti63, rfl, Nat.zero_lt_one, fun _ => rfl, fun x v hv => by simp at hv; subst hv; rfl⟩
abbrev eLPI : Enc Nat := ⟨50, 1, 8, (.pointer none), fun x => [.pointer (some ⟨x, 0, none⟩)]⟩
theorem eLPI_ok : EncOk Try.prog eLPI := ⟨ti50, rfl, Nat.zero_lt_one, fun _ => rfl, fun x v hv => by simp at hv; subst hv; rfl⟩
structure ItA where
  f_key : Int
  f_value : (Vt ByteArray)
abbrev e_ItA : Enc ItA := ⟨139, 4, 40, (.agg #[.int .i64 0, .int .i64 0, .int .u64 0, .string ByteArray.empty]), fun x => [.int .i64 x.f_key, .int .i64 x.f_value.Slot, .int .u64 x.f_value.Ballot, .string x.f_value.Value]⟩
theorem e_ItA_ok : EncOk Try.prog e_ItA := ⟨ti139, rfl, Nat.lt_of_lt_of_le Nat.zero_lt_one (Nat.le_of_ble_eq_true rfl), fun _ => rfl, fun x v hv => by simp at hv; rcases hv with rfl | rfl | rfl | rfl <;> rfl⟩
structure ItB where
  f_key : Int
  f_value : (Vt Int)
abbrev e_ItB : Enc ItB := ⟨125, 4, 32, (.agg #[.int .i64 0, .int .i64 0, .int .u64 0, .int .i64 0]), fun x => [.int .i64 x.f_key, .int .i64 x.f_value.Slot, .int .u64 x.f_value.Ballot, .int .i64 x.f_value.Value]⟩
theorem e_ItB_ok : EncOk Try.prog e_ItB := ⟨ti125, rfl, Nat.lt_of_lt_of_le Nat.zero_lt_one (Nat.le_of_ble_eq_true rfl), fun _ => rfl, fun x v hv => by simp at hv; rcases hv with rfl | rfl | rfl | rfl <;> rfl⟩
end Go.Proofs.Ytakjmdeckngnlaa
