
/- Closed facts on types and functions. Printed by eng.py. -/
import Derived.Test.YtkohbgblnkelnaaHeld
import Derived.Test.YtkohbgblnkelnaaOpen
import Derived.Test.YtkohbgblnkelnaaRows
import Derived.KernelRfl
set_option linter.unusedVariables false
namespace Go.Proofs.Ytkohbgblnkelnaa
open Go.RowKit
theorem ti3 : TI Try.prog 3 (.int .i64 0) 1 8 := by unfold TI; kernel_rfl
theorem ti4 : TI Try.prog 4 (.bool false) 1 1 := by unfold TI; kernel_rfl
theorem ti9 : TI Try.prog 9 (.string ByteArray.empty) 1 16 := by unfold TI; kernel_rfl
theorem ti23 : TI Try.prog 23 (.int .u64 0) 1 8 := by unfold TI; kernel_rfl
theorem ti5 : TI Try.prog 5 (.int .u8 0) 1 1 := by unfold TI; kernel_rfl
theorem ti55 : TI Try.prog 55 (.int .u32 0) 1 4 := by unfold TI; kernel_rfl
theorem ti25 : TI Try.prog 25 (.slice none 0 0) 1 24 := by unfold TI; kernel_rfl
theorem ti27 : TI Try.prog 27 (.agg #[.slice none 0 0]) 1 24 := by unfold TI; kernel_rfl
theorem ti34 : TI Try.prog 34 (.agg #[.int .i64 0, .int .u64 0, .slice none 0 0]) 3 40 := by unfold TI; kernel_rfl
theorem ti31 : TI Try.prog 31 (.slice none 0 0) 1 24 := by unfold TI; kernel_rfl
theorem ti78 : TI Try.prog 78 (.agg #[.int .i64 0, .int .i64 0, .int .i64 0, .int .i64 0, .int .i64 0, .int .i64 0, .int .i64 0, .int .i64 0, .int .i64 0, .int .i64 0, .int .i64 0, .int .i64 0, .int .i64 0, .int .i64 0, .int .i64 0, .int .i64 0, .int .i64 0, .int .i64 0]) 18 144 := by unfold TI; kernel_rfl
theorem ti61 : TI Try.prog 61 (.slice none 0 0) 1 24 := by unfold TI; kernel_rfl
theorem ti77 : TI Try.prog 77 (.agg #[.slice none 0 0]) 1 24 := by unfold TI; kernel_rfl
theorem ti64 : TI Try.prog 64 (.agg #[.slice none 0 0, .int .i64 0]) 2 32 := by unfold TI; kernel_rfl
theorem cal3 : Callable Try.prog 3 := ⟨_, Try.func3, rfl, by kernel_rfl⟩
theorem cal4 : Callable Try.prog 4 := ⟨_, Try.func4, rfl, by kernel_rfl⟩
theorem cal5 : Callable Try.prog 5 := ⟨_, Try.func5, rfl, by kernel_rfl⟩
theorem cal6 : Callable Try.prog 6 := ⟨_, Try.func6, rfl, by kernel_rfl⟩
theorem cal7 : Callable Try.prog 7 := ⟨_, Try.func7, rfl, by kernel_rfl⟩
theorem cal8 : Callable Try.prog 8 := ⟨_, Try.func8, rfl, by kernel_rfl⟩
theorem cal9 : Callable Try.prog 9 := ⟨_, Try.func9, rfl, by kernel_rfl⟩
theorem cal10 : Callable Try.prog 10 := ⟨_, Try.func10, rfl, by kernel_rfl⟩
theorem cal11 : Callable Try.prog 11 := ⟨_, Try.func11, rfl, by kernel_rfl⟩
theorem cal12 : Callable Try.prog 12 := ⟨_, Try.func12, rfl, by kernel_rfl⟩
theorem cal13 : Callable Try.prog 13 := ⟨_, Try.func13, rfl, by kernel_rfl⟩
theorem cal14 : Callable Try.prog 14 := ⟨_, Try.func14, rfl, by kernel_rfl⟩
theorem cal15 : Callable Try.prog 15 := ⟨_, Try.func15, rfl, by kernel_rfl⟩
theorem cal16 : Callable Try.prog 16 := ⟨_, Try.func16, rfl, by kernel_rfl⟩
theorem cal17 : Callable Try.prog 17 := ⟨_, Try.func17, rfl, by kernel_rfl⟩
theorem cal18 : Callable Try.prog 18 := ⟨_, Try.func18, rfl, by kernel_rfl⟩
theorem cal19 : Callable Try.prog 19 := ⟨_, Try.func19, rfl, by kernel_rfl⟩
theorem cal20 : Callable Try.prog 20 := ⟨_, Try.func20, rfl, by kernel_rfl⟩
theorem cal21 : Callable Try.prog 21 := ⟨_, Try.func21, rfl, by kernel_rfl⟩
theorem cal22 : Callable Try.prog 22 := ⟨_, Try.func22, rfl, by kernel_rfl⟩
theorem cal23 : Callable Try.prog 23 := ⟨_, Try.func23, rfl, by kernel_rfl⟩
theorem cal24 : Callable Try.prog 24 := ⟨_, Try.func24, rfl, by kernel_rfl⟩
theorem cal25 : Callable Try.prog 25 := ⟨_, Try.func25, rfl, by kernel_rfl⟩
theorem cal26 : Callable Try.prog 26 := ⟨_, Try.func26, rfl, by kernel_rfl⟩
theorem cal27 : Callable Try.prog 27 := ⟨_, Try.func27, rfl, by kernel_rfl⟩
theorem cal28 : Callable Try.prog 28 := ⟨_, Try.func28, rfl, by kernel_rfl⟩
theorem cal29 : Callable Try.prog 29 := ⟨_, Try.func29, rfl, by kernel_rfl⟩
theorem cal30 : Callable Try.prog 30 := ⟨_, Try.func30, rfl, by kernel_rfl⟩
theorem cal31 : Callable Try.prog 31 := ⟨_, Try.func31, rfl, by kernel_rfl⟩
theorem cal32 : Callable Try.prog 32 := ⟨_, Try.func32, rfl, by kernel_rfl⟩
theorem cal33 : Callable Try.prog 33 := ⟨_, Try.func33, rfl, by kernel_rfl⟩
theorem cal34 : Callable Try.prog 34 := ⟨_, Try.func34, rfl, by kernel_rfl⟩
theorem cal35 : Callable Try.prog 35 := ⟨_, Try.func35, rfl, by kernel_rfl⟩
theorem cal36 : Callable Try.prog 36 := ⟨_, Try.func36, rfl, by kernel_rfl⟩
theorem cal37 : Callable Try.prog 37 := ⟨_, Try.func37, rfl, by kernel_rfl⟩
theorem cal38 : Callable Try.prog 38 := ⟨_, Try.func38, rfl, by kernel_rfl⟩
theorem sp27 : StructP Try.prog 27 #[(0, 1)] := ⟨_, Try.underlying27, fun w => by kernel_rfl⟩
theorem sp77 : StructP Try.prog 77 #[(0, 1)] := ⟨_, Try.underlying77, fun w => by kernel_rfl⟩
theorem sp64 : StructP Try.prog 64 #[(0, 1), (1, 1)] := ⟨_, Try.underlying64, fun w => by kernel_rfl⟩
abbrev e8 : Enc UInt8 := ⟨5, 1, 1, (.int .u8 0), fun x => [.int .u8 (x.toNat : Int)]⟩
theorem e8_ok : EncOk Try.prog e8 := ⟨ti5, rfl, Nat.zero_lt_one, fun _ => rfl, fun x v hv => by simp at hv; subst hv; rfl⟩
abbrev eI : Enc Int := ⟨3, 1, 8, (.int .i64 0), fun x => [.int .i64 x]⟩
theorem eI_ok : EncOk Try.prog eI := ⟨ti3, rfl, Nat.zero_lt_one, fun _ => rfl, fun x v hv => by simp at hv; subst hv; rfl⟩
structure Op where
  f_Kind : Int
  f_N : Int
  f_B : Sl UInt8
abbrev eOp : Enc Op := ⟨34, 3, 40, (.agg #[.int .i64 0, .int .u64 0, .slice none 0 0]), fun x => [.int .i64 x.f_Kind, .int .u64 x.f_N, x.f_B.val]⟩
theorem eOp_ok : EncOk Try.prog eOp := ⟨ti34, rfl, Nat.lt_of_lt_of_le Nat.zero_lt_one (Nat.le_of_ble_eq_true rfl), fun _ => rfl, fun x v hv => by simp at hv; rcases hv with rfl | rfl | rfl <;> rfl⟩
abbrev eBs : Enc (Sl UInt8) := ⟨25, 1, 24, (.slice none 0 0), fun x => [x.val]⟩
theorem eBs_ok : EncOk Try.prog eBs := ⟨ti25, rfl, Nat.zero_lt_one, fun _ => rfl, fun x v hv => by simp at hv; subst hv; rfl⟩
theorem opens_bs (W : World) : Opens Try.prog W 25 (fun s : Sl UInt8 => [s.val]) (SlGood W e8 (fun _ => True)) := opens_slice e8_ok Try.underlying25 (opens_u8 Try.underlying5)
end Go.Proofs.Ytkohbgblnkelnaa
