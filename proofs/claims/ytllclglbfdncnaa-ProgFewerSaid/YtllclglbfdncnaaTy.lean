
/- Closed facts on types and functions. Printed by eng.py. -/
import Derived.Test.YtllclglbfdncnaaHeld
import Derived.Test.YtllclglbfdncnaaOpen
import Derived.Test.YtllclglbfdncnaaRows
import Derived.Test.YtllclglbfdncnaaMem2
import Derived.KernelRfl
set_option linter.unusedVariables false
namespace Go.Proofs.Ytllclglbfdncnaa
open Go.RowKit
theorem ti3 : TI Try.prog 3 (.int .i64 0) 1 8 := by unfold TI; kernel_rfl
theorem ti4 : TI Try.prog 4 (.bool false) 1 1 := by unfold TI; kernel_rfl
theorem ti9 : TI Try.prog 9 (.string ByteArray.empty) 1 16 := by unfold TI; kernel_rfl
theorem ti5 : TI Try.prog 5 (.int .u8 0) 1 1 := by unfold TI; kernel_rfl
theorem ti2 : TI Try.prog 2 (.int .i64 0) 1 8 := by unfold TI; kernel_rfl
theorem ti26 : TI Try.prog 26 (.agg #[.int .i64 0, .slice none 0 0, .slice none 0 0, .slice none 0 0, .int .i64 0]) 5 88 := by unfold TI; kernel_rfl
theorem ti35 : TI Try.prog 35 (.agg #[.int .i64 0, .string ByteArray.empty, .slice none 0 0, .int .i64 0]) 4 56 := by unfold TI; kernel_rfl
theorem ti23 : TI Try.prog 23 (.slice none 0 0) 1 24 := by unfold TI; kernel_rfl
theorem ti24 : TI Try.prog 24 (.slice none 0 0) 1 24 := by unfold TI; kernel_rfl
theorem ti33 : TI Try.prog 33 (.slice none 0 0) 1 24 := by unfold TI; kernel_rfl
theorem cal3 : Callable Try.prog 3 := ⟨_, Try.func3, rfl, by kernel_rfl⟩
theorem cal4 : Callable Try.prog 4 := ⟨_, Try.func4, rfl, by kernel_rfl⟩
theorem cal5 : Callable Try.prog 5 := ⟨_, Try.func5, rfl, by kernel_rfl⟩
theorem cal6 : Callable Try.prog 6 := ⟨_, Try.func6, rfl, by kernel_rfl⟩
theorem cal7 : Callable Try.prog 7 := ⟨_, Try.func7, rfl, by kernel_rfl⟩
theorem cal8 : Callable Try.prog 8 := ⟨_, Try.func8, rfl, by kernel_rfl⟩
theorem cal9 : Callable Try.prog 9 := ⟨_, Try.func9, rfl, by kernel_rfl⟩
theorem cal10 : Callable Try.prog 10 := ⟨_, Try.func10, rfl, by kernel_rfl⟩
theorem cal11 : Callable Try.prog 11 := ⟨_, Try.func11, rfl, by kernel_rfl⟩
theorem cal12 : Callable Try.prog 12 := ⟨_, Try.func12, rfl, by kernel_rfl⟩
theorem cal13 : Callable Try.prog 13 := ⟨_, Try.func13, rfl, by kernel_rfl⟩
theorem cal14 : Callable Try.prog 14 := ⟨_, Try.func14, rfl, by kernel_rfl⟩
theorem cal15 : Callable Try.prog 15 := ⟨_, Try.func15, rfl, by kernel_rfl⟩
theorem cal16 : Callable Try.prog 16 := ⟨_, Try.func16, rfl, by kernel_rfl⟩
theorem cal17 : Callable Try.prog 17 := ⟨_, Try.func17, rfl, by kernel_rfl⟩
theorem cal18 : Callable Try.prog 18 := ⟨_, Try.func18, rfl, by kernel_rfl⟩
theorem cal19 : Callable Try.prog 19 := ⟨_, Try.func19, rfl, by kernel_rfl⟩
theorem cal20 : Callable Try.prog 20 := ⟨_, Try.func20, rfl, by kernel_rfl⟩
theorem cal21 : Callable Try.prog 21 := ⟨_, Try.func21, rfl, by kernel_rfl⟩
theorem cal22 : Callable Try.prog 22 := ⟨_, Try.func22, rfl, by kernel_rfl⟩
theorem cal23 : Callable Try.prog 23 := ⟨_, Try.func23, rfl, by kernel_rfl⟩
theorem cal24 : Callable Try.prog 24 := ⟨_, Try.func24, rfl, by kernel_rfl⟩
theorem cal25 : Callable Try.prog 25 := ⟨_, Try.func25, rfl, by kernel_rfl⟩
theorem cal26 : Callable Try.prog 26 := ⟨_, Try.func26, rfl, by kernel_rfl⟩
theorem cal27 : Callable Try.prog 27 := ⟨_, Try.func27, rfl, by kernel_rfl⟩
theorem cal28 : Callable Try.prog 28 := ⟨_, Try.func28, rfl, by kernel_rfl⟩
theorem cal29 : Callable Try.prog 29 := ⟨_, Try.func29, rfl, by kernel_rfl⟩
theorem cal30 : Callable Try.prog 30 := ⟨_, Try.func30, rfl, by kernel_rfl⟩
theorem cal31 : Callable Try.prog 31 := ⟨_, Try.func31, rfl, by kernel_rfl⟩
theorem cal32 : Callable Try.prog 32 := ⟨_, Try.func32, rfl, by kernel_rfl⟩
theorem cal33 : Callable Try.prog 33 := ⟨_, Try.func33, rfl, by kernel_rfl⟩
theorem cal34 : Callable Try.prog 34 := ⟨_, Try.func34, rfl, by kernel_rfl⟩
theorem cal35 : Callable Try.prog 35 := ⟨_, Try.func35, rfl, by kernel_rfl⟩
theorem cal36 : Callable Try.prog 36 := ⟨_, Try.func36, rfl, by kernel_rfl⟩
theorem cal37 : Callable Try.prog 37 := ⟨_, Try.func37, rfl, by kernel_rfl⟩
theorem cal38 : Callable Try.prog 38 := ⟨_, Try.func38, rfl, by kernel_rfl⟩
theorem cal39 : Callable Try.prog 39 := ⟨_, Try.func39, rfl, by kernel_rfl⟩
theorem cal40 : Callable Try.prog 40 := ⟨_, Try.func40, rfl, by kernel_rfl⟩
theorem cal41 : Callable Try.prog 41 := ⟨_, Try.func41, rfl, by kernel_rfl⟩
theorem cal42 : Callable Try.prog 42 := ⟨_, Try.func42, rfl, by kernel_rfl⟩
theorem cal43 : Callable Try.prog 43 := ⟨_, Try.func43, rfl, by kernel_rfl⟩
theorem cal44 : Callable Try.prog 44 := ⟨_, Try.func44, rfl, by kernel_rfl⟩
theorem cal45 : Callable Try.prog 45 := ⟨_, Try.func45, rfl, by kernel_rfl⟩
theorem cal46 : Callable Try.prog 46 := ⟨_, Try.func46, rfl, by kernel_rfl⟩
theorem cal47 : Callable Try.prog 47 := ⟨_, Try.func47, rfl, by kernel_rfl⟩
theorem cal48 : Callable Try.prog 48 := ⟨_, Try.func48, rfl, by kernel_rfl⟩
theorem cal49 : Callable Try.prog 49 := ⟨_, Try.func49, rfl, by kernel_rfl⟩
theorem cal50 : Callable Try.prog 50 := ⟨_, Try.func50, rfl, by kernel_rfl⟩
theorem cal51 : Callable Try.prog 51 := ⟨_, Try.func51, rfl, by kernel_rfl⟩
theorem cal52 : Callable Try.prog 52 := ⟨_, Try.func52, rfl, by kernel_rfl⟩
theorem cal53 : Callable Try.prog 53 := ⟨_, Try.func53, rfl, by kernel_rfl⟩
theorem cal54 : Callable Try.prog 54 := ⟨_, Try.func54, rfl, by kernel_rfl⟩
theorem cal55 : Callable Try.prog 55 := ⟨_, Try.func55, rfl, by kernel_rfl⟩
theorem cal56 : Callable Try.prog 56 := ⟨_, Try.func56, rfl, by kernel_rfl⟩
theorem cal57 : Callable Try.prog 57 := ⟨_, Try.func57, rfl, by kernel_rfl⟩
theorem cal58 : Callable Try.prog 58 := ⟨_, Try.func58, rfl, by kernel_rfl⟩
theorem cal59 : Callable Try.prog 59 := ⟨_, Try.func59, rfl, by kernel_rfl⟩
theorem cal60 : Callable Try.prog 60 := ⟨_, Try.func60, rfl, by kernel_rfl⟩
theorem cal61 : Callable Try.prog 61 := ⟨_, Try.func61, rfl, by kernel_rfl⟩
theorem cal62 : Callable Try.prog 62 := ⟨_, Try.func62, rfl, by kernel_rfl⟩
theorem cal63 : Callable Try.prog 63 := ⟨_, Try.func63, rfl, by kernel_rfl⟩
theorem cal64 : Callable Try.prog 64 := ⟨_, Try.func64, rfl, by kernel_rfl⟩
theorem cal65 : Callable Try.prog 65 := ⟨_, Try.func65, rfl, by kernel_rfl⟩
theorem cal66 : Callable Try.prog 66 := ⟨_, Try.func66, rfl, by kernel_rfl⟩
abbrev e8 : Enc UInt8 := ⟨5, 1, 1, (.int .u8 0), fun x => [.int .u8 (x.toNat : Int)]⟩
theorem e8_ok : EncOk Try.prog e8 := ⟨ti5, rfl, Nat.zero_lt_one, fun _ => rfl, fun x v hv => by simp at hv; subst hv; rfl⟩
abbrev e_I : Enc Int := ⟨3, 1, 8, (.int .i64 0), fun x => [.int .i64 x]⟩
theorem e_I_ok : EncOk Try.prog e_I := ⟨ti3, rfl, Nat.zero_lt_one, fun _ => rfl, fun x v hv => by simp at hv; subst hv; rfl⟩
abbrev e_S : Enc ByteArray := ⟨9, 1, 16, (.string ByteArray.empty), fun x => [.string x]⟩
theorem e_S_ok : EncOk Try.prog e_S := ⟨ti9, rfl, Nat.zero_lt_one, fun _ => rfl, fun x v hv => by simp at hv; subst hv; rfl⟩
abbrev e_int64 : Enc Int := ⟨2, 1, 8, (.int .i64 0), fun x => [.int .i64 x]⟩
theorem e_int64_ok : EncOk Try.prog e_int64 := ⟨ti2, rfl, Nat.zero_lt_one, fun _ => rfl, fun x v hv => by simp at hv; subst hv; rfl⟩
abbrev e_s33 : Enc (Sl UInt8) := ⟨33, 1, 24, (.slice none 0 0), fun x => [x.val]⟩
theorem e_s33_ok : EncOk Try.prog e_s33 := ⟨ti33, rfl, Nat.zero_lt_one, fun _ => rfl, fun x v hv => by simp at hv; subst hv; rfl⟩
structure Op where
  f_Kind : Int
  f_Key : ByteArray
  f_Value : (Sl UInt8)
  f_N : Int
abbrev e_Op : Enc Op := ⟨35, 4, 56, (.agg #[.int .i64 0, .string ByteArray.empty, .slice none 0 0, .int .i64 0]), fun x => [.int .i64 x.f_Kind, .string x.f_Key, x.f_Value.val, .int .i64 x.f_N]⟩
theorem e_Op_ok : EncOk Try.prog e_Op := ⟨ti35, rfl, Nat.lt_of_lt_of_le Nat.zero_lt_one (Nat.le_of_ble_eq_true rfl), fun _ => rfl, fun x v hv => by simp at hv; rcases hv with rfl | rfl | rfl | rfl <;> rfl⟩
abbrev e_s23 : Enc (Sl ByteArray) := ⟨23, 1, 24, (.slice none 0 0), fun x => [x.val]⟩
theorem e_s23_ok : EncOk Try.prog e_s23 := ⟨ti23, rfl, Nat.zero_lt_one, fun _ => rfl, fun x v hv => by simp at hv; subst hv; rfl⟩
abbrev e_s24 : Enc (Sl Op) := ⟨24, 1, 24, (.slice none 0 0), fun x => [x.val]⟩
theorem e_s24_ok : EncOk Try.prog e_s24 := ⟨ti24, rfl, Nat.zero_lt_one, fun _ => rfl, fun x v hv => by simp at hv; subst hv; rfl⟩
structure Txn where
  f_Kind : Int
  f_Reads : (Sl ByteArray)
  f_Writes : (Sl ByteArray)
  f_Ops : (Sl Op)
  f_To : Int
abbrev e_Txn : Enc Txn := ⟨26, 5, 88, (.agg #[.int .i64 0, .slice none 0 0, .slice none 0 0, .slice none 0 0, .int .i64 0]), fun x => [.int .i64 x.f_Kind, x.f_Reads.val, x.f_Writes.val, x.f_Ops.val, .int .i64 x.f_To]⟩
theorem e_Txn_ok : EncOk Try.prog e_Txn := ⟨ti26, rfl, Nat.lt_of_lt_of_le Nat.zero_lt_one (Nat.le_of_ble_eq_true rfl), fun _ => rfl, fun x v hv => by simp at hv; rcases hv with rfl | rfl | rfl | rfl | rfl <;> rfl⟩
theorem sp26 : StructP Try.prog 26 #[(0, 1), (1, 1), (2, 1), (3, 1), (4, 1)] := ⟨_, Try.underlying26, fun w => by kernel_rfl⟩
theorem sp35 : StructP Try.prog 35 #[(0, 1), (1, 1), (2, 1), (3, 1)] := ⟨_, Try.underlying35, fun w => by kernel_rfl⟩
end Go.Proofs.Ytllclglbfdncnaa
