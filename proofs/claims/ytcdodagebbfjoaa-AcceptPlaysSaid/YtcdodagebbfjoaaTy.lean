
/- Closed facts on types and functions. Printed by eng.py. -/
import Derived.Test.YtcdodagebbfjoaaHeld
import Derived.Test.YtcdodagebbfjoaaOpen
import Derived.Test.YtcdodagebbfjoaaRows
import Derived.Test.YtcdodagebbfjoaaPart
import Derived.KernelRfl
set_option linter.unusedVariables false
namespace Go.Proofs.Ytcdodagebbfjoaa
open Go.RowKit
theorem ti3 : TI Try.prog 3 (.int .i64 0) 1 8 := by unfold TI; kernel_rfl
theorem ti4 : TI Try.prog 4 (.bool false) 1 1 := by unfold TI; kernel_rfl
theorem ti9 : TI Try.prog 9 (.string ByteArray.empty) 1 16 := by unfold TI; kernel_rfl
theorem ti5 : TI Try.prog 5 (.int .u8 0) 1 1 := by unfold TI; kernel_rfl
theorem ti23 : TI Try.prog 23 (.int .u64 0) 1 8 := by unfold TI; kernel_rfl
theorem ti31 : TI Try.prog 31 (.agg #[.int .i64 0, .int .u64 0, .string ByteArray.empty]) 3 32 := by unfold TI; kernel_rfl
theorem ti62 : TI Try.prog 62 (.agg #[.int .i64 0, .int .u64 0, .int .i64 0]) 3 24 := by unfold TI; kernel_rfl
theorem ti41 : TI Try.prog 41 (.agg #[.int .i64 0, .int .u64 0, .string ByteArray.empty]) 3 32 := by unfold TI; kernel_rfl
theorem ti93 : TI Try.prog 93 (.agg #[.int .i64 0, .int .i64 0, .int .u64 0, .string ByteArray.empty]) 4 40 := by unfold TI; kernel_rfl
theorem ti86 : TI Try.prog 86 (.agg #[.slice none 0 0, .slice none 0 0]) 2 48 := by unfold TI; kernel_rfl
theorem ti88 : TI Try.prog 88 (.agg #[.pointer none, .int .i64 0]) 2 16 := by unfold TI; kernel_rfl
theorem ti83 : TI Try.prog 83 (.slice none 0 0) 1 24 := by unfold TI; kernel_rfl
theorem ti84 : TI Try.prog 84 (.slice none 0 0) 1 24 := by unfold TI; kernel_rfl
theorem ti82 : TI Try.prog 82 (.pointer none) 1 8 := by unfold TI; kernel_rfl
theorem ti64 : TI Try.prog 64 (.pointer none) 1 8 := by unfold TI; kernel_rfl
theorem ti89 : TI Try.prog 89 (.pointer none) 1 8 := by unfold TI; kernel_rfl
theorem ti111 : TI Try.prog 111 (.agg #[.int .i64 0, .int .i64 0, .int .u64 0, .int .i64 0]) 4 32 := by unfold TI; kernel_rfl
theorem ti102 : TI Try.prog 102 (.agg #[.slice none 0 0, .slice none 0 0]) 2 48 := by unfold TI; kernel_rfl
theorem ti104 : TI Try.prog 104 (.agg #[.pointer none, .int .i64 0]) 2 16 := by unfold TI; kernel_rfl
theorem ti99 : TI Try.prog 99 (.slice none 0 0) 1 24 := by unfold TI; kernel_rfl
theorem ti100 : TI Try.prog 100 (.slice none 0 0) 1 24 := by unfold TI; kernel_rfl
theorem ti98 : TI Try.prog 98 (.pointer none) 1 8 := by unfold TI; kernel_rfl
theorem ti73 : TI Try.prog 73 (.pointer none) 1 8 := by unfold TI; kernel_rfl
theorem ti107 : TI Try.prog 107 (.pointer none) 1 8 := by unfold TI; kernel_rfl
theorem ti25 : TI Try.prog 25 (.agg #[.bool false, .int .u64 0, .int .i64 0, .string ByteArray.empty]) 4 40 := by unfold TI; kernel_rfl
theorem ti67 : TI Try.prog 67 (.agg #[.int .u64 0, .pointer none]) 2 16 := by unfold TI; kernel_rfl
theorem ti76 : TI Try.prog 76 (.agg #[.int .u64 0, .pointer none]) 2 16 := by unfold TI; kernel_rfl
theorem ti44 : TI Try.prog 44 (.agg #[.int .u64 0, .bool false, .bool false, .bool false, .bool false, .bool false, .bool false, .bool false, .bool false, .bool false, .bool false, .bool false, .bool false, .bool false, .bool false, .bool false, .bool false, .bool false, .bool false, .bool false, .bool false, .bool false, .bool false, .bool false, .bool false, .bool false, .bool false, .bool false, .bool false, .bool false, .bool false, .bool false, .bool false, .bool false, .bool false, .bool false, .bool false, .bool false, .bool false, .bool false, .bool false, .bool false, .bool false, .bool false, .bool false, .bool false, .bool false, .bool false, .bool false, .bool false, .bool false, .bool false, .bool false, .bool false, .bool false, .bool false, .bool false, .bool false, .bool false, .bool false, .bool false, .bool false, .bool false, .bool false, .bool false, .int .i64 0, .int .u64 0, .string ByteArray.empty, .int .i64 0, .int .u64 0, .string ByteArray.empty, .int .i64 0, .int .u64 0, .string ByteArray.empty, .int .i64 0, .int .u64 0, .string ByteArray.empty, .int .i64 0, .int .u64 0, .string ByteArray.empty, .int .i64 0, .int .u64 0, .string ByteArray.empty, .int .i64 0, .int .u64 0, .string ByteArray.empty, .int .i64 0, .int .u64 0, .string ByteArray.empty, .int .i64 0, .int .u64 0, .string ByteArray.empty, .int .i64 0, .int .u64 0, .string ByteArray.empty, .int .i64 0, .int .u64 0, .string ByteArray.empty, .int .i64 0, .int .u64 0, .string ByteArray.empty, .int .i64 0, .int .u64 0, .string ByteArray.empty, .int .i64 0, .int .u64 0, .string ByteArray.empty, .int .i64 0, .int .u64 0, .string ByteArray.empty, .int .i64 0, .int .u64 0, .string ByteArray.empty, .int .i64 0, .int .u64 0, .string ByteArray.empty, .int .i64 0, .int .u64 0, .string ByteArray.empty, .int .i64 0, .int .u64 0, .string ByteArray.empty, .int .i64 0, .int .u64 0, .string ByteArray.empty, .int .i64 0, .int .u64 0, .string ByteArray.empty, .int .i64 0, .int .u64 0, .string ByteArray.empty, .int .i64 0, .int .u64 0, .string ByteArray.empty, .int .i64 0, .int .u64 0, .string ByteArray.empty, .int .i64 0, .int .u64 0, .string ByteArray.empty, .int .i64 0, .int .u64 0, .string ByteArray.empty, .int .i64 0, .int .u64 0, .string ByteArray.empty, .int .i64 0, .int .u64 0, .string ByteArray.empty, .int .i64 0, .int .u64 0, .string ByteArray.empty, .int .i64 0, .int .u64 0, .string ByteArray.empty, .int .i64 0, .int .u64 0, .string ByteArray.empty, .int .i64 0, .int .u64 0, .string ByteArray.empty, .int .i64 0, .int .u64 0, .string ByteArray.empty, .int .i64 0, .int .u64 0, .string ByteArray.empty, .int .i64 0, .int .u64 0, .string ByteArray.empty, .int .i64 0, .int .u64 0, .string ByteArray.empty, .int .i64 0, .int .u64 0, .string ByteArray.empty, .int .i64 0, .int .u64 0, .string ByteArray.empty, .int .i64 0, .int .u64 0, .string ByteArray.empty, .int .i64 0, .int .u64 0, .string ByteArray.empty, .int .i64 0, .int .u64 0, .string ByteArray.empty, .int .i64 0, .int .u64 0, .string ByteArray.empty, .int .i64 0, .int .u64 0, .string ByteArray.empty, .int .i64 0, .int .u64 0, .string ByteArray.empty, .int .i64 0, .int .u64 0, .string ByteArray.empty, .int .i64 0, .int .u64 0, .string ByteArray.empty, .int .i64 0, .int .u64 0, .string ByteArray.empty, .int .i64 0, .int .u64 0, .string ByteArray.empty, .int .i64 0, .int .u64 0, .string ByteArray.empty, .int .i64 0, .int .u64 0, .string ByteArray.empty, .int .i64 0, .int .u64 0, .string ByteArray.empty, .int .i64 0, .int .u64 0, .string ByteArray.empty, .int .i64 0, .int .u64 0, .string ByteArray.empty, .int .i64 0, .int .u64 0, .string ByteArray.empty, .int .i64 0, .int .u64 0, .string ByteArray.empty, .int .i64 0, .int .u64 0, .string ByteArray.empty, .int .i64 0, .int .u64 0, .string ByteArray.empty, .int .i64 0, .int .u64 0, .string ByteArray.empty, .int .i64 0, .int .u64 0, .string ByteArray.empty, .int .i64 0, .int .u64 0, .string ByteArray.empty, .int .i64 0, .int .u64 0, .string ByteArray.empty, .int .i64 0, .int .u64 0, .string ByteArray.empty, .int .i64 0, .int .u64 0, .string ByteArray.empty, .int .i64 0, .int .u64 0, .string ByteArray.empty]) 257 2120 := by unfold TI; kernel_rfl
theorem ti27 : TI Try.prog 27 (.pointer none) 1 8 := by unfold TI; kernel_rfl
theorem ti54 : TI Try.prog 54 (.pointer none) 1 8 := by unfold TI; kernel_rfl
theorem ti39 : TI Try.prog 39 (.pointer none) 1 8 := by unfold TI; kernel_rfl
theorem ti32 : TI Try.prog 32 (.slice none 0 0) 1 24 := by unfold TI; kernel_rfl
theorem ti57 : TI Try.prog 57 (.slice none 0 0) 1 24 := by unfold TI; kernel_rfl
theorem ti45 : TI Try.prog 45 (.slice none 0 0) 1 24 := by unfold TI; kernel_rfl
theorem ti22 : TI Try.prog 22 (.slice none 0 0) 1 24 := by unfold TI; kernel_rfl
theorem cal3 : Callable Try.prog 3 := ⟨_, Try.func3, rfl, by kernel_rfl⟩
theorem cal4 : Callable Try.prog 4 := ⟨_, Try.func4, rfl, by kernel_rfl⟩
theorem cal5 : Callable Try.prog 5 := ⟨_, Try.func5, rfl, by kernel_rfl⟩
theorem cal6 : Callable Try.prog 6 := ⟨_, Try.func6, rfl, by kernel_rfl⟩
theorem cal7 : Callable Try.prog 7 := ⟨_, Try.func7, rfl, by kernel_rfl⟩
theorem cal8 : Callable Try.prog 8 := ⟨_, Try.func8, rfl, by kernel_rfl⟩
theorem cal9 : Callable Try.prog 9 := ⟨_, Try.func9, rfl, by kernel_rfl⟩
theorem cal10 : Callable Try.prog 10 := ⟨_, Try.func10, rfl, by kernel_rfl⟩
theorem cal11 : Callable Try.prog 11 := ⟨_, Try.func11, rfl, by kernel_rfl⟩
theorem cal12 : Callable Try.prog 12 := ⟨_, Try.func12, rfl, by kernel_rfl⟩
theorem cal13 : Callable Try.prog 13 := ⟨_, Try.func13, rfl, by kernel_rfl⟩
theorem cal14 : Callable Try.prog 14 := ⟨_, Try.func14, rfl, by kernel_rfl⟩
theorem cal15 : Callable Try.prog 15 := ⟨_, Try.func15, rfl, by kernel_rfl⟩
theorem cal16 : Callable Try.prog 16 := ⟨_, Try.func16, rfl, by kernel_rfl⟩
theorem cal17 : Callable Try.prog 17 := ⟨_, Try.func17, rfl, by kernel_rfl⟩
theorem cal18 : Callable Try.prog 18 := ⟨_, Try.func18, rfl, by kernel_rfl⟩
theorem cal19 : Callable Try.prog 19 := ⟨_, Try.func19, rfl, by kernel_rfl⟩
theorem cal20 : Callable Try.prog 20 := ⟨_, Try.func20, rfl, by kernel_rfl⟩
theorem cal21 : Callable Try.prog 21 := ⟨_, Try.func21, rfl, by kernel_rfl⟩
theorem cal22 : Callable Try.prog 22 := ⟨_, Try.func22, rfl, by kernel_rfl⟩
theorem cal23 : Callable Try.prog 23 := ⟨_, Try.func23, rfl, by kernel_rfl⟩
theorem cal24 : Callable Try.prog 24 := ⟨_, Try.func24, rfl, by kernel_rfl⟩
theorem cal25 : Callable Try.prog 25 := ⟨_, Try.func25, rfl, by kernel_rfl⟩
theorem cal26 : Callable Try.prog 26 := ⟨_, Try.func26, rfl, by kernel_rfl⟩
theorem cal27 : Callable Try.prog 27 := ⟨_, Try.func27, rfl, by kernel_rfl⟩
theorem cal28 : Callable Try.prog 28 := ⟨_, Try.func28, rfl, by kernel_rfl⟩
theorem cal29 : Callable Try.prog 29 := ⟨_, Try.func29, rfl, by kernel_rfl⟩
theorem cal30 : Callable Try.prog 30 := ⟨_, Try.func30, rfl, by kernel_rfl⟩
theorem cal31 : Callable Try.prog 31 := ⟨_, Try.func31, rfl, by kernel_rfl⟩
theorem cal32 : Callable Try.prog 32 := ⟨_, Try.func32, rfl, by kernel_rfl⟩
theorem cal33 : Callable Try.prog 33 := ⟨_, Try.func33, rfl, by kernel_rfl⟩
theorem cal34 : Callable Try.prog 34 := ⟨_, Try.func34, rfl, by kernel_rfl⟩
theorem cal35 : Callable Try.prog 35 := ⟨_, Try.func35, rfl, by kernel_rfl⟩
theorem cal36 : Callable Try.prog 36 := ⟨_, Try.func36, rfl, by kernel_rfl⟩
theorem cal37 : Callable Try.prog 37 := ⟨_, Try.func37, rfl, by kernel_rfl⟩
theorem cal38 : Callable Try.prog 38 := ⟨_, Try.func38, rfl, by kernel_rfl⟩
theorem cal39 : Callable Try.prog 39 := ⟨_, Try.func39, rfl, by kernel_rfl⟩
theorem cal40 : Callable Try.prog 40 := ⟨_, Try.func40, rfl, by kernel_rfl⟩
theorem cal41 : Callable Try.prog 41 := ⟨_, Try.func41, rfl, by kernel_rfl⟩
theorem cal42 : Callable Try.prog 42 := ⟨_, Try.func42, rfl, by kernel_rfl⟩
theorem cal43 : Callable Try.prog 43 := ⟨_, Try.func43, rfl, by kernel_rfl⟩
theorem cal44 : Callable Try.prog 44 := ⟨_, Try.func44, rfl, by kernel_rfl⟩
theorem cal45 : Callable Try.prog 45 := ⟨_, Try.func45, rfl, by kernel_rfl⟩
theorem cal46 : Callable Try.prog 46 := ⟨_, Try.func46, rfl, by kernel_rfl⟩
theorem cal47 : Callable Try.prog 47 := ⟨_, Try.func47, rfl, by kernel_rfl⟩
theorem cal48 : Callable Try.prog 48 := ⟨_, Try.func48, rfl, by kernel_rfl⟩
theorem cal49 : Callable Try.prog 49 := ⟨_, Try.func49, rfl, by kernel_rfl⟩
theorem cal50 : Callable Try.prog 50 := ⟨_, Try.func50, rfl, by kernel_rfl⟩
theorem cal51 : Callable Try.prog 51 := ⟨_, Try.func51, rfl, by kernel_rfl⟩
theorem cal52 : Callable Try.prog 52 := ⟨_, Try.func52, rfl, by kernel_rfl⟩
theorem cal54 : Callable Try.prog 54 := ⟨_, Try.func54, rfl, by kernel_rfl⟩
theorem cal56 : Callable Try.prog 56 := ⟨_, Try.func56, rfl, by kernel_rfl⟩
theorem cal57 : Callable Try.prog 57 := ⟨_, Try.func57, rfl, by kernel_rfl⟩
theorem cal58 : Callable Try.prog 58 := ⟨_, Try.func58, rfl, by kernel_rfl⟩
theorem cal60 : Callable Try.prog 60 := ⟨_, Try.func60, rfl, by kernel_rfl⟩
theorem cal62 : Callable Try.prog 62 := ⟨_, Try.func62, rfl, by kernel_rfl⟩
theorem cal63 : Callable Try.prog 63 := ⟨_, Try.func63, rfl, by kernel_rfl⟩
theorem cal64 : Callable Try.prog 64 := ⟨_, Try.func64, rfl, by kernel_rfl⟩
theorem cal65 : Callable Try.prog 65 := ⟨_, Try.func65, rfl, by kernel_rfl⟩
theorem cal66 : Callable Try.prog 66 := ⟨_, Try.func66, rfl, by kernel_rfl⟩
theorem cal67 : Callable Try.prog 67 := ⟨_, Try.func67, rfl, by kernel_rfl⟩
theorem cal68 : Callable Try.prog 68 := ⟨_, Try.func68, rfl, by kernel_rfl⟩
theorem cal69 : Callable Try.prog 69 := ⟨_, Try.func69, rfl, by kernel_rfl⟩
theorem cal70 : Callable Try.prog 70 := ⟨_, Try.func70, rfl, by kernel_rfl⟩
theorem cal71 : Callable Try.prog 71 := ⟨_, Try.func71, rfl, by kernel_rfl⟩
theorem sp93 : StructP Try.prog 93 #[(0, 1), (1, 3)] := ⟨_, Try.underlying93, fun w => by kernel_rfl⟩
theorem sp86 : StructP Try.prog 86 #[(0, 1), (1, 1)] := ⟨_, Try.underlying86, fun w => by kernel_rfl⟩
theorem sp88 : StructP Try.prog 88 #[(0, 1), (1, 1)] := ⟨_, Try.underlying88, fun w => by kernel_rfl⟩
theorem sp111 : StructP Try.prog 111 #[(0, 1), (1, 3)] := ⟨_, Try.underlying111, fun w => by kernel_rfl⟩
theorem sp102 : StructP Try.prog 102 #[(0, 1), (1, 1)] := ⟨_, Try.underlying102, fun w => by kernel_rfl⟩
theorem sp104 : StructP Try.prog 104 #[(0, 1), (1, 1)] := ⟨_, Try.underlying104, fun w => by kernel_rfl⟩
theorem sp31 : StructP Try.prog 31 #[(0, 1), (1, 1), (2, 1)] := ⟨_, Try.underlying31, fun w => by kernel_rfl⟩
theorem sp62 : StructP Try.prog 62 #[(0, 1), (1, 1), (2, 1)] := ⟨_, Try.underlying62, fun w => by kernel_rfl⟩
theorem sp41 : StructP Try.prog 41 #[(0, 1), (1, 1), (2, 1)] := ⟨_, Try.underlying41, fun w => by kernel_rfl⟩
theorem sp25 : StructP Try.prog 25 #[(0, 1), (1, 1), (2, 1), (3, 1)] := ⟨_, Try.underlying25, fun w => by kernel_rfl⟩
theorem sp67 : StructP Try.prog 67 #[(0, 1), (1, 1)] := ⟨_, Try.underlying67, fun w => by kernel_rfl⟩
theorem sp76 : StructP Try.prog 76 #[(0, 1), (1, 1)] := ⟨_, Try.underlying76, fun w => by kernel_rfl⟩
abbrev e8 : Enc UInt8 := ⟨5, 1, 1, (.int .u8 0), fun x => [.int .u8 (x.toNat : Int)]⟩
theorem e8_ok : EncOk Try.prog e8 := ⟨ti5, rfl, Nat.zero_lt_one, fun _ => rfl, fun x v hv => by simp at hv; subst hv; rfl⟩
abbrev eN82 : Enc Nat := ⟨82, 1, 8, (.pointer none), fun x => [.pointer (some ⟨x, 0, none⟩)]⟩
theorem eN82_ok : EncOk Try.prog eN82 := ⟨ti82, rfl, Nat.zero_lt_one, fun _ => rfl, fun x v hv => by simp at hv; subst hv; rfl⟩
abbrev eN98 : Enc Nat := ⟨98, 1, 8, (.pointer none), fun x => [.pointer (some ⟨x, 0, none⟩)]⟩
theorem eN98_ok : EncOk Try.prog eN98 := ⟨ti98, rfl, Nat.zero_lt_one, fun _ => rfl, fun x v hv => by simp at hv; subst hv; rfl⟩
abbrev e_I : Enc Int := ⟨3, 1, 8, (.int .i64 0), fun x => [.int .i64 x]⟩
theorem e_I_ok : EncOk Try.prog e_I := ⟨ti3, rfl, Nat.zero_lt_one, fun _ => rfl, fun x v hv => by simp at hv; subst hv; rfl⟩
abbrev e_S : Enc ByteArray := ⟨9, 1, 16, (.string ByteArray.empty), fun x => [.string x]⟩
theorem e_S_ok : EncOk Try.prog e_S := ⟨ti9, rfl, Nat.zero_lt_one, fun _ => rfl, fun x v hv => by simp at hv; subst hv; rfl⟩
abbrev e_B : Enc Bool := ⟨4, 1, 1, (.bool false), fun x => [.bool x]⟩
theorem e_B_ok : EncOk Try.prog e_B := ⟨ti4, rfl, Nat.zero_lt_one, fun _ => rfl, fun x v hv => by simp at hv; subst hv; rfl⟩
abbrev e_uint64 : Enc Int := ⟨23, 1, 8, (.int .u64 0), fun x => [.int .u64 x]⟩
theorem e_uint64_ok : EncOk Try.prog e_uint64 := ⟨ti23, rfl, Nat.zero_lt_one, fun _ => rfl, fun x v hv => by simp at hv; subst hv; rfl⟩
structure VoS where
  f_Slot : Int
  f_Ballot : Int
  f_Value : ByteArray
abbrev e_VoS : Enc VoS := ⟨31, 3, 32, (.agg #[.int .i64 0, .int .u64 0, .string ByteArray.empty]), fun x => [.int .i64 x.f_Slot, .int .u64 x.f_Ballot, .string x.f_Value]⟩
theorem e_VoS_ok : EncOk Try.prog e_VoS := ⟨ti31, rfl, Nat.lt_of_lt_of_le Nat.zero_lt_one (Nat.le_of_ble_eq_true rfl), fun _ => rfl, fun x v hv => by simp at hv; rcases hv with rfl | rfl | rfl <;> rfl⟩
structure VoI where
  f_Slot : Int
  f_Ballot : Int
  f_Value : Int
abbrev e_VoI : Enc VoI := ⟨62, 3, 24, (.agg #[.int .i64 0, .int .u64 0, .int .i64 0]), fun x => [.int .i64 x.f_Slot, .int .u64 x.f_Ballot, .int .i64 x.f_Value]⟩
theorem e_VoI_ok : EncOk Try.prog e_VoI := ⟨ti62, rfl, Nat.lt_of_lt_of_le Nat.zero_lt_one (Nat.le_of_ble_eq_true rfl), fun _ => rfl, fun x v hv => by simp at hv; rcases hv with rfl | rfl | rfl <;> rfl⟩
structure VoR where
  f_Slot : Int
  f_Ballot : Int
  f_Value : ByteArray
abbrev e_VoR : Enc VoR := ⟨41, 3, 32, (.agg #[.int .i64 0, .int .u64 0, .string ByteArray.empty]), fun x => [.int .i64 x.f_Slot, .int .u64 x.f_Ballot, .string x.f_Value]⟩
theorem e_VoR_ok : EncOk Try.prog e_VoR := ⟨ti41, rfl, Nat.lt_of_lt_of_le Nat.zero_lt_one (Nat.le_of_ble_eq_true rfl), fun _ => rfl, fun x v hv => by simp at hv; rcases hv with rfl | rfl | rfl <;> rfl⟩
structure ItA where
  f_key : Int
  f_value : VoS
abbrev e_ItA : Enc ItA := ⟨93, 4, 40, (.agg #[.int .i64 0, .int .i64 0, .int .u64 0, .string ByteArray.empty]), fun x => [.int .i64 x.f_key, .int .i64 x.f_value.f_Slot, .int .u64 x.f_value.f_Ballot, .string x.f_value.f_Value]⟩
theorem e_ItA_ok : EncOk Try.prog e_ItA := ⟨ti93, rfl, Nat.lt_of_lt_of_le Nat.zero_lt_one (Nat.le_of_ble_eq_true rfl), fun _ => rfl, fun x v hv => by simp at hv; rcases hv with rfl | rfl | rfl | rfl <;> rfl⟩
structure ItB where
  f_key : Int
  f_value : VoI
abbrev e_ItB : Enc ItB := ⟨111, 4, 32, (.agg #[.int .i64 0, .int .i64 0, .int .u64 0, .int .i64 0]), fun x => [.int .i64 x.f_key, .int .i64 x.f_value.f_Slot, .int .u64 x.f_value.f_Ballot, .int .i64 x.f_value.f_Value]⟩
theorem e_ItB_ok : EncOk Try.prog e_ItB := ⟨ti111, rfl, Nat.lt_of_lt_of_le Nat.zero_lt_one (Nat.le_of_ble_eq_true rfl), fun _ => rfl, fun x v hv => by simp at hv; rcases hv with rfl | rfl | rfl | rfl <;> rfl⟩
structure Op where
  f_Promise : Bool
  f_Ballot : Int
  f_Slot : Int
  f_Value : ByteArray
abbrev e_Op : Enc Op := ⟨25, 4, 40, (.agg #[.bool false, .int .u64 0, .int .i64 0, .string ByteArray.empty]), fun x => [.bool x.f_Promise, .int .u64 x.f_Ballot, .int .i64 x.f_Slot, .string x.f_Value]⟩
theorem e_Op_ok : EncOk Try.prog e_Op := ⟨ti25, rfl, Nat.lt_of_lt_of_le Nat.zero_lt_one (Nat.le_of_ble_eq_true rfl), fun _ => rfl, fun x v hv => by simp at hv; rcases hv with rfl | rfl | rfl | rfl <;> rfl⟩
end Go.Proofs.Ytcdodagebbfjoaa
