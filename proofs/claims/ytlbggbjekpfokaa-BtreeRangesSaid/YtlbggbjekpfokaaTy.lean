
/- Closed facts on types and functions. Printed by eng.py. -/
import Derived.Test.YtlbggbjekpfokaaHeld
import Derived.Test.YtlbggbjekpfokaaOpen
import Derived.Test.YtlbggbjekpfokaaRows
import Derived.Test.YtlbggbjekpfokaaTreep
import Derived.KernelRfl
set_option linter.unusedVariables false
namespace Go.Proofs.Ytlbggbjekpfokaa
open Go.RowKit
theorem ti3 : TI Try.prog 3 (.int .i64 0) 1 8 := by unfold TI; kernel_rfl
theorem ti4 : TI Try.prog 4 (.bool false) 1 1 := by unfold TI; kernel_rfl
theorem ti9 : TI Try.prog 9 (.string ByteArray.empty) 1 16 := by unfold TI; kernel_rfl
theorem ti5 : TI Try.prog 5 (.int .u8 0) 1 1 := by unfold TI; kernel_rfl
theorem ti68 : TI Try.prog 68 (.agg #[.string ByteArray.empty, .int .i64 0]) 2 24 := by unfold TI; kernel_rfl
theorem ti61 : TI Try.prog 61 (.agg #[.slice none 0 0, .slice none 0 0]) 2 48 := by unfold TI; kernel_rfl
theorem ti63 : TI Try.prog 63 (.agg #[.pointer none, .int .i64 0]) 2 16 := by unfold TI; kernel_rfl
theorem ti58 : TI Try.prog 58 (.slice none 0 0) 1 24 := by unfold TI; kernel_rfl
theorem ti59 : TI Try.prog 59 (.slice none 0 0) 1 24 := by unfold TI; kernel_rfl
theorem ti57 : TI Try.prog 57 (.pointer none) 1 8 := by unfold TI; kernel_rfl
theorem ti25 : TI Try.prog 25 (.pointer none) 1 8 := by unfold TI; kernel_rfl
theorem ti64 : TI Try.prog 64 (.pointer none) 1 8 := by unfold TI; kernel_rfl
theorem ti83 : TI Try.prog 83 (.agg #[.int .i64 0, .int .i64 0]) 2 16 := by unfold TI; kernel_rfl
theorem ti76 : TI Try.prog 76 (.agg #[.slice none 0 0, .slice none 0 0]) 2 48 := by unfold TI; kernel_rfl
theorem ti78 : TI Try.prog 78 (.agg #[.pointer none, .int .i64 0]) 2 16 := by unfold TI; kernel_rfl
theorem ti73 : TI Try.prog 73 (.slice none 0 0) 1 24 := by unfold TI; kernel_rfl
theorem ti74 : TI Try.prog 74 (.slice none 0 0) 1 24 := by unfold TI; kernel_rfl
theorem ti72 : TI Try.prog 72 (.pointer none) 1 8 := by unfold TI; kernel_rfl
theorem ti43 : TI Try.prog 43 (.pointer none) 1 8 := by unfold TI; kernel_rfl
theorem ti79 : TI Try.prog 79 (.pointer none) 1 8 := by unfold TI; kernel_rfl
theorem ti99 : TI Try.prog 99 (.agg #[.int .i64 0, .bool false]) 2 16 := by unfold TI; kernel_rfl
theorem ti92 : TI Try.prog 92 (.agg #[.slice none 0 0, .slice none 0 0]) 2 48 := by unfold TI; kernel_rfl
theorem ti94 : TI Try.prog 94 (.agg #[.pointer none, .int .i64 0]) 2 16 := by unfold TI; kernel_rfl
theorem ti89 : TI Try.prog 89 (.slice none 0 0) 1 24 := by unfold TI; kernel_rfl
theorem ti90 : TI Try.prog 90 (.slice none 0 0) 1 24 := by unfold TI; kernel_rfl
theorem ti88 : TI Try.prog 88 (.pointer none) 1 8 := by unfold TI; kernel_rfl
theorem ti49 : TI Try.prog 49 (.pointer none) 1 8 := by unfold TI; kernel_rfl
theorem ti95 : TI Try.prog 95 (.pointer none) 1 8 := by unfold TI; kernel_rfl
theorem ti42 : TI Try.prog 42 (.slice none 0 0) 1 24 := by unfold TI; kernel_rfl
theorem cal3 : Callable Try.prog 3 := ⟨_, Try.func3, rfl, by kernel_rfl⟩
theorem cal4 : Callable Try.prog 4 := ⟨_, Try.func4, rfl, by kernel_rfl⟩
theorem cal5 : Callable Try.prog 5 := ⟨_, Try.func5, rfl, by kernel_rfl⟩
theorem cal6 : Callable Try.prog 6 := ⟨_, Try.func6, rfl, by kernel_rfl⟩
theorem cal7 : Callable Try.prog 7 := ⟨_, Try.func7, rfl, by kernel_rfl⟩
theorem cal8 : Callable Try.prog 8 := ⟨_, Try.func8, rfl, by kernel_rfl⟩
theorem cal9 : Callable Try.prog 9 := ⟨_, Try.func9, rfl, by kernel_rfl⟩
theorem cal10 : Callable Try.prog 10 := ⟨_, Try.func10, rfl, by kernel_rfl⟩
theorem cal11 : Callable Try.prog 11 := ⟨_, Try.func11, rfl, by kernel_rfl⟩
theorem cal12 : Callable Try.prog 12 := ⟨_, Try.func12, rfl, by kernel_rfl⟩
theorem cal13 : Callable Try.prog 13 := ⟨_, Try.func13, rfl, by kernel_rfl⟩
theorem cal14 : Callable Try.prog 14 := ⟨_, Try.func14, rfl, by kernel_rfl⟩
theorem cal15 : Callable Try.prog 15 := ⟨_, Try.func15, rfl, by kernel_rfl⟩
theorem cal16 : Callable Try.prog 16 := ⟨_, Try.func16, rfl, by kernel_rfl⟩
theorem cal17 : Callable Try.prog 17 := ⟨_, Try.func17, rfl, by kernel_rfl⟩
theorem cal18 : Callable Try.prog 18 := ⟨_, Try.func18, rfl, by kernel_rfl⟩
theorem cal19 : Callable Try.prog 19 := ⟨_, Try.func19, rfl, by kernel_rfl⟩
theorem cal20 : Callable Try.prog 20 := ⟨_, Try.func20, rfl, by kernel_rfl⟩
theorem cal21 : Callable Try.prog 21 := ⟨_, Try.func21, rfl, by kernel_rfl⟩
theorem cal22 : Callable Try.prog 22 := ⟨_, Try.func22, rfl, by kernel_rfl⟩
theorem cal23 : Callable Try.prog 23 := ⟨_, Try.func23, rfl, by kernel_rfl⟩
theorem cal24 : Callable Try.prog 24 := ⟨_, Try.func24, rfl, by kernel_rfl⟩
theorem cal25 : Callable Try.prog 25 := ⟨_, Try.func25, rfl, by kernel_rfl⟩
theorem cal26 : Callable Try.prog 26 := ⟨_, Try.func26, rfl, by kernel_rfl⟩
theorem cal27 : Callable Try.prog 27 := ⟨_, Try.func27, rfl, by kernel_rfl⟩
theorem cal28 : Callable Try.prog 28 := ⟨_, Try.func28, rfl, by kernel_rfl⟩
theorem cal29 : Callable Try.prog 29 := ⟨_, Try.func29, rfl, by kernel_rfl⟩
theorem cal30 : Callable Try.prog 30 := ⟨_, Try.func30, rfl, by kernel_rfl⟩
theorem cal31 : Callable Try.prog 31 := ⟨_, Try.func31, rfl, by kernel_rfl⟩
theorem cal32 : Callable Try.prog 32 := ⟨_, Try.func32, rfl, by kernel_rfl⟩
theorem cal33 : Callable Try.prog 33 := ⟨_, Try.func33, rfl, by kernel_rfl⟩
theorem cal34 : Callable Try.prog 34 := ⟨_, Try.func34, rfl, by kernel_rfl⟩
theorem cal35 : Callable Try.prog 35 := ⟨_, Try.func35, rfl, by kernel_rfl⟩
theorem cal36 : Callable Try.prog 36 := ⟨_, Try.func36, rfl, by kernel_rfl⟩
theorem cal37 : Callable Try.prog 37 := ⟨_, Try.func37, rfl, by kernel_rfl⟩
theorem cal38 : Callable Try.prog 38 := ⟨_, Try.func38, rfl, by kernel_rfl⟩
theorem cal39 : Callable Try.prog 39 := ⟨_, Try.func39, rfl, by kernel_rfl⟩
theorem cal40 : Callable Try.prog 40 := ⟨_, Try.func40, rfl, by kernel_rfl⟩
theorem cal41 : Callable Try.prog 41 := ⟨_, Try.func41, rfl, by kernel_rfl⟩
theorem cal42 : Callable Try.prog 42 := ⟨_, Try.func42, rfl, by kernel_rfl⟩
theorem cal43 : Callable Try.prog 43 := ⟨_, Try.func43, rfl, by kernel_rfl⟩
theorem cal44 : Callable Try.prog 44 := ⟨_, Try.func44, rfl, by kernel_rfl⟩
theorem cal45 : Callable Try.prog 45 := ⟨_, Try.func45, rfl, by kernel_rfl⟩
theorem cal46 : Callable Try.prog 46 := ⟨_, Try.func46, rfl, by kernel_rfl⟩
theorem cal47 : Callable Try.prog 47 := ⟨_, Try.func47, rfl, by kernel_rfl⟩
theorem cal48 : Callable Try.prog 48 := ⟨_, Try.func48, rfl, by kernel_rfl⟩
theorem cal49 : Callable Try.prog 49 := ⟨_, Try.func49, rfl, by kernel_rfl⟩
theorem cal50 : Callable Try.prog 50 := ⟨_, Try.func50, rfl, by kernel_rfl⟩
theorem cal51 : Callable Try.prog 51 := ⟨_, Try.func51, rfl, by kernel_rfl⟩
theorem cal52 : Callable Try.prog 52 := ⟨_, Try.func52, rfl, by kernel_rfl⟩
theorem cal53 : Callable Try.prog 53 := ⟨_, Try.func53, rfl, by kernel_rfl⟩
theorem cal54 : Callable Try.prog 54 := ⟨_, Try.func54, rfl, by kernel_rfl⟩
theorem cal55 : Callable Try.prog 55 := ⟨_, Try.func55, rfl, by kernel_rfl⟩
theorem cal56 : Callable Try.prog 56 := ⟨_, Try.func56, rfl, by kernel_rfl⟩
theorem cal57 : Callable Try.prog 57 := ⟨_, Try.func57, rfl, by kernel_rfl⟩
theorem cal58 : Callable Try.prog 58 := ⟨_, Try.func58, rfl, by kernel_rfl⟩
theorem cal59 : Callable Try.prog 59 := ⟨_, Try.func59, rfl, by kernel_rfl⟩
theorem cal60 : Callable Try.prog 60 := ⟨_, Try.func60, rfl, by kernel_rfl⟩
theorem cal61 : Callable Try.prog 61 := ⟨_, Try.func61, rfl, by kernel_rfl⟩
theorem cal62 : Callable Try.prog 62 := ⟨_, Try.func62, rfl, by kernel_rfl⟩
theorem cal64 : Callable Try.prog 64 := ⟨_, Try.func64, rfl, by kernel_rfl⟩
theorem cal66 : Callable Try.prog 66 := ⟨_, Try.func66, rfl, by kernel_rfl⟩
theorem cal67 : Callable Try.prog 67 := ⟨_, Try.func67, rfl, by kernel_rfl⟩
theorem cal68 : Callable Try.prog 68 := ⟨_, Try.func68, rfl, by kernel_rfl⟩
theorem cal70 : Callable Try.prog 70 := ⟨_, Try.func70, rfl, by kernel_rfl⟩
theorem cal72 : Callable Try.prog 72 := ⟨_, Try.func72, rfl, by kernel_rfl⟩
theorem cal74 : Callable Try.prog 74 := ⟨_, Try.func74, rfl, by kernel_rfl⟩
theorem cal76 : Callable Try.prog 76 := ⟨_, Try.func76, rfl, by kernel_rfl⟩
theorem cal77 : Callable Try.prog 77 := ⟨_, Try.func77, rfl, by kernel_rfl⟩
theorem cal78 : Callable Try.prog 78 := ⟨_, Try.func78, rfl, by kernel_rfl⟩
theorem cal79 : Callable Try.prog 79 := ⟨_, Try.func79, rfl, by kernel_rfl⟩
theorem cal80 : Callable Try.prog 80 := ⟨_, Try.func80, rfl, by kernel_rfl⟩
theorem cal81 : Callable Try.prog 81 := ⟨_, Try.func81, rfl, by kernel_rfl⟩
theorem cal82 : Callable Try.prog 82 := ⟨_, Try.func82, rfl, by kernel_rfl⟩
theorem cal83 : Callable Try.prog 83 := ⟨_, Try.func83, rfl, by kernel_rfl⟩
theorem cal84 : Callable Try.prog 84 := ⟨_, Try.func84, rfl, by kernel_rfl⟩
theorem cal85 : Callable Try.prog 85 := ⟨_, Try.func85, rfl, by kernel_rfl⟩
theorem cal86 : Callable Try.prog 86 := ⟨_, Try.func86, rfl, by kernel_rfl⟩
theorem cal87 : Callable Try.prog 87 := ⟨_, Try.func87, rfl, by kernel_rfl⟩
theorem cal88 : Callable Try.prog 88 := ⟨_, Try.func88, rfl, by kernel_rfl⟩
theorem cal89 : Callable Try.prog 89 := ⟨_, Try.func89, rfl, by kernel_rfl⟩
theorem cal90 : Callable Try.prog 90 := ⟨_, Try.func90, rfl, by kernel_rfl⟩
theorem cal91 : Callable Try.prog 91 := ⟨_, Try.func91, rfl, by kernel_rfl⟩
theorem sp68 : StructP Try.prog 68 #[(0, 1), (1, 1)] := ⟨_, Try.underlying68, fun w => by kernel_rfl⟩
theorem sp61 : StructP Try.prog 61 #[(0, 1), (1, 1)] := ⟨_, Try.underlying61, fun w => by kernel_rfl⟩
theorem sp63 : StructP Try.prog 63 #[(0, 1), (1, 1)] := ⟨_, Try.underlying63, fun w => by kernel_rfl⟩
theorem sp83 : StructP Try.prog 83 #[(0, 1), (1, 1)] := ⟨_, Try.underlying83, fun w => by kernel_rfl⟩
theorem sp76 : StructP Try.prog 76 #[(0, 1), (1, 1)] := ⟨_, Try.underlying76, fun w => by kernel_rfl⟩
theorem sp78 : StructP Try.prog 78 #[(0, 1), (1, 1)] := ⟨_, Try.underlying78, fun w => by kernel_rfl⟩
theorem sp99 : StructP Try.prog 99 #[(0, 1), (1, 1)] := ⟨_, Try.underlying99, fun w => by kernel_rfl⟩
theorem sp92 : StructP Try.prog 92 #[(0, 1), (1, 1)] := ⟨_, Try.underlying92, fun w => by kernel_rfl⟩
theorem sp94 : StructP Try.prog 94 #[(0, 1), (1, 1)] := ⟨_, Try.underlying94, fun w => by kernel_rfl⟩
abbrev e8 : Enc UInt8 := ⟨5, 1, 1, (.int .u8 0), fun x => [.int .u8 (x.toNat : Int)]⟩
theorem e8_ok : EncOk Try.prog e8 := ⟨ti5, rfl, Nat.zero_lt_one, fun _ => rfl, fun x v hv => by simp at hv; subst hv; rfl⟩
abbrev eN57 : Enc Nat := ⟨57, 1, 8, (.pointer none), fun x => [.pointer (some ⟨x, 0, none⟩)]⟩
theorem eN57_ok : EncOk Try.prog eN57 := ⟨ti57, rfl, Nat.zero_lt_one, fun _ => rfl, fun x v hv => by simp at hv; subst hv; rfl⟩
abbrev eN72 : Enc Nat := ⟨72, 1, 8, (.pointer none), fun x => [.pointer (some ⟨x, 0, none⟩)]⟩
theorem eN72_ok : EncOk Try.prog eN72 := ⟨ti72, rfl, Nat.zero_lt_one, fun _ => rfl, fun x v hv => by simp at hv; subst hv; rfl⟩
abbrev eN88 : Enc Nat := ⟨88, 1, 8, (.pointer none), fun x => [.pointer (some ⟨x, 0, none⟩)]⟩
theorem eN88_ok : EncOk Try.prog eN88 := ⟨ti88, rfl, Nat.zero_lt_one, fun _ => rfl, fun x v hv => by simp at hv; subst hv; rfl⟩
abbrev e_I : Enc Int := ⟨3, 1, 8, (.int .i64 0), fun x => [.int .i64 x]⟩
theorem e_I_ok : EncOk Try.prog e_I := ⟨ti3, rfl, Nat.zero_lt_one, fun _ => rfl, fun x v hv => by simp at hv; subst hv; rfl⟩
abbrev e_S : Enc ByteArray := ⟨9, 1, 16, (.string ByteArray.empty), fun x => [.string x]⟩
theorem e_S_ok : EncOk Try.prog e_S := ⟨ti9, rfl, Nat.zero_lt_one, fun _ => rfl, fun x v hv => by simp at hv; subst hv; rfl⟩
abbrev e_B : Enc Bool := ⟨4, 1, 1, (.bool false), fun x => [.bool x]⟩
theorem e_B_ok : EncOk Try.prog e_B := ⟨ti4, rfl, Nat.zero_lt_one, fun _ => rfl, fun x v hv => by simp at hv; subst hv; rfl⟩
structure ItA where
  f_key : ByteArray
  f_value : Int
abbrev e_ItA : Enc ItA := ⟨68, 2, 24, (.agg #[.string ByteArray.empty, .int .i64 0]), fun x => [.string x.f_key, .int .i64 x.f_value]⟩
theorem e_ItA_ok : EncOk Try.prog e_ItA := ⟨ti68, rfl, Nat.lt_of_lt_of_le Nat.zero_lt_one (Nat.le_of_ble_eq_true rfl), fun _ => rfl, fun x v hv => by simp at hv; rcases hv with rfl | rfl <;> rfl⟩
structure ItB where
  f_key : Int
  f_value : Int
abbrev e_ItB : Enc ItB := ⟨83, 2, 16, (.agg #[.int .i64 0, .int .i64 0]), fun x => [.int .i64 x.f_key, .int .i64 x.f_value]⟩
theorem e_ItB_ok : EncOk Try.prog e_ItB := ⟨ti83, rfl, Nat.lt_of_lt_of_le Nat.zero_lt_one (Nat.le_of_ble_eq_true rfl), fun _ => rfl, fun x v hv => by simp at hv; rcases hv with rfl | rfl <;> rfl⟩
structure ItC where
  f_key : Int
  f_value : Bool
abbrev e_ItC : Enc ItC := ⟨99, 2, 16, (.agg #[.int .i64 0, .bool false]), fun x => [.int .i64 x.f_key, .bool x.f_value]⟩
theorem e_ItC_ok : EncOk Try.prog e_ItC := ⟨ti99, rfl, Nat.lt_of_lt_of_le Nat.zero_lt_one (Nat.le_of_ble_eq_true rfl), fun _ => rfl, fun x v hv => by simp at hv; rcases hv with rfl | rfl <;> rfl⟩
end Go.Proofs.Ytlbggbjekpfokaa
