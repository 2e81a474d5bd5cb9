
/- Closed facts on types and functions. Printed by eng.py. -/
import Derived.Test.YtlblipkcbmcfkaaHeld
import Derived.Test.YtlblipkcbmcfkaaOpen
import Derived.Test.YtlblipkcbmcfkaaRows
import Derived.Test.YtlblipkcbmcfkaaMem2
import Derived.Test.YtlblipkcbmcfkaaMapS
import Derived.Test.YtlblipkcbmcfkaaMany
import Derived.KernelRfl
set_option linter.unusedVariables false
namespace Go.Proofs.Ytlblipkcbmcfkaa
open Go.RowKit
theorem ti3 : TI Try.prog 3 (.int .i64 0) 1 8 := by unfold TI; kernel_rfl
theorem ti4 : TI Try.prog 4 (.bool false) 1 1 := by unfold TI; kernel_rfl
theorem ti9 : TI Try.prog 9 (.string ByteArray.empty) 1 16 := by unfold TI; kernel_rfl
theorem ti5 : TI Try.prog 5 (.int .u8 0) 1 1 := by unfold TI; kernel_rfl
theorem ti2 : TI Try.prog 2 (.int .i64 0) 1 8 := by unfold TI; kernel_rfl
theorem ti22 : TI Try.prog 22 (.int .u64 0) 1 8 := by unfold TI; kernel_rfl
theorem ti24 : TI Try.prog 24 (.agg #[.int .i64 0, .int .u64 0, .int .u64 0]) 3 24 := by unfold TI; kernel_rfl
theorem ti26 : TI Try.prog 26 (.agg #[.int .i64 0, .int .u64 0, .int .u64 0, .int .i64 0]) 4 32 := by unfold TI; kernel_rfl
theorem ti30 : TI Try.prog 30 (.agg #[.int .i64 0, .slice none 0 0, .slice none 0 0, .slice none 0 0, .int .i64 0]) 5 88 := by unfold TI; kernel_rfl
theorem ti53 : TI Try.prog 53 (.agg #[.int .i64 0, .string ByteArray.empty, .slice none 0 0, .int .i64 0]) 4 56 := by unfold TI; kernel_rfl
theorem ti51 : TI Try.prog 51 (.agg #[.string ByteArray.empty, .int .i64 0, .int .u64 0]) 3 32 := by unfold TI; kernel_rfl
theorem ti33 : TI Try.prog 33 (.agg #[.int .i64 0, .int .u64 0, .int .u64 0, .int .i64 0, .int .i64 0, .slice none 0 0, .slice none 0 0, .slice none 0 0, .int .i64 0, .slice none 0 0]) 10 144 := by unfold TI; kernel_rfl
theorem ti44 : TI Try.prog 44 (.agg #[.int .i64 0, .int .i64 0, .int .i64 0, .int .u64 0, .int .u64 0, .int .i64 0, .int .i64 0, .slice none 0 0, .slice none 0 0, .slice none 0 0, .int .i64 0, .slice none 0 0]) 12 160 := by unfold TI; kernel_rfl
theorem ti31 : TI Try.prog 31 (.slice none 0 0) 1 24 := by unfold TI; kernel_rfl
theorem ti27 : TI Try.prog 27 (.slice none 0 0) 1 24 := by unfold TI; kernel_rfl
theorem ti28 : TI Try.prog 28 (.slice none 0 0) 1 24 := by unfold TI; kernel_rfl
theorem ti45 : TI Try.prog 45 (.slice none 0 0) 1 24 := by unfold TI; kernel_rfl
theorem ti37 : TI Try.prog 37 (.slice none 0 0) 1 24 := by unfold TI; kernel_rfl
theorem cal3 : Callable Try.prog 3 := ⟨_, Try.func3, rfl, by kernel_rfl⟩
theorem cal4 : Callable Try.prog 4 := ⟨_, Try.func4, rfl, by kernel_rfl⟩
theorem cal5 : Callable Try.prog 5 := ⟨_, Try.func5, rfl, by kernel_rfl⟩
theorem cal6 : Callable Try.prog 6 := ⟨_, Try.func6, rfl, by kernel_rfl⟩
theorem cal7 : Callable Try.prog 7 := ⟨_, Try.func7, rfl, by kernel_rfl⟩
theorem cal8 : Callable Try.prog 8 := ⟨_, Try.func8, rfl, by kernel_rfl⟩
theorem cal9 : Callable Try.prog 9 := ⟨_, Try.func9, rfl, by kernel_rfl⟩
theorem cal10 : Callable Try.prog 10 := ⟨_, Try.func10, rfl, by kernel_rfl⟩
theorem cal11 : Callable Try.prog 11 := ⟨_, Try.func11, rfl, by kernel_rfl⟩
theorem cal12 : Callable Try.prog 12 := ⟨_, Try.func12, rfl, by kernel_rfl⟩
theorem cal13 : Callable Try.prog 13 := ⟨_, Try.func13, rfl, by kernel_rfl⟩
theorem cal14 : Callable Try.prog 14 := ⟨_, Try.func14, rfl, by kernel_rfl⟩
theorem cal15 : Callable Try.prog 15 := ⟨_, Try.func15, rfl, by kernel_rfl⟩
theorem cal16 : Callable Try.prog 16 := ⟨_, Try.func16, rfl, by kernel_rfl⟩
theorem cal17 : Callable Try.prog 17 := ⟨_, Try.func17, rfl, by kernel_rfl⟩
theorem cal18 : Callable Try.prog 18 := ⟨_, Try.func18, rfl, by kernel_rfl⟩
theorem cal19 : Callable Try.prog 19 := ⟨_, Try.func19, rfl, by kernel_rfl⟩
theorem cal20 : Callable Try.prog 20 := ⟨_, Try.func20, rfl, by kernel_rfl⟩
theorem cal21 : Callable Try.prog 21 := ⟨_, Try.func21, rfl, by kernel_rfl⟩
theorem cal22 : Callable Try.prog 22 := ⟨_, Try.func22, rfl, by kernel_rfl⟩
theorem cal23 : Callable Try.prog 23 := ⟨_, Try.func23, rfl, by kernel_rfl⟩
theorem cal24 : Callable Try.prog 24 := ⟨_, Try.func24, rfl, by kernel_rfl⟩
theorem cal25 : Callable Try.prog 25 := ⟨_, Try.func25, rfl, by kernel_rfl⟩
theorem cal26 : Callable Try.prog 26 := ⟨_, Try.func26, rfl, by kernel_rfl⟩
theorem cal27 : Callable Try.prog 27 := ⟨_, Try.func27, rfl, by kernel_rfl⟩
theorem cal28 : Callable Try.prog 28 := ⟨_, Try.func28, rfl, by kernel_rfl⟩
theorem cal29 : Callable Try.prog 29 := ⟨_, Try.func29, rfl, by kernel_rfl⟩
theorem cal30 : Callable Try.prog 30 := ⟨_, Try.func30, rfl, by kernel_rfl⟩
theorem cal31 : Callable Try.prog 31 := ⟨_, Try.func31, rfl, by kernel_rfl⟩
theorem cal32 : Callable Try.prog 32 := ⟨_, Try.func32, rfl, by kernel_rfl⟩
theorem cal33 : Callable Try.prog 33 := ⟨_, Try.func33, rfl, by kernel_rfl⟩
theorem cal34 : Callable Try.prog 34 := ⟨_, Try.func34, rfl, by kernel_rfl⟩
theorem cal35 : Callable Try.prog 35 := ⟨_, Try.func35, rfl, by kernel_rfl⟩
theorem cal36 : Callable Try.prog 36 := ⟨_, Try.func36, rfl, by kernel_rfl⟩
theorem cal37 : Callable Try.prog 37 := ⟨_, Try.func37, rfl, by kernel_rfl⟩
theorem cal38 : Callable Try.prog 38 := ⟨_, Try.func38, rfl, by kernel_rfl⟩
theorem cal39 : Callable Try.prog 39 := ⟨_, Try.func39, rfl, by kernel_rfl⟩
theorem cal40 : Callable Try.prog 40 := ⟨_, Try.func40, rfl, by kernel_rfl⟩
theorem cal41 : Callable Try.prog 41 := ⟨_, Try.func41, rfl, by kernel_rfl⟩
theorem cal42 : Callable Try.prog 42 := ⟨_, Try.func42, rfl, by kernel_rfl⟩
theorem cal43 : Callable Try.prog 43 := ⟨_, Try.func43, rfl, by kernel_rfl⟩
theorem cal44 : Callable Try.prog 44 := ⟨_, Try.func44, rfl, by kernel_rfl⟩
theorem cal45 : Callable Try.prog 45 := ⟨_, Try.func45, rfl, by kernel_rfl⟩
theorem cal46 : Callable Try.prog 46 := ⟨_, Try.func46, rfl, by kernel_rfl⟩
theorem cal47 : Callable Try.prog 47 := ⟨_, Try.func47, rfl, by kernel_rfl⟩
theorem cal48 : Callable Try.prog 48 := ⟨_, Try.func48, rfl, by kernel_rfl⟩
theorem cal49 : Callable Try.prog 49 := ⟨_, Try.func49, rfl, by kernel_rfl⟩
theorem cal50 : Callable Try.prog 50 := ⟨_, Try.func50, rfl, by kernel_rfl⟩
theorem cal51 : Callable Try.prog 51 := ⟨_, Try.func51, rfl, by kernel_rfl⟩
theorem cal52 : Callable Try.prog 52 := ⟨_, Try.func52, rfl, by kernel_rfl⟩
theorem cal53 : Callable Try.prog 53 := ⟨_, Try.func53, rfl, by kernel_rfl⟩
theorem cal54 : Callable Try.prog 54 := ⟨_, Try.func54, rfl, by kernel_rfl⟩
theorem cal55 : Callable Try.prog 55 := ⟨_, Try.func55, rfl, by kernel_rfl⟩
theorem cal56 : Callable Try.prog 56 := ⟨_, Try.func56, rfl, by kernel_rfl⟩
theorem cal57 : Callable Try.prog 57 := ⟨_, Try.func57, rfl, by kernel_rfl⟩
theorem cal58 : Callable Try.prog 58 := ⟨_, Try.func58, rfl, by kernel_rfl⟩
theorem cal59 : Callable Try.prog 59 := ⟨_, Try.func59, rfl, by kernel_rfl⟩
theorem cal60 : Callable Try.prog 60 := ⟨_, Try.func60, rfl, by kernel_rfl⟩
theorem cal61 : Callable Try.prog 61 := ⟨_, Try.func61, rfl, by kernel_rfl⟩
theorem cal62 : Callable Try.prog 62 := ⟨_, Try.func62, rfl, by kernel_rfl⟩
theorem cal63 : Callable Try.prog 63 := ⟨_, Try.func63, rfl, by kernel_rfl⟩
theorem cal64 : Callable Try.prog 64 := ⟨_, Try.func64, rfl, by kernel_rfl⟩
theorem cal65 : Callable Try.prog 65 := ⟨_, Try.func65, rfl, by kernel_rfl⟩
theorem cal66 : Callable Try.prog 66 := ⟨_, Try.func66, rfl, by kernel_rfl⟩
theorem cal67 : Callable Try.prog 67 := ⟨_, Try.func67, rfl, by kernel_rfl⟩
theorem cal68 : Callable Try.prog 68 := ⟨_, Try.func68, rfl, by kernel_rfl⟩
theorem cal69 : Callable Try.prog 69 := ⟨_, Try.func69, rfl, by kernel_rfl⟩
theorem cal70 : Callable Try.prog 70 := ⟨_, Try.func70, rfl, by kernel_rfl⟩
theorem cal71 : Callable Try.prog 71 := ⟨_, Try.func71, rfl, by kernel_rfl⟩
theorem cal72 : Callable Try.prog 72 := ⟨_, Try.func72, rfl, by kernel_rfl⟩
theorem cal73 : Callable Try.prog 73 := ⟨_, Try.func73, rfl, by kernel_rfl⟩
theorem cal74 : Callable Try.prog 74 := ⟨_, Try.func74, rfl, by kernel_rfl⟩
theorem cal75 : Callable Try.prog 75 := ⟨_, Try.func75, rfl, by kernel_rfl⟩
theorem cal76 : Callable Try.prog 76 := ⟨_, Try.func76, rfl, by kernel_rfl⟩
theorem cal77 : Callable Try.prog 77 := ⟨_, Try.func77, rfl, by kernel_rfl⟩
theorem cal78 : Callable Try.prog 78 := ⟨_, Try.func78, rfl, by kernel_rfl⟩
theorem cal79 : Callable Try.prog 79 := ⟨_, Try.func79, rfl, by kernel_rfl⟩
theorem cal80 : Callable Try.prog 80 := ⟨_, Try.func80, rfl, by kernel_rfl⟩
theorem cal81 : Callable Try.prog 81 := ⟨_, Try.func81, rfl, by kernel_rfl⟩
theorem cal82 : Callable Try.prog 82 := ⟨_, Try.func82, rfl, by kernel_rfl⟩
theorem cal83 : Callable Try.prog 83 := ⟨_, Try.func83, rfl, by kernel_rfl⟩
theorem cal84 : Callable Try.prog 84 := ⟨_, Try.func84, rfl, by kernel_rfl⟩
theorem cal85 : Callable Try.prog 85 := ⟨_, Try.func85, rfl, by kernel_rfl⟩
theorem cal86 : Callable Try.prog 86 := ⟨_, Try.func86, rfl, by kernel_rfl⟩
theorem cal87 : Callable Try.prog 87 := ⟨_, Try.func87, rfl, by kernel_rfl⟩
theorem cal88 : Callable Try.prog 88 := ⟨_, Try.func88, rfl, by kernel_rfl⟩
theorem cal89 : Callable Try.prog 89 := ⟨_, Try.func89, rfl, by kernel_rfl⟩
theorem cal90 : Callable Try.prog 90 := ⟨_, Try.func90, rfl, by kernel_rfl⟩
theorem cal91 : Callable Try.prog 91 := ⟨_, Try.func91, rfl, by kernel_rfl⟩
theorem cal92 : Callable Try.prog 92 := ⟨_, Try.func92, rfl, by kernel_rfl⟩
theorem cal93 : Callable Try.prog 93 := ⟨_, Try.func93, rfl, by kernel_rfl⟩
theorem cal94 : Callable Try.prog 94 := ⟨_, Try.func94, rfl, by kernel_rfl⟩
theorem cal95 : Callable Try.prog 95 := ⟨_, Try.func95, rfl, by kernel_rfl⟩
theorem cal96 : Callable Try.prog 96 := ⟨_, Try.func96, rfl, by kernel_rfl⟩
theorem cal97 : Callable Try.prog 97 := ⟨_, Try.func97, rfl, by kernel_rfl⟩
theorem cal98 : Callable Try.prog 98 := ⟨_, Try.func98, rfl, by kernel_rfl⟩
theorem cal99 : Callable Try.prog 99 := ⟨_, Try.func99, rfl, by kernel_rfl⟩
theorem cal100 : Callable Try.prog 100 := ⟨_, Try.func100, rfl, by kernel_rfl⟩
theorem cal101 : Callable Try.prog 101 := ⟨_, Try.func101, rfl, by kernel_rfl⟩
theorem cal102 : Callable Try.prog 102 := ⟨_, Try.func102, rfl, by kernel_rfl⟩
theorem cal103 : Callable Try.prog 103 := ⟨_, Try.func103, rfl, by kernel_rfl⟩
theorem cal104 : Callable Try.prog 104 := ⟨_, Try.func104, rfl, by kernel_rfl⟩
theorem cal105 : Callable Try.prog 105 := ⟨_, Try.func105, rfl, by kernel_rfl⟩
theorem cal106 : Callable Try.prog 106 := ⟨_, Try.func106, rfl, by kernel_rfl⟩
theorem cal107 : Callable Try.prog 107 := ⟨_, Try.func107, rfl, by kernel_rfl⟩
abbrev e8 : Enc UInt8 := ⟨5, 1, 1, (.int .u8 0), fun x => [.int .u8 (x.toNat : Int)]⟩
theorem e8_ok : EncOk Try.prog e8 := ⟨ti5, rfl, Nat.zero_lt_one, fun _ => rfl, fun x v hv => by simp at hv; subst hv; rfl⟩
abbrev e_I : Enc Int := ⟨3, 1, 8, (.int .i64 0), fun x => [.int .i64 x]⟩
theorem e_I_ok : EncOk Try.prog e_I := ⟨ti3, rfl, Nat.zero_lt_one, fun _ => rfl, fun x v hv => by simp at hv; subst hv; rfl⟩
abbrev e_S : Enc ByteArray := ⟨9, 1, 16, (.string ByteArray.empty), fun x => [.string x]⟩
theorem e_S_ok : EncOk Try.prog e_S := ⟨ti9, rfl, Nat.zero_lt_one, fun _ => rfl, fun x v hv => by simp at hv; subst hv; rfl⟩
abbrev e_U64 : Enc Int := ⟨22, 1, 8, (.int .u64 0), fun x => [.int .u64 x]⟩
theorem e_U64_ok : EncOk Try.prog e_U64 := ⟨ti22, rfl, Nat.zero_lt_one, fun _ => rfl, fun x v hv => by simp at hv; subst hv; rfl⟩
structure Tag where
  f_Id_Node : Int
  f_Id_Epoch : Int
  f_Id_Seq : Int
  f_Try : Int
abbrev e_Tag : Enc Tag := ⟨26, 4, 32, (.agg #[.int .i64 0, .int .u64 0, .int .u64 0, .int .i64 0]), fun x => [.int .i64 x.f_Id_Node, .int .u64 x.f_Id_Epoch, .int .u64 x.f_Id_Seq, .int .i64 x.f_Try]⟩
theorem e_Tag_ok : EncOk Try.prog e_Tag := ⟨ti26, rfl, Nat.lt_of_lt_of_le Nat.zero_lt_one (Nat.le_of_ble_eq_true rfl), fun _ => rfl, fun x v hv => by simp at hv; rcases hv with rfl | rfl | rfl | rfl <;> rfl⟩
structure Mark where
  f_Key : ByteArray
  f_Home : Int
  f_Count : Int
abbrev e_Mark : Enc Mark := ⟨51, 3, 32, (.agg #[.string ByteArray.empty, .int .i64 0, .int .u64 0]), fun x => [.string x.f_Key, .int .i64 x.f_Home, .int .u64 x.f_Count]⟩
theorem e_Mark_ok : EncOk Try.prog e_Mark := ⟨ti51, rfl, Nat.lt_of_lt_of_le Nat.zero_lt_one (Nat.le_of_ble_eq_true rfl), fun _ => rfl, fun x v hv => by simp at hv; rcases hv with rfl | rfl | rfl <;> rfl⟩
abbrev e_s45 : Enc (Sl UInt8) := ⟨45, 1, 24, (.slice none 0 0), fun x => [x.val]⟩
theorem e_s45_ok : EncOk Try.prog e_s45 := ⟨ti45, rfl, Nat.zero_lt_one, fun _ => rfl, fun x v hv => by simp at hv; subst hv; rfl⟩
abbrev e_int64 : Enc Int := ⟨2, 1, 8, (.int .i64 0), fun x => [.int .i64 x]⟩
theorem e_int64_ok : EncOk Try.prog e_int64 := ⟨ti2, rfl, Nat.zero_lt_one, fun _ => rfl, fun x v hv => by simp at hv; subst hv; rfl⟩
structure Op where
  f_Kind : Int
  f_Key : ByteArray
  f_Value : (Sl UInt8)
  f_N : Int
abbrev e_Op : Enc Op := ⟨53, 4, 56, (.agg #[.int .i64 0, .string ByteArray.empty, .slice none 0 0, .int .i64 0]), fun x => [.int .i64 x.f_Kind, .string x.f_Key, x.f_Value.val, .int .i64 x.f_N]⟩
theorem e_Op_ok : EncOk Try.prog e_Op := ⟨ti53, rfl, Nat.lt_of_lt_of_le Nat.zero_lt_one (Nat.le_of_ble_eq_true rfl), fun _ => rfl, fun x v hv => by simp at hv; rcases hv with rfl | rfl | rfl | rfl <;> rfl⟩
abbrev e_s27 : Enc (Sl ByteArray) := ⟨27, 1, 24, (.slice none 0 0), fun x => [x.val]⟩
theorem e_s27_ok : EncOk Try.prog e_s27 := ⟨ti27, rfl, Nat.zero_lt_one, fun _ => rfl, fun x v hv => by simp at hv; subst hv; rfl⟩
abbrev e_s28 : Enc (Sl Op) := ⟨28, 1, 24, (.slice none 0 0), fun x => [x.val]⟩
theorem e_s28_ok : EncOk Try.prog e_s28 := ⟨ti28, rfl, Nat.zero_lt_one, fun _ => rfl, fun x v hv => by simp at hv; subst hv; rfl⟩
structure Txn where
  f_Kind : Int
  f_Reads : (Sl ByteArray)
  f_Writes : (Sl ByteArray)
  f_Ops : (Sl Op)
  f_To : Int
abbrev e_Txn : Enc Txn := ⟨30, 5, 88, (.agg #[.int .i64 0, .slice none 0 0, .slice none 0 0, .slice none 0 0, .int .i64 0]), fun x => [.int .i64 x.f_Kind, x.f_Reads.val, x.f_Writes.val, x.f_Ops.val, .int .i64 x.f_To]⟩
theorem e_Txn_ok : EncOk Try.prog e_Txn := ⟨ti30, rfl, Nat.lt_of_lt_of_le Nat.zero_lt_one (Nat.le_of_ble_eq_true rfl), fun _ => rfl, fun x v hv => by simp at hv; rcases hv with rfl | rfl | rfl | rfl | rfl <;> rfl⟩
abbrev e_s31 : Enc (Sl Mark) := ⟨31, 1, 24, (.slice none 0 0), fun x => [x.val]⟩
theorem e_s31_ok : EncOk Try.prog e_s31 := ⟨ti31, rfl, Nat.zero_lt_one, fun _ => rfl, fun x v hv => by simp at hv; subst hv; rfl⟩
structure Order where
  f_Tag_Id_Node : Int
  f_Tag_Id_Epoch : Int
  f_Tag_Id_Seq : Int
  f_Tag_Try : Int
  f_Txn_Kind : Int
  f_Txn_Reads : (Sl ByteArray)
  f_Txn_Writes : (Sl ByteArray)
  f_Txn_Ops : (Sl Op)
  f_Txn_To : Int
  f_Marks : (Sl Mark)
abbrev e_Order : Enc Order := ⟨33, 10, 144, (.agg #[.int .i64 0, .int .u64 0, .int .u64 0, .int .i64 0, .int .i64 0, .slice none 0 0, .slice none 0 0, .slice none 0 0, .int .i64 0, .slice none 0 0]), fun x => [.int .i64 x.f_Tag_Id_Node, .int .u64 x.f_Tag_Id_Epoch, .int .u64 x.f_Tag_Id_Seq, .int .i64 x.f_Tag_Try, .int .i64 x.f_Txn_Kind, x.f_Txn_Reads.val, x.f_Txn_Writes.val, x.f_Txn_Ops.val, .int .i64 x.f_Txn_To, x.f_Marks.val]⟩
theorem e_Order_ok : EncOk Try.prog e_Order := ⟨ti33, rfl, Nat.lt_of_lt_of_le Nat.zero_lt_one (Nat.le_of_ble_eq_true rfl), fun _ => rfl, fun x v hv => by simp at hv; rcases hv with rfl | rfl | rfl | rfl | rfl | rfl | rfl | rfl | rfl | rfl <;> rfl⟩
structure Item where
  f_Kind : Int
  f_Index : Int
  f_Order_Tag_Id_Node : Int
  f_Order_Tag_Id_Epoch : Int
  f_Order_Tag_Id_Seq : Int
  f_Order_Tag_Try : Int
  f_Order_Txn_Kind : Int
  f_Order_Txn_Reads : (Sl ByteArray)
  f_Order_Txn_Writes : (Sl ByteArray)
  f_Order_Txn_Ops : (Sl Op)
  f_Order_Txn_To : Int
  f_Order_Marks : (Sl Mark)
abbrev e_Item : Enc Item := ⟨44, 12, 160, (.agg #[.int .i64 0, .int .i64 0, .int .i64 0, .int .u64 0, .int .u64 0, .int .i64 0, .int .i64 0, .slice none 0 0, .slice none 0 0, .slice none 0 0, .int .i64 0, .slice none 0 0]), fun x => [.int .i64 x.f_Kind, .int .i64 x.f_Index, .int .i64 x.f_Order_Tag_Id_Node, .int .u64 x.f_Order_Tag_Id_Epoch, .int .u64 x.f_Order_Tag_Id_Seq, .int .i64 x.f_Order_Tag_Try, .int .i64 x.f_Order_Txn_Kind, x.f_Order_Txn_Reads.val, x.f_Order_Txn_Writes.val, x.f_Order_Txn_Ops.val, .int .i64 x.f_Order_Txn_To, x.f_Order_Marks.val]⟩
theorem e_Item_ok : EncOk Try.prog e_Item := ⟨ti44, rfl, Nat.lt_of_lt_of_le Nat.zero_lt_one (Nat.le_of_ble_eq_true rfl), fun _ => rfl, fun x v hv => by simp at hv; rcases hv with rfl | rfl | rfl | rfl | rfl | rfl | rfl | rfl | rfl | rfl | rfl | rfl <;> rfl⟩
theorem sp26 : StructP Try.prog 26 #[(0, 3), (3, 1)] := ⟨_, Try.underlying26, fun w => by kernel_rfl⟩
theorem sp30 : StructP Try.prog 30 #[(0, 1), (1, 1), (2, 1), (3, 1), (4, 1)] := ⟨_, Try.underlying30, fun w => by kernel_rfl⟩
theorem sp53 : StructP Try.prog 53 #[(0, 1), (1, 1), (2, 1), (3, 1)] := ⟨_, Try.underlying53, fun w => by kernel_rfl⟩
theorem sp51 : StructP Try.prog 51 #[(0, 1), (1, 1), (2, 1)] := ⟨_, Try.underlying51, fun w => by kernel_rfl⟩
theorem sp33 : StructP Try.prog 33 #[(0, 4), (4, 5), (9, 1)] := ⟨_, Try.underlying33, fun w => by kernel_rfl⟩
theorem sp44 : StructP Try.prog 44 #[(0, 1), (1, 1), (2, 10)] := ⟨_, Try.underlying44, fun w => by kernel_rfl⟩
instance : DecidableEq Tag := fun a b => decidable_of_iff (a.f_Id_Node = b.f_Id_Node ∧ a.f_Id_Epoch = b.f_Id_Epoch ∧ a.f_Id_Seq = b.f_Id_Seq ∧ a.f_Try = b.f_Try) ⟨fun h => by cases a; cases b; simp_all, fun h => by rw [h]; simp⟩
theorem eqId (a0 a1 a2 b0 b1 b2 : Int) (w : World) : (Op.equalIn 9999 24 (.agg #[.int .i64 a0, .int .u64 a1, .int .u64 a2]) (.agg #[.int .i64 b0, .int .u64 b1, .int .u64 b2])).run Try.prog w = .ok (decide (a0 = b0 ∧ a1 = b1 ∧ a2 = b2)) w := by
  rw [run_equalIn_agg w 9998 24 _ _ (by simp [Program.fieldsOf, Try.underlying24]) (by kernel_rfl)]
  by_cases h0 : a0 = b0 <;> by_cases h1 : a1 = b1 <;> by_cases h2 : a2 = b2 <;>
    simp [Program.fieldsOf, Try.underlying24, Op.eqFields, part, run_isAgg Try.underlying3, run_isAgg Try.underlying22, aggD, run_equalIn_int w _ _ _ _ _ _ Try.underlying3, run_equalIn_int w _ _ _ _ _ _ Try.underlying22, h0, h1, h2]
theorem eqS26 (x y : Tag) (w : World) : (Op.equalIn 10000 26 (.agg (e_Tag.cells x).toArray) (.agg (e_Tag.cells y).toArray)).run Try.prog w = .ok (decide (x = y)) w := by
  rw [run_equalIn_agg w 9999 26 _ _ (by simp [Program.fieldsOf, Try.underlying26]) (by kernel_rfl)]
  obtain ⟨a0, a1, a2, a3⟩ := x
  obtain ⟨b0, b1, b2, b3⟩ := y
  by_cases h : (⟨a0, a1, a2, a3⟩ : Tag) = ⟨b0, b1, b2, b3⟩
  · rw [decide_eq_true h]
    obtain ⟨rfl, rfl, rfl, rfl⟩ := Tag.mk.inj h
    simp [Program.fieldsOf, Try.underlying26, Op.eqFields, part, run_isAgg Try.underlying24, run_isAgg Try.underlying3, run_sizeOf' ti24, aggD, eqId, run_equalIn_int w _ _ _ _ _ _ Try.underlying3]
  · rw [decide_eq_false h]
    simp only [Tag.mk.injEq] at h
    by_cases h1 : a0 = b0 ∧ a1 = b1 ∧ a2 = b2 <;>
      simp [Program.fieldsOf, Try.underlying26, Op.eqFields, part, run_isAgg Try.underlying24, run_isAgg Try.underlying3, run_sizeOf' ti24, aggD, eqId, run_equalIn_int w _ _ _ _ _ _ Try.underlying3, h1] <;> grind
theorem b_eqlS26 (x y : Tag) {p q : Operand} : BinV Try.prog .eql 26 p q (.agg (e_Tag.cells x).toArray) (.agg (e_Tag.cells y).toArray) (.bool (decide (x = y))) := binV_of (fun w => run_eqGuard_agg w _ _ _ _ _ _ (by kernel_rfl)) fun w => by rw [run_eql_struct, eqS26]; rfl
theorem b_neqS26 (x y : Tag) {p q : Operand} : BinV Try.prog .neq 26 p q (.agg (e_Tag.cells x).toArray) (.agg (e_Tag.cells y).toArray) (.bool (!decide (x = y))) := binV_of (fun w => run_eqGuard_agg w _ _ _ _ _ _ (by kernel_rfl)) fun w => by rw [run_neq_struct, eqS26]; rfl
abbrev kvTag : Tag → Value := fun x => .agg (e_Tag.cells x).toArray
theorem checkInt {T : TypeId} {k : IntKind} (h : Try.prog.underlying T = some (.int k)) (b : Bool) (n : Nat) (x : Int) (w : World) : (Instr.checkKey b (n + 1) T (.int k x)).run Try.prog w = .ok () w := by simp [Instr.checkKey, run_underlying h]
theorem checkId (b : Bool) (n : Nat) (a0 a1 a2 : Int) (w : World) : (Instr.checkKey b (n + 2) 24 (.agg #[.int .i64 a0, .int .u64 a1, .int .u64 a2])).run Try.prog w = .ok () w := by
  rw [Instr.checkKey]
  simp [run_underlying Try.underlying24, part, run_isAgg Try.underlying3, run_isAgg Try.underlying22, aggD, checkInt Try.underlying3, checkInt Try.underlying22]
theorem checkTag (b : Bool) (n : Nat) (x : Tag) (w : World) : (Instr.checkKey b (n + 3) 26 (.agg (e_Tag.cells x).toArray)).run Try.prog w = .ok () w := by
  obtain ⟨a0, a1, a2, a3⟩ := x
  rw [Instr.checkKey]
  simp [run_underlying Try.underlying26, part, run_isAgg Try.underlying24, run_isAgg Try.underlying3, run_sizeOf' ti24, aggD, checkId, checkInt Try.underlying3]
theorem sameBits_int (n : Nat) (k : IntKind) (x : Int) : Instr.sameBits n (.int k x) (.int k x) = true := by cases n <;> simp [Instr.sameBits]
theorem koTag : KeyOk Try.prog 26 kvTag := keyOk_struct Try.underlying26 (fun b x w => checkTag b 9997 x w) eqS26 (fun x v hv => by simp at hv; rcases hv with rfl | rfl | rfl | rfl <;> exact sameBits_int _ _ _)
abbrev vvInt : Int → Value := fun x => .int .i64 x
abbrev vvBool : Bool → Value := fun x => .bool x
instance : DecidableEq Mark := fun a b => decidable_of_iff (a.f_Key = b.f_Key ∧ a.f_Home = b.f_Home ∧ a.f_Count = b.f_Count) ⟨fun h => by cases a; cases b; simp_all, fun h => by rw [h]; simp⟩
theorem eqS51 (x y : Mark) (w : World) : (Op.equalIn 10000 51 (.agg (e_Mark.cells x).toArray) (.agg (e_Mark.cells y).toArray)).run Try.prog w = .ok (decide (x = y)) w := by
  rw [run_equalIn_agg w 9999 51 _ _ (by simp [Program.fieldsOf, Try.underlying51]) (by kernel_rfl)]
  obtain ⟨a0, a1, a2⟩ := x
  obtain ⟨b0, b1, b2⟩ := y
  by_cases h : (⟨a0, a1, a2⟩ : Mark) = ⟨b0, b1, b2⟩
  · rw [decide_eq_true h]
    obtain ⟨rfl, rfl, rfl⟩ := Mark.mk.inj h
    simp [Program.fieldsOf, Try.underlying51, Op.eqFields, part, run_isAgg Try.underlying3, run_isAgg Try.underlying9, run_isAgg Try.underlying22, aggD, run_equalIn_int w _ _ _ _ _ _ Try.underlying3, run_equalIn_string w _ _ _ _ Try.underlying9, run_equalIn_int w _ _ _ _ _ _ Try.underlying22, toList_eq_iff]
  · rw [decide_eq_false h]
    simp only [Mark.mk.injEq] at h
    simp [Program.fieldsOf, Try.underlying51, Op.eqFields, part, run_isAgg Try.underlying3, run_isAgg Try.underlying9, run_isAgg Try.underlying22, aggD, run_equalIn_int w _ _ _ _ _ _ Try.underlying3, run_equalIn_string w _ _ _ _ Try.underlying9, run_equalIn_int w _ _ _ _ _ _ Try.underlying22, toList_eq_iff]
    grind
theorem b_eqlS51 (x y : Mark) {p q : Operand} : BinV Try.prog .eql 51 p q (.agg (e_Mark.cells x).toArray) (.agg (e_Mark.cells y).toArray) (.bool (decide (x = y))) := binV_of (fun w => run_eqGuard_agg w _ _ _ _ _ _ (by kernel_rfl)) fun w => by rw [run_eql_struct, eqS51]; rfl
theorem b_neqS51 (x y : Mark) {p q : Operand} : BinV Try.prog .neq 51 p q (.agg (e_Mark.cells x).toArray) (.agg (e_Mark.cells y).toArray) (.bool (!decide (x = y))) := binV_of (fun w => run_eqGuard_agg w _ _ _ _ _ _ (by kernel_rfl)) fun w => by rw [run_neq_struct, eqS51]; rfl
abbrev Item.ord (x : Item) : Order := ⟨x.f_Order_Tag_Id_Node, x.f_Order_Tag_Id_Epoch, x.f_Order_Tag_Id_Seq, x.f_Order_Tag_Try, x.f_Order_Txn_Kind, x.f_Order_Txn_Reads, x.f_Order_Txn_Writes, x.f_Order_Txn_Ops, x.f_Order_Txn_To, x.f_Order_Marks⟩
end Go.Proofs.Ytlblipkcbmcfkaa
