
/- Closed facts on types and functions. Printed by eng.py. -/
import Derived.Test.YteehongibjkjlaaHeld
import Derived.Test.YteehongibjkjlaaOpen
import Derived.Test.YteehongibjkjlaaRows
import Derived.Test.YteehongibjkjlaaMem2
import Derived.Test.YteehongibjkjlaaMapS
import Derived.Test.YteehongibjkjlaaMany
import Derived.KernelRfl
set_option linter.unusedVariables false
namespace Go.Proofs.Yteehongibjkjlaa
open Go.RowKit
theorem ti3 : TI Try.prog 3 (.int .i64 0) 1 8 := by unfold TI; kernel_rfl
theorem ti4 : TI Try.prog 4 (.bool false) 1 1 := by unfold TI; kernel_rfl
theorem ti9 : TI Try.prog 9 (.string ByteArray.empty) 1 16 := by unfold TI; kernel_rfl
theorem ti5 : TI Try.prog 5 (.int .u8 0) 1 1 := by unfold TI; kernel_rfl
theorem ti2 : TI Try.prog 2 (.int .i64 0) 1 8 := by unfold TI; kernel_rfl
theorem ti29 : TI Try.prog 29 (.int .u64 0) 1 8 := by unfold TI; kernel_rfl
theorem ti31 : TI Try.prog 31 (.agg #[.int .i64 0, .int .u64 0, .int .u64 0]) 3 24 := by unfold TI; kernel_rfl
theorem ti33 : TI Try.prog 33 (.agg #[.int .i64 0, .int .u64 0, .int .u64 0, .int .i64 0]) 4 32 := by unfold TI; kernel_rfl
theorem ti37 : TI Try.prog 37 (.agg #[.int .i64 0, .slice none 0 0, .slice none 0 0, .slice none 0 0, .int .i64 0]) 5 88 := by unfold TI; kernel_rfl
theorem ti79 : TI Try.prog 79 (.agg #[.int .i64 0, .string ByteArray.empty, .slice none 0 0, .int .i64 0]) 4 56 := by unfold TI; kernel_rfl
theorem ti49 : TI Try.prog 49 (.agg #[.string ByteArray.empty, .int .i64 0, .int .u64 0]) 3 32 := by unfold TI; kernel_rfl
theorem ti40 : TI Try.prog 40 (.agg #[.int .i64 0, .int .u64 0, .int .u64 0, .int .i64 0, .int .i64 0, .slice none 0 0, .slice none 0 0, .slice none 0 0, .int .i64 0, .slice none 0 0]) 10 144 := by unfold TI; kernel_rfl
theorem ti42 : TI Try.prog 42 (.agg #[.int .i64 0, .int .i64 0, .int .i64 0, .int .u64 0, .int .u64 0, .int .i64 0, .int .i64 0, .slice none 0 0, .slice none 0 0, .slice none 0 0, .int .i64 0, .slice none 0 0]) 12 160 := by unfold TI; kernel_rfl
theorem ti71 : TI Try.prog 71 (.agg #[.int .i64 0, .int .i64 0, .map none]) 3 24 := by unfold TI; kernel_rfl
theorem ti69 : TI Try.prog 69 (.map none) 1 8 := by unfold TI; kernel_rfl
theorem ti26 : TI Try.prog 26 (.map none) 1 8 := by unfold TI; kernel_rfl
theorem ti27 : TI Try.prog 27 (.slice none 0 0) 1 24 := by unfold TI; kernel_rfl
theorem ti22 : TI Try.prog 22 (.slice none 0 0) 1 24 := by unfold TI; kernel_rfl
theorem ti38 : TI Try.prog 38 (.slice none 0 0) 1 24 := by unfold TI; kernel_rfl
theorem ti34 : TI Try.prog 34 (.slice none 0 0) 1 24 := by unfold TI; kernel_rfl
theorem ti35 : TI Try.prog 35 (.slice none 0 0) 1 24 := by unfold TI; kernel_rfl
theorem ti77 : TI Try.prog 77 (.slice none 0 0) 1 24 := by unfold TI; kernel_rfl
theorem ti25 : TI Try.prog 25 (.slice none 0 0) 1 24 := by unfold TI; kernel_rfl
theorem ti56 : TI Try.prog 56 (.pointer none) 1 8 := by unfold TI; kernel_rfl
theorem cal3 : Callable Try.prog 3 := ⟨_, Try.func3, rfl, by kernel_rfl⟩
theorem cal4 : Callable Try.prog 4 := ⟨_, Try.func4, rfl, by kernel_rfl⟩
theorem cal5 : Callable Try.prog 5 := ⟨_, Try.func5, rfl, by kernel_rfl⟩
theorem cal6 : Callable Try.prog 6 := ⟨_, Try.func6, rfl, by kernel_rfl⟩
theorem cal7 : Callable Try.prog 7 := ⟨_, Try.func7, rfl, by kernel_rfl⟩
theorem cal8 : Callable Try.prog 8 := ⟨_, Try.func8, rfl, by kernel_rfl⟩
theorem cal9 : Callable Try.prog 9 := ⟨_, Try.func9, rfl, by kernel_rfl⟩
theorem cal10 : Callable Try.prog 10 := ⟨_, Try.func10, rfl, by kernel_rfl⟩
theorem cal11 : Callable Try.prog 11 := ⟨_, Try.func11, rfl, by kernel_rfl⟩
theorem cal12 : Callable Try.prog 12 := ⟨_, Try.func12, rfl, by kernel_rfl⟩
theorem cal13 : Callable Try.prog 13 := ⟨_, Try.func13, rfl, by kernel_rfl⟩
theorem cal14 : Callable Try.prog 14 := ⟨_, Try.func14, rfl, by kernel_rfl⟩
theorem cal15 : Callable Try.prog 15 := ⟨_, Try.func15, rfl, by kernel_rfl⟩
theorem cal16 : Callable Try.prog 16 := ⟨_, Try.func16, rfl, by kernel_rfl⟩
theorem cal17 : Callable Try.prog 17 := ⟨_, Try.func17, rfl, by kernel_rfl⟩
theorem cal18 : Callable Try.prog 18 := ⟨_, Try.func18, rfl, by kernel_rfl⟩
theorem cal19 : Callable Try.prog 19 := ⟨_, Try.func19, rfl, by kernel_rfl⟩
theorem cal20 : Callable Try.prog 20 := ⟨_, Try.func20, rfl, by kernel_rfl⟩
theorem cal21 : Callable Try.prog 21 := ⟨_, Try.func21, rfl, by kernel_rfl⟩
theorem cal22 : Callable Try.prog 22 := ⟨_, Try.func22, rfl, by kernel_rfl⟩
theorem cal23 : Callable Try.prog 23 := ⟨_, Try.func23, rfl, by kernel_rfl⟩
theorem cal24 : Callable Try.prog 24 := ⟨_, Try.func24, rfl, by kernel_rfl⟩
theorem cal25 : Callable Try.prog 25 := ⟨_, Try.func25, rfl, by kernel_rfl⟩
theorem cal26 : Callable Try.prog 26 := ⟨_, Try.func26, rfl, by kernel_rfl⟩
theorem cal27 : Callable Try.prog 27 := ⟨_, Try.func27, rfl, by kernel_rfl⟩
theorem cal28 : Callable Try.prog 28 := ⟨_, Try.func28, rfl, by kernel_rfl⟩
theorem cal29 : Callable Try.prog 29 := ⟨_, Try.func29, rfl, by kernel_rfl⟩
theorem cal30 : Callable Try.prog 30 := ⟨_, Try.func30, rfl, by kernel_rfl⟩
theorem cal31 : Callable Try.prog 31 := ⟨_, Try.func31, rfl, by kernel_rfl⟩
theorem cal32 : Callable Try.prog 32 := ⟨_, Try.func32, rfl, by kernel_rfl⟩
theorem cal33 : Callable Try.prog 33 := ⟨_, Try.func33, rfl, by kernel_rfl⟩
theorem cal34 : Callable Try.prog 34 := ⟨_, Try.func34, rfl, by kernel_rfl⟩
theorem cal35 : Callable Try.prog 35 := ⟨_, Try.func35, rfl, by kernel_rfl⟩
theorem cal36 : Callable Try.prog 36 := ⟨_, Try.func36, rfl, by kernel_rfl⟩
theorem cal37 : Callable Try.prog 37 := ⟨_, Try.func37, rfl, by kernel_rfl⟩
theorem cal38 : Callable Try.prog 38 := ⟨_, Try.func38, rfl, by kernel_rfl⟩
theorem cal39 : Callable Try.prog 39 := ⟨_, Try.func39, rfl, by kernel_rfl⟩
theorem cal40 : Callable Try.prog 40 := ⟨_, Try.func40, rfl, by kernel_rfl⟩
theorem cal41 : Callable Try.prog 41 := ⟨_, Try.func41, rfl, by kernel_rfl⟩
theorem cal42 : Callable Try.prog 42 := ⟨_, Try.func42, rfl, by kernel_rfl⟩
theorem cal43 : Callable Try.prog 43 := ⟨_, Try.func43, rfl, by kernel_rfl⟩
theorem cal44 : Callable Try.prog 44 := ⟨_, Try.func44, rfl, by kernel_rfl⟩
theorem cal45 : Callable Try.prog 45 := ⟨_, Try.func45, rfl, by kernel_rfl⟩
theorem cal46 : Callable Try.prog 46 := ⟨_, Try.func46, rfl, by kernel_rfl⟩
theorem cal47 : Callable Try.prog 47 := ⟨_, Try.func47, rfl, by kernel_rfl⟩
theorem cal48 : Callable Try.prog 48 := ⟨_, Try.func48, rfl, by kernel_rfl⟩
theorem cal49 : Callable Try.prog 49 := ⟨_, Try.func49, rfl, by kernel_rfl⟩
theorem cal50 : Callable Try.prog 50 := ⟨_, Try.func50, rfl, by kernel_rfl⟩
theorem cal51 : Callable Try.prog 51 := ⟨_, Try.func51, rfl, by kernel_rfl⟩
theorem cal52 : Callable Try.prog 52 := ⟨_, Try.func52, rfl, by kernel_rfl⟩
theorem cal53 : Callable Try.prog 53 := ⟨_, Try.func53, rfl, by kernel_rfl⟩
theorem cal54 : Callable Try.prog 54 := ⟨_, Try.func54, rfl, by kernel_rfl⟩
theorem cal55 : Callable Try.prog 55 := ⟨_, Try.func55, rfl, by kernel_rfl⟩
theorem cal56 : Callable Try.prog 56 := ⟨_, Try.func56, rfl, by kernel_rfl⟩
theorem cal57 : Callable Try.prog 57 := ⟨_, Try.func57, rfl, by kernel_rfl⟩
theorem cal58 : Callable Try.prog 58 := ⟨_, Try.func58, rfl, by kernel_rfl⟩
theorem cal59 : Callable Try.prog 59 := ⟨_, Try.func59, rfl, by kernel_rfl⟩
theorem cal60 : Callable Try.prog 60 := ⟨_, Try.func60, rfl, by kernel_rfl⟩
theorem cal61 : Callable Try.prog 61 := ⟨_, Try.func61, rfl, by kernel_rfl⟩
theorem cal62 : Callable Try.prog 62 := ⟨_, Try.func62, rfl, by kernel_rfl⟩
theorem cal63 : Callable Try.prog 63 := ⟨_, Try.func63, rfl, by kernel_rfl⟩
theorem cal64 : Callable Try.prog 64 := ⟨_, Try.func64, rfl, by kernel_rfl⟩
theorem cal65 : Callable Try.prog 65 := ⟨_, Try.func65, rfl, by kernel_rfl⟩
theorem cal66 : Callable Try.prog 66 := ⟨_, Try.func66, rfl, by kernel_rfl⟩
theorem cal67 : Callable Try.prog 67 := ⟨_, Try.func67, rfl, by kernel_rfl⟩
theorem cal68 : Callable Try.prog 68 := ⟨_, Try.func68, rfl, by kernel_rfl⟩
theorem cal69 : Callable Try.prog 69 := ⟨_, Try.func69, rfl, by kernel_rfl⟩
abbrev e8 : Enc UInt8 := ⟨5, 1, 1, (.int .u8 0), fun x => [.int .u8 (x.toNat : Int)]⟩
theorem e8_ok : EncOk Try.prog e8 := ⟨ti5, rfl, Nat.zero_lt_one, fun _ => rfl, fun x v hv => by simp at hv; subst hv; rfl⟩
abbrev e_I : Enc Int := ⟨3, 1, 8, (.int .i64 0), fun x => [.int .i64 x]⟩
theorem e_I_ok : EncOk Try.prog e_I := ⟨ti3, rfl, Nat.zero_lt_one, fun _ => rfl, fun x v hv => by simp at hv; subst hv; rfl⟩
abbrev e_S : Enc ByteArray := ⟨9, 1, 16, (.string ByteArray.empty), fun x => [.string x]⟩
theorem e_S_ok : EncOk Try.prog e_S := ⟨ti9, rfl, Nat.zero_lt_one, fun _ => rfl, fun x v hv => by simp at hv; subst hv; rfl⟩
abbrev e_U64 : Enc Int := ⟨29, 1, 8, (.int .u64 0), fun x => [.int .u64 x]⟩
theorem e_U64_ok : EncOk Try.prog e_U64 := ⟨ti29, rfl, Nat.zero_lt_one, fun _ => rfl, fun x v hv => by simp at hv; subst hv; rfl⟩
structure Tag where
  f_Id_Node : Int
  f_Id_Epoch : Int
  f_Id_Seq : Int
  f_Try : Int
abbrev e_Tag : Enc Tag := ⟨33, 4, 32, (.agg #[.int .i64 0, .int .u64 0, .int .u64 0, .int .i64 0]), fun x => [.int .i64 x.f_Id_Node, .int .u64 x.f_Id_Epoch, .int .u64 x.f_Id_Seq, .int .i64 x.f_Try]⟩
theorem e_Tag_ok : EncOk Try.prog e_Tag := ⟨ti33, rfl, Nat.lt_of_lt_of_le Nat.zero_lt_one (Nat.le_of_ble_eq_true rfl), fun _ => rfl, fun x v hv => by simp at hv; rcases hv with rfl | rfl | rfl | rfl <;> rfl⟩
structure Mark where
  f_Key : ByteArray
  f_Home : Int
  f_Count : Int
abbrev e_Mark : Enc Mark := ⟨49, 3, 32, (.agg #[.string ByteArray.empty, .int .i64 0, .int .u64 0]), fun x => [.string x.f_Key, .int .i64 x.f_Home, .int .u64 x.f_Count]⟩
theorem e_Mark_ok : EncOk Try.prog e_Mark := ⟨ti49, rfl, Nat.lt_of_lt_of_le Nat.zero_lt_one (Nat.le_of_ble_eq_true rfl), fun _ => rfl, fun x v hv => by simp at hv; rcases hv with rfl | rfl | rfl <;> rfl⟩
abbrev e_s77 : Enc (Sl UInt8) := ⟨77, 1, 24, (.slice none 0 0), fun x => [x.val]⟩
theorem e_s77_ok : EncOk Try.prog e_s77 := ⟨ti77, rfl, Nat.zero_lt_one, fun _ => rfl, fun x v hv => by simp at hv; subst hv; rfl⟩
abbrev e_int64 : Enc Int := ⟨2, 1, 8, (.int .i64 0), fun x => [.int .i64 x]⟩
theorem e_int64_ok : EncOk Try.prog e_int64 := ⟨ti2, rfl, Nat.zero_lt_one, fun _ => rfl, fun x v hv => by simp at hv; subst hv; rfl⟩
structure Op where
  f_Kind : Int
  f_Key : ByteArray
  f_Value : (Sl UInt8)
  f_N : Int
abbrev e_Op : Enc Op := ⟨79, 4, 56, (.agg #[.int .i64 0, .string ByteArray.empty, .slice none 0 0, .int .i64 0]), fun x => [.int .i64 x.f_Kind, .string x.f_Key, x.f_Value.val, .int .i64 x.f_N]⟩
theorem e_Op_ok : EncOk Try.prog e_Op := ⟨ti79, rfl, Nat.lt_of_lt_of_le Nat.zero_lt_one (Nat.le_of_ble_eq_true rfl), fun _ => rfl, fun x v hv => by simp at hv; rcases hv with rfl | rfl | rfl | rfl <;> rfl⟩
abbrev e_s34 : Enc (Sl ByteArray) := ⟨34, 1, 24, (.slice none 0 0), fun x => [x.val]⟩
theorem e_s34_ok : EncOk Try.prog e_s34 := ⟨ti34, rfl, Nat.zero_lt_one, fun _ => rfl, fun x v hv => by simp at hv; subst hv; rfl⟩
abbrev e_s35 : Enc (Sl Op) := ⟨35, 1, 24, (.slice none 0 0), fun x => [x.val]⟩
theorem e_s35_ok : EncOk Try.prog e_s35 := ⟨ti35, rfl, Nat.zero_lt_one, fun _ => rfl, fun x v hv => by simp at hv; subst hv; rfl⟩
structure Txn where
  f_Kind : Int
  f_Reads : (Sl ByteArray)
  f_Writes : (Sl ByteArray)
  f_Ops : (Sl Op)
  f_To : Int
abbrev e_Txn : Enc Txn := ⟨37, 5, 88, (.agg #[.int .i64 0, .slice none 0 0, .slice none 0 0, .slice none 0 0, .int .i64 0]), fun x => [.int .i64 x.f_Kind, x.f_Reads.val, x.f_Writes.val, x.f_Ops.val, .int .i64 x.f_To]⟩
theorem e_Txn_ok : EncOk Try.prog e_Txn := ⟨ti37, rfl, Nat.lt_of_lt_of_le Nat.zero_lt_one (Nat.le_of_ble_eq_true rfl), fun _ => rfl, fun x v hv => by simp at hv; rcases hv with rfl | rfl | rfl | rfl | rfl <;> rfl⟩
abbrev e_s38 : Enc (Sl Mark) := ⟨38, 1, 24, (.slice none 0 0), fun x => [x.val]⟩
theorem e_s38_ok : EncOk Try.prog e_s38 := ⟨ti38, rfl, Nat.zero_lt_one, fun _ => rfl, fun x v hv => by simp at hv; subst hv; rfl⟩
structure Order where
  f_Tag_Id_Node : Int
  f_Tag_Id_Epoch : Int
  f_Tag_Id_Seq : Int
  f_Tag_Try : Int
  f_Txn_Kind : Int
  f_Txn_Reads : (Sl ByteArray)
  f_Txn_Writes : (Sl ByteArray)
  f_Txn_Ops : (Sl Op)
  f_Txn_To : Int
  f_Marks : (Sl Mark)
abbrev e_Order : Enc Order := ⟨40, 10, 144, (.agg #[.int .i64 0, .int .u64 0, .int .u64 0, .int .i64 0, .int .i64 0, .slice none 0 0, .slice none 0 0, .slice none 0 0, .int .i64 0, .slice none 0 0]), fun x => [.int .i64 x.f_Tag_Id_Node, .int .u64 x.f_Tag_Id_Epoch, .int .u64 x.f_Tag_Id_Seq, .int .i64 x.f_Tag_Try, .int .i64 x.f_Txn_Kind, x.f_Txn_Reads.val, x.f_Txn_Writes.val, x.f_Txn_Ops.val, .int .i64 x.f_Txn_To, x.f_Marks.val]⟩
theorem e_Order_ok : EncOk Try.prog e_Order := ⟨ti40, rfl, Nat.lt_of_lt_of_le Nat.zero_lt_one (Nat.le_of_ble_eq_true rfl), fun _ => rfl, fun x v hv => by simp at hv; rcases hv with rfl | rfl | rfl | rfl | rfl | rfl | rfl | rfl | rfl | rfl <;> rfl⟩
structure Item where
  f_Kind : Int
  f_Index : Int
  f_Order_Tag_Id_Node : Int
  f_Order_Tag_Id_Epoch : Int
  f_Order_Tag_Id_Seq : Int
  f_Order_Tag_Try : Int
  f_Order_Txn_Kind : Int
  f_Order_Txn_Reads : (Sl ByteArray)
  f_Order_Txn_Writes : (Sl ByteArray)
  f_Order_Txn_Ops : (Sl Op)
  f_Order_Txn_To : Int
  f_Order_Marks : (Sl Mark)
abbrev e_Item : Enc Item := ⟨42, 12, 160, (.agg #[.int .i64 0, .int .i64 0, .int .i64 0, .int .u64 0, .int .u64 0, .int .i64 0, .int .i64 0, .slice none 0 0, .slice none 0 0, .slice none 0 0, .int .i64 0, .slice none 0 0]), fun x => [.int .i64 x.f_Kind, .int .i64 x.f_Index, .int .i64 x.f_Order_Tag_Id_Node, .int .u64 x.f_Order_Tag_Id_Epoch, .int .u64 x.f_Order_Tag_Id_Seq, .int .i64 x.f_Order_Tag_Try, .int .i64 x.f_Order_Txn_Kind, x.f_Order_Txn_Reads.val, x.f_Order_Txn_Writes.val, x.f_Order_Txn_Ops.val, .int .i64 x.f_Order_Txn_To, x.f_Order_Marks.val]⟩
theorem e_Item_ok : EncOk Try.prog e_Item := ⟨ti42, rfl, Nat.lt_of_lt_of_le Nat.zero_lt_one (Nat.le_of_ble_eq_true rfl), fun _ => rfl, fun x v hv => by simp at hv; rcases hv with rfl | rfl | rfl | rfl | rfl | rfl | rfl | rfl | rfl | rfl | rfl | rfl <;> rfl⟩
theorem sp33 : StructP Try.prog 33 #[(0, 3), (3, 1)] := ⟨_, Try.underlying33, fun w => by kernel_rfl⟩
theorem sp37 : StructP Try.prog 37 #[(0, 1), (1, 1), (2, 1), (3, 1), (4, 1)] := ⟨_, Try.underlying37, fun w => by kernel_rfl⟩
theorem sp79 : StructP Try.prog 79 #[(0, 1), (1, 1), (2, 1), (3, 1)] := ⟨_, Try.underlying79, fun w => by kernel_rfl⟩
theorem sp49 : StructP Try.prog 49 #[(0, 1), (1, 1), (2, 1)] := ⟨_, Try.underlying49, fun w => by kernel_rfl⟩
theorem sp40 : StructP Try.prog 40 #[(0, 4), (4, 5), (9, 1)] := ⟨_, Try.underlying40, fun w => by kernel_rfl⟩
theorem sp42 : StructP Try.prog 42 #[(0, 1), (1, 1), (2, 10)] := ⟨_, Try.underlying42, fun w => by kernel_rfl⟩
theorem sp71 : StructP Try.prog 71 #[(0, 1), (1, 1), (2, 1)] := ⟨_, Try.underlying71, fun w => by kernel_rfl⟩
instance : DecidableEq Tag := fun a b => decidable_of_iff (a.f_Id_Node = b.f_Id_Node ∧ a.f_Id_Epoch = b.f_Id_Epoch ∧ a.f_Id_Seq = b.f_Id_Seq ∧ a.f_Try = b.f_Try) ⟨fun h => by cases a; cases b; simp_all, fun h => by rw [h]; simp⟩
theorem eqId (a0 a1 a2 b0 b1 b2 : Int) (w : World) : (Op.equalIn 9999 31 (.agg #[.int .i64 a0, .int .u64 a1, .int .u64 a2]) (.agg #[.int .i64 b0, .int .u64 b1, .int .u64 b2])).run Try.prog w = .ok (decide (a0 = b0 ∧ a1 = b1 ∧ a2 = b2)) w := by
  rw [run_equalIn_agg w 9998 31 _ _ (by simp [Program.fieldsOf, Try.underlying31]) (by kernel_rfl)]
  by_cases h0 : a0 = b0 <;> by_cases h1 : a1 = b1 <;> by_cases h2 : a2 = b2 <;>
    simp [Program.fieldsOf, Try.underlying31, Op.eqFields, part, run_isAgg Try.underlying3, run_isAgg Try.underlying29, aggD, run_equalIn_int w _ _ _ _ _ _ Try.underlying3, run_equalIn_int w _ _ _ _ _ _ Try.underlying29, h0, h1, h2]
theorem eqS33 (x y : Tag) (w : World) : (Op.equalIn 10000 33 (.agg (e_Tag.cells x).toArray) (.agg (e_Tag.cells y).toArray)).run Try.prog w = .ok (decide (x = y)) w := by
  rw [run_equalIn_agg w 9999 33 _ _ (by simp [Program.fieldsOf, Try.underlying33]) (by kernel_rfl)]
  obtain ⟨a0, a1, a2, a3⟩ := x
  obtain ⟨b0, b1, b2, b3⟩ := y
  by_cases h : (⟨a0, a1, a2, a3⟩ : Tag) = ⟨b0, b1, b2, b3⟩
  · rw [decide_eq_true h]
    obtain ⟨rfl, rfl, rfl, rfl⟩ := Tag.mk.inj h
    simp [Program.fieldsOf, Try.underlying33, Op.eqFields, part, run_isAgg Try.underlying31, run_isAgg Try.underlying3, run_sizeOf' ti31, aggD, eqId, run_equalIn_int w _ _ _ _ _ _ Try.underlying3]
  · rw [decide_eq_false h]
    simp only [Tag.mk.injEq] at h
    by_cases h1 : a0 = b0 ∧ a1 = b1 ∧ a2 = b2 <;>
      simp [Program.fieldsOf, Try.underlying33, Op.eqFields, part, run_isAgg Try.underlying31, run_isAgg Try.underlying3, run_sizeOf' ti31, aggD, eqId, run_equalIn_int w _ _ _ _ _ _ Try.underlying3, h1] <;> grind
theorem b_eqlS33 (x y : Tag) {p q : Operand} : BinV Try.prog .eql 33 p q (.agg (e_Tag.cells x).toArray) (.agg (e_Tag.cells y).toArray) (.bool (decide (x = y))) := binV_of (fun w => run_eqGuard_agg w _ _ _ _ _ _ (by kernel_rfl)) fun w => by rw [run_eql_struct, eqS33]; rfl
theorem b_neqS33 (x y : Tag) {p q : Operand} : BinV Try.prog .neq 33 p q (.agg (e_Tag.cells x).toArray) (.agg (e_Tag.cells y).toArray) (.bool (!decide (x = y))) := binV_of (fun w => run_eqGuard_agg w _ _ _ _ _ _ (by kernel_rfl)) fun w => by rw [run_neq_struct, eqS33]; rfl
abbrev kvTag : Tag → Value := fun x => .agg (e_Tag.cells x).toArray
theorem checkInt {T : TypeId} {k : IntKind} (h : Try.prog.underlying T = some (.int k)) (b : Bool) (n : Nat) (x : Int) (w : World) : (Instr.checkKey b (n + 1) T (.int k x)).run Try.prog w = .ok () w := by simp [Instr.checkKey, run_underlying h]
theorem checkId (b : Bool) (n : Nat) (a0 a1 a2 : Int) (w : World) : (Instr.checkKey b (n + 2) 31 (.agg #[.int .i64 a0, .int .u64 a1, .int .u64 a2])).run Try.prog w = .ok () w := by
  rw [Instr.checkKey]
  simp [run_underlying Try.underlying31, part, run_isAgg Try.underlying3, run_isAgg Try.underlying29, aggD, checkInt Try.underlying3, checkInt Try.underlying29]
theorem checkTag (b : Bool) (n : Nat) (x : Tag) (w : World) : (Instr.checkKey b (n + 3) 33 (.agg (e_Tag.cells x).toArray)).run Try.prog w = .ok () w := by
  obtain ⟨a0, a1, a2, a3⟩ := x
  rw [Instr.checkKey]
  simp [run_underlying Try.underlying33, part, run_isAgg Try.underlying31, run_isAgg Try.underlying3, run_sizeOf' ti31, aggD, checkId, checkInt Try.underlying3]
theorem sameBits_int (n : Nat) (k : IntKind) (x : Int) : Instr.sameBits n (.int k x) (.int k x) = true := by cases n <;> simp [Instr.sameBits]
theorem koTag : KeyOk Try.prog 33 kvTag := keyOk_struct Try.underlying33 (fun b x w => checkTag b 9997 x w) eqS33 (fun x v hv => by simp at hv; rcases hv with rfl | rfl | rfl | rfl <;> exact sameBits_int _ _ _)
abbrev vvInt : Int → Value := fun x => .int .i64 x
abbrev vvBool : Bool → Value := fun x => .bool x
instance : DecidableEq Mark := fun a b => decidable_of_iff (a.f_Key = b.f_Key ∧ a.f_Home = b.f_Home ∧ a.f_Count = b.f_Count) ⟨fun h => by cases a; cases b; simp_all, fun h => by rw [h]; simp⟩
theorem eqS49 (x y : Mark) (w : World) : (Op.equalIn 10000 49 (.agg (e_Mark.cells x).toArray) (.agg (e_Mark.cells y).toArray)).run Try.prog w = .ok (decide (x = y)) w := by
  rw [run_equalIn_agg w 9999 49 _ _ (by simp [Program.fieldsOf, Try.underlying49]) (by kernel_rfl)]
  obtain ⟨a0, a1, a2⟩ := x
  obtain ⟨b0, b1, b2⟩ := y
  by_cases h : (⟨a0, a1, a2⟩ : Mark) = ⟨b0, b1, b2⟩
  · rw [decide_eq_true h]
    obtain ⟨rfl, rfl, rfl⟩ := Mark.mk.inj h
    simp [Program.fieldsOf, Try.underlying49, Op.eqFields, part, run_isAgg Try.underlying3, run_isAgg Try.underlying9, run_isAgg Try.underlying29, aggD, run_equalIn_int w _ _ _ _ _ _ Try.underlying3, run_equalIn_string w _ _ _ _ Try.underlying9, run_equalIn_int w _ _ _ _ _ _ Try.underlying29, toList_eq_iff]
  · rw [decide_eq_false h]
    simp only [Mark.mk.injEq] at h
    simp [Program.fieldsOf, Try.underlying49, Op.eqFields, part, run_isAgg Try.underlying3, run_isAgg Try.underlying9, run_isAgg Try.underlying29, aggD, run_equalIn_int w _ _ _ _ _ _ Try.underlying3, run_equalIn_string w _ _ _ _ Try.underlying9, run_equalIn_int w _ _ _ _ _ _ Try.underlying29, toList_eq_iff]
    grind
theorem b_eqlS49 (x y : Mark) {p q : Operand} : BinV Try.prog .eql 49 p q (.agg (e_Mark.cells x).toArray) (.agg (e_Mark.cells y).toArray) (.bool (decide (x = y))) := binV_of (fun w => run_eqGuard_agg w _ _ _ _ _ _ (by kernel_rfl)) fun w => by rw [run_eql_struct, eqS49]; rfl
theorem b_neqS49 (x y : Mark) {p q : Operand} : BinV Try.prog .neq 49 p q (.agg (e_Mark.cells x).toArray) (.agg (e_Mark.cells y).toArray) (.bool (!decide (x = y))) := binV_of (fun w => run_eqGuard_agg w _ _ _ _ _ _ (by kernel_rfl)) fun w => by rw [run_neq_struct, eqS49]; rfl
abbrev Item.ord (x : Item) : Order := ⟨x.f_Order_Tag_Id_Node, x.f_Order_Tag_Id_Epoch, x.f_Order_Tag_Id_Seq, x.f_Order_Tag_Try, x.f_Order_Txn_Kind, x.f_Order_Txn_Reads, x.f_Order_Txn_Writes, x.f_Order_Txn_Ops, x.f_Order_Txn_To, x.f_Order_Marks⟩
end Go.Proofs.Yteehongibjkjlaa
