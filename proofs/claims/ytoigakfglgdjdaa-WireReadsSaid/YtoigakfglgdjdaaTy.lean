
/- Closed facts on types and functions. Printed by eng.py. -/
import Derived.Test.YtoigakfglgdjdaaHeld
import Derived.Test.YtoigakfglgdjdaaOpen
import Derived.Test.YtoigakfglgdjdaaRows
import Derived.Test.YtoigakfglgdjdaaMem2
import Derived.KernelRfl
set_option linter.unusedVariables false
namespace Go.Proofs.Ytoigakfglgdjdaa
open Go.RowKit
theorem ti3 : TI Try.prog 3 (.int .i64 0) 1 8 := by unfold TI; kernel_rfl
theorem ti4 : TI Try.prog 4 (.bool false) 1 1 := by unfold TI; kernel_rfl
theorem ti9 : TI Try.prog 9 (.string ByteArray.empty) 1 16 := by unfold TI; kernel_rfl
theorem ti23 : TI Try.prog 23 (.int .u64 0) 1 8 := by unfold TI; kernel_rfl
theorem ti5 : TI Try.prog 5 (.int .u8 0) 1 1 := by unfold TI; kernel_rfl
theorem ti55 : TI Try.prog 55 (.int .u32 0) 1 4 := by unfold TI; kernel_rfl
theorem ti28 : TI Try.prog 28 (.slice none 0 0) 1 24 := by unfold TI; kernel_rfl
theorem ti51 : TI Try.prog 51 (.agg #[.slice none 0 0]) 1 24 := by unfold TI; kernel_rfl
theorem ti26 : TI Try.prog 26 (.agg #[.int .i64 0, .int .i64 0, .int .i64 0, .int .i64 0, .int .i64 0, .int .u64 0, .string ByteArray.empty, .slice none 0 0]) 8 88 := by unfold TI; kernel_rfl
theorem ti48 : TI Try.prog 48 (.agg #[.int .i64 0, .int .u64 0, .string ByteArray.empty]) 3 32 := by unfold TI; kernel_rfl
theorem ti35 : TI Try.prog 35 (.agg #[.int .i64 0, .int .i64 0, .int .i64 0, .int .i64 0, .int .i64 0, .int .u64 0, .string ByteArray.empty, .slice none 0 0]) 8 88 := by unfold TI; kernel_rfl
theorem ti58 : TI Try.prog 58 (.agg #[.int .i64 0, .int .u64 0, .string ByteArray.empty]) 3 32 := by unfold TI; kernel_rfl
theorem ti24 : TI Try.prog 24 (.slice none 0 0) 1 24 := by unfold TI; kernel_rfl
theorem ti33 : TI Try.prog 33 (.slice none 0 0) 1 24 := by unfold TI; kernel_rfl
theorem ti83 : TI Try.prog 83 (.agg #[.int .i64 0, .int .i64 0, .int .i64 0, .int .i64 0, .int .i64 0, .int .i64 0, .int .i64 0, .int .i64 0, .int .i64 0, .int .i64 0, .int .i64 0, .int .i64 0, .int .i64 0, .int .i64 0, .int .i64 0, .int .i64 0, .int .i64 0, .int .i64 0]) 18 144 := by unfold TI; kernel_rfl
theorem ti82 : TI Try.prog 82 (.slice none 0 0) 1 24 := by unfold TI; kernel_rfl
theorem ti52 : TI Try.prog 52 (.agg #[.int .i64 0, .int .i64 0, .int .i64 0, .int .i64 0, .int .i64 0]) 5 40 := by unfold TI; kernel_rfl
theorem ti60 : TI Try.prog 60 (.agg #[.int .u64 0, .int .u64 0, .int .u64 0, .int .u64 0, .int .u64 0, .int .u64 0]) 6 48 := by unfold TI; kernel_rfl
theorem ti69 : TI Try.prog 69 (.agg #[.pointer none]) 1 8 := by unfold TI; kernel_rfl
theorem ti66 : TI Try.prog 66 (.pointer none) 1 8 := by unfold TI; kernel_rfl
theorem ti85 : TI Try.prog 85 (.agg #[.slice none 0 0]) 1 24 := by unfold TI; kernel_rfl
theorem ti76 : TI Try.prog 76 (.agg #[.slice none 0 0, .int .i64 0]) 2 32 := by unfold TI; kernel_rfl
theorem cal3 : Callable Try.prog 3 := ⟨_, Try.func3, rfl, by kernel_rfl⟩
theorem cal4 : Callable Try.prog 4 := ⟨_, Try.func4, rfl, by kernel_rfl⟩
theorem cal5 : Callable Try.prog 5 := ⟨_, Try.func5, rfl, by kernel_rfl⟩
theorem cal6 : Callable Try.prog 6 := ⟨_, Try.func6, rfl, by kernel_rfl⟩
theorem cal7 : Callable Try.prog 7 := ⟨_, Try.func7, rfl, by kernel_rfl⟩
theorem cal8 : Callable Try.prog 8 := ⟨_, Try.func8, rfl, by kernel_rfl⟩
theorem cal9 : Callable Try.prog 9 := ⟨_, Try.func9, rfl, by kernel_rfl⟩
theorem cal10 : Callable Try.prog 10 := ⟨_, Try.func10, rfl, by kernel_rfl⟩
theorem cal11 : Callable Try.prog 11 := ⟨_, Try.func11, rfl, by kernel_rfl⟩
theorem cal12 : Callable Try.prog 12 := ⟨_, Try.func12, rfl, by kernel_rfl⟩
theorem cal13 : Callable Try.prog 13 := ⟨_, Try.func13, rfl, by kernel_rfl⟩
theorem cal14 : Callable Try.prog 14 := ⟨_, Try.func14, rfl, by kernel_rfl⟩
theorem cal15 : Callable Try.prog 15 := ⟨_, Try.func15, rfl, by kernel_rfl⟩
theorem cal16 : Callable Try.prog 16 := ⟨_, Try.func16, rfl, by kernel_rfl⟩
theorem cal17 : Callable Try.prog 17 := ⟨_, Try.func17, rfl, by kernel_rfl⟩
theorem cal18 : Callable Try.prog 18 := ⟨_, Try.func18, rfl, by kernel_rfl⟩
theorem cal19 : Callable Try.prog 19 := ⟨_, Try.func19, rfl, by kernel_rfl⟩
theorem cal20 : Callable Try.prog 20 := ⟨_, Try.func20, rfl, by kernel_rfl⟩
theorem cal21 : Callable Try.prog 21 := ⟨_, Try.func21, rfl, by kernel_rfl⟩
theorem cal22 : Callable Try.prog 22 := ⟨_, Try.func22, rfl, by kernel_rfl⟩
theorem cal23 : Callable Try.prog 23 := ⟨_, Try.func23, rfl, by kernel_rfl⟩
theorem cal24 : Callable Try.prog 24 := ⟨_, Try.func24, rfl, by kernel_rfl⟩
theorem cal25 : Callable Try.prog 25 := ⟨_, Try.func25, rfl, by kernel_rfl⟩
theorem cal26 : Callable Try.prog 26 := ⟨_, Try.func26, rfl, by kernel_rfl⟩
theorem cal27 : Callable Try.prog 27 := ⟨_, Try.func27, rfl, by kernel_rfl⟩
theorem cal28 : Callable Try.prog 28 := ⟨_, Try.func28, rfl, by kernel_rfl⟩
theorem cal29 : Callable Try.prog 29 := ⟨_, Try.func29, rfl, by kernel_rfl⟩
theorem cal30 : Callable Try.prog 30 := ⟨_, Try.func30, rfl, by kernel_rfl⟩
theorem cal31 : Callable Try.prog 31 := ⟨_, Try.func31, rfl, by kernel_rfl⟩
theorem cal32 : Callable Try.prog 32 := ⟨_, Try.func32, rfl, by kernel_rfl⟩
theorem cal33 : Callable Try.prog 33 := ⟨_, Try.func33, rfl, by kernel_rfl⟩
theorem cal34 : Callable Try.prog 34 := ⟨_, Try.func34, rfl, by kernel_rfl⟩
theorem cal35 : Callable Try.prog 35 := ⟨_, Try.func35, rfl, by kernel_rfl⟩
theorem cal36 : Callable Try.prog 36 := ⟨_, Try.func36, rfl, by kernel_rfl⟩
theorem cal37 : Callable Try.prog 37 := ⟨_, Try.func37, rfl, by kernel_rfl⟩
theorem cal38 : Callable Try.prog 38 := ⟨_, Try.func38, rfl, by kernel_rfl⟩
theorem cal39 : Callable Try.prog 39 := ⟨_, Try.func39, rfl, by kernel_rfl⟩
theorem cal40 : Callable Try.prog 40 := ⟨_, Try.func40, rfl, by kernel_rfl⟩
theorem sp51 : StructP Try.prog 51 #[(0, 1)] := ⟨_, Try.underlying51, fun w => by kernel_rfl⟩
theorem sp85 : StructP Try.prog 85 #[(0, 1)] := ⟨_, Try.underlying85, fun w => by kernel_rfl⟩
theorem sp76 : StructP Try.prog 76 #[(0, 1), (1, 1)] := ⟨_, Try.underlying76, fun w => by kernel_rfl⟩
theorem sp26 : StructP Try.prog 26 #[(0, 1), (1, 1), (2, 1), (3, 1), (4, 1), (5, 1), (6, 1), (7, 1)] := ⟨_, Try.underlying26, fun w => by kernel_rfl⟩
theorem sp48 : StructP Try.prog 48 #[(0, 1), (1, 1), (2, 1)] := ⟨_, Try.underlying48, fun w => by kernel_rfl⟩
theorem sp35 : StructP Try.prog 35 #[(0, 1), (1, 1), (2, 1), (3, 1), (4, 1), (5, 1), (6, 1), (7, 1)] := ⟨_, Try.underlying35, fun w => by kernel_rfl⟩
theorem sp58 : StructP Try.prog 58 #[(0, 1), (1, 1), (2, 1)] := ⟨_, Try.underlying58, fun w => by kernel_rfl⟩
abbrev e8 : Enc UInt8 := ⟨5, 1, 1, (.int .u8 0), fun x => [.int .u8 (x.toNat : Int)]⟩
theorem e8_ok : EncOk Try.prog e8 := ⟨ti5, rfl, Nat.zero_lt_one, fun _ => rfl, fun x v hv => by simp at hv; subst hv; rfl⟩
abbrev eI : Enc Int := ⟨3, 1, 8, (.int .i64 0), fun x => [.int .i64 x]⟩
theorem eI_ok : EncOk Try.prog eI := ⟨ti3, rfl, Nat.zero_lt_one, fun _ => rfl, fun x v hv => by simp at hv; subst hv; rfl⟩
theorem opens_bs (W : World) : Opens Try.prog W 28 (fun s : Sl UInt8 => [s.val]) (SlGood W e8 (fun _ => True)) := opens_slice e8_ok Try.underlying28 (opens_u8 Try.underlying5)
abbrev e_I : Enc Int := ⟨3, 1, 8, (.int .i64 0), fun x => [.int .i64 x]⟩
theorem e_I_ok : EncOk Try.prog e_I := ⟨ti3, rfl, Nat.zero_lt_one, fun _ => rfl, fun x v hv => by simp at hv; subst hv; rfl⟩
abbrev e_S : Enc ByteArray := ⟨9, 1, 16, (.string ByteArray.empty), fun x => [.string x]⟩
theorem e_S_ok : EncOk Try.prog e_S := ⟨ti9, rfl, Nat.zero_lt_one, fun _ => rfl, fun x v hv => by simp at hv; subst hv; rfl⟩
abbrev e_U64 : Enc Int := ⟨23, 1, 8, (.int .u64 0), fun x => [.int .u64 x]⟩
theorem e_U64_ok : EncOk Try.prog e_U64 := ⟨ti23, rfl, Nat.zero_lt_one, fun _ => rfl, fun x v hv => by simp at hv; subst hv; rfl⟩
structure Vote where
  f_Slot : Int
  f_Ballot : Int
  f_Value : ByteArray
abbrev e_Vote : Enc Vote := ⟨48, 3, 32, (.agg #[.int .i64 0, .int .u64 0, .string ByteArray.empty]), fun x => [.int .i64 x.f_Slot, .int .u64 x.f_Ballot, .string x.f_Value]⟩
theorem e_Vote_ok : EncOk Try.prog e_Vote := ⟨ti48, rfl, Nat.lt_of_lt_of_le Nat.zero_lt_one (Nat.le_of_ble_eq_true rfl), fun _ => rfl, fun x v hv => by simp at hv; rcases hv with rfl | rfl | rfl <;> rfl⟩
abbrev e_s24 : Enc (Sl Vote) := ⟨24, 1, 24, (.slice none 0 0), fun x => [x.val]⟩
theorem e_s24_ok : EncOk Try.prog e_s24 := ⟨ti24, rfl, Nat.zero_lt_one, fun _ => rfl, fun x v hv => by simp at hv; subst hv; rfl⟩
structure Msg where
  f_Kind : Int
  f_From : Int
  f_To : Int
  f_Group : Int
  f_Slot : Int
  f_Ballot : Int
  f_Value : ByteArray
  f_Votes : (Sl Vote)
abbrev e_Msg : Enc Msg := ⟨26, 8, 88, (.agg #[.int .i64 0, .int .i64 0, .int .i64 0, .int .i64 0, .int .i64 0, .int .u64 0, .string ByteArray.empty, .slice none 0 0]), fun x => [.int .i64 x.f_Kind, .int .i64 x.f_From, .int .i64 x.f_To, .int .i64 x.f_Group, .int .i64 x.f_Slot, .int .u64 x.f_Ballot, .string x.f_Value, x.f_Votes.val]⟩
theorem e_Msg_ok : EncOk Try.prog e_Msg := ⟨ti26, rfl, Nat.lt_of_lt_of_le Nat.zero_lt_one (Nat.le_of_ble_eq_true rfl), fun _ => rfl, fun x v hv => by simp at hv; rcases hv with rfl | rfl | rfl | rfl | rfl | rfl | rfl | rfl <;> rfl⟩
structure RVote where
  f_Slot : Int
  f_Ballot : Int
  f_Value : ByteArray
abbrev e_RVote : Enc RVote := ⟨58, 3, 32, (.agg #[.int .i64 0, .int .u64 0, .string ByteArray.empty]), fun x => [.int .i64 x.f_Slot, .int .u64 x.f_Ballot, .string x.f_Value]⟩
theorem e_RVote_ok : EncOk Try.prog e_RVote := ⟨ti58, rfl, Nat.lt_of_lt_of_le Nat.zero_lt_one (Nat.le_of_ble_eq_true rfl), fun _ => rfl, fun x v hv => by simp at hv; rcases hv with rfl | rfl | rfl <;> rfl⟩
abbrev e_s33 : Enc (Sl RVote) := ⟨33, 1, 24, (.slice none 0 0), fun x => [x.val]⟩
theorem e_s33_ok : EncOk Try.prog e_s33 := ⟨ti33, rfl, Nat.zero_lt_one, fun _ => rfl, fun x v hv => by simp at hv; subst hv; rfl⟩
structure RMsg where
  f_Kind : Int
  f_From : Int
  f_To : Int
  f_Group : Int
  f_Slot : Int
  f_Ballot : Int
  f_Value : ByteArray
  f_Votes : (Sl RVote)
abbrev e_RMsg : Enc RMsg := ⟨35, 8, 88, (.agg #[.int .i64 0, .int .i64 0, .int .i64 0, .int .i64 0, .int .i64 0, .int .u64 0, .string ByteArray.empty, .slice none 0 0]), fun x => [.int .i64 x.f_Kind, .int .i64 x.f_From, .int .i64 x.f_To, .int .i64 x.f_Group, .int .i64 x.f_Slot, .int .u64 x.f_Ballot, .string x.f_Value, x.f_Votes.val]⟩
theorem e_RMsg_ok : EncOk Try.prog e_RMsg := ⟨ti35, rfl, Nat.lt_of_lt_of_le Nat.zero_lt_one (Nat.le_of_ble_eq_true rfl), fun _ => rfl, fun x v hv => by simp at hv; rcases hv with rfl | rfl | rfl | rfl | rfl | rfl | rfl | rfl <;> rfl⟩
end Go.Proofs.Ytoigakfglgdjdaa
