
/- Closed facts on types and functions. Printed by eng.py. -/
import Derived.Test.YtakjmdeckngnlaaHeld
import Derived.Test.YtakjmdeckngnlaaOpen
import Derived.Test.YtakjmdeckngnlaaRows
import Derived.Test.YtakjmdeckngnlaaRefL
import Derived.Test.YtakjmdeckngnlaaMem2
import Derived.KernelRfl
set_option linter.unusedVariables false
namespace Go.Proofs.Ytakjmdeckngnlaa
open Go.RowKit
theorem ti3 : TI Try.prog 3 (.int .i64 0) 1 8 := by unfold TI; kernel_rfl
theorem ti4 : TI Try.prog 4 (.bool false) 1 1 := by unfold TI; kernel_rfl
theorem ti9 : TI Try.prog 9 (.string ByteArray.empty) 1 16 := by unfold TI; kernel_rfl
theorem ti29 : TI Try.prog 29 (.int .u64 0) 1 8 := by unfold TI; kernel_rfl
theorem ti40 : TI Try.prog 40 (.agg #[.int .i64 0, .int .u64 0, .string ByteArray.empty]) 3 32 := by unfold TI; kernel_rfl
theorem ti72 : TI Try.prog 72 (.agg #[.int .i64 0, .int .u64 0, .int .i64 0]) 3 24 := by unfold TI; kernel_rfl
theorem ti86 : TI Try.prog 86 (.agg #[.int .i64 0, .int .u64 0, .string ByteArray.empty]) 3 32 := by unfold TI; kernel_rfl
theorem ti34 : TI Try.prog 34 (.agg #[.int .i64 0, .int .i64 0, .int .i64 0, .slice none 0 0, .string ByteArray.empty]) 5 64 := by unfold TI; kernel_rfl
theorem ti85 : TI Try.prog 85 (.agg #[.int .u64 0, .int .i64 0, .int .i64 0, .map none, .map none, .slice none 0 0, .map none]) 7 72 := by unfold TI; kernel_rfl
theorem ti93 : TI Try.prog 93 (.agg #[.int .u64 0, .int .i64 0, .int .i64 0, .map none, .map none, .slice none 0 0, .map none]) 7 72 := by unfold TI; kernel_rfl
theorem ti48 : TI Try.prog 48 (.agg #[.int .i64 0, .int .i64 0, .bool false, .bool false, .bool false, .bool false, .bool false, .bool false, .bool false, .bool false, .bool false, .slice none 0 0, .string ByteArray.empty, .bool false, .bool false, .bool false, .bool false, .bool false, .bool false, .bool false, .bool false, .bool false, .bool false]) 23 88 := by unfold TI; kernel_rfl
theorem ti62 : TI Try.prog 62 (.map none) 1 8 := by unfold TI; kernel_rfl
theorem ti82 : TI Try.prog 82 (.map none) 1 8 := by unfold TI; kernel_rfl
theorem ti90 : TI Try.prog 90 (.map none) 1 8 := by unfold TI; kernel_rfl
theorem ti66 : TI Try.prog 66 (.agg #[.int .i64 0, .int .i64 0, .int .i64 0]) 3 24 := by unfold TI; kernel_rfl
theorem ti46 : TI Try.prog 46 (.agg #[.bool false, .bool false, .bool false, .bool false, .bool false, .bool false, .bool false, .bool false, .bool false]) 9 9 := by unfold TI; kernel_rfl
theorem ti83 : TI Try.prog 83 (.slice none 0 0) 1 24 := by unfold TI; kernel_rfl
theorem ti91 : TI Try.prog 91 (.slice none 0 0) 1 24 := by unfold TI; kernel_rfl
theorem ti35 : TI Try.prog 35 (.slice none 0 0) 1 24 := by unfold TI; kernel_rfl
theorem ti32 : TI Try.prog 32 (.slice none 0 0) 1 24 := by unfold TI; kernel_rfl
theorem ti30 : TI Try.prog 30 (.pointer none) 1 8 := by unfold TI; kernel_rfl
theorem cal3 : Callable Try.prog 3 := ⟨_, Try.func3, rfl, by kernel_rfl⟩
theorem cal4 : Callable Try.prog 4 := ⟨_, Try.func4, rfl, by kernel_rfl⟩
theorem cal5 : Callable Try.prog 5 := ⟨_, Try.func5, rfl, by kernel_rfl⟩
theorem cal6 : Callable Try.prog 6 := ⟨_, Try.func6, rfl, by kernel_rfl⟩
theorem cal7 : Callable Try.prog 7 := ⟨_, Try.func7, rfl, by kernel_rfl⟩
theorem cal8 : Callable Try.prog 8 := ⟨_, Try.func8, rfl, by kernel_rfl⟩
theorem cal9 : Callable Try.prog 9 := ⟨_, Try.func9, rfl, by kernel_rfl⟩
theorem cal10 : Callable Try.prog 10 := ⟨_, Try.func10, rfl, by kernel_rfl⟩
theorem cal11 : Callable Try.prog 11 := ⟨_, Try.func11, rfl, by kernel_rfl⟩
theorem cal12 : Callable Try.prog 12 := ⟨_, Try.func12, rfl, by kernel_rfl⟩
theorem cal13 : Callable Try.prog 13 := ⟨_, Try.func13, rfl, by kernel_rfl⟩
theorem cal14 : Callable Try.prog 14 := ⟨_, Try.func14, rfl, by kernel_rfl⟩
theorem cal15 : Callable Try.prog 15 := ⟨_, Try.func15, rfl, by kernel_rfl⟩
theorem cal16 : Callable Try.prog 16 := ⟨_, Try.func16, rfl, by kernel_rfl⟩
theorem cal17 : Callable Try.prog 17 := ⟨_, Try.func17, rfl, by kernel_rfl⟩
theorem cal18 : Callable Try.prog 18 := ⟨_, Try.func18, rfl, by kernel_rfl⟩
theorem cal19 : Callable Try.prog 19 := ⟨_, Try.func19, rfl, by kernel_rfl⟩
theorem cal20 : Callable Try.prog 20 := ⟨_, Try.func20, rfl, by kernel_rfl⟩
theorem cal21 : Callable Try.prog 21 := ⟨_, Try.func21, rfl, by kernel_rfl⟩
theorem cal22 : Callable Try.prog 22 := ⟨_, Try.func22, rfl, by kernel_rfl⟩
theorem cal23 : Callable Try.prog 23 := ⟨_, Try.func23, rfl, by kernel_rfl⟩
theorem cal24 : Callable Try.prog 24 := ⟨_, Try.func24, rfl, by kernel_rfl⟩
theorem cal25 : Callable Try.prog 25 := ⟨_, Try.func25, rfl, by kernel_rfl⟩
theorem cal26 : Callable Try.prog 26 := ⟨_, Try.func26, rfl, by kernel_rfl⟩
theorem cal27 : Callable Try.prog 27 := ⟨_, Try.func27, rfl, by kernel_rfl⟩
theorem cal28 : Callable Try.prog 28 := ⟨_, Try.func28, rfl, by kernel_rfl⟩
theorem cal29 : Callable Try.prog 29 := ⟨_, Try.func29, rfl, by kernel_rfl⟩
theorem cal30 : Callable Try.prog 30 := ⟨_, Try.func30, rfl, by kernel_rfl⟩
theorem cal31 : Callable Try.prog 31 := ⟨_, Try.func31, rfl, by kernel_rfl⟩
theorem cal32 : Callable Try.prog 32 := ⟨_, Try.func32, rfl, by kernel_rfl⟩
theorem cal33 : Callable Try.prog 33 := ⟨_, Try.func33, rfl, by kernel_rfl⟩
theorem cal34 : Callable Try.prog 34 := ⟨_, Try.func34, rfl, by kernel_rfl⟩
theorem cal35 : Callable Try.prog 35 := ⟨_, Try.func35, rfl, by kernel_rfl⟩
theorem cal36 : Callable Try.prog 36 := ⟨_, Try.func36, rfl, by kernel_rfl⟩
theorem cal37 : Callable Try.prog 37 := ⟨_, Try.func37, rfl, by kernel_rfl⟩
theorem cal38 : Callable Try.prog 38 := ⟨_, Try.func38, rfl, by kernel_rfl⟩
theorem cal39 : Callable Try.prog 39 := ⟨_, Try.func39, rfl, by kernel_rfl⟩
theorem cal40 : Callable Try.prog 40 := ⟨_, Try.func40, rfl, by kernel_rfl⟩
theorem cal41 : Callable Try.prog 41 := ⟨_, Try.func41, rfl, by kernel_rfl⟩
theorem cal42 : Callable Try.prog 42 := ⟨_, Try.func42, rfl, by kernel_rfl⟩
theorem cal43 : Callable Try.prog 43 := ⟨_, Try.func43, rfl, by kernel_rfl⟩
theorem cal44 : Callable Try.prog 44 := ⟨_, Try.func44, rfl, by kernel_rfl⟩
theorem cal45 : Callable Try.prog 45 := ⟨_, Try.func45, rfl, by kernel_rfl⟩
theorem cal46 : Callable Try.prog 46 := ⟨_, Try.func46, rfl, by kernel_rfl⟩
theorem cal47 : Callable Try.prog 47 := ⟨_, Try.func47, rfl, by kernel_rfl⟩
theorem cal48 : Callable Try.prog 48 := ⟨_, Try.func48, rfl, by kernel_rfl⟩
theorem cal49 : Callable Try.prog 49 := ⟨_, Try.func49, rfl, by kernel_rfl⟩
theorem cal50 : Callable Try.prog 50 := ⟨_, Try.func50, rfl, by kernel_rfl⟩
theorem cal51 : Callable Try.prog 51 := ⟨_, Try.func51, rfl, by kernel_rfl⟩
theorem cal52 : Callable Try.prog 52 := ⟨_, Try.func52, rfl, by kernel_rfl⟩
theorem cal53 : Callable Try.prog 53 := ⟨_, Try.func53, rfl, by kernel_rfl⟩
theorem cal54 : Callable Try.prog 54 := ⟨_, Try.func54, rfl, by kernel_rfl⟩
theorem cal55 : Callable Try.prog 55 := ⟨_, Try.func55, rfl, by kernel_rfl⟩
theorem cal56 : Callable Try.prog 56 := ⟨_, Try.func56, rfl, by kernel_rfl⟩
theorem cal57 : Callable Try.prog 57 := ⟨_, Try.func57, rfl, by kernel_rfl⟩
theorem cal58 : Callable Try.prog 58 := ⟨_, Try.func58, rfl, by kernel_rfl⟩
theorem cal59 : Callable Try.prog 59 := ⟨_, Try.func59, rfl, by kernel_rfl⟩
theorem cal60 : Callable Try.prog 60 := ⟨_, Try.func60, rfl, by kernel_rfl⟩
theorem cal61 : Callable Try.prog 61 := ⟨_, Try.func61, rfl, by kernel_rfl⟩
theorem cal62 : Callable Try.prog 62 := ⟨_, Try.func62, rfl, by kernel_rfl⟩
theorem cal63 : Callable Try.prog 63 := ⟨_, Try.func63, rfl, by kernel_rfl⟩
theorem cal64 : Callable Try.prog 64 := ⟨_, Try.func64, rfl, by kernel_rfl⟩
theorem cal65 : Callable Try.prog 65 := ⟨_, Try.func65, rfl, by kernel_rfl⟩
theorem cal66 : Callable Try.prog 66 := ⟨_, Try.func66, rfl, by kernel_rfl⟩
theorem cal68 : Callable Try.prog 68 := ⟨_, Try.func68, rfl, by kernel_rfl⟩
theorem cal70 : Callable Try.prog 70 := ⟨_, Try.func70, rfl, by kernel_rfl⟩
theorem cal71 : Callable Try.prog 71 := ⟨_, Try.func71, rfl, by kernel_rfl⟩
theorem cal72 : Callable Try.prog 72 := ⟨_, Try.func72, rfl, by kernel_rfl⟩
theorem cal74 : Callable Try.prog 74 := ⟨_, Try.func74, rfl, by kernel_rfl⟩
theorem cal76 : Callable Try.prog 76 := ⟨_, Try.func76, rfl, by kernel_rfl⟩
theorem cal77 : Callable Try.prog 77 := ⟨_, Try.func77, rfl, by kernel_rfl⟩
theorem cal78 : Callable Try.prog 78 := ⟨_, Try.func78, rfl, by kernel_rfl⟩
theorem cal79 : Callable Try.prog 79 := ⟨_, Try.func79, rfl, by kernel_rfl⟩
theorem cal80 : Callable Try.prog 80 := ⟨_, Try.func80, rfl, by kernel_rfl⟩
theorem cal81 : Callable Try.prog 81 := ⟨_, Try.func81, rfl, by kernel_rfl⟩
theorem cal82 : Callable Try.prog 82 := ⟨_, Try.func82, rfl, by kernel_rfl⟩
theorem cal83 : Callable Try.prog 83 := ⟨_, Try.func83, rfl, by kernel_rfl⟩
theorem cal84 : Callable Try.prog 84 := ⟨_, Try.func84, rfl, by kernel_rfl⟩
theorem cal85 : Callable Try.prog 85 := ⟨_, Try.func85, rfl, by kernel_rfl⟩
abbrev eVS : Enc (Vt ByteArray) := ⟨40, 3, 32, (.agg #[.int .i64 0, .int .u64 0, .string ByteArray.empty]), fun x => [.int .i64 x.Slot, .int .u64 x.Ballot, .string x.Value]⟩
theorem eVS_ok : EncOk Try.prog eVS := ⟨ti40, rfl, by decide, fun _ => rfl, fun x v hv => by simp at hv; rcases hv with rfl | rfl | rfl <;> rfl⟩
abbrev eVI : Enc (Vt Int) := ⟨72, 3, 24, (.agg #[.int .i64 0, .int .u64 0, .int .i64 0]), fun x => [.int .i64 x.Slot, .int .u64 x.Ballot, .int .i64 x.Value]⟩
theorem eVI_ok : EncOk Try.prog eVI := ⟨ti72, rfl, by decide, fun _ => rfl, fun x v hv => by simp at hv; rcases hv with rfl | rfl | rfl <;> rfl⟩
abbrev eVR : Enc (Vt ByteArray) := ⟨86, 3, 32, (.agg #[.int .i64 0, .int .u64 0, .string ByteArray.empty]), fun x => [.int .i64 x.Slot, .int .u64 x.Ballot, .string x.Value]⟩
theorem eVR_ok : EncOk Try.prog eVR := ⟨ti86, rfl, by decide, fun _ => rfl, fun x v hv => by simp at hv; rcases hv with rfl | rfl | rfl <;> rfl⟩
abbrev kvI : Int → Value := fun x => .int .i64 x
abbrev vvI : Int → Value := fun x => .int .i64 x
abbrev vvVS : Vt ByteArray → Value := fun x => .agg #[.int .i64 x.Slot, .int .u64 x.Ballot, .string x.Value]
abbrev vvVI : Vt Int → Value := fun x => .agg #[.int .i64 x.Slot, .int .u64 x.Ballot, .int .i64 x.Value]
abbrev z0S : Vt ByteArray := ⟨0, 0, ByteArray.empty⟩
abbrev z0I : Vt Int := ⟨0, 0, 0⟩
theorem koI : KeyOk Try.prog 3 kvI := keyOk_int Try.underlying3
abbrev e_I : Enc Int := ⟨3, 1, 8, (.int .i64 0), fun x => [.int .i64 x]⟩
theorem e_I_ok : EncOk Try.prog e_I := ⟨ti3, rfl, Nat.zero_lt_one, fun _ => rfl, fun x v hv => by simp at hv; subst hv; rfl⟩
abbrev e_S : Enc ByteArray := ⟨9, 1, 16, (.string ByteArray.empty), fun x => [.string x]⟩
theorem e_S_ok : EncOk Try.prog e_S := ⟨ti9, rfl, Nat.zero_lt_one, fun _ => rfl, fun x v hv => by simp at hv; subst hv; rfl⟩
abbrev e_s32 : Enc (Sl (Vt ByteArray)) := ⟨32, 1, 24, (.slice none 0 0), fun x => [x.val]⟩
theorem e_s32_ok : EncOk Try.prog e_s32 := ⟨ti32, rfl, Nat.zero_lt_one, fun _ => rfl, fun x v hv => by simp at hv; subst hv; rfl⟩
structure Op where
  f_Kind : Int
  f_Voter : Int
  f_Slot : Int
  f_Votes : (Sl (Vt ByteArray))
  f_Value : ByteArray
abbrev e_Op : Enc Op := ⟨34, 5, 64, (.agg #[.int .i64 0, .int .i64 0, .int .i64 0, .slice none 0 0, .string ByteArray.empty]), fun x => [.int .i64 x.f_Kind, .int .i64 x.f_Voter, .int .i64 x.f_Slot, x.f_Votes.val, .string x.f_Value]⟩
theorem e_Op_ok : EncOk Try.prog e_Op := ⟨ti34, rfl, Nat.lt_of_lt_of_le Nat.zero_lt_one (Nat.le_of_ble_eq_true rfl), fun _ => rfl, fun x v hv => by simp at hv; rcases hv with rfl | rfl | rfl | rfl | rfl <;> rfl⟩
structure Step where
  f_Kind : Int
  f_Leader : Int
  f_Voter : Int
abbrev e_Step : Enc Step := ⟨66, 3, 24, (.agg #[.int .i64 0, .int .i64 0, .int .i64 0]), fun x => [.int .i64 x.f_Kind, .int .i64 x.f_Leader, .int .i64 x.f_Voter]⟩
theorem e_Step_ok : EncOk Try.prog e_Step := ⟨ti66, rfl, Nat.lt_of_lt_of_le Nat.zero_lt_one (Nat.le_of_ble_eq_true rfl), fun _ => rfl, fun x v hv => by simp at hv; rcases hv with rfl | rfl | rfl <;> rfl⟩
theorem sp40 : StructP Try.prog 40 #[(0, 1), (1, 1), (2, 1)] := ⟨_, Try.underlying40, fun w => by kernel_rfl⟩
theorem sp72 : StructP Try.prog 72 #[(0, 1), (1, 1), (2, 1)] := ⟨_, Try.underlying72, fun w => by kernel_rfl⟩
theorem sp86 : StructP Try.prog 86 #[(0, 1), (1, 1), (2, 1)] := ⟨_, Try.underlying86, fun w => by kernel_rfl⟩
theorem sp85 : StructP Try.prog 85 #[(0, 1), (1, 1), (2, 1), (3, 1), (4, 1), (5, 1), (6, 1)] := ⟨_, Try.underlying85, fun w => by kernel_rfl⟩
theorem sp93 : StructP Try.prog 93 #[(0, 1), (1, 1), (2, 1), (3, 1), (4, 1), (5, 1), (6, 1)] := ⟨_, Try.underlying93, fun w => by kernel_rfl⟩
theorem sp48 : StructP Try.prog 48 #[(0, 1), (1, 1), (2, 9), (11, 1), (12, 1), (13, 1), (14, 9)] := ⟨_, Try.underlying48, fun w => by kernel_rfl⟩
def LdR (k : Nat) (s : LdS ByteArray) : Res := obj (fun _ : Nat × Nat × Nat × Option Addr × Nat => LdOk s) fun x => [blk k (.cells #[.int .u64 s.ballot, .int .i64 s.voters, .int .i64 s.slot, .map (some x.1), .map (some x.2.1), .slice x.2.2.2.1 (s.off).length x.2.2.2.2, .map (some x.2.2.1)] 85 (0, 0)), mapR kvI vvI x.1 s.prom, mapR kvI vvVS x.2.1 s.told, mapR kvI vvI x.2.2.1 s.tak, row e_S.T e_S.sz x.2.2.2.1 (s.off).length x.2.2.2.2 (flat e_S s.off)]
def LdRI (k : Nat) (s : LdS Int) : Res := obj (fun _ : Nat × Nat × Nat × Option Addr × Nat => LdOk s) fun x => [blk k (.cells #[.int .u64 s.ballot, .int .i64 s.voters, .int .i64 s.slot, .map (some x.1), .map (some x.2.1), .slice x.2.2.2.1 (s.off).length x.2.2.2.2, .map (some x.2.2.1)] 93 (0, 0)), mapR kvI vvI x.1 s.prom, mapR kvI vvVI x.2.1 s.told, mapR kvI vvI x.2.2.1 s.tak, row e_I.T e_I.sz x.2.2.2.1 (s.off).length x.2.2.2.2 (flat e_I s.off)]
abbrev e_B : Enc Bool := ⟨4, 1, 1, (.bool false), fun x => [.bool x]⟩
theorem e_B_ok : EncOk Try.prog e_B := ⟨ti4, rfl, Nat.zero_lt_one, fun _ => rfl, fun x v hv => by simp at hv; subst hv; rfl⟩
def RlR (k : Nat) (s : RlS) : Res := obj (fun _ : Option Addr × Nat => RlOk s) fun x => [blk k (.cells (([.int .i64 s.V, .int .i64 s.S] : List Value) ++ ((flat e_B s.pr) ++ (([.slice x.1 (s.told).length x.2, .string s.off, .bool s.has] : List Value) ++ (flat e_B s.tk)))).toArray 48 (0, 0)), row eVR.T eVR.sz x.1 (s.told).length x.2 (flat eVR s.told)]
end Go.Proofs.Ytakjmdeckngnlaa
