/- Printed by eng2.py out of 18/spec.py. -/
import Derived.Test.YtoigakfglgdjdaaWrite
set_option linter.unusedVariables false
set_option linter.unusedSimpArgs false
set_option maxRecDepth 10000
namespace Go.Proofs.Ytoigakfglgdjdaa
open Go.RowKit Classical
theorem msgZ : MsgOk (⟨7, 0, 0, 0, 0, 0, ByteArray.empty, ⟨none, [], 0⟩⟩ : Msg) := by
  refine ⟨by decide, by decide, by decide, by decide, by decide, by decide, by decide, .inl rfl, .inl rfl, votesTo_0⟩
theorem numZ : numB 0 = [0] := by rw [numB_lt (by omega)]; rfl
theorem num7 : numB 7 = [7] := by rw [numB_lt (by omega)]; rfl
theorem bodyZ : bodyB (⟨7, 0, 0, 0, 0, 0, ByteArray.empty, ⟨none, [], 0⟩⟩ : Msg) = [7, 0, 0, 0, 0, 0, 0, 0] := by
  simp only [bodyB, headB18, hdB, hd5, nB, textB, votesB, List.take, List.flatMap_cons, List.flatMap_nil, List.append_nil]
  rw [show (7 : Int).toNat = 7 from rfl, show (0 : Int).toNat = 0 from rfl, show (ByteArray.empty).data.toList = [] from rfl, show ([] : List UInt8).length = 0 from rfl, show ([] : List Vote).length = 0 from rfl, numZ, num7]
  rfl
theorem wrZ : wrB (⟨7, 0, 0, 0, 0, 0, ByteArray.empty, ⟨none, [], 0⟩⟩ : Msg) = [7, 0, 0, 0, 0, 0, 0, 0] ++ numB (sumB [7, 0, 0, 0, 0, 0, 0, 0]).toNat := by rw [wrB, if_pos msgZ, wireB, bodyZ]
theorem wfZ : Wf (⟨7, 0, 0, 0, 0, 0, ByteArray.empty, ⟨none, [], 0⟩⟩ : Msg) := ⟨by decide, fun v hv => by cases hv⟩
theorem speaks_ {W : World} {F : List Res} : CS Try.prog 8 #[] W (F) (fun r L' => r = .bool true ∧ F = L') := by
 refine f_door (l0 := []) Try.func8 Try.ntmps8 rfl rfl rfl ?_
 refine c_seq ?_
 refine c_region ?_
 refine o_assign rfl rfl ?_
 refine l_nil ?_
 refine q_then ?_
 refine c_seq ?_
 refine c_region ?_
 refine o_build rfl sp26 ti26 rfl ((fill_cons (cells' := [.int .i64 7, .int .i64 0, .int .i64 0, .int .i64 0, .int .i64 0, .int .u64 0, .string ByteArray.empty, .slice none 0 0]) rfl rfl rfl rfl fill_nil)) ?_
 refine o_call rfl cal10 rfl (write_ (m := (⟨7, 0, 0, 0, 0, 0, ByteArray.empty, ⟨none, [], 0⟩⟩ : Msg)) (rds_nil _ _) (by decide) wfZ) ?_
 rintro _ _ ⟨out5, a5, c5, hout5, rfl, rfl⟩
 have ho5 : out5 = [7, 0, 0, 0, 0, 0, 0, 0] ++ numB (sumB [7, 0, 0, 0, 0, 0, 0, 0]).toNat := by rw [hout5, wrZ]
 have hp5 := numB_pos (sumB [7, 0, 0, 0, 0, 0, 0, 0]).toNat
 have hl5 : 8 < out5.length := by rw [ho5]; simp; omega
 refine l_fact (row_cap 0 rfl) ?_
 intro hcap5
 refine o_move rfl rfl ?_
 refine o_extract rfl rfl rfl ?_
 refine o_extract rfl rfl rfl ?_
 refine o_assign rfl rfl ?_
 refine o_assign rfl rfl ?_
 refine l_nil ?_
 refine q_then ?_
 refine c_seq ?_
 refine c_region ?_
 refine o_move rfl rfl ?_
 refine o_bin rfl rfl rfl b_eql ?_
 refine l_eq (t := 9) (v' := .bool true) rfl (show _ = Value.bool true from by rw [show msgN (⟨7, 0, 0, 0, 0, 0, ByteArray.empty, ⟨none, [], 0⟩⟩ : Msg) = 0 from if_pos msgZ]; rfl) ?_
 refine o_move rfl rfl ?_
 refine o_yes rfl rfl rfl ?_
 refine o_move rfl rfl ?_
 refine o_yes rfl rfl rfl ?_
 refine o_len rfl rfl Try.underlying28 ?_
 refine o_yes rfl rfl rfl ?_
 refine o_bin rfl rfl rfl b_gtr ?_
 refine l_eq (t := 13) (v' := .bool true) rfl (show _ = Value.bool true from by rw [decide_eq_true (by omega)]) ?_
 refine o_pick_true rfl rfl rfl ?_
 refine o_move rfl rfl ?_
 refine o_yes rfl rfl rfl ?_
 refine o_move rfl rfl ?_
 refine o_yes rfl rfl rfl ?_
 refine o_cut (l' := 0) (h' := 8) (m := c5) rfl rfl Try.underlying28 ti5 (.inl ⟨rfl, rfl⟩) (.inr ⟨_, _, rfl, icast rfl (by omega), (by omega)⟩) (.inl ⟨rfl, rfl⟩) ?_
 obtain ⟨ys17, ay17, cut17, hys17, hlys17, eay17⟩ : ∃ ys_ ay_, (∀ {L : List Res}, RdS W L e8 a5 out5 → RdS W L e8 ay_ ys_) ∧ ys_ = sub out5 0 8 ∧ ys_.length = 8 - 0 ∧ cutA a5 c5 0 1 = ay_ := ⟨_, _, fun h => rds_cut e8_ok h _ _ _ (by omega), rfl, sub_len (by omega), rfl⟩
 refine l_eq (t := 17) (v' := .slice ay17 ys17.length (c5 - 0)) rfl (by rw [eay17, hlys17]) ?_
 refine o_yes rfl rfl rfl ?_
 refine o_bytesStr (e := e8) rfl rfl rfl Try.underlying28 Try.underlying5 Try.underlying9 (cut17 (rds_own e8_ok 0 rfl)) ?_
 refine o_yes rfl rfl rfl ?_
 refine o_bin rfl rfl rfl b_seql ?_
 refine l_eq (t := 19) (v' := .bool true) rfl (show _ = Value.bool true from by rw [hys17, ho5]; rfl) ?_
 refine o_pick_true rfl rfl rfl ?_
 refine o_assign rfl rfl ?_
 refine l_nil ?_
 refine q_then ?_
 refine c_ret ?_
 refine q_conv (fun w S => S.tail) ?_
 exact f_ret (r_one rfl rfl) (⟨rfl, rfl⟩) (fun w S => S)

theorem names_ {W : World} {F : List Res} : CS Try.prog 3 #[] W (F) (fun r L' => r = .bool true ∧ F = L') := by
 refine f_door (l0 := []) Try.func3 Try.ntmps3 rfl rfl rfl ?_
 refine c_seq ?_
 refine c_region ?_
 refine o_assign rfl rfl ?_
 refine l_nil ?_
 refine q_then ?_
 refine c_seq ?_
 refine c_seq ?_
 refine c_region ?_
 refine o_call rfl cal8 rfl (speaks_) ?_
 rintro _ _ ⟨rfl, rfl⟩
 refine o_not rfl rfl ?_
 refine l_nil ?_
 refine q_then ?_
 refine c_false rfl ?_
 refine c_skip ?_
 refine q_then ?_
 refine c_seq ?_
 refine c_region ?_
 refine o_assign rfl rfl ?_
 refine l_nil ?_
 refine q_then ?_
 refine c_ret ?_
 exact f_ret (r_one rfl rfl) (⟨rfl, rfl⟩) (fun w S => S)

end Go.Proofs.Ytoigakfglgdjdaa
