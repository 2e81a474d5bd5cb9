/- Printed by eng2.py out of 18/spec.py. -/
import Derived.Test.YtoigakfglgdjdaaCuts
import Derived.Test.YtoigakfglgdjdaaRWrite
set_option linter.unusedVariables false
set_option linter.unusedSimpArgs false
set_option maxRecDepth 10000
namespace Go.Proofs.Ytoigakfglgdjdaa
open Go.RowKit Classical
theorem sameG_of {m : Msg} {a : Option Addr} {c : Nat} : SameG (toM (ofM m a c)) m := ⟨rfl, rfl, rfl, rfl, rfl, rfl, rfl, by
  show (m.f_Votes.xs.map toR).map ofR = _
  rw [List.map_map]
  exact List.map_id'' (fun v => rfl) _⟩
theorem msgN_same {a b : Msg} (h : SameG a b) : msgN a = msgN b := by
  by_cases h1 : MsgOk a
  · rw [msgN, msgN, if_pos h1, if_pos (h1.same h)]
  · rw [msgN, msgN, if_neg h1, if_neg (fun h2 => h1 (MsgOk.same h.symm h2))]
theorem wrB_same {a b : Msg} (h : SameG a b) : wrB a = wrB b := by
  by_cases h1 : MsgOk a
  · rw [wrB, wrB, if_pos h1, if_pos (h1.same h), wireB_same h]
  · rw [wrB, wrB, if_neg h1, if_neg (fun h2 => h1 (MsgOk.same h.symm h2))]
theorem wrB_small {m : Msg} (w : Wf m) : (wrB m).length ≤ 70000000000000 := by
  by_cases h : MsgOk m
  · have h1 := bodyB_len h w
    have h2 := numB_len_le 10 (sumB (bodyB m)).toNat (by have := (sumB (bodyB m)).isLt; omega) (by omega)
    rw [wrB, if_pos h, wireB, List.length_append]; omega
  · rw [wrB, if_neg h]; simp
set_option maxHeartbeats 1000000 in
theorem writes_ {W : World} {F : List Res} {m : Msg} (T_m : RdS W F e_Vote m.f_Votes.a m.f_Votes.xs) (hn_m : m.f_Votes.xs.length ≤ 9223372036854775807) (wf_m : Wf m) : CS Try.prog 5 #[.agg #[.int .i64 m.f_Kind, .int .i64 m.f_From, .int .i64 m.f_To, .int .i64 m.f_Group, .int .i64 m.f_Slot, .int .u64 m.f_Ballot, .string m.f_Value, .slice m.f_Votes.a (m.f_Votes.xs).length m.f_Votes.c]] W (F) (fun r L' => r = .bool true ∧ F = L') := by
 refine f_door (l0 := [(0, .agg #[.int .i64 m.f_Kind, .int .i64 m.f_From, .int .i64 m.f_To, .int .i64 m.f_Group, .int .i64 m.f_Slot, .int .u64 m.f_Ballot, .string m.f_Value, .slice m.f_Votes.a (m.f_Votes.xs).length m.f_Votes.c])]) Try.func5 Try.ntmps5 rfl rfl rfl ?_
 refine c_seq ?_
 refine c_region ?_
 refine o_box rfl rfl fun b1 => ?_
 refine o_assign rfl rfl ?_
 refine l_nil ?_
 refine q_then ?_
 refine c_seq ?_
 refine c_seq ?_
 refine c_region ?_
 refine o_call rfl cal8 rfl (speaks_) ?_
 rintro _ _ ⟨rfl, rfl⟩
 refine o_not rfl rfl ?_
 refine l_nil ?_
 refine q_then ?_
 refine c_false rfl ?_
 refine c_skip ?_
 refine q_then ?_
 refine c_seq ?_
 refine c_seq ?_
 refine c_region ?_
 refine o_loadn (vs := [_, _, _, _, _, _, _, _]) rfl rfl Try.underlying26 rfl ti26 (rdn_lit 0 rfl rfl) ?_
 refine o_call rfl cal9 rfl (great_ (m := m) (rds_c T_m) (by first | assumption | (try dsimp only); omega)) ?_
 rintro _ _ ⟨g12, hg12, rfl, rfl⟩
 refine l_nil ?_
 refine q_then ?_
 refine c_cond rfl (fun h1 => ?_) (fun h1 => ?_)
 · -- h1T
  have h1b := h1
  try simp only [decide_eq_true_eq, decide_eq_false_iff_not, Bool.not_eq_eq_eq_not, Bool.not_true, Bool.not_false, Bool.not_eq_true', Bool.not_eq_false', Int.not_lt, Int.not_le, Bool.or_eq_true, Bool.and_eq_true] at h1
  refine c_seq ?_
  refine c_region ?_
  refine o_assign rfl rfl ?_
  refine l_nil ?_
  refine q_then ?_
  refine c_ret ?_
  refine q_pass_ret ?_
  refine q_conv (fun w S => S.tail) ?_
  exact f_ret (r_one rfl rfl) (⟨rfl, rfl⟩) (fun w S => S)
 · -- h1F
  have h1b := h1
  try simp only [decide_eq_true_eq, decide_eq_false_iff_not, Bool.not_eq_eq_eq_not, Bool.not_true, Bool.not_false, Bool.not_eq_true', Bool.not_eq_false', Int.not_lt, Int.not_le, Bool.or_eq_true, Bool.and_eq_true] at h1
  refine c_skip ?_
  refine q_then ?_
  refine c_seq ?_
  refine c_region ?_
  refine o_loadn (vs := [_, _, _, _, _, _, _, _]) rfl rfl Try.underlying26 rfl ti26 (rdn_lit 0 rfl rfl) ?_
  refine o_call rfl cal10 rfl (write_ (m := m) (rds_c T_m) (by first | assumption | (try dsimp only); omega) wf_m) ?_
  rintro _ _ ⟨out15, a15, c15, hout15, rfl, rfl⟩
  refine o_move rfl rfl ?_
  refine o_extract rfl rfl rfl ?_
  refine o_extract rfl rfl rfl ?_
  refine o_assign rfl rfl ?_
  refine o_assign rfl rfl ?_
  refine l_nil ?_
  refine q_then ?_
  refine c_seq ?_
  refine c_region ?_
  refine o_loadn (vs := [_, _, _, _, _, _, _, _]) rfl rfl Try.underlying26 rfl ti26 (rdn_lit 1 rfl rfl) ?_
  refine o_call rfl cal12 rfl (of_ (m := m) (rds_c (rds_c T_m)) (by first | assumption | (try dsimp only); omega) (by have := hg12 (by assumption); omega)) ?_
  rintro _ _ ⟨a20, c20, rfl, rfl⟩
  refine o_call rfl cal13 rfl (rwrite_ (p := (⟨m.f_Kind, m.f_From, m.f_To, m.f_Group, m.f_Slot, m.f_Ballot, m.f_Value, ⟨a20, (m.f_Votes.xs.map toR), c20⟩⟩ : RMsg)) (rds_own e_RVote_ok 0 rfl) (by show (m.f_Votes.xs.map toR).length ≤ _; rw [List.length_map]; exact hn_m) (wf_m.same sameG_of.symm)) ?_
  rintro _ _ ⟨out21, a21, c21, hout21, rfl, rfl⟩
  refine o_move rfl rfl ?_
  refine o_extract rfl rfl rfl ?_
  refine o_extract rfl rfl rfl ?_
  refine o_assign rfl rfl ?_
  refine o_assign rfl rfl ?_
  refine l_nil ?_
  refine q_then ?_
  refine c_seq ?_
  refine c_seq ?_
  refine c_region ?_
  refine o_move rfl rfl ?_
  refine o_move rfl rfl ?_
  refine o_bin rfl rfl rfl b_neq ?_
  refine l_eq (t := 26) (v' := .bool false) rfl (show _ = Value.bool false from by rw [msgN_same (sameG_of (m := m))]; simp) ?_
  refine o_move rfl rfl ?_
  refine o_yes rfl rfl rfl ?_
  refine o_move rfl rfl ?_
  refine o_yes rfl rfl rfl ?_
  refine o_bytesStr (e := e8) rfl rfl rfl Try.underlying28 Try.underlying5 Try.underlying9 (rds_own e8_ok 2 rfl) ?_
  refine o_yes rfl rfl rfl ?_
  refine o_move rfl rfl ?_
  refine o_yes rfl rfl rfl ?_
  refine o_bytesStr (e := e8) rfl rfl rfl Try.underlying28 Try.underlying5 Try.underlying9 (rds_own e8_ok 0 rfl) ?_
  refine o_yes rfl rfl rfl ?_
  refine o_bin rfl rfl rfl b_sneq ?_
  refine l_eq (t := 32) (v' := .bool false) rfl (show _ = Value.bool false from by rw [hout15, hout21, wrB_same (sameG_of (m := m))]; simp) ?_
  refine o_pick_false rfl rfl rfl ?_
  refine o_move rfl rfl ?_
  refine o_yes rfl rfl rfl ?_
  refine o_loadn (vs := [_, _, _, _, _, _, _, _]) rfl rfl Try.underlying26 rfl ti26 (rdn_lit 3 rfl rfl) ?_
  refine o_yes rfl rfl rfl ?_
  refine o_call rfl cal14 rfl (check_ (m := m) (rds_c (rds_c (rds_c (rds_c T_m)))) (by first | assumption | (try dsimp only); omega)) ?_
  rintro _ _ ⟨rfl, rfl⟩
  refine o_yes rfl rfl rfl ?_
  refine o_move rfl rfl ?_
  refine o_yes rfl rfl rfl ?_
  refine o_bin rfl rfl rfl b_neq ?_
  refine l_eq (t := 38) (v' := .bool false) rfl (show _ = Value.bool false from by simp) ?_
  refine o_pick_false rfl rfl rfl ?_
  refine l_nil ?_
  refine q_then ?_
  refine c_false rfl ?_
  refine c_skip ?_
  refine q_then ?_
  refine c_seq ?_
  refine c_seq ?_
  refine c_region ?_
  refine o_move rfl rfl ?_
  refine o_bin rfl rfl rfl b_neq ?_
  refine l_nil ?_
  refine q_then ?_
  refine c_cond rfl (fun h2 => ?_) (fun h2 => ?_)
  · -- h2T
   have h2b := h2
   try simp only [Bool.not_eq_true', decide_eq_false_iff_not, Int.not_lt, Int.not_le] at h2
   refine c_seq ?_
   refine c_region ?_
   refine o_assign rfl rfl ?_
   refine l_nil ?_
   refine q_then ?_
   refine c_ret ?_
   refine q_pass_ret ?_
   refine q_conv (fun w S => S.tail) ?_
   refine q_conv (fun w S => S.tail) ?_
   refine q_conv (fun w S => S.tail) ?_
   refine q_conv (fun w S => S.tail) ?_
   exact f_ret (r_one rfl rfl) (⟨rfl, rfl⟩) (fun w S => S)
  · -- h2F
   have h2b := h2
   try simp only [Bool.not_eq_false', decide_eq_true_eq] at h2
   refine c_skip ?_
   refine q_then ?_
   refine c_seq ?_
   have hok := msgN_0 (by assumption)
   have hgd : Good m out15 := ⟨hok, wf_m, by rw [hout15, wrB, if_pos hok]⟩
   refine c_region ?_
   refine o_move rfl rfl ?_
   refine o_call rfl cal15 rfl (read_ (rds_own e8_ok 2 rfl) (by rw [hout15]; exact wrB_small wf_m)) ?_
   rintro _ _ ⟨q44, n44, hq44, rfl, rfl⟩
   have hql44 := hq44.len
   refine o_move rfl rfl ?_
   refine o_extract rfl rfl rfl ?_
   refine o_extract rfl rfl rfl ?_
   refine o_alloc rfl ti26 fun b7 => ?_
   refine o_storen rfl rfl ti26 rfl rfl rfl rfl ?_
   refine o_assign rfl rfl ?_
   refine l_nil ?_
   refine q_then ?_
   refine c_seq ?_
   refine c_heldF [] (blk b7 (.cells #[.int .i64 q44.f_Kind, .int .i64 q44.f_From, .int .i64 q44.f_To, .int .i64 q44.f_Group, .int .i64 q44.f_Slot, .int .u64 q44.f_Ballot, .string q44.f_Value, .slice q44.f_Votes.a (q44.f_Votes.xs).length q44.f_Votes.c] 26 (0, 0)) :: row e_Vote.T e_Vote.sz q44.f_Votes.a (q44.f_Votes.xs).length q44.f_Votes.c (flat e_Vote q44.f_Votes.xs) :: row e8.T e8.sz a21 (out21).length c21 (flat e8 out21) :: row e_RVote.T e_RVote.sz a20 ((m.f_Votes.xs.map toR)).length c20 (flat e_RVote (m.f_Votes.xs.map toR)) :: row e8.T e8.sz a15 (out15).length c15 (flat e8 out15) :: blk b1 (.cells #[.int .i64 m.f_Kind, .int .i64 m.f_From, .int .i64 m.f_To, .int .i64 m.f_Group, .int .i64 m.f_Slot, .int .u64 m.f_Ballot, .string m.f_Value, .slice m.f_Votes.a (m.f_Votes.xs).length m.f_Votes.c] 26 (0, 0)) :: F) (by kernel_rfl) ?_
   refine h_take 0 rfl rfl (by kernel_rfl) (by kernel_rfl) (by kernel_rfl) (fun L0 => v_move rfl rfl) ?_
   refine h_take 1 rfl rfl (by kernel_rfl) (by kernel_rfl) (by kernel_rfl) (fun L0 => v_bin rfl rfl rfl b_eql) ?_
   refine h_eq (t := 48) (v' := .bool true) rfl (show _ = Value.bool true from by rw [decide_eq_true (hq44.good hgd)]) ?_
   refine h_take 2 rfl rfl (by kernel_rfl) (by kernel_rfl) (by kernel_rfl) (fun L0 => v_move rfl rfl) ?_
   refine h_take_yes 3 rfl rfl rfl rfl rfl (by kernel_rfl) (by kernel_rfl) (by kernel_rfl) (fun L0 => v_loadn (vs := [_, _, _, _, _, _, _, _]) rfl rfl Try.underlying26 rfl ti26 (rdn_lit 0 rfl rfl)) ?_
   refine h_take_yes 5 rfl rfl rfl rfl rfl (by kernel_rfl) (by kernel_rfl) (by kernel_rfl) (fun L0 => v_loadn (vs := [_, _, _, _, _, _, _, _]) rfl rfl Try.underlying26 rfl ti26 (rdn_lit 5 rfl rfl)) ?_
   refine h_one 4 rfl (by kernel_rfl) ?_
   refine l_conv (L' := blk b7 (.cells #[.int .i64 q44.f_Kind, .int .i64 q44.f_From, .int .i64 q44.f_To, .int .i64 q44.f_Group, .int .i64 q44.f_Slot, .int .u64 q44.f_Ballot, .string q44.f_Value, .slice q44.f_Votes.a (q44.f_Votes.xs).length q44.f_Votes.c] 26 (0, 0)) :: row e_Vote.T e_Vote.sz q44.f_Votes.a (q44.f_Votes.xs).length q44.f_Votes.c (flat e_Vote q44.f_Votes.xs) :: row e8.T e8.sz a21 (out21).length c21 (flat e8 out21) :: row e_RVote.T e_RVote.sz a20 ((m.f_Votes.xs.map toR)).length c20 (flat e_RVote (m.f_Votes.xs.map toR)) :: row e8.T e8.sz a15 (out15).length c15 (flat e8 out15) :: blk b1 (.cells #[.int .i64 m.f_Kind, .int .i64 m.f_From, .int .i64 m.f_To, .int .i64 m.f_Group, .int .i64 m.f_Slot, .int .u64 m.f_Ballot, .string m.f_Value, .slice m.f_Votes.a (m.f_Votes.xs).length m.f_Votes.c] 26 (0, 0)) :: F) (fun w S => S.perm List.perm_append_comm) ?_
   refine o_yes rfl rfl rfl ?_
   refine o_call rfl cal12 rfl (of_ (m := q44) (rds_own e_Vote_ok 1 rfl) (by first | assumption | (try dsimp only); omega) (by omega)) ?_
   rintro _ _ ⟨a51, c51, rfl, rfl⟩
   refine l_nil ?_
   refine q_conv (L' := (blk b7 (.cells #[.int .i64 q44.f_Kind, .int .i64 q44.f_From, .int .i64 q44.f_To, .int .i64 q44.f_Group, .int .i64 q44.f_Slot, .int .u64 q44.f_Ballot, .string q44.f_Value, .slice q44.f_Votes.a (q44.f_Votes.xs).length q44.f_Votes.c] 26 (0, 0)) :: row e_Vote.T e_Vote.sz q44.f_Votes.a (q44.f_Votes.xs).length q44.f_Votes.c (flat e_Vote q44.f_Votes.xs) :: row e8.T e8.sz a21 (out21).length c21 (flat e8 out21) :: row e_RVote.T e_RVote.sz a20 ((m.f_Votes.xs.map toR)).length c20 (flat e_RVote (m.f_Votes.xs.map toR)) :: row e8.T e8.sz a15 (out15).length c15 (flat e8 out15) :: blk b1 (.cells #[.int .i64 m.f_Kind, .int .i64 m.f_From, .int .i64 m.f_To, .int .i64 m.f_Group, .int .i64 m.f_Slot, .int .u64 m.f_Ballot, .string m.f_Value, .slice m.f_Votes.a (m.f_Votes.xs).length m.f_Votes.c] 26 (0, 0)) :: F) ++ [row e_RVote.T e_RVote.sz a51 ((q44.f_Votes.xs.map toR)).length c51 (flat e_RVote (q44.f_Votes.xs.map toR))]) (fun w S => S.perm (List.perm_append_comm (l₁ := [row e_RVote.T e_RVote.sz a51 ((q44.f_Votes.xs.map toR)).length c51 (flat e_RVote (q44.f_Votes.xs.map toR))]) (l₂ := blk b7 (.cells #[.int .i64 q44.f_Kind, .int .i64 q44.f_From, .int .i64 q44.f_To, .int .i64 q44.f_Group, .int .i64 q44.f_Slot, .int .u64 q44.f_Ballot, .string q44.f_Value, .slice q44.f_Votes.a (q44.f_Votes.xs).length q44.f_Votes.c] 26 (0, 0)) :: row e_Vote.T e_Vote.sz q44.f_Votes.a (q44.f_Votes.xs).length q44.f_Votes.c (flat e_Vote q44.f_Votes.xs) :: row e8.T e8.sz a21 (out21).length c21 (flat e8 out21) :: row e_RVote.T e_RVote.sz a20 ((m.f_Votes.xs.map toR)).length c20 (flat e_RVote (m.f_Votes.xs.map toR)) :: row e8.T e8.sz a15 (out15).length c15 (flat e8 out15) :: blk b1 (.cells #[.int .i64 m.f_Kind, .int .i64 m.f_From, .int .i64 m.f_To, .int .i64 m.f_Group, .int .i64 m.f_Slot, .int .u64 m.f_Ballot, .string m.f_Value, .slice m.f_Votes.a (m.f_Votes.xs).length m.f_Votes.c] 26 (0, 0)) :: F))) ?_
   refine h_next ?_
   refine h_one 6 rfl (by kernel_rfl) ?_
   refine l_conv (L' := row e_RVote.T e_RVote.sz a51 ((q44.f_Votes.xs.map toR)).length c51 (flat e_RVote (q44.f_Votes.xs.map toR)) :: blk b7 (.cells #[.int .i64 q44.f_Kind, .int .i64 q44.f_From, .int .i64 q44.f_To, .int .i64 q44.f_Group, .int .i64 q44.f_Slot, .int .u64 q44.f_Ballot, .string q44.f_Value, .slice q44.f_Votes.a (q44.f_Votes.xs).length q44.f_Votes.c] 26 (0, 0)) :: row e_Vote.T e_Vote.sz q44.f_Votes.a (q44.f_Votes.xs).length q44.f_Votes.c (flat e_Vote q44.f_Votes.xs) :: row e8.T e8.sz a21 (out21).length c21 (flat e8 out21) :: row e_RVote.T e_RVote.sz a20 ((m.f_Votes.xs.map toR)).length c20 (flat e_RVote (m.f_Votes.xs.map toR)) :: row e8.T e8.sz a15 (out15).length c15 (flat e8 out15) :: blk b1 (.cells #[.int .i64 m.f_Kind, .int .i64 m.f_From, .int .i64 m.f_To, .int .i64 m.f_Group, .int .i64 m.f_Slot, .int .u64 m.f_Ballot, .string m.f_Value, .slice m.f_Votes.a (m.f_Votes.xs).length m.f_Votes.c] 26 (0, 0)) :: F) (fun w S => S.perm List.perm_append_comm) ?_
   refine o_yes rfl rfl rfl ?_
   refine o_call rfl cal12 rfl (of_ (m := m) (rds_c (rds_c (rds_c (rds_c (rds_c (rds_c (rds_c T_m))))))) (by first | assumption | (try dsimp only); omega) (by have := hg12 (by assumption); omega)) ?_
   rintro _ _ ⟨a53, c53, rfl, rfl⟩
   refine l_nil ?_
   refine q_conv (L' := (blk b7 (.cells #[.int .i64 q44.f_Kind, .int .i64 q44.f_From, .int .i64 q44.f_To, .int .i64 q44.f_Group, .int .i64 q44.f_Slot, .int .u64 q44.f_Ballot, .string q44.f_Value, .slice q44.f_Votes.a (q44.f_Votes.xs).length q44.f_Votes.c] 26 (0, 0)) :: row e_Vote.T e_Vote.sz q44.f_Votes.a (q44.f_Votes.xs).length q44.f_Votes.c (flat e_Vote q44.f_Votes.xs) :: row e8.T e8.sz a21 (out21).length c21 (flat e8 out21) :: row e_RVote.T e_RVote.sz a20 ((m.f_Votes.xs.map toR)).length c20 (flat e_RVote (m.f_Votes.xs.map toR)) :: row e8.T e8.sz a15 (out15).length c15 (flat e8 out15) :: blk b1 (.cells #[.int .i64 m.f_Kind, .int .i64 m.f_From, .int .i64 m.f_To, .int .i64 m.f_Group, .int .i64 m.f_Slot, .int .u64 m.f_Ballot, .string m.f_Value, .slice m.f_Votes.a (m.f_Votes.xs).length m.f_Votes.c] 26 (0, 0)) :: F) ++ [row e_RVote.T e_RVote.sz a53 ((m.f_Votes.xs.map toR)).length c53 (flat e_RVote (m.f_Votes.xs.map toR)), row e_RVote.T e_RVote.sz a51 ((q44.f_Votes.xs.map toR)).length c51 (flat e_RVote (q44.f_Votes.xs.map toR))]) (fun w S => S.perm (List.perm_append_comm (l₁ := [row e_RVote.T e_RVote.sz a53 ((m.f_Votes.xs.map toR)).length c53 (flat e_RVote (m.f_Votes.xs.map toR)), row e_RVote.T e_RVote.sz a51 ((q44.f_Votes.xs.map toR)).length c51 (flat e_RVote (q44.f_Votes.xs.map toR))]) (l₂ := blk b7 (.cells #[.int .i64 q44.f_Kind, .int .i64 q44.f_From, .int .i64 q44.f_To, .int .i64 q44.f_Group, .int .i64 q44.f_Slot, .int .u64 q44.f_Ballot, .string q44.f_Value, .slice q44.f_Votes.a (q44.f_Votes.xs).length q44.f_Votes.c] 26 (0, 0)) :: row e_Vote.T e_Vote.sz q44.f_Votes.a (q44.f_Votes.xs).length q44.f_Votes.c (flat e_Vote q44.f_Votes.xs) :: row e8.T e8.sz a21 (out21).length c21 (flat e8 out21) :: row e_RVote.T e_RVote.sz a20 ((m.f_Votes.xs.map toR)).length c20 (flat e_RVote (m.f_Votes.xs.map toR)) :: row e8.T e8.sz a15 (out15).length c15 (flat e8 out15) :: blk b1 (.cells #[.int .i64 m.f_Kind, .int .i64 m.f_From, .int .i64 m.f_To, .int .i64 m.f_Group, .int .i64 m.f_Slot, .int .u64 m.f_Ballot, .string m.f_Value, .slice m.f_Votes.a (m.f_Votes.xs).length m.f_Votes.c] 26 (0, 0)) :: F))) ?_
   refine h_next ?_
   refine h_one 7 rfl (by kernel_rfl) ?_
   refine l_conv (L' := row e_RVote.T e_RVote.sz a53 ((m.f_Votes.xs.map toR)).length c53 (flat e_RVote (m.f_Votes.xs.map toR)) :: row e_RVote.T e_RVote.sz a51 ((q44.f_Votes.xs.map toR)).length c51 (flat e_RVote (q44.f_Votes.xs.map toR)) :: blk b7 (.cells #[.int .i64 q44.f_Kind, .int .i64 q44.f_From, .int .i64 q44.f_To, .int .i64 q44.f_Group, .int .i64 q44.f_Slot, .int .u64 q44.f_Ballot, .string q44.f_Value, .slice q44.f_Votes.a (q44.f_Votes.xs).length q44.f_Votes.c] 26 (0, 0)) :: row e_Vote.T e_Vote.sz q44.f_Votes.a (q44.f_Votes.xs).length q44.f_Votes.c (flat e_Vote q44.f_Votes.xs) :: row e8.T e8.sz a21 (out21).length c21 (flat e8 out21) :: row e_RVote.T e_RVote.sz a20 ((m.f_Votes.xs.map toR)).length c20 (flat e_RVote (m.f_Votes.xs.map toR)) :: row e8.T e8.sz a15 (out15).length c15 (flat e8 out15) :: blk b1 (.cells #[.int .i64 m.f_Kind, .int .i64 m.f_From, .int .i64 m.f_To, .int .i64 m.f_Group, .int .i64 m.f_Slot, .int .u64 m.f_Ballot, .string m.f_Value, .slice m.f_Votes.a (m.f_Votes.xs).length m.f_Votes.c] 26 (0, 0)) :: F) (fun w S => S.perm List.perm_append_comm) ?_
   refine o_yes rfl rfl rfl ?_
   refine o_call rfl cal11 rfl (same_ (p := (⟨q44.f_Kind, q44.f_From, q44.f_To, q44.f_Group, q44.f_Slot, q44.f_Ballot, q44.f_Value, ⟨a51, (q44.f_Votes.xs.map toR), c51⟩⟩ : RMsg)) (q := (⟨m.f_Kind, m.f_From, m.f_To, m.f_Group, m.f_Slot, m.f_Ballot, m.f_Value, ⟨a53, (m.f_Votes.xs.map toR), c53⟩⟩ : RMsg)) (rds_own e_RVote_ok 1 rfl) (by first | assumption | (try dsimp only); (try simp only [List.length_map, List.length_nil]); omega) (rds_own e_RVote_ok 0 rfl) (by first | assumption | (try dsimp only); (try simp only [List.length_map, List.length_nil]); omega)) ?_
   rintro _ _ ⟨rfl, rfl⟩
   refine l_nil ?_
   refine q_conv (L' := (blk b7 (.cells #[.int .i64 q44.f_Kind, .int .i64 q44.f_From, .int .i64 q44.f_To, .int .i64 q44.f_Group, .int .i64 q44.f_Slot, .int .u64 q44.f_Ballot, .string q44.f_Value, .slice q44.f_Votes.a (q44.f_Votes.xs).length q44.f_Votes.c] 26 (0, 0)) :: row e_Vote.T e_Vote.sz q44.f_Votes.a (q44.f_Votes.xs).length q44.f_Votes.c (flat e_Vote q44.f_Votes.xs) :: row e8.T e8.sz a21 (out21).length c21 (flat e8 out21) :: row e_RVote.T e_RVote.sz a20 ((m.f_Votes.xs.map toR)).length c20 (flat e_RVote (m.f_Votes.xs.map toR)) :: row e8.T e8.sz a15 (out15).length c15 (flat e8 out15) :: blk b1 (.cells #[.int .i64 m.f_Kind, .int .i64 m.f_From, .int .i64 m.f_To, .int .i64 m.f_Group, .int .i64 m.f_Slot, .int .u64 m.f_Ballot, .string m.f_Value, .slice m.f_Votes.a (m.f_Votes.xs).length m.f_Votes.c] 26 (0, 0)) :: F) ++ [row e_RVote.T e_RVote.sz a53 ((m.f_Votes.xs.map toR)).length c53 (flat e_RVote (m.f_Votes.xs.map toR)), row e_RVote.T e_RVote.sz a51 ((q44.f_Votes.xs.map toR)).length c51 (flat e_RVote (q44.f_Votes.xs.map toR))]) (fun w S => S.perm (List.perm_append_comm (l₁ := [row e_RVote.T e_RVote.sz a53 ((m.f_Votes.xs.map toR)).length c53 (flat e_RVote (m.f_Votes.xs.map toR)), row e_RVote.T e_RVote.sz a51 ((q44.f_Votes.xs.map toR)).length c51 (flat e_RVote (q44.f_Votes.xs.map toR))]) (l₂ := blk b7 (.cells #[.int .i64 q44.f_Kind, .int .i64 q44.f_From, .int .i64 q44.f_To, .int .i64 q44.f_Group, .int .i64 q44.f_Slot, .int .u64 q44.f_Ballot, .string q44.f_Value, .slice q44.f_Votes.a (q44.f_Votes.xs).length q44.f_Votes.c] 26 (0, 0)) :: row e_Vote.T e_Vote.sz q44.f_Votes.a (q44.f_Votes.xs).length q44.f_Votes.c (flat e_Vote q44.f_Votes.xs) :: row e8.T e8.sz a21 (out21).length c21 (flat e8 out21) :: row e_RVote.T e_RVote.sz a20 ((m.f_Votes.xs.map toR)).length c20 (flat e_RVote (m.f_Votes.xs.map toR)) :: row e8.T e8.sz a15 (out15).length c15 (flat e8 out15) :: blk b1 (.cells #[.int .i64 m.f_Kind, .int .i64 m.f_From, .int .i64 m.f_To, .int .i64 m.f_Group, .int .i64 m.f_Slot, .int .u64 m.f_Ballot, .string m.f_Value, .slice m.f_Votes.a (m.f_Votes.xs).length m.f_Votes.c] 26 (0, 0)) :: F))) ?_
   refine h_next ?_
   refine h_eq (t := 54) (v' := .bool true) rfl (show _ = Value.bool true from by rw [decide_eq_true (sameM_iff.2 ((hq44.yes (hq44.good hgd)).uniq hgd))]) ?_
   refine h_take 8 rfl rfl (by kernel_rfl) (by kernel_rfl) (by kernel_rfl) (fun L0 => v_pick_true rfl rfl rfl) ?_
   refine h_take 9 rfl rfl (by kernel_rfl) (by kernel_rfl) (by kernel_rfl) (fun L0 => v_assign rfl rfl) ?_
   refine h_done (by kernel_rfl) ?_
   refine q_conv (L' := row e_RVote.T e_RVote.sz a53 ((m.f_Votes.xs.map toR)).length c53 (flat e_RVote (m.f_Votes.xs.map toR)) :: row e_RVote.T e_RVote.sz a51 ((q44.f_Votes.xs.map toR)).length c51 (flat e_RVote (q44.f_Votes.xs.map toR)) :: blk b7 (.cells #[.int .i64 q44.f_Kind, .int .i64 q44.f_From, .int .i64 q44.f_To, .int .i64 q44.f_Group, .int .i64 q44.f_Slot, .int .u64 q44.f_Ballot, .string q44.f_Value, .slice q44.f_Votes.a (q44.f_Votes.xs).length q44.f_Votes.c] 26 (0, 0)) :: row e_Vote.T e_Vote.sz q44.f_Votes.a (q44.f_Votes.xs).length q44.f_Votes.c (flat e_Vote q44.f_Votes.xs) :: row e8.T e8.sz a21 (out21).length c21 (flat e8 out21) :: row e_RVote.T e_RVote.sz a20 ((m.f_Votes.xs.map toR)).length c20 (flat e_RVote (m.f_Votes.xs.map toR)) :: row e8.T e8.sz a15 (out15).length c15 (flat e8 out15) :: blk b1 (.cells #[.int .i64 m.f_Kind, .int .i64 m.f_From, .int .i64 m.f_To, .int .i64 m.f_Group, .int .i64 m.f_Slot, .int .u64 m.f_Ballot, .string m.f_Value, .slice m.f_Votes.a (m.f_Votes.xs).length m.f_Votes.c] 26 (0, 0)) :: F) (fun w S => S.perm List.perm_append_comm) ?_
   refine q_then ?_
   refine c_ret ?_
   refine q_conv (fun w S => S.tail) ?_
   refine q_conv (fun w S => S.tail) ?_
   refine q_conv (fun w S => S.tail) ?_
   refine q_conv (fun w S => S.tail) ?_
   refine q_conv (fun w S => S.tail) ?_
   refine q_conv (fun w S => S.tail) ?_
   refine q_conv (fun w S => S.tail) ?_
   refine q_conv (fun w S => S.tail) ?_
   exact f_ret (r_one rfl rfl) (⟨rfl, rfl⟩) (fun w S => S)

end Go.Proofs.Ytoigakfglgdjdaa
