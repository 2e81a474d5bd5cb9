/- Printed by eng2.py out of 18/spec.py. -/
import Derived.Test.YtoigakfglgdjdaaApartp
set_option linter.unusedVariables false
set_option linter.unusedSimpArgs false
set_option maxRecDepth 10000
namespace Go.Proofs.Ytoigakfglgdjdaa
open Go.RowKit Classical
set_option maxHeartbeats 1000000 in
theorem apart_ {W : World} {F : List Res} {a : Msg} (T_a : RdS W F e_Vote a.f_Votes.a a.f_Votes.xs) (hn_a : a.f_Votes.xs.length ≤ 9223372036854775807) (wf_a : Wf a) {b : Msg} (T_b : RdS W F e_Vote b.f_Votes.a b.f_Votes.xs) (hn_b : b.f_Votes.xs.length ≤ 9223372036854775807) (wf_b : Wf b) : CS Try.prog 4 #[.agg #[.int .i64 a.f_Kind, .int .i64 a.f_From, .int .i64 a.f_To, .int .i64 a.f_Group, .int .i64 a.f_Slot, .int .u64 a.f_Ballot, .string a.f_Value, .slice a.f_Votes.a (a.f_Votes.xs).length a.f_Votes.c], .agg #[.int .i64 b.f_Kind, .int .i64 b.f_From, .int .i64 b.f_To, .int .i64 b.f_Group, .int .i64 b.f_Slot, .int .u64 b.f_Ballot, .string b.f_Value, .slice b.f_Votes.a (b.f_Votes.xs).length b.f_Votes.c]] W (F) (fun r L' => r = .bool true ∧ F = L') := by
  refine f_door (l0 := [(0, .agg #[.int .i64 a.f_Kind, .int .i64 a.f_From, .int .i64 a.f_To, .int .i64 a.f_Group, .int .i64 a.f_Slot, .int .u64 a.f_Ballot, .string a.f_Value, .slice a.f_Votes.a (a.f_Votes.xs).length a.f_Votes.c]), (1, .agg #[.int .i64 b.f_Kind, .int .i64 b.f_From, .int .i64 b.f_To, .int .i64 b.f_Group, .int .i64 b.f_Slot, .int .u64 b.f_Ballot, .string b.f_Value, .slice b.f_Votes.a (b.f_Votes.xs).length b.f_Votes.c])]) Try.func4 Try.ntmps4 rfl rfl rfl ?_
  refine c_seq ?_
  refine c_region ?_
  refine o_box rfl rfl fun b2 => ?_
  refine o_box rfl rfl fun b3 => ?_
  refine o_assign rfl rfl ?_
  refine l_nil ?_
  refine q_then ?_
  refine c_seq ?_
  refine c_seq ?_
  refine c_region ?_
  refine o_call rfl cal8 rfl (speaks_) ?_
  rintro _ _ ⟨rfl, rfl⟩
  refine o_not rfl rfl ?_
  refine l_nil ?_
  refine q_then ?_
  refine c_false rfl ?_
  refine c_skip ?_
  refine q_then ?_
  refine c_seq ?_
  refine c_seq ?_
  refine c_region ?_
  refine o_loadn (vs := [_, _, _, _, _, _, _, _]) rfl rfl Try.underlying26 rfl ti26 (rdn_lit 1 rfl rfl) ?_
  refine o_call rfl cal9 rfl (great_ (m := a) (rds_c (rds_c T_a)) (by first | assumption | (try dsimp only); omega)) ?_
  rintro _ _ ⟨g12, hg12, rfl, rfl⟩
  refine o_move rfl rfl ?_
  refine l_split (t := 13) rfl (fun h1 => ?_) (fun h1 => ?_)
  · -- h1T
    have h1b := h1
    try simp only [decide_eq_true_eq, decide_eq_false_iff_not, Bool.not_eq_eq_eq_not, Bool.not_true, Bool.not_false, Bool.not_eq_true', Bool.not_eq_false', Int.not_lt, Int.not_le, Bool.or_eq_true, Bool.and_eq_true] at h1
    refine o_no rfl rfl rfl rfl ?_
    refine o_no rfl rfl rfl rfl ?_
    refine o_pick_true rfl rfl rfl ?_
    refine l_nil ?_
    refine q_then ?_
    refine c_true rfl ?_
    refine c_seq ?_
    refine c_region ?_
    refine o_assign rfl rfl ?_
    refine l_nil ?_
    refine q_then ?_
    refine c_ret ?_
    refine q_pass_ret ?_
    refine q_conv (fun w S => S.tail) ?_
    refine q_conv (fun w S => S.tail) ?_
    exact f_ret (r_one rfl rfl) (⟨rfl, rfl⟩) (fun w S => S)
  · -- h1F
    have h1b := h1
    try simp only [decide_eq_true_eq, decide_eq_false_iff_not, Bool.not_eq_eq_eq_not, Bool.not_true, Bool.not_false, Bool.not_eq_true', Bool.not_eq_false', Int.not_lt, Int.not_le, Bool.or_eq_true, Bool.and_eq_true] at h1
    refine o_yes rfl rfl rfl ?_
    refine o_loadn (vs := [_, _, _, _, _, _, _, _]) rfl rfl Try.underlying26 rfl ti26 (rdn_lit 0 rfl rfl) ?_
    refine o_yes rfl rfl rfl ?_
    refine o_call rfl cal9 rfl (great_ (m := b) (rds_c (rds_c T_b)) (by first | assumption | (try dsimp only); omega)) ?_
    rintro _ _ ⟨g15, hg15, rfl, rfl⟩
    refine o_pick_false rfl rfl rfl ?_
    refine l_nil ?_
    refine q_then ?_
    refine c_cond rfl (fun h2 => ?_) (fun h2 => ?_)
    · -- h2T
      have h2b := h2
      try simp only [decide_eq_true_eq, decide_eq_false_iff_not, Bool.not_eq_eq_eq_not, Bool.not_true, Bool.not_false, Bool.not_eq_true', Bool.not_eq_false', Int.not_lt, Int.not_le, Bool.or_eq_true, Bool.and_eq_true] at h2
      refine c_seq ?_
      refine c_region ?_
      refine o_assign rfl rfl ?_
      refine l_nil ?_
      refine q_then ?_
      refine c_ret ?_
      refine q_pass_ret ?_
      refine q_conv (fun w S => S.tail) ?_
      refine q_conv (fun w S => S.tail) ?_
      exact f_ret (r_one rfl rfl) (⟨rfl, rfl⟩) (fun w S => S)
    · -- h2F
      have h2b := h2
      try simp only [decide_eq_true_eq, decide_eq_false_iff_not, Bool.not_eq_eq_eq_not, Bool.not_true, Bool.not_false, Bool.not_eq_true', Bool.not_eq_false', Int.not_lt, Int.not_le, Bool.or_eq_true, Bool.and_eq_true] at h2
      refine c_skip ?_
      refine q_then ?_
      refine c_seq ?_
      refine c_region ?_
      refine o_loadn (vs := [_, _, _, _, _, _, _, _]) rfl rfl Try.underlying26 rfl ti26 (rdn_lit 1 rfl rfl) ?_
      refine o_call rfl cal10 rfl (write_ (m := a) (rds_c (rds_c T_a)) (by first | assumption | (try dsimp only); omega) wf_a) ?_
      rintro _ _ ⟨out19, a19, c19, hout19, rfl, rfl⟩
      refine o_move rfl rfl ?_
      refine o_extract rfl rfl rfl ?_
      refine o_extract rfl rfl rfl ?_
      refine o_assign rfl rfl ?_
      refine o_assign rfl rfl ?_
      refine l_nil ?_
      refine q_then ?_
      refine c_seq ?_
      refine c_region ?_
      refine o_loadn (vs := [_, _, _, _, _, _, _, _]) rfl rfl Try.underlying26 rfl ti26 (rdn_lit 1 rfl rfl) ?_
      refine o_call rfl cal10 rfl (write_ (m := b) (rds_c (rds_c (rds_c T_b))) (by first | assumption | (try dsimp only); omega) wf_b) ?_
      rintro _ _ ⟨out24, a24, c24, hout24, rfl, rfl⟩
      refine o_move rfl rfl ?_
      refine o_extract rfl rfl rfl ?_
      refine o_extract rfl rfl rfl ?_
      refine o_assign rfl rfl ?_
      refine o_assign rfl rfl ?_
      refine l_nil ?_
      refine q_then ?_
      refine c_seq ?_
      refine c_heldF [] (row e8.T e8.sz a24 (out24).length c24 (flat e8 out24) :: row e8.T e8.sz a19 (out19).length c19 (flat e8 out19) :: blk b3 (.cells #[.int .i64 b.f_Kind, .int .i64 b.f_From, .int .i64 b.f_To, .int .i64 b.f_Group, .int .i64 b.f_Slot, .int .u64 b.f_Ballot, .string b.f_Value, .slice b.f_Votes.a (b.f_Votes.xs).length b.f_Votes.c] 26 (0, 0)) :: blk b2 (.cells #[.int .i64 a.f_Kind, .int .i64 a.f_From, .int .i64 a.f_To, .int .i64 a.f_Group, .int .i64 a.f_Slot, .int .u64 a.f_Ballot, .string a.f_Value, .slice a.f_Votes.a (a.f_Votes.xs).length a.f_Votes.c] 26 (0, 0)) :: F) (by kernel_rfl) ?_
      refine h_take 0 rfl rfl (by kernel_rfl) (by kernel_rfl) (by kernel_rfl) (fun L0 => v_move rfl rfl) ?_
      refine h_take 1 rfl rfl (by kernel_rfl) (by kernel_rfl) (by kernel_rfl) (fun L0 => v_bin rfl rfl rfl b_neq) ?_
      refine h_take 2 rfl rfl (by kernel_rfl) (by kernel_rfl) (by kernel_rfl) (fun L0 => v_move rfl rfl) ?_
      refine h_split (t := 29) rfl (fun h3 => ?_) (fun h3 => ?_)
      · -- h3T
        have h3b := h3
        try simp only [decide_eq_true_eq, decide_eq_false_iff_not, Bool.not_eq_eq_eq_not, Bool.not_true, Bool.not_false, Bool.not_eq_true', Bool.not_eq_false', Int.not_lt, Int.not_le, Bool.or_eq_true, Bool.and_eq_true] at h3
        refine h_take_no 3 rfl rfl rfl rfl rfl (by kernel_rfl) (by kernel_rfl) (by kernel_rfl) ?_
        refine h_take_no 4 rfl rfl rfl rfl rfl (by kernel_rfl) (by kernel_rfl) (by kernel_rfl) ?_
        refine h_take 5 rfl rfl (by kernel_rfl) (by kernel_rfl) (by kernel_rfl) (fun L0 => v_pick_true rfl rfl rfl) ?_
        refine h_take 6 rfl rfl (by kernel_rfl) (by kernel_rfl) (by kernel_rfl) (fun L0 => v_move rfl rfl) ?_
        refine h_take_no 7 rfl rfl rfl rfl rfl (by kernel_rfl) (by kernel_rfl) (by kernel_rfl) ?_
        refine h_take_no 8 rfl rfl rfl rfl rfl (by kernel_rfl) (by kernel_rfl) (by kernel_rfl) ?_
        refine h_take_no 9 rfl rfl rfl rfl rfl (by kernel_rfl) (by kernel_rfl) (by kernel_rfl) ?_
        refine h_take_no 10 rfl rfl rfl rfl rfl (by kernel_rfl) (by kernel_rfl) (by kernel_rfl) ?_
        refine h_take_no 11 rfl rfl rfl rfl rfl (by kernel_rfl) (by kernel_rfl) (by kernel_rfl) ?_
        refine h_take_no 12 rfl rfl rfl rfl rfl (by kernel_rfl) (by kernel_rfl) (by kernel_rfl) ?_
        refine h_take_no 13 rfl rfl rfl rfl rfl (by kernel_rfl) (by kernel_rfl) (by kernel_rfl) ?_
        refine h_take_no 14 rfl rfl rfl rfl rfl (by kernel_rfl) (by kernel_rfl) (by kernel_rfl) ?_
        refine h_take_no 15 rfl rfl rfl rfl rfl (by kernel_rfl) (by kernel_rfl) (by kernel_rfl) ?_
        refine h_take_no 16 rfl rfl rfl rfl rfl (by kernel_rfl) (by kernel_rfl) (by kernel_rfl) ?_
        refine h_take_no 17 rfl rfl rfl rfl rfl (by kernel_rfl) (by kernel_rfl) (by kernel_rfl) ?_
        refine h_take 18 rfl rfl (by kernel_rfl) (by kernel_rfl) (by kernel_rfl) (fun L0 => v_pick_true rfl rfl rfl) ?_
        refine h_take 19 rfl rfl (by kernel_rfl) (by kernel_rfl) (by kernel_rfl) (fun L0 => v_assign rfl rfl) ?_
        refine h_done (by kernel_rfl) ?_
        refine q_conv (L' := row e8.T e8.sz a24 (out24).length c24 (flat e8 out24) :: row e8.T e8.sz a19 (out19).length c19 (flat e8 out19) :: blk b3 (.cells #[.int .i64 b.f_Kind, .int .i64 b.f_From, .int .i64 b.f_To, .int .i64 b.f_Group, .int .i64 b.f_Slot, .int .u64 b.f_Ballot, .string b.f_Value, .slice b.f_Votes.a (b.f_Votes.xs).length b.f_Votes.c] 26 (0, 0)) :: blk b2 (.cells #[.int .i64 a.f_Kind, .int .i64 a.f_From, .int .i64 a.f_To, .int .i64 a.f_Group, .int .i64 a.f_Slot, .int .u64 a.f_Ballot, .string a.f_Value, .slice a.f_Votes.a (a.f_Votes.xs).length a.f_Votes.c] 26 (0, 0)) :: F) (fun w S => S.perm List.perm_append_comm) ?_
        refine q_then ?_
        refine c_ret ?_
        refine q_conv (fun w S => S.tail) ?_
        refine q_conv (fun w S => S.tail) ?_
        refine q_conv (fun w S => S.tail) ?_
        refine q_conv (fun w S => S.tail) ?_
        exact f_ret (r_one rfl rfl) (⟨rfl, rfl⟩) (fun w S => S)
      · -- h3F
        have h3b := h3
        try simp only [decide_eq_true_eq, decide_eq_false_iff_not, Bool.not_eq_eq_eq_not, Bool.not_true, Bool.not_false, Bool.not_eq_true', Bool.not_eq_false', Int.not_lt, Int.not_le, Bool.or_eq_true, Bool.and_eq_true] at h3
        refine h_take_yes 3 rfl rfl rfl rfl rfl (by kernel_rfl) (by kernel_rfl) (by kernel_rfl) (fun L0 => v_move rfl rfl) ?_
        refine h_take_yes 4 rfl rfl rfl rfl rfl (by kernel_rfl) (by kernel_rfl) (by kernel_rfl) (fun L0 => v_bin rfl rfl rfl b_neq) ?_
        refine h_take 5 rfl rfl (by kernel_rfl) (by kernel_rfl) (by kernel_rfl) (fun L0 => v_pick_false rfl rfl rfl) ?_
        refine h_take 6 rfl rfl (by kernel_rfl) (by kernel_rfl) (by kernel_rfl) (fun L0 => v_move rfl rfl) ?_
        refine h_split (t := 33) rfl (fun h4 => ?_) (fun h4 => ?_)
        · -- h4T
          have h4b := h4
          try simp only [decide_eq_true_eq, decide_eq_false_iff_not, Bool.not_eq_eq_eq_not, Bool.not_true, Bool.not_false, Bool.not_eq_true', Bool.not_eq_false', Int.not_lt, Int.not_le, Bool.or_eq_true, Bool.and_eq_true] at h4
          refine h_take_no 7 rfl rfl rfl rfl rfl (by kernel_rfl) (by kernel_rfl) (by kernel_rfl) ?_
          refine h_take_no 8 rfl rfl rfl rfl rfl (by kernel_rfl) (by kernel_rfl) (by kernel_rfl) ?_
          refine h_take_no 9 rfl rfl rfl rfl rfl (by kernel_rfl) (by kernel_rfl) (by kernel_rfl) ?_
          refine h_take_no 10 rfl rfl rfl rfl rfl (by kernel_rfl) (by kernel_rfl) (by kernel_rfl) ?_
          refine h_take_no 11 rfl rfl rfl rfl rfl (by kernel_rfl) (by kernel_rfl) (by kernel_rfl) ?_
          refine h_take_no 12 rfl rfl rfl rfl rfl (by kernel_rfl) (by kernel_rfl) (by kernel_rfl) ?_
          refine h_take_no 13 rfl rfl rfl rfl rfl (by kernel_rfl) (by kernel_rfl) (by kernel_rfl) ?_
          refine h_take_no 14 rfl rfl rfl rfl rfl (by kernel_rfl) (by kernel_rfl) (by kernel_rfl) ?_
          refine h_take_no 15 rfl rfl rfl rfl rfl (by kernel_rfl) (by kernel_rfl) (by kernel_rfl) ?_
          refine h_take_no 16 rfl rfl rfl rfl rfl (by kernel_rfl) (by kernel_rfl) (by kernel_rfl) ?_
          refine h_take_no 17 rfl rfl rfl rfl rfl (by kernel_rfl) (by kernel_rfl) (by kernel_rfl) ?_
          refine h_take 18 rfl rfl (by kernel_rfl) (by kernel_rfl) (by kernel_rfl) (fun L0 => v_pick_true rfl rfl rfl) ?_
          refine h_take 19 rfl rfl (by kernel_rfl) (by kernel_rfl) (by kernel_rfl) (fun L0 => v_assign rfl rfl) ?_
          refine h_done (by kernel_rfl) ?_
          refine q_conv (L' := row e8.T e8.sz a24 (out24).length c24 (flat e8 out24) :: row e8.T e8.sz a19 (out19).length c19 (flat e8 out19) :: blk b3 (.cells #[.int .i64 b.f_Kind, .int .i64 b.f_From, .int .i64 b.f_To, .int .i64 b.f_Group, .int .i64 b.f_Slot, .int .u64 b.f_Ballot, .string b.f_Value, .slice b.f_Votes.a (b.f_Votes.xs).length b.f_Votes.c] 26 (0, 0)) :: blk b2 (.cells #[.int .i64 a.f_Kind, .int .i64 a.f_From, .int .i64 a.f_To, .int .i64 a.f_Group, .int .i64 a.f_Slot, .int .u64 a.f_Ballot, .string a.f_Value, .slice a.f_Votes.a (a.f_Votes.xs).length a.f_Votes.c] 26 (0, 0)) :: F) (fun w S => S.perm List.perm_append_comm) ?_
          refine q_then ?_
          refine c_ret ?_
          refine q_conv (fun w S => S.tail) ?_
          refine q_conv (fun w S => S.tail) ?_
          refine q_conv (fun w S => S.tail) ?_
          refine q_conv (fun w S => S.tail) ?_
          exact f_ret (r_one rfl rfl) (⟨rfl, rfl⟩) (fun w S => S)
        · -- h4F
          have h4b := h4
          try simp only [decide_eq_true_eq, decide_eq_false_iff_not, Bool.not_eq_eq_eq_not, Bool.not_true, Bool.not_false, Bool.not_eq_true', Bool.not_eq_false', Int.not_lt, Int.not_le, Bool.or_eq_true, Bool.and_eq_true] at h4
          refine h_take_yes 7 rfl rfl rfl rfl rfl (by kernel_rfl) (by kernel_rfl) (by kernel_rfl) (fun L0 => v_move rfl rfl) ?_
          refine h_take_yes 8 rfl rfl rfl rfl rfl (by kernel_rfl) (by kernel_rfl) (by kernel_rfl) (fun L0 => v_bytesStr (e := e8) rfl rfl rfl Try.underlying28 Try.underlying5 Try.underlying9 (rds_own e8_ok 1 rfl)) ?_
          refine h_take_yes 9 rfl rfl rfl rfl rfl (by kernel_rfl) (by kernel_rfl) (by kernel_rfl) (fun L0 => v_move rfl rfl) ?_
          refine h_take_yes 10 rfl rfl rfl rfl rfl (by kernel_rfl) (by kernel_rfl) (by kernel_rfl) (fun L0 => v_bytesStr (e := e8) rfl rfl rfl Try.underlying28 Try.underlying5 Try.underlying9 (rds_own e8_ok 0 rfl)) ?_
          refine h_take_yes 11 rfl rfl rfl rfl rfl (by kernel_rfl) (by kernel_rfl) (by kernel_rfl) (fun L0 => v_bin rfl rfl rfl b_seql) ?_
          refine h_take_yes 12 rfl rfl rfl rfl rfl (by kernel_rfl) (by kernel_rfl) (by kernel_rfl) (fun L0 => v_loadn (vs := [_, _, _, _, _, _, _, _]) rfl rfl Try.underlying26 rfl ti26 (rdn_lit 3 rfl rfl)) ?_
          refine h_take_yes 14 rfl rfl rfl rfl rfl (by kernel_rfl) (by kernel_rfl) (by kernel_rfl) (fun L0 => v_loadn (vs := [_, _, _, _, _, _, _, _]) rfl rfl Try.underlying26 rfl ti26 (rdn_lit 2 rfl rfl)) ?_
          refine h_one 13 rfl (by kernel_rfl) ?_
          refine l_conv (L' := row e8.T e8.sz a24 (out24).length c24 (flat e8 out24) :: row e8.T e8.sz a19 (out19).length c19 (flat e8 out19) :: blk b3 (.cells #[.int .i64 b.f_Kind, .int .i64 b.f_From, .int .i64 b.f_To, .int .i64 b.f_Group, .int .i64 b.f_Slot, .int .u64 b.f_Ballot, .string b.f_Value, .slice b.f_Votes.a (b.f_Votes.xs).length b.f_Votes.c] 26 (0, 0)) :: blk b2 (.cells #[.int .i64 a.f_Kind, .int .i64 a.f_From, .int .i64 a.f_To, .int .i64 a.f_Group, .int .i64 a.f_Slot, .int .u64 a.f_Ballot, .string a.f_Value, .slice a.f_Votes.a (a.f_Votes.xs).length a.f_Votes.c] 26 (0, 0)) :: F) (fun w S => S.perm List.perm_append_comm) ?_
          refine o_yes rfl rfl rfl ?_
          refine o_call rfl cal12 rfl (of_ (m := a) (rds_c (rds_c (rds_c (rds_c T_a)))) (by first | assumption | (try dsimp only); omega) (by have := hg12 (by assumption); omega)) ?_
          rintro _ _ ⟨a40, c40, rfl, rfl⟩
          refine l_nil ?_
          refine q_conv (L' := (row e8.T e8.sz a24 (out24).length c24 (flat e8 out24) :: row e8.T e8.sz a19 (out19).length c19 (flat e8 out19) :: blk b3 (.cells #[.int .i64 b.f_Kind, .int .i64 b.f_From, .int .i64 b.f_To, .int .i64 b.f_Group, .int .i64 b.f_Slot, .int .u64 b.f_Ballot, .string b.f_Value, .slice b.f_Votes.a (b.f_Votes.xs).length b.f_Votes.c] 26 (0, 0)) :: blk b2 (.cells #[.int .i64 a.f_Kind, .int .i64 a.f_From, .int .i64 a.f_To, .int .i64 a.f_Group, .int .i64 a.f_Slot, .int .u64 a.f_Ballot, .string a.f_Value, .slice a.f_Votes.a (a.f_Votes.xs).length a.f_Votes.c] 26 (0, 0)) :: F) ++ [row e_RVote.T e_RVote.sz a40 ((a.f_Votes.xs.map toR)).length c40 (flat e_RVote (a.f_Votes.xs.map toR))]) (fun w S => S.perm (List.perm_append_comm (l₁ := [row e_RVote.T e_RVote.sz a40 ((a.f_Votes.xs.map toR)).length c40 (flat e_RVote (a.f_Votes.xs.map toR))]) (l₂ := row e8.T e8.sz a24 (out24).length c24 (flat e8 out24) :: row e8.T e8.sz a19 (out19).length c19 (flat e8 out19) :: blk b3 (.cells #[.int .i64 b.f_Kind, .int .i64 b.f_From, .int .i64 b.f_To, .int .i64 b.f_Group, .int .i64 b.f_Slot, .int .u64 b.f_Ballot, .string b.f_Value, .slice b.f_Votes.a (b.f_Votes.xs).length b.f_Votes.c] 26 (0, 0)) :: blk b2 (.cells #[.int .i64 a.f_Kind, .int .i64 a.f_From, .int .i64 a.f_To, .int .i64 a.f_Group, .int .i64 a.f_Slot, .int .u64 a.f_Ballot, .string a.f_Value, .slice a.f_Votes.a (a.f_Votes.xs).length a.f_Votes.c] 26 (0, 0)) :: F))) ?_
          refine h_next ?_
          refine h_one 15 rfl (by kernel_rfl) ?_
          refine l_conv (L' := row e_RVote.T e_RVote.sz a40 ((a.f_Votes.xs.map toR)).length c40 (flat e_RVote (a.f_Votes.xs.map toR)) :: row e8.T e8.sz a24 (out24).length c24 (flat e8 out24) :: row e8.T e8.sz a19 (out19).length c19 (flat e8 out19) :: blk b3 (.cells #[.int .i64 b.f_Kind, .int .i64 b.f_From, .int .i64 b.f_To, .int .i64 b.f_Group, .int .i64 b.f_Slot, .int .u64 b.f_Ballot, .string b.f_Value, .slice b.f_Votes.a (b.f_Votes.xs).length b.f_Votes.c] 26 (0, 0)) :: blk b2 (.cells #[.int .i64 a.f_Kind, .int .i64 a.f_From, .int .i64 a.f_To, .int .i64 a.f_Group, .int .i64 a.f_Slot, .int .u64 a.f_Ballot, .string a.f_Value, .slice a.f_Votes.a (a.f_Votes.xs).length a.f_Votes.c] 26 (0, 0)) :: F) (fun w S => S.perm List.perm_append_comm) ?_
          refine o_yes rfl rfl rfl ?_
          refine o_call rfl cal12 rfl (of_ (m := b) (rds_c (rds_c (rds_c (rds_c (rds_c T_b))))) (by first | assumption | (try dsimp only); omega) (by have := hg15 (by assumption); omega)) ?_
          rintro _ _ ⟨a42, c42, rfl, rfl⟩
          refine l_nil ?_
          refine q_conv (L' := (row e8.T e8.sz a24 (out24).length c24 (flat e8 out24) :: row e8.T e8.sz a19 (out19).length c19 (flat e8 out19) :: blk b3 (.cells #[.int .i64 b.f_Kind, .int .i64 b.f_From, .int .i64 b.f_To, .int .i64 b.f_Group, .int .i64 b.f_Slot, .int .u64 b.f_Ballot, .string b.f_Value, .slice b.f_Votes.a (b.f_Votes.xs).length b.f_Votes.c] 26 (0, 0)) :: blk b2 (.cells #[.int .i64 a.f_Kind, .int .i64 a.f_From, .int .i64 a.f_To, .int .i64 a.f_Group, .int .i64 a.f_Slot, .int .u64 a.f_Ballot, .string a.f_Value, .slice a.f_Votes.a (a.f_Votes.xs).length a.f_Votes.c] 26 (0, 0)) :: F) ++ [row e_RVote.T e_RVote.sz a42 ((b.f_Votes.xs.map toR)).length c42 (flat e_RVote (b.f_Votes.xs.map toR)), row e_RVote.T e_RVote.sz a40 ((a.f_Votes.xs.map toR)).length c40 (flat e_RVote (a.f_Votes.xs.map toR))]) (fun w S => S.perm (List.perm_append_comm (l₁ := [row e_RVote.T e_RVote.sz a42 ((b.f_Votes.xs.map toR)).length c42 (flat e_RVote (b.f_Votes.xs.map toR)), row e_RVote.T e_RVote.sz a40 ((a.f_Votes.xs.map toR)).length c40 (flat e_RVote (a.f_Votes.xs.map toR))]) (l₂ := row e8.T e8.sz a24 (out24).length c24 (flat e8 out24) :: row e8.T e8.sz a19 (out19).length c19 (flat e8 out19) :: blk b3 (.cells #[.int .i64 b.f_Kind, .int .i64 b.f_From, .int .i64 b.f_To, .int .i64 b.f_Group, .int .i64 b.f_Slot, .int .u64 b.f_Ballot, .string b.f_Value, .slice b.f_Votes.a (b.f_Votes.xs).length b.f_Votes.c] 26 (0, 0)) :: blk b2 (.cells #[.int .i64 a.f_Kind, .int .i64 a.f_From, .int .i64 a.f_To, .int .i64 a.f_Group, .int .i64 a.f_Slot, .int .u64 a.f_Ballot, .string a.f_Value, .slice a.f_Votes.a (a.f_Votes.xs).length a.f_Votes.c] 26 (0, 0)) :: F))) ?_
          refine h_next ?_
          refine h_one 16 rfl (by kernel_rfl) ?_
          refine l_conv (L' := row e_RVote.T e_RVote.sz a42 ((b.f_Votes.xs.map toR)).length c42 (flat e_RVote (b.f_Votes.xs.map toR)) :: row e_RVote.T e_RVote.sz a40 ((a.f_Votes.xs.map toR)).length c40 (flat e_RVote (a.f_Votes.xs.map toR)) :: row e8.T e8.sz a24 (out24).length c24 (flat e8 out24) :: row e8.T e8.sz a19 (out19).length c19 (flat e8 out19) :: blk b3 (.cells #[.int .i64 b.f_Kind, .int .i64 b.f_From, .int .i64 b.f_To, .int .i64 b.f_Group, .int .i64 b.f_Slot, .int .u64 b.f_Ballot, .string b.f_Value, .slice b.f_Votes.a (b.f_Votes.xs).length b.f_Votes.c] 26 (0, 0)) :: blk b2 (.cells #[.int .i64 a.f_Kind, .int .i64 a.f_From, .int .i64 a.f_To, .int .i64 a.f_Group, .int .i64 a.f_Slot, .int .u64 a.f_Ballot, .string a.f_Value, .slice a.f_Votes.a (a.f_Votes.xs).length a.f_Votes.c] 26 (0, 0)) :: F) (fun w S => S.perm List.perm_append_comm) ?_
          refine o_yes rfl rfl rfl ?_
          refine o_call rfl cal11 rfl (same_ (p := (⟨a.f_Kind, a.f_From, a.f_To, a.f_Group, a.f_Slot, a.f_Ballot, a.f_Value, ⟨a40, (a.f_Votes.xs.map toR), c40⟩⟩ : RMsg)) (q := (⟨b.f_Kind, b.f_From, b.f_To, b.f_Group, b.f_Slot, b.f_Ballot, b.f_Value, ⟨a42, (b.f_Votes.xs.map toR), c42⟩⟩ : RMsg)) (rds_own e_RVote_ok 1 rfl) (by first | assumption | (try dsimp only); (try simp only [List.length_map, List.length_nil]); omega) (rds_own e_RVote_ok 0 rfl) (by first | assumption | (try dsimp only); (try simp only [List.length_map, List.length_nil]); omega)) ?_
          rintro _ _ ⟨rfl, rfl⟩
          refine l_nil ?_
          refine q_conv (L' := (row e8.T e8.sz a24 (out24).length c24 (flat e8 out24) :: row e8.T e8.sz a19 (out19).length c19 (flat e8 out19) :: blk b3 (.cells #[.int .i64 b.f_Kind, .int .i64 b.f_From, .int .i64 b.f_To, .int .i64 b.f_Group, .int .i64 b.f_Slot, .int .u64 b.f_Ballot, .string b.f_Value, .slice b.f_Votes.a (b.f_Votes.xs).length b.f_Votes.c] 26 (0, 0)) :: blk b2 (.cells #[.int .i64 a.f_Kind, .int .i64 a.f_From, .int .i64 a.f_To, .int .i64 a.f_Group, .int .i64 a.f_Slot, .int .u64 a.f_Ballot, .string a.f_Value, .slice a.f_Votes.a (a.f_Votes.xs).length a.f_Votes.c] 26 (0, 0)) :: F) ++ [row e_RVote.T e_RVote.sz a42 ((b.f_Votes.xs.map toR)).length c42 (flat e_RVote (b.f_Votes.xs.map toR)), row e_RVote.T e_RVote.sz a40 ((a.f_Votes.xs.map toR)).length c40 (flat e_RVote (a.f_Votes.xs.map toR))]) (fun w S => S.perm (List.perm_append_comm (l₁ := [row e_RVote.T e_RVote.sz a42 ((b.f_Votes.xs.map toR)).length c42 (flat e_RVote (b.f_Votes.xs.map toR)), row e_RVote.T e_RVote.sz a40 ((a.f_Votes.xs.map toR)).length c40 (flat e_RVote (a.f_Votes.xs.map toR))]) (l₂ := row e8.T e8.sz a24 (out24).length c24 (flat e8 out24) :: row e8.T e8.sz a19 (out19).length c19 (flat e8 out19) :: blk b3 (.cells #[.int .i64 b.f_Kind, .int .i64 b.f_From, .int .i64 b.f_To, .int .i64 b.f_Group, .int .i64 b.f_Slot, .int .u64 b.f_Ballot, .string b.f_Value, .slice b.f_Votes.a (b.f_Votes.xs).length b.f_Votes.c] 26 (0, 0)) :: blk b2 (.cells #[.int .i64 a.f_Kind, .int .i64 a.f_From, .int .i64 a.f_To, .int .i64 a.f_Group, .int .i64 a.f_Slot, .int .u64 a.f_Ballot, .string a.f_Value, .slice a.f_Votes.a (a.f_Votes.xs).length a.f_Votes.c] 26 (0, 0)) :: F))) ?_
          refine h_next ?_
          refine h_take_yes 17 rfl rfl rfl rfl rfl (by kernel_rfl) (by kernel_rfl) (by kernel_rfl) (fun L0 => v_bin rfl rfl rfl (b_beq Try.underlying4 _ _)) ?_
          refine h_eq (t := 44) (v' := .bool true) rfl (show _ = Value.bool true from by rw [hout19, hout24, bbeq (apart (by assumption) (by assumption) wf_a wf_b)]) ?_
          refine h_take 18 rfl rfl (by kernel_rfl) (by kernel_rfl) (by kernel_rfl) (fun L0 => v_pick_false rfl rfl rfl) ?_
          refine h_take 19 rfl rfl (by kernel_rfl) (by kernel_rfl) (by kernel_rfl) (fun L0 => v_assign rfl rfl) ?_
          refine h_done (by kernel_rfl) ?_
          refine q_conv (L' := row e_RVote.T e_RVote.sz a42 ((b.f_Votes.xs.map toR)).length c42 (flat e_RVote (b.f_Votes.xs.map toR)) :: row e_RVote.T e_RVote.sz a40 ((a.f_Votes.xs.map toR)).length c40 (flat e_RVote (a.f_Votes.xs.map toR)) :: row e8.T e8.sz a24 (out24).length c24 (flat e8 out24) :: row e8.T e8.sz a19 (out19).length c19 (flat e8 out19) :: blk b3 (.cells #[.int .i64 b.f_Kind, .int .i64 b.f_From, .int .i64 b.f_To, .int .i64 b.f_Group, .int .i64 b.f_Slot, .int .u64 b.f_Ballot, .string b.f_Value, .slice b.f_Votes.a (b.f_Votes.xs).length b.f_Votes.c] 26 (0, 0)) :: blk b2 (.cells #[.int .i64 a.f_Kind, .int .i64 a.f_From, .int .i64 a.f_To, .int .i64 a.f_Group, .int .i64 a.f_Slot, .int .u64 a.f_Ballot, .string a.f_Value, .slice a.f_Votes.a (a.f_Votes.xs).length a.f_Votes.c] 26 (0, 0)) :: F) (fun w S => S.perm List.perm_append_comm) ?_
          refine q_then ?_
          refine c_ret ?_
          refine q_conv (fun w S => S.tail) ?_
          refine q_conv (fun w S => S.tail) ?_
          refine q_conv (fun w S => S.tail) ?_
          refine q_conv (fun w S => S.tail) ?_
          refine q_conv (fun w S => S.tail) ?_
          refine q_conv (fun w S => S.tail) ?_
          exact f_ret (r_one rfl rfl) (⟨rfl, rfl⟩) (fun w S => S)

end Go.Proofs.Ytoigakfglgdjdaa
