/- Printed by eng2.py out of 05/spec.py. -/
import Derived.Test.YtllclglbfdncnaaPSame
import Derived.Test.YtllclglbfdncnaaPCopy
import Derived.Test.YtllclglbfdncnaaNames
import Derived.Test.YtllclglbfdncnaaArgs
set_option linter.unusedVariables false
set_option linter.unusedSimpArgs false
set_option maxRecDepth 10000
namespace Go.Proofs.Ytllclglbfdncnaa
open Go.RowKit Classical
set_option maxHeartbeats 4000000 in
theorem same2_ {W : World} {F : List Res} {a b : Txn} (T_a : TxR W F a) (T_b : TxR W F b) : CS Try.prog 5 #[.agg #[.int .i64 a.f_Kind, .slice a.f_Reads.a (a.f_Reads.xs).length a.f_Reads.c, .slice a.f_Writes.a (a.f_Writes.xs).length a.f_Writes.c, .slice a.f_Ops.a (a.f_Ops.xs).length a.f_Ops.c, .int .i64 a.f_To], .agg #[.int .i64 b.f_Kind, .slice b.f_Reads.a (b.f_Reads.xs).length b.f_Reads.c, .slice b.f_Writes.a (b.f_Writes.xs).length b.f_Writes.c, .slice b.f_Ops.a (b.f_Ops.xs).length b.f_Ops.c, .int .i64 b.f_To]] W (F) (fun r L' => r = .bool true ∧ F = L') := by
  refine f_door (l0 := [(0, .agg #[.int .i64 a.f_Kind, .slice a.f_Reads.a (a.f_Reads.xs).length a.f_Reads.c, .slice a.f_Writes.a (a.f_Writes.xs).length a.f_Writes.c, .slice a.f_Ops.a (a.f_Ops.xs).length a.f_Ops.c, .int .i64 a.f_To]), (1, .agg #[.int .i64 b.f_Kind, .slice b.f_Reads.a (b.f_Reads.xs).length b.f_Reads.c, .slice b.f_Writes.a (b.f_Writes.xs).length b.f_Writes.c, .slice b.f_Ops.a (b.f_Ops.xs).length b.f_Ops.c, .int .i64 b.f_To])]) Try.func5 Try.ntmps5 rfl rfl rfl ?_
  refine c_seq ?_
  refine c_region ?_
  refine o_box rfl rfl fun b2 => ?_
  refine o_box rfl rfl fun b3 => ?_
  refine o_assign rfl rfl ?_
  refine l_nil ?_
  refine q_then ?_
  refine c_seq ?_
  refine c_seq ?_
  refine c_region ?_
  refine o_call rfl cal10 rfl (speaks_) ?_
  rintro _ _ ⟨rfl, rfl⟩
  refine o_not rfl rfl ?_
  refine l_nil ?_
  refine q_then ?_
  refine c_false rfl ?_
  refine c_skip ?_
  refine q_then ?_
  refine c_seq ?_
  refine c_seq ?_
  refine c_region ?_
  refine o_loadn (vs := [_, _, _, _, _]) rfl rfl Try.underlying26 rfl ti26 (rdn_lit 1 rfl rfl) ?_
  refine o_call rfl cal11 rfl (great_ (t := a) (TxR.c (TxR.c T_a))) ?_
  rintro _ _ ⟨g14, hg14, rfl, rfl⟩
  refine o_move rfl rfl ?_
  refine l_split (t := 15) rfl (fun h1 => ?_) (fun h1 => ?_)
  · -- h1T
    have h1b := h1
    try simp only [decide_eq_true_eq, decide_eq_false_iff_not, Bool.not_eq_eq_eq_not, Bool.not_true, Bool.not_false, Bool.not_eq_true', Bool.not_eq_false', Int.not_lt, Int.not_le, Bool.or_eq_true, Bool.and_eq_true] at h1
    refine o_no rfl rfl rfl rfl ?_
    refine o_no rfl rfl rfl rfl ?_
    refine o_pick_true rfl rfl rfl ?_
    refine l_nil ?_
    refine q_then ?_
    refine c_true rfl ?_
    refine c_seq ?_
    refine c_region ?_
    refine o_assign rfl rfl ?_
    refine l_nil ?_
    refine q_then ?_
    refine c_ret ?_
    refine q_pass_ret ?_
    refine q_conv (fun w S => S.tail) ?_
    refine q_conv (fun w S => S.tail) ?_
    exact f_ret (r_one rfl rfl) (⟨rfl, rfl⟩) (fun w S => S)
  · -- h1F
    have h1b := h1
    try simp only [decide_eq_true_eq, decide_eq_false_iff_not, Bool.not_eq_eq_eq_not, Bool.not_true, Bool.not_false, Bool.not_eq_true', Bool.not_eq_false', Int.not_lt, Int.not_le, Bool.or_eq_true, Bool.and_eq_true] at h1
    refine o_yes rfl rfl rfl ?_
    refine o_loadn (vs := [_, _, _, _, _]) rfl rfl Try.underlying26 rfl ti26 (rdn_lit 0 rfl rfl) ?_
    refine o_yes rfl rfl rfl ?_
    refine o_call rfl cal11 rfl (great_ (t := b) (TxR.c (TxR.c T_b))) ?_
    rintro _ _ ⟨g17, hg17, rfl, rfl⟩
    refine o_pick_false rfl rfl rfl ?_
    refine l_nil ?_
    refine q_then ?_
    refine c_cond rfl (fun h2 => ?_) (fun h2 => ?_)
    · -- h2T
      have h2b := h2
      try simp only [decide_eq_true_eq, decide_eq_false_iff_not, Bool.not_eq_eq_eq_not, Bool.not_true, Bool.not_false, Bool.not_eq_true', Bool.not_eq_false', Int.not_lt, Int.not_le, Bool.or_eq_true, Bool.and_eq_true] at h2
      refine c_seq ?_
      refine c_region ?_
      refine o_assign rfl rfl ?_
      refine l_nil ?_
      refine q_then ?_
      refine c_ret ?_
      refine q_pass_ret ?_
      refine q_conv (fun w S => S.tail) ?_
      refine q_conv (fun w S => S.tail) ?_
      exact f_ret (r_one rfl rfl) (⟨rfl, rfl⟩) (fun w S => S)
    · -- h2F
      have h2b := h2
      try simp only [decide_eq_true_eq, decide_eq_false_iff_not, Bool.not_eq_eq_eq_not, Bool.not_true, Bool.not_false, Bool.not_eq_true', Bool.not_eq_false', Int.not_lt, Int.not_le, Bool.or_eq_true, Bool.and_eq_true] at h2
      refine c_skip ?_
      refine q_then ?_
      refine c_seq ?_
      refine c_region ?_
      refine o_loadn (vs := [_, _, _, _, _]) rfl rfl Try.underlying26 rfl ti26 (rdn_lit 1 rfl rfl) ?_
      refine o_call rfl cal12 rfl (copy_ (t := a) (TxR.c (TxR.c T_a)) (hg14 (by assumption))) ?_
      rintro _ _ ⟨c20, hs_c20, rfl, rfl⟩
      have L_c20 : TxLen c20 := TxLen.same T_a.len hs_c20
      refine o_alloc rfl ti26 fun b5 => ?_
      refine o_storen rfl rfl ti26 rfl rfl rfl rfl ?_
      refine l_nil ?_
      refine q_then ?_
      refine c_seq ?_
      refine c_region ?_
      refine o_loadn (vs := [_, _, _, _, _]) rfl rfl Try.underlying26 rfl ti26 (rdn_lit 0 rfl rfl) ?_
      refine o_call rfl cal16 rfl (pcopy_ (t := c20) (txM_R L_c20 1 rfl) (Smalls.same (hg14 (by assumption)) hs_c20)) ?_
      rintro _ _ ⟨c22, hs_c22, rfl, rfl⟩
      have L_c22 : TxLen c22 := TxLen.same (txM_R L_c20 0 rfl : TxR W [txM c20] c20).len hs_c22
      refine o_alloc rfl ti26 fun b6 => ?_
      refine o_storen rfl rfl ti26 rfl rfl rfl rfl ?_
      refine l_nil ?_
      refine q_then ?_
      refine c_seq ?_
      refine c_seq ?_
      refine c_heldF [] (blk b6 (.cells #[.int .i64 c22.f_Kind, .slice c22.f_Reads.a (c22.f_Reads.xs).length c22.f_Reads.c, .slice c22.f_Writes.a (c22.f_Writes.xs).length c22.f_Writes.c, .slice c22.f_Ops.a (c22.f_Ops.xs).length c22.f_Ops.c, .int .i64 c22.f_To] 26 (0, 0)) :: txM c22 :: blk b5 (.cells #[.int .i64 c20.f_Kind, .slice c20.f_Reads.a (c20.f_Reads.xs).length c20.f_Reads.c, .slice c20.f_Writes.a (c20.f_Writes.xs).length c20.f_Writes.c, .slice c20.f_Ops.a (c20.f_Ops.xs).length c20.f_Ops.c, .int .i64 c20.f_To] 26 (0, 0)) :: txM c20 :: blk b3 (.cells #[.int .i64 b.f_Kind, .slice b.f_Reads.a (b.f_Reads.xs).length b.f_Reads.c, .slice b.f_Writes.a (b.f_Writes.xs).length b.f_Writes.c, .slice b.f_Ops.a (b.f_Ops.xs).length b.f_Ops.c, .int .i64 b.f_To] 26 (0, 0)) :: blk b2 (.cells #[.int .i64 a.f_Kind, .slice a.f_Reads.a (a.f_Reads.xs).length a.f_Reads.c, .slice a.f_Writes.a (a.f_Writes.xs).length a.f_Writes.c, .slice a.f_Ops.a (a.f_Ops.xs).length a.f_Ops.c, .int .i64 a.f_To] 26 (0, 0)) :: F) (by kernel_rfl) ?_
      refine h_take 0 rfl rfl (by kernel_rfl) (by kernel_rfl) (by kernel_rfl) (fun L0 => v_loadn (vs := [_, _, _, _, _]) rfl rfl Try.underlying26 rfl ti26 (rdn_lit 0 rfl rfl)) ?_
      refine h_take 1 rfl rfl (by kernel_rfl) (by kernel_rfl) (by kernel_rfl) (fun L0 => v_loadn (vs := [_, _, _, _, _]) rfl rfl Try.underlying26 rfl ti26 (rdn_lit 5 rfl rfl)) ?_
      refine h_one 2 rfl (by kernel_rfl) ?_
      refine l_conv (L' := blk b6 (.cells #[.int .i64 c22.f_Kind, .slice c22.f_Reads.a (c22.f_Reads.xs).length c22.f_Reads.c, .slice c22.f_Writes.a (c22.f_Writes.xs).length c22.f_Writes.c, .slice c22.f_Ops.a (c22.f_Ops.xs).length c22.f_Ops.c, .int .i64 c22.f_To] 26 (0, 0)) :: txM c22 :: blk b5 (.cells #[.int .i64 c20.f_Kind, .slice c20.f_Reads.a (c20.f_Reads.xs).length c20.f_Reads.c, .slice c20.f_Writes.a (c20.f_Writes.xs).length c20.f_Writes.c, .slice c20.f_Ops.a (c20.f_Ops.xs).length c20.f_Ops.c, .int .i64 c20.f_To] 26 (0, 0)) :: txM c20 :: blk b3 (.cells #[.int .i64 b.f_Kind, .slice b.f_Reads.a (b.f_Reads.xs).length b.f_Reads.c, .slice b.f_Writes.a (b.f_Writes.xs).length b.f_Writes.c, .slice b.f_Ops.a (b.f_Ops.xs).length b.f_Ops.c, .int .i64 b.f_To] 26 (0, 0)) :: blk b2 (.cells #[.int .i64 a.f_Kind, .slice a.f_Reads.a (a.f_Reads.xs).length a.f_Reads.c, .slice a.f_Writes.a (a.f_Writes.xs).length a.f_Writes.c, .slice a.f_Ops.a (a.f_Ops.xs).length a.f_Ops.c, .int .i64 a.f_To] 26 (0, 0)) :: F) (fun w S => S.perm List.perm_append_comm) ?_
      refine o_call rfl cal15 rfl (same_ (a := c22) (b := a) (txM_R L_c22 1 rfl) (TxR.c (TxR.c (TxR.c (TxR.c (TxR.c (TxR.c T_a))))))) ?_
      rintro _ _ ⟨rfl, rfl⟩
      refine l_nil ?_
      refine q_conv (L' := (blk b6 (.cells #[.int .i64 c22.f_Kind, .slice c22.f_Reads.a (c22.f_Reads.xs).length c22.f_Reads.c, .slice c22.f_Writes.a (c22.f_Writes.xs).length c22.f_Writes.c, .slice c22.f_Ops.a (c22.f_Ops.xs).length c22.f_Ops.c, .int .i64 c22.f_To] 26 (0, 0)) :: txM c22 :: blk b5 (.cells #[.int .i64 c20.f_Kind, .slice c20.f_Reads.a (c20.f_Reads.xs).length c20.f_Reads.c, .slice c20.f_Writes.a (c20.f_Writes.xs).length c20.f_Writes.c, .slice c20.f_Ops.a (c20.f_Ops.xs).length c20.f_Ops.c, .int .i64 c20.f_To] 26 (0, 0)) :: txM c20 :: blk b3 (.cells #[.int .i64 b.f_Kind, .slice b.f_Reads.a (b.f_Reads.xs).length b.f_Reads.c, .slice b.f_Writes.a (b.f_Writes.xs).length b.f_Writes.c, .slice b.f_Ops.a (b.f_Ops.xs).length b.f_Ops.c, .int .i64 b.f_To] 26 (0, 0)) :: blk b2 (.cells #[.int .i64 a.f_Kind, .slice a.f_Reads.a (a.f_Reads.xs).length a.f_Reads.c, .slice a.f_Writes.a (a.f_Writes.xs).length a.f_Writes.c, .slice a.f_Ops.a (a.f_Ops.xs).length a.f_Ops.c, .int .i64 a.f_To] 26 (0, 0)) :: F) ++ []) (fun w S => S.perm (List.perm_append_comm (l₁ := []) (l₂ := blk b6 (.cells #[.int .i64 c22.f_Kind, .slice c22.f_Reads.a (c22.f_Reads.xs).length c22.f_Reads.c, .slice c22.f_Writes.a (c22.f_Writes.xs).length c22.f_Writes.c, .slice c22.f_Ops.a (c22.f_Ops.xs).length c22.f_Ops.c, .int .i64 c22.f_To] 26 (0, 0)) :: txM c22 :: blk b5 (.cells #[.int .i64 c20.f_Kind, .slice c20.f_Reads.a (c20.f_Reads.xs).length c20.f_Reads.c, .slice c20.f_Writes.a (c20.f_Writes.xs).length c20.f_Writes.c, .slice c20.f_Ops.a (c20.f_Ops.xs).length c20.f_Ops.c, .int .i64 c20.f_To] 26 (0, 0)) :: txM c20 :: blk b3 (.cells #[.int .i64 b.f_Kind, .slice b.f_Reads.a (b.f_Reads.xs).length b.f_Reads.c, .slice b.f_Writes.a (b.f_Writes.xs).length b.f_Writes.c, .slice b.f_Ops.a (b.f_Ops.xs).length b.f_Ops.c, .int .i64 b.f_To] 26 (0, 0)) :: blk b2 (.cells #[.int .i64 a.f_Kind, .slice a.f_Reads.a (a.f_Reads.xs).length a.f_Reads.c, .slice a.f_Writes.a (a.f_Writes.xs).length a.f_Writes.c, .slice a.f_Ops.a (a.f_Ops.xs).length a.f_Ops.c, .int .i64 a.f_To] 26 (0, 0)) :: F))) ?_
      refine h_next ?_
      refine h_eq (t := 25) (v' := .bool true) rfl (show _ = Value.bool true from by rw [decide_eq_true (same_trans hs_c22 hs_c20)]) ?_
      refine h_take 3 rfl rfl (by kernel_rfl) (by kernel_rfl) (by kernel_rfl) (fun L0 => v_not rfl rfl) ?_
      refine h_take 4 rfl rfl (by kernel_rfl) (by kernel_rfl) (by kernel_rfl) (fun L0 => v_move rfl rfl) ?_
      refine h_take_yes 5 rfl rfl rfl rfl rfl (by kernel_rfl) (by kernel_rfl) (by kernel_rfl) (fun L0 => v_loadn (vs := [_, _, _, _, _]) rfl rfl Try.underlying26 rfl ti26 (rdn_lit 5 rfl rfl)) ?_
      refine h_take_yes 6 rfl rfl rfl rfl rfl (by kernel_rfl) (by kernel_rfl) (by kernel_rfl) (fun L0 => v_loadn (vs := [_, _, _, _, _]) rfl rfl Try.underlying26 rfl ti26 (rdn_lit 4 rfl rfl)) ?_
      refine h_take_yes 8 rfl rfl rfl rfl rfl (by kernel_rfl) (by kernel_rfl) (by kernel_rfl) (fun L0 => v_loadn (vs := [_, _, _, _, _]) rfl rfl Try.underlying26 rfl ti26 (rdn_lit 5 rfl rfl)) ?_
      refine h_take_yes 9 rfl rfl rfl rfl rfl (by kernel_rfl) (by kernel_rfl) (by kernel_rfl) (fun L0 => v_loadn (vs := [_, _, _, _, _]) rfl rfl Try.underlying26 rfl ti26 (rdn_lit 4 rfl rfl)) ?_
      refine h_one 7 rfl (by kernel_rfl) ?_
      refine l_conv (L' := blk b6 (.cells #[.int .i64 c22.f_Kind, .slice c22.f_Reads.a (c22.f_Reads.xs).length c22.f_Reads.c, .slice c22.f_Writes.a (c22.f_Writes.xs).length c22.f_Writes.c, .slice c22.f_Ops.a (c22.f_Ops.xs).length c22.f_Ops.c, .int .i64 c22.f_To] 26 (0, 0)) :: txM c22 :: blk b5 (.cells #[.int .i64 c20.f_Kind, .slice c20.f_Reads.a (c20.f_Reads.xs).length c20.f_Reads.c, .slice c20.f_Writes.a (c20.f_Writes.xs).length c20.f_Writes.c, .slice c20.f_Ops.a (c20.f_Ops.xs).length c20.f_Ops.c, .int .i64 c20.f_To] 26 (0, 0)) :: txM c20 :: blk b3 (.cells #[.int .i64 b.f_Kind, .slice b.f_Reads.a (b.f_Reads.xs).length b.f_Reads.c, .slice b.f_Writes.a (b.f_Writes.xs).length b.f_Writes.c, .slice b.f_Ops.a (b.f_Ops.xs).length b.f_Ops.c, .int .i64 b.f_To] 26 (0, 0)) :: blk b2 (.cells #[.int .i64 a.f_Kind, .slice a.f_Reads.a (a.f_Reads.xs).length a.f_Reads.c, .slice a.f_Writes.a (a.f_Writes.xs).length a.f_Writes.c, .slice a.f_Ops.a (a.f_Ops.xs).length a.f_Ops.c, .int .i64 a.f_To] 26 (0, 0)) :: F) (fun w S => S.perm List.perm_append_comm) ?_
      refine o_yes rfl rfl rfl ?_
      refine o_call rfl cal17 rfl (psame_ (a := a) (b := b) (TxR.c (TxR.c (TxR.c (TxR.c (TxR.c (TxR.c T_a)))))) (TxR.c (TxR.c (TxR.c (TxR.c (TxR.c (TxR.c T_b))))))) ?_
      rintro _ _ ⟨rfl, rfl⟩
      refine l_nil ?_
      refine q_conv (L' := (blk b6 (.cells #[.int .i64 c22.f_Kind, .slice c22.f_Reads.a (c22.f_Reads.xs).length c22.f_Reads.c, .slice c22.f_Writes.a (c22.f_Writes.xs).length c22.f_Writes.c, .slice c22.f_Ops.a (c22.f_Ops.xs).length c22.f_Ops.c, .int .i64 c22.f_To] 26 (0, 0)) :: txM c22 :: blk b5 (.cells #[.int .i64 c20.f_Kind, .slice c20.f_Reads.a (c20.f_Reads.xs).length c20.f_Reads.c, .slice c20.f_Writes.a (c20.f_Writes.xs).length c20.f_Writes.c, .slice c20.f_Ops.a (c20.f_Ops.xs).length c20.f_Ops.c, .int .i64 c20.f_To] 26 (0, 0)) :: txM c20 :: blk b3 (.cells #[.int .i64 b.f_Kind, .slice b.f_Reads.a (b.f_Reads.xs).length b.f_Reads.c, .slice b.f_Writes.a (b.f_Writes.xs).length b.f_Writes.c, .slice b.f_Ops.a (b.f_Ops.xs).length b.f_Ops.c, .int .i64 b.f_To] 26 (0, 0)) :: blk b2 (.cells #[.int .i64 a.f_Kind, .slice a.f_Reads.a (a.f_Reads.xs).length a.f_Reads.c, .slice a.f_Writes.a (a.f_Writes.xs).length a.f_Writes.c, .slice a.f_Ops.a (a.f_Ops.xs).length a.f_Ops.c, .int .i64 a.f_To] 26 (0, 0)) :: F) ++ []) (fun w S => S.perm (List.perm_append_comm (l₁ := []) (l₂ := blk b6 (.cells #[.int .i64 c22.f_Kind, .slice c22.f_Reads.a (c22.f_Reads.xs).length c22.f_Reads.c, .slice c22.f_Writes.a (c22.f_Writes.xs).length c22.f_Writes.c, .slice c22.f_Ops.a (c22.f_Ops.xs).length c22.f_Ops.c, .int .i64 c22.f_To] 26 (0, 0)) :: txM c22 :: blk b5 (.cells #[.int .i64 c20.f_Kind, .slice c20.f_Reads.a (c20.f_Reads.xs).length c20.f_Reads.c, .slice c20.f_Writes.a (c20.f_Writes.xs).length c20.f_Writes.c, .slice c20.f_Ops.a (c20.f_Ops.xs).length c20.f_Ops.c, .int .i64 c20.f_To] 26 (0, 0)) :: txM c20 :: blk b3 (.cells #[.int .i64 b.f_Kind, .slice b.f_Reads.a (b.f_Reads.xs).length b.f_Reads.c, .slice b.f_Writes.a (b.f_Writes.xs).length b.f_Writes.c, .slice b.f_Ops.a (b.f_Ops.xs).length b.f_Ops.c, .int .i64 b.f_To] 26 (0, 0)) :: blk b2 (.cells #[.int .i64 a.f_Kind, .slice a.f_Reads.a (a.f_Reads.xs).length a.f_Reads.c, .slice a.f_Writes.a (a.f_Writes.xs).length a.f_Writes.c, .slice a.f_Ops.a (a.f_Ops.xs).length a.f_Ops.c, .int .i64 a.f_To] 26 (0, 0)) :: F))) ?_
      refine h_next ?_
      refine h_one 10 rfl (by kernel_rfl) ?_
      refine l_conv (L' := blk b6 (.cells #[.int .i64 c22.f_Kind, .slice c22.f_Reads.a (c22.f_Reads.xs).length c22.f_Reads.c, .slice c22.f_Writes.a (c22.f_Writes.xs).length c22.f_Writes.c, .slice c22.f_Ops.a (c22.f_Ops.xs).length c22.f_Ops.c, .int .i64 c22.f_To] 26 (0, 0)) :: txM c22 :: blk b5 (.cells #[.int .i64 c20.f_Kind, .slice c20.f_Reads.a (c20.f_Reads.xs).length c20.f_Reads.c, .slice c20.f_Writes.a (c20.f_Writes.xs).length c20.f_Writes.c, .slice c20.f_Ops.a (c20.f_Ops.xs).length c20.f_Ops.c, .int .i64 c20.f_To] 26 (0, 0)) :: txM c20 :: blk b3 (.cells #[.int .i64 b.f_Kind, .slice b.f_Reads.a (b.f_Reads.xs).length b.f_Reads.c, .slice b.f_Writes.a (b.f_Writes.xs).length b.f_Writes.c, .slice b.f_Ops.a (b.f_Ops.xs).length b.f_Ops.c, .int .i64 b.f_To] 26 (0, 0)) :: blk b2 (.cells #[.int .i64 a.f_Kind, .slice a.f_Reads.a (a.f_Reads.xs).length a.f_Reads.c, .slice a.f_Writes.a (a.f_Writes.xs).length a.f_Writes.c, .slice a.f_Ops.a (a.f_Ops.xs).length a.f_Ops.c, .int .i64 a.f_To] 26 (0, 0)) :: F) (fun w S => S.perm List.perm_append_comm) ?_
      refine o_yes rfl rfl rfl ?_
      refine o_call rfl cal15 rfl (same_ (a := a) (b := b) (TxR.c (TxR.c (TxR.c (TxR.c (TxR.c (TxR.c T_a)))))) (TxR.c (TxR.c (TxR.c (TxR.c (TxR.c (TxR.c T_b))))))) ?_
      rintro _ _ ⟨rfl, rfl⟩
      refine l_nil ?_
      refine q_conv (L' := (blk b6 (.cells #[.int .i64 c22.f_Kind, .slice c22.f_Reads.a (c22.f_Reads.xs).length c22.f_Reads.c, .slice c22.f_Writes.a (c22.f_Writes.xs).length c22.f_Writes.c, .slice c22.f_Ops.a (c22.f_Ops.xs).length c22.f_Ops.c, .int .i64 c22.f_To] 26 (0, 0)) :: txM c22 :: blk b5 (.cells #[.int .i64 c20.f_Kind, .slice c20.f_Reads.a (c20.f_Reads.xs).length c20.f_Reads.c, .slice c20.f_Writes.a (c20.f_Writes.xs).length c20.f_Writes.c, .slice c20.f_Ops.a (c20.f_Ops.xs).length c20.f_Ops.c, .int .i64 c20.f_To] 26 (0, 0)) :: txM c20 :: blk b3 (.cells #[.int .i64 b.f_Kind, .slice b.f_Reads.a (b.f_Reads.xs).length b.f_Reads.c, .slice b.f_Writes.a (b.f_Writes.xs).length b.f_Writes.c, .slice b.f_Ops.a (b.f_Ops.xs).length b.f_Ops.c, .int .i64 b.f_To] 26 (0, 0)) :: blk b2 (.cells #[.int .i64 a.f_Kind, .slice a.f_Reads.a (a.f_Reads.xs).length a.f_Reads.c, .slice a.f_Writes.a (a.f_Writes.xs).length a.f_Writes.c, .slice a.f_Ops.a (a.f_Ops.xs).length a.f_Ops.c, .int .i64 a.f_To] 26 (0, 0)) :: F) ++ []) (fun w S => S.perm (List.perm_append_comm (l₁ := []) (l₂ := blk b6 (.cells #[.int .i64 c22.f_Kind, .slice c22.f_Reads.a (c22.f_Reads.xs).length c22.f_Reads.c, .slice c22.f_Writes.a (c22.f_Writes.xs).length c22.f_Writes.c, .slice c22.f_Ops.a (c22.f_Ops.xs).length c22.f_Ops.c, .int .i64 c22.f_To] 26 (0, 0)) :: txM c22 :: blk b5 (.cells #[.int .i64 c20.f_Kind, .slice c20.f_Reads.a (c20.f_Reads.xs).length c20.f_Reads.c, .slice c20.f_Writes.a (c20.f_Writes.xs).length c20.f_Writes.c, .slice c20.f_Ops.a (c20.f_Ops.xs).length c20.f_Ops.c, .int .i64 c20.f_To] 26 (0, 0)) :: txM c20 :: blk b3 (.cells #[.int .i64 b.f_Kind, .slice b.f_Reads.a (b.f_Reads.xs).length b.f_Reads.c, .slice b.f_Writes.a (b.f_Writes.xs).length b.f_Writes.c, .slice b.f_Ops.a (b.f_Ops.xs).length b.f_Ops.c, .int .i64 b.f_To] 26 (0, 0)) :: blk b2 (.cells #[.int .i64 a.f_Kind, .slice a.f_Reads.a (a.f_Reads.xs).length a.f_Reads.c, .slice a.f_Writes.a (a.f_Writes.xs).length a.f_Writes.c, .slice a.f_Ops.a (a.f_Ops.xs).length a.f_Ops.c, .int .i64 a.f_To] 26 (0, 0)) :: F))) ?_
      refine h_next ?_
      refine h_take_yes 11 rfl rfl rfl rfl rfl (by kernel_rfl) (by kernel_rfl) (by kernel_rfl) (fun L0 => v_bin rfl rfl rfl (b_bne Try.underlying4 _ _)) ?_
      refine h_eq (t := 34) (v' := .bool false) rfl (show _ = Value.bool false from by simp) ?_
      refine h_take 12 rfl rfl (by kernel_rfl) (by kernel_rfl) (by kernel_rfl) (fun L0 => v_pick_false rfl rfl rfl) ?_
      refine h_take 13 rfl rfl (by kernel_rfl) (by kernel_rfl) (by kernel_rfl) (fun L0 => v_move rfl rfl) ?_
      refine h_take_yes 14 rfl rfl rfl rfl rfl (by kernel_rfl) (by kernel_rfl) (by kernel_rfl) (fun L0 => v_loadn (vs := [_, _, _, _, _]) rfl rfl Try.underlying26 rfl ti26 (rdn_lit 0 rfl rfl)) ?_
      refine h_take_yes 15 rfl rfl rfl rfl rfl (by kernel_rfl) (by kernel_rfl) (by kernel_rfl) (fun L0 => v_loadn (vs := [_, _, _, _, _]) rfl rfl Try.underlying26 rfl ti26 (rdn_lit 5 rfl rfl)) ?_
      refine h_one 16 rfl (by kernel_rfl) ?_
      refine l_conv (L' := blk b6 (.cells #[.int .i64 c22.f_Kind, .slice c22.f_Reads.a (c22.f_Reads.xs).length c22.f_Reads.c, .slice c22.f_Writes.a (c22.f_Writes.xs).length c22.f_Writes.c, .slice c22.f_Ops.a (c22.f_Ops.xs).length c22.f_Ops.c, .int .i64 c22.f_To] 26 (0, 0)) :: txM c22 :: blk b5 (.cells #[.int .i64 c20.f_Kind, .slice c20.f_Reads.a (c20.f_Reads.xs).length c20.f_Reads.c, .slice c20.f_Writes.a (c20.f_Writes.xs).length c20.f_Writes.c, .slice c20.f_Ops.a (c20.f_Ops.xs).length c20.f_Ops.c, .int .i64 c20.f_To] 26 (0, 0)) :: txM c20 :: blk b3 (.cells #[.int .i64 b.f_Kind, .slice b.f_Reads.a (b.f_Reads.xs).length b.f_Reads.c, .slice b.f_Writes.a (b.f_Writes.xs).length b.f_Writes.c, .slice b.f_Ops.a (b.f_Ops.xs).length b.f_Ops.c, .int .i64 b.f_To] 26 (0, 0)) :: blk b2 (.cells #[.int .i64 a.f_Kind, .slice a.f_Reads.a (a.f_Reads.xs).length a.f_Reads.c, .slice a.f_Writes.a (a.f_Writes.xs).length a.f_Writes.c, .slice a.f_Ops.a (a.f_Ops.xs).length a.f_Ops.c, .int .i64 a.f_To] 26 (0, 0)) :: F) (fun w S => S.perm List.perm_append_comm) ?_
      refine o_yes rfl rfl rfl ?_
      refine o_call rfl cal17 rfl (psame_ (a := c22) (b := a) (txM_R L_c22 1 rfl) (TxR.c (TxR.c (TxR.c (TxR.c (TxR.c (TxR.c T_a))))))) ?_
      rintro _ _ ⟨rfl, rfl⟩
      refine l_nil ?_
      refine q_conv (L' := (blk b6 (.cells #[.int .i64 c22.f_Kind, .slice c22.f_Reads.a (c22.f_Reads.xs).length c22.f_Reads.c, .slice c22.f_Writes.a (c22.f_Writes.xs).length c22.f_Writes.c, .slice c22.f_Ops.a (c22.f_Ops.xs).length c22.f_Ops.c, .int .i64 c22.f_To] 26 (0, 0)) :: txM c22 :: blk b5 (.cells #[.int .i64 c20.f_Kind, .slice c20.f_Reads.a (c20.f_Reads.xs).length c20.f_Reads.c, .slice c20.f_Writes.a (c20.f_Writes.xs).length c20.f_Writes.c, .slice c20.f_Ops.a (c20.f_Ops.xs).length c20.f_Ops.c, .int .i64 c20.f_To] 26 (0, 0)) :: txM c20 :: blk b3 (.cells #[.int .i64 b.f_Kind, .slice b.f_Reads.a (b.f_Reads.xs).length b.f_Reads.c, .slice b.f_Writes.a (b.f_Writes.xs).length b.f_Writes.c, .slice b.f_Ops.a (b.f_Ops.xs).length b.f_Ops.c, .int .i64 b.f_To] 26 (0, 0)) :: blk b2 (.cells #[.int .i64 a.f_Kind, .slice a.f_Reads.a (a.f_Reads.xs).length a.f_Reads.c, .slice a.f_Writes.a (a.f_Writes.xs).length a.f_Writes.c, .slice a.f_Ops.a (a.f_Ops.xs).length a.f_Ops.c, .int .i64 a.f_To] 26 (0, 0)) :: F) ++ []) (fun w S => S.perm (List.perm_append_comm (l₁ := []) (l₂ := blk b6 (.cells #[.int .i64 c22.f_Kind, .slice c22.f_Reads.a (c22.f_Reads.xs).length c22.f_Reads.c, .slice c22.f_Writes.a (c22.f_Writes.xs).length c22.f_Writes.c, .slice c22.f_Ops.a (c22.f_Ops.xs).length c22.f_Ops.c, .int .i64 c22.f_To] 26 (0, 0)) :: txM c22 :: blk b5 (.cells #[.int .i64 c20.f_Kind, .slice c20.f_Reads.a (c20.f_Reads.xs).length c20.f_Reads.c, .slice c20.f_Writes.a (c20.f_Writes.xs).length c20.f_Writes.c, .slice c20.f_Ops.a (c20.f_Ops.xs).length c20.f_Ops.c, .int .i64 c20.f_To] 26 (0, 0)) :: txM c20 :: blk b3 (.cells #[.int .i64 b.f_Kind, .slice b.f_Reads.a (b.f_Reads.xs).length b.f_Reads.c, .slice b.f_Writes.a (b.f_Writes.xs).length b.f_Writes.c, .slice b.f_Ops.a (b.f_Ops.xs).length b.f_Ops.c, .int .i64 b.f_To] 26 (0, 0)) :: blk b2 (.cells #[.int .i64 a.f_Kind, .slice a.f_Reads.a (a.f_Reads.xs).length a.f_Reads.c, .slice a.f_Writes.a (a.f_Writes.xs).length a.f_Writes.c, .slice a.f_Ops.a (a.f_Ops.xs).length a.f_Ops.c, .int .i64 a.f_To] 26 (0, 0)) :: F))) ?_
      refine h_next ?_
      refine h_eq (t := 39) (v' := .bool true) rfl (show _ = Value.bool true from by rw [decide_eq_true (same_trans hs_c22 hs_c20)]) ?_
      refine h_take_yes 17 rfl rfl rfl rfl rfl (by kernel_rfl) (by kernel_rfl) (by kernel_rfl) (fun L0 => v_not rfl rfl) ?_
      refine h_take 18 rfl rfl (by kernel_rfl) (by kernel_rfl) (by kernel_rfl) (fun L0 => v_pick_false rfl rfl rfl) ?_
      refine h_done (by kernel_rfl) ?_
      refine q_conv (L' := blk b6 (.cells #[.int .i64 c22.f_Kind, .slice c22.f_Reads.a (c22.f_Reads.xs).length c22.f_Reads.c, .slice c22.f_Writes.a (c22.f_Writes.xs).length c22.f_Writes.c, .slice c22.f_Ops.a (c22.f_Ops.xs).length c22.f_Ops.c, .int .i64 c22.f_To] 26 (0, 0)) :: txM c22 :: blk b5 (.cells #[.int .i64 c20.f_Kind, .slice c20.f_Reads.a (c20.f_Reads.xs).length c20.f_Reads.c, .slice c20.f_Writes.a (c20.f_Writes.xs).length c20.f_Writes.c, .slice c20.f_Ops.a (c20.f_Ops.xs).length c20.f_Ops.c, .int .i64 c20.f_To] 26 (0, 0)) :: txM c20 :: blk b3 (.cells #[.int .i64 b.f_Kind, .slice b.f_Reads.a (b.f_Reads.xs).length b.f_Reads.c, .slice b.f_Writes.a (b.f_Writes.xs).length b.f_Writes.c, .slice b.f_Ops.a (b.f_Ops.xs).length b.f_Ops.c, .int .i64 b.f_To] 26 (0, 0)) :: blk b2 (.cells #[.int .i64 a.f_Kind, .slice a.f_Reads.a (a.f_Reads.xs).length a.f_Reads.c, .slice a.f_Writes.a (a.f_Writes.xs).length a.f_Writes.c, .slice a.f_Ops.a (a.f_Ops.xs).length a.f_Ops.c, .int .i64 a.f_To] 26 (0, 0)) :: F) (fun w S => S.perm List.perm_append_comm) ?_
      refine q_then ?_
      refine c_false rfl ?_
      refine c_skip ?_
      refine q_then ?_
      refine c_seq ?_
      refine c_seq ?_
      have hsm2 : Smalls c22 := Smalls.same (Smalls.same (hg14 (by assumption)) hs_c20) hs_c22
      have hsr := hsm2.r
      have hsw := hsm2.w
      have hso := hsm2.o
      refine c_conv (fun w S => S.perm p1) ?_
      refine c_conv (L' := row e_S.T e_S.sz c22.f_Reads.a (c22.f_Reads.xs).length c22.f_Reads.c (flat e_S c22.f_Reads.xs) :: row e_S.T e_S.sz c22.f_Writes.a (c22.f_Writes.xs).length c22.f_Writes.c (flat e_S c22.f_Writes.xs) :: row e_Op.T e_Op.sz c22.f_Ops.a (c22.f_Ops.xs).length c22.f_Ops.c (flat e_Op c22.f_Ops.xs) :: stars ((c22.f_Ops.xs.map Op.f_Value).map (vrow e8)) :: blk b6 (.cells #[.int .i64 c22.f_Kind, .slice c22.f_Reads.a (c22.f_Reads.xs).length c22.f_Reads.c, .slice c22.f_Writes.a (c22.f_Writes.xs).length c22.f_Writes.c, .slice c22.f_Ops.a (c22.f_Ops.xs).length c22.f_Ops.c, .int .i64 c22.f_To] 26 (0, 0)) :: blk b5 (.cells #[.int .i64 c20.f_Kind, .slice c20.f_Reads.a (c20.f_Reads.xs).length c20.f_Reads.c, .slice c20.f_Writes.a (c20.f_Writes.xs).length c20.f_Writes.c, .slice c20.f_Ops.a (c20.f_Ops.xs).length c20.f_Ops.c, .int .i64 c20.f_To] 26 (0, 0)) :: txM c20 :: blk b3 (.cells #[.int .i64 b.f_Kind, .slice b.f_Reads.a (b.f_Reads.xs).length b.f_Reads.c, .slice b.f_Writes.a (b.f_Writes.xs).length b.f_Writes.c, .slice b.f_Ops.a (b.f_Ops.xs).length b.f_Ops.c, .int .i64 b.f_To] 26 (0, 0)) :: blk b2 (.cells #[.int .i64 a.f_Kind, .slice a.f_Reads.a (a.f_Reads.xs).length a.f_Reads.c, .slice a.f_Writes.a (a.f_Writes.xs).length a.f_Writes.c, .slice a.f_Ops.a (a.f_Ops.xs).length a.f_Ops.c, .int .i64 a.f_To] 26 (0, 0)) :: F) (fun w S => Sat.flat (Ls := txL c22) S) ?_
      refine c_conv (fun w S => S.perm p3) ?_
      refine c_conv (L' := stars (((c22.f_Ops.xs.drop 0).map Op.f_Value).map (vrow e8)) :: _) (fun w S => S) ?_
      refine c_region ?_
      refine o_fieldAddr (q := ⟨b6, 3, none⟩) rfl rfl Try.underlying26 rfl ti24 rfl ?_
      refine o_load1 rfl rfl Try.underlying24 rfl (rd_mem 4 rfl rfl) ?_
      refine o_len rfl rfl Try.underlying24 ?_
      refine o_move rfl rfl ?_
      refine l_nil ?_
      refine q_then ?_
      refine c_block ?_
      refine c_loop (α := Nat × (List Op)) (fun z => [(2, .pointer (some ⟨b2, 0, none⟩)), (5, .pointer (some ⟨b5, 0, none⟩)), (6, .pointer (some ⟨b6, 0, none⟩)), (44, .int .i64 ((c22.f_Ops.xs).length : Int)), (45, .int .i64 (z.1 : Int))]) (fun z => stars (((c22.f_Ops.xs.drop z.1).map Op.f_Value).map (vrow e8)) :: row e_S.T e_S.sz c22.f_Reads.a (c22.f_Reads.xs).length c22.f_Reads.c (flat e_S c22.f_Reads.xs) :: row e_S.T e_S.sz c22.f_Writes.a (c22.f_Writes.xs).length c22.f_Writes.c (flat e_S c22.f_Writes.xs) :: row e_Op.T e_Op.sz c22.f_Ops.a (z.2).length c22.f_Ops.c (flat e_Op z.2) :: blk b6 (.cells #[.int .i64 c22.f_Kind, .slice c22.f_Reads.a (c22.f_Reads.xs).length c22.f_Reads.c, .slice c22.f_Writes.a (c22.f_Writes.xs).length c22.f_Writes.c, .slice c22.f_Ops.a (z.2).length c22.f_Ops.c, .int .i64 c22.f_To] 26 (0, 0)) :: blk b5 (.cells #[.int .i64 c20.f_Kind, .slice c20.f_Reads.a (c20.f_Reads.xs).length c20.f_Reads.c, .slice c20.f_Writes.a (c20.f_Writes.xs).length c20.f_Writes.c, .slice c20.f_Ops.a (c20.f_Ops.xs).length c20.f_Ops.c, .int .i64 c20.f_To] 26 (0, 0)) :: txM c20 :: blk b3 (.cells #[.int .i64 b.f_Kind, .slice b.f_Reads.a (b.f_Reads.xs).length b.f_Reads.c, .slice b.f_Writes.a (b.f_Writes.xs).length b.f_Writes.c, .slice b.f_Ops.a (b.f_Ops.xs).length b.f_Ops.c, .int .i64 b.f_To] 26 (0, 0)) :: blk b2 (.cells #[.int .i64 a.f_Kind, .slice a.f_Reads.a (a.f_Reads.xs).length a.f_Reads.c, .slice a.f_Writes.a (a.f_Writes.xs).length a.f_Writes.c, .slice a.f_Ops.a (a.f_Ops.xs).length a.f_Ops.c, .int .i64 a.f_To] 26 (0, 0)) :: F) (fun z => z.1 ≤ c22.f_Ops.xs.length ∧ z.2.length = c22.f_Ops.xs.length ∧ ∀ j x, z.1 ≤ j → z.2[j]? = some x → c22.f_Ops.xs[j]? = some x) (fun z => c22.f_Ops.xs.length - z.1) (0, c22.f_Ops.xs) (by exact ⟨Nat.zero_le _, rfl, fun j x _ h => h⟩) ⟨(by first | rfl | exact vint (by omega)), (by first | rfl | exact vint (by omega)), (by first | rfl | exact vint (by omega)), (by first | rfl | exact vint (by omega)), (by first | rfl | exact vint (by omega)), trivial⟩ (fun w S => S) ?_
      rintro ⟨i, os⟩ ⟨hi, hol, htl⟩
      try dsimp only at *
      refine c_seq ?_
      refine c_region ?_
      refine o_bin rfl rfl rfl b_lss ?_
      refine l_nil ?_
      refine q_then ?_
      refine c_seq ?_
      refine c_cond rfl (fun h3 => ?_) (fun h3 => ?_)
      · -- h3T
        have h3b := h3
        try simp only [decide_eq_true_eq, decide_eq_false_iff_not, Bool.not_eq_eq_eq_not, Bool.not_true, Bool.not_false, Bool.not_eq_true', Bool.not_eq_false', Int.not_lt, Int.not_le, Bool.or_eq_true, Bool.and_eq_true] at h3
        refine c_skip ?_
        refine q_then ?_
        refine c_seq ?_
        refine c_block ?_
        refine c_seq ?_
        refine c_region ?_
        refine o_move rfl rfl ?_
        refine o_assign rfl rfl ?_
        refine l_nil ?_
        refine q_then ?_
        refine c_seq ?_
        refine c_seq ?_
        obtain ⟨xo, hxo⟩ : ∃ x, c22.f_Ops.xs[i]? = some x := ⟨_, List.getElem?_eq_getElem (by omega)⟩
        have hvs := hsm2.op hxo
        refine c_conv (L' := row e8.T e8.sz xo.f_Value.a (xo.f_Value.xs).length xo.f_Value.c (flat e8 xo.f_Value.xs) :: stars (((c22.f_Ops.xs.drop (i + 1)).map Op.f_Value).map (vrow e8)) :: _) (fun w S => vals_head hxo S) ?_
        refine c_region ?_
        refine o_fieldAddr (q := ⟨b6, 3, none⟩) rfl rfl Try.underlying26 rfl ti24 rfl ?_
        refine o_load1 rfl rfl Try.underlying24 rfl (rd_mem 5 rfl rfl) ?_
        refine o_move rfl rfl ?_
        refine o_index e_Op_ok rfl rfl rfl Try.underlying24 (by omega) (by omega) (rds_own e_Op_ok 4 rfl) fun ad51 ead51 => ?_
        obtain ⟨x51, hx51⟩ : ∃ x, (os)[((i : Int)).toNat]? = some x := ⟨_, List.getElem?_eq_getElem (by omega)⟩
        refine o_fieldAddr rfl rfl Try.underlying35 rfl ti33 (Addr.add_add' _ _ _) ?_
        refine o_load1 rfl rfl Try.underlying33 rfl (rd_sl e_Op_ok ead51 (rds_own e_Op_ok 4 rfl) hx51 rfl) ?_
        have ex51 : x51 = xo := by have h9 := htl i x51 (Nat.le_refl _) hx51; rw [hxo] at h9; exact (Option.some.inj h9).symm
        refine l_eq (t := 53) (v' := .slice xo.f_Value.a (xo.f_Value.xs).length xo.f_Value.c) rfl (by rw [ex51]; rfl) ?_
        refine o_len rfl rfl Try.underlying33 ?_
        refine o_move rfl rfl ?_
        refine l_nil ?_
        refine q_then ?_
        refine c_block ?_
        refine c_loop (α := Nat × (List UInt8)) (fun z => [(2, .pointer (some ⟨b2, 0, none⟩)), (5, .pointer (some ⟨b5, 0, none⟩)), (6, .pointer (some ⟨b6, 0, none⟩)), (7, .int .i64 (i : Int)), (44, .int .i64 ((c22.f_Ops.xs).length : Int)), (45, .int .i64 (i : Int)), (54, .int .i64 ((xo.f_Value.xs).length : Int)), (55, .int .i64 (z.1 : Int))]) (fun z => row e8.T e8.sz xo.f_Value.a (z.2).length xo.f_Value.c (flat e8 z.2) :: stars (((c22.f_Ops.xs.drop (i + 1)).map Op.f_Value).map (vrow e8)) :: row e_S.T e_S.sz c22.f_Reads.a (c22.f_Reads.xs).length c22.f_Reads.c (flat e_S c22.f_Reads.xs) :: row e_S.T e_S.sz c22.f_Writes.a (c22.f_Writes.xs).length c22.f_Writes.c (flat e_S c22.f_Writes.xs) :: row e_Op.T e_Op.sz c22.f_Ops.a (os).length c22.f_Ops.c (flat e_Op os) :: blk b6 (.cells #[.int .i64 c22.f_Kind, .slice c22.f_Reads.a (c22.f_Reads.xs).length c22.f_Reads.c, .slice c22.f_Writes.a (c22.f_Writes.xs).length c22.f_Writes.c, .slice c22.f_Ops.a (os).length c22.f_Ops.c, .int .i64 c22.f_To] 26 (0, 0)) :: blk b5 (.cells #[.int .i64 c20.f_Kind, .slice c20.f_Reads.a (c20.f_Reads.xs).length c20.f_Reads.c, .slice c20.f_Writes.a (c20.f_Writes.xs).length c20.f_Writes.c, .slice c20.f_Ops.a (c20.f_Ops.xs).length c20.f_Ops.c, .int .i64 c20.f_To] 26 (0, 0)) :: txM c20 :: blk b3 (.cells #[.int .i64 b.f_Kind, .slice b.f_Reads.a (b.f_Reads.xs).length b.f_Reads.c, .slice b.f_Writes.a (b.f_Writes.xs).length b.f_Writes.c, .slice b.f_Ops.a (b.f_Ops.xs).length b.f_Ops.c, .int .i64 b.f_To] 26 (0, 0)) :: blk b2 (.cells #[.int .i64 a.f_Kind, .slice a.f_Reads.a (a.f_Reads.xs).length a.f_Reads.c, .slice a.f_Writes.a (a.f_Writes.xs).length a.f_Writes.c, .slice a.f_Ops.a (a.f_Ops.xs).length a.f_Ops.c, .int .i64 a.f_To] 26 (0, 0)) :: F) (fun z => z.1 ≤ xo.f_Value.xs.length ∧ z.2.length = xo.f_Value.xs.length) (fun z => xo.f_Value.xs.length - z.1) (0, xo.f_Value.xs) (by exact ⟨Nat.zero_le _, rfl⟩) ⟨(by first | rfl | exact vint (by omega)), (by first | rfl | exact vint (by omega)), (by first | rfl | exact vint (by omega)), (by first | rfl | exact vint (by omega)), (by first | rfl | exact vint (by omega)), (by first | rfl | exact vint (by omega)), (by first | rfl | exact vint (by omega)), (by first | rfl | exact vint (by omega)), trivial⟩ (fun w S => S) ?_
        rintro ⟨j, vs⟩ ⟨hj, hvl⟩
        try dsimp only at *
        refine c_seq ?_
        refine c_region ?_
        refine o_bin rfl rfl rfl b_lss ?_
        refine l_nil ?_
        refine q_then ?_
        refine c_seq ?_
        refine c_cond rfl (fun h4 => ?_) (fun h4 => ?_)
        · -- h4T
          have h4b := h4
          try simp only [decide_eq_true_eq, decide_eq_false_iff_not, Bool.not_eq_eq_eq_not, Bool.not_true, Bool.not_false, Bool.not_eq_true', Bool.not_eq_false', Int.not_lt, Int.not_le, Bool.or_eq_true, Bool.and_eq_true] at h4
          refine c_skip ?_
          refine q_then ?_
          refine c_seq ?_
          refine c_block ?_
          refine c_seq ?_
          refine c_region ?_
          refine o_move rfl rfl ?_
          refine o_assign rfl rfl ?_
          refine l_nil ?_
          refine q_then ?_
          refine c_region ?_
          refine o_fieldAddr (q := ⟨b6, 3, none⟩) rfl rfl Try.underlying26 rfl ti24 rfl ?_
          refine o_load1 rfl rfl Try.underlying24 rfl (rd_mem 5 rfl rfl) ?_
          refine o_move rfl rfl ?_
          refine o_index e_Op_ok rfl rfl rfl Try.underlying24 (by omega) (by omega) (rds_own e_Op_ok 4 rfl) fun ad61 ead61 => ?_
          obtain ⟨x61, hx61⟩ : ∃ x, (os)[((i : Int)).toNat]? = some x := ⟨_, List.getElem?_eq_getElem (by omega)⟩
          refine o_fieldAddr rfl rfl Try.underlying35 rfl ti33 (Addr.add_add' _ _ _) ?_
          refine o_load1 rfl rfl Try.underlying33 rfl (rd_sl e_Op_ok ead61 (rds_own e_Op_ok 4 rfl) hx61 rfl) ?_
          have ex61 : x61 = xo := by have h9 := htl i x61 (Nat.le_refl _) hx61; rw [hxo] at h9; exact (Option.some.inj h9).symm
          refine l_eq (t := 63) (v' := .slice xo.f_Value.a (vs).length xo.f_Value.c) rfl (by rw [ex61, hvl]; rfl) ?_
          refine o_move rfl rfl ?_
          refine o_index e8_ok rfl rfl rfl Try.underlying33 (by omega) (by omega) (rds_own e8_ok 0 rfl) fun ad65 ead65 => ?_
          obtain ⟨x65, hx65⟩ : ∃ x, (vs)[((j : Int)).toNat]? = some x := ⟨_, List.getElem?_eq_getElem (by omega)⟩
          refine o_storeRow0 (x1 := (238 : UInt8)) e8_ok ead65 rfl rfl rfl ti5 hx65 rfl ?_
          refine l_nil ?_
          refine q_block ?_
          refine q_then ?_
          refine c_region ?_
          refine o_bin rfl rfl rfl (b_add (wrap_i64 (by omega) (by omega))) ?_
          refine o_move rfl rfl ?_
          refine l_nil ?_
          exact q_round (j + 1, vs.set ((j : Int)).toNat 238) (by exact ⟨by omega, by rw [List.length_set]; exact hvl⟩) (by (try dsimp only); omega) ⟨(by first | rfl | exact vint (by omega)), (by first | rfl | exact vint (by omega)), (by first | rfl | exact vint (by omega)), (by first | rfl | exact vint (by omega)), (by first | rfl | exact vint (by omega)), (by first | rfl | exact vint (by omega)), (by first | rfl | exact vint (by omega)), (by first | rfl | exact vint (by omega)), trivial⟩ (fun w S => S)
        · -- h4F
          have h4b := h4
          try simp only [decide_eq_true_eq, decide_eq_false_iff_not, Bool.not_eq_eq_eq_not, Bool.not_true, Bool.not_false, Bool.not_eq_true', Bool.not_eq_false', Int.not_lt, Int.not_le, Bool.or_eq_true, Bool.and_eq_true] at h4
          refine c_exit ?_
          refine q_pass_exit ?_
          refine q_pass_exit ?_
          refine q_hit ?_
          refine q_then ?_
          refine c_region ?_
          refine o_fieldAddr (q := ⟨b6, 3, none⟩) rfl rfl Try.underlying26 rfl ti24 rfl ?_
          refine o_load1 rfl rfl Try.underlying24 rfl (rd_mem 5 rfl rfl) ?_
          refine o_move rfl rfl ?_
          refine o_build rfl sp35 ti35 rfl rfl ?_
          refine o_index e_Op_ok rfl rfl rfl Try.underlying24 (by omega) (by omega) (rds_own e_Op_ok 4 rfl) fun ad71 ead71 => ?_
          obtain ⟨x71, hx71⟩ : ∃ x, (os)[((i : Int)).toNat]? = some x := ⟨_, List.getElem?_eq_getElem (by omega)⟩
          refine l_f4 ?_
          refine o_storeRowAll e_Op_ok ead71 rfl rfl ti35 ⟨0, ByteArray.empty, ⟨none, [], 0⟩, 0⟩ rfl (by have := List.getElem?_eq_some_iff.1 hx71; exact this.1) ?_
          refine l_f5 ?_
          refine l_conv (L' := blk b6 (.cells #[.int .i64 c22.f_Kind, .slice c22.f_Reads.a (c22.f_Reads.xs).length c22.f_Reads.c, .slice c22.f_Writes.a (c22.f_Writes.xs).length c22.f_Writes.c, .slice c22.f_Ops.a (os).length c22.f_Ops.c, .int .i64 c22.f_To] 26 (0, 0)) :: _) (fun w S => S) ?_
          refine l_conv (L' := blk b6 (.cells #[.int .i64 c22.f_Kind, .slice c22.f_Reads.a (c22.f_Reads.xs).length c22.f_Reads.c, .slice c22.f_Writes.a (c22.f_Writes.xs).length c22.f_Writes.c, .slice c22.f_Ops.a ((os).set ((i : Int)).toNat ⟨0, ByteArray.empty, ⟨none, [], 0⟩, 0⟩).length c22.f_Ops.c, .int .i64 c22.f_To] 26 (0, 0)) :: row e_Op.T e_Op.sz c22.f_Ops.a ((os).set ((i : Int)).toNat ⟨0, ByteArray.empty, ⟨none, [], 0⟩, 0⟩).length c22.f_Ops.c (flat e_Op ((os).set ((i : Int)).toNat ⟨0, ByteArray.empty, ⟨none, [], 0⟩, 0⟩)) :: row e8.T e8.sz xo.f_Value.a (vs).length xo.f_Value.c (flat e8 vs) :: stars (((c22.f_Ops.xs.drop (i + 1)).map Op.f_Value).map (vrow e8)) :: row e_S.T e_S.sz c22.f_Reads.a (c22.f_Reads.xs).length c22.f_Reads.c (flat e_S c22.f_Reads.xs) :: row e_S.T e_S.sz c22.f_Writes.a (c22.f_Writes.xs).length c22.f_Writes.c (flat e_S c22.f_Writes.xs) :: blk b5 (.cells #[.int .i64 c20.f_Kind, .slice c20.f_Reads.a (c20.f_Reads.xs).length c20.f_Reads.c, .slice c20.f_Writes.a (c20.f_Writes.xs).length c20.f_Writes.c, .slice c20.f_Ops.a (c20.f_Ops.xs).length c20.f_Ops.c, .int .i64 c20.f_To] 26 (0, 0)) :: txM c20 :: blk b3 (.cells #[.int .i64 b.f_Kind, .slice b.f_Reads.a (b.f_Reads.xs).length b.f_Reads.c, .slice b.f_Writes.a (b.f_Writes.xs).length b.f_Writes.c, .slice b.f_Ops.a (b.f_Ops.xs).length b.f_Ops.c, .int .i64 b.f_To] 26 (0, 0)) :: blk b2 (.cells #[.int .i64 a.f_Kind, .slice a.f_Reads.a (a.f_Reads.xs).length a.f_Reads.c, .slice a.f_Writes.a (a.f_Writes.xs).length a.f_Writes.c, .slice a.f_Ops.a (a.f_Ops.xs).length a.f_Ops.c, .int .i64 a.f_To] 26 (0, 0)) :: F) (fun w S => by first | exact S | simpa only [List.length_set] using S) ?_
          refine l_nil ?_
          refine q_block ?_
          refine q_then ?_
          refine c_region ?_
          refine o_bin rfl rfl rfl (b_add (wrap_i64 (by omega) (by omega))) ?_
          refine o_move rfl rfl ?_
          refine l_nil ?_
          refine q_conv (fun w S => (S.perm p2).tail) ?_
          refine q_conv (fun w S => S.perm p8) ?_
          refine q_conv (fun w S => S.perm p8) ?_
          refine q_conv (fun w S => S.perm p8) ?_
          refine q_conv (fun w S => S.perm p8) ?_
          refine q_conv (fun w S => S.perm p4) ?_
          refine q_conv (fun w S => S.perm p5) ?_
          refine q_conv (fun w S => S.perm p8) ?_
          refine q_conv (fun w S => S.perm p8) ?_
          refine q_conv (fun w S => S.perm p8) ?_
          exact q_round (i + 1, os.set ((i : Int)).toNat (⟨0, ByteArray.empty, ⟨none, [], 0⟩, 0⟩ : Op)) (by exact ⟨by omega, by rw [List.length_set]; exact hol, fun j x hj hx => tail_set htl hj hx⟩) (by (try dsimp only); omega) ⟨(by first | rfl | exact vint (by omega)), (by first | rfl | exact vint (by omega)), (by first | rfl | exact vint (by omega)), (by first | rfl | exact vint (by omega)), (by first | rfl | exact vint (by omega)), trivial⟩ (fun w S => S)
      · -- h3F
        have h3b := h3
        try simp only [decide_eq_true_eq, decide_eq_false_iff_not, Bool.not_eq_eq_eq_not, Bool.not_true, Bool.not_false, Bool.not_eq_true', Bool.not_eq_false', Int.not_lt, Int.not_le, Bool.or_eq_true, Bool.and_eq_true] at h3
        refine c_exit ?_
        refine q_pass_exit ?_
        refine q_pass_exit ?_
        refine q_hit ?_
        refine q_then ?_
        refine c_seq ?_
        refine c_seq ?_
        refine c_region ?_
        refine o_fieldAddr (q := ⟨b6, 1, none⟩) rfl rfl Try.underlying26 rfl ti23 rfl ?_
        refine o_load1 rfl rfl Try.underlying23 rfl (rd_mem 4 rfl rfl) ?_
        refine o_len rfl rfl Try.underlying23 ?_
        refine o_move rfl rfl ?_
        refine l_nil ?_
        refine q_then ?_
        refine c_block ?_
        refine c_loop (α := Nat × (List ByteArray)) (fun z => [(2, .pointer (some ⟨b2, 0, none⟩)), (5, .pointer (some ⟨b5, 0, none⟩)), (6, .pointer (some ⟨b6, 0, none⟩)), (75, .int .i64 ((c22.f_Reads.xs).length : Int)), (76, .int .i64 (z.1 : Int))]) (fun z => stars (((c22.f_Ops.xs.drop i).map Op.f_Value).map (vrow e8)) :: row e_S.T e_S.sz c22.f_Reads.a (z.2).length c22.f_Reads.c (flat e_S z.2) :: row e_S.T e_S.sz c22.f_Writes.a (c22.f_Writes.xs).length c22.f_Writes.c (flat e_S c22.f_Writes.xs) :: row e_Op.T e_Op.sz c22.f_Ops.a (os).length c22.f_Ops.c (flat e_Op os) :: blk b6 (.cells #[.int .i64 c22.f_Kind, .slice c22.f_Reads.a (z.2).length c22.f_Reads.c, .slice c22.f_Writes.a (c22.f_Writes.xs).length c22.f_Writes.c, .slice c22.f_Ops.a (os).length c22.f_Ops.c, .int .i64 c22.f_To] 26 (0, 0)) :: blk b5 (.cells #[.int .i64 c20.f_Kind, .slice c20.f_Reads.a (c20.f_Reads.xs).length c20.f_Reads.c, .slice c20.f_Writes.a (c20.f_Writes.xs).length c20.f_Writes.c, .slice c20.f_Ops.a (c20.f_Ops.xs).length c20.f_Ops.c, .int .i64 c20.f_To] 26 (0, 0)) :: txM c20 :: blk b3 (.cells #[.int .i64 b.f_Kind, .slice b.f_Reads.a (b.f_Reads.xs).length b.f_Reads.c, .slice b.f_Writes.a (b.f_Writes.xs).length b.f_Writes.c, .slice b.f_Ops.a (b.f_Ops.xs).length b.f_Ops.c, .int .i64 b.f_To] 26 (0, 0)) :: blk b2 (.cells #[.int .i64 a.f_Kind, .slice a.f_Reads.a (a.f_Reads.xs).length a.f_Reads.c, .slice a.f_Writes.a (a.f_Writes.xs).length a.f_Writes.c, .slice a.f_Ops.a (a.f_Ops.xs).length a.f_Ops.c, .int .i64 a.f_To] 26 (0, 0)) :: F) (fun z => z.1 ≤ c22.f_Reads.xs.length ∧ z.2.length = c22.f_Reads.xs.length) (fun z => c22.f_Reads.xs.length - z.1) (0, c22.f_Reads.xs) (by exact ⟨Nat.zero_le _, rfl⟩) ⟨(by first | rfl | exact vint (by omega)), (by first | rfl | exact vint (by omega)), (by first | rfl | exact vint (by omega)), (by first | rfl | exact vint (by omega)), (by first | rfl | exact vint (by omega)), trivial⟩ (fun w S => S) ?_
        rintro ⟨j, rs⟩ ⟨hj, hrl⟩
        try dsimp only at *
        refine c_seq ?_
        refine c_region ?_
        refine o_bin rfl rfl rfl b_lss ?_
        refine l_nil ?_
        refine q_then ?_
        refine c_seq ?_
        refine c_cond rfl (fun h5 => ?_) (fun h5 => ?_)
        · -- h5T
          have h5b := h5
          try simp only [decide_eq_true_eq, decide_eq_false_iff_not, Bool.not_eq_eq_eq_not, Bool.not_true, Bool.not_false, Bool.not_eq_true', Bool.not_eq_false', Int.not_lt, Int.not_le, Bool.or_eq_true, Bool.and_eq_true] at h5
          refine c_skip ?_
          refine q_then ?_
          refine c_seq ?_
          refine c_block ?_
          refine c_seq ?_
          refine c_region ?_
          refine o_move rfl rfl ?_
          refine o_assign rfl rfl ?_
          refine l_nil ?_
          refine q_then ?_
          refine c_region ?_
          refine o_fieldAddr (q := ⟨b6, 1, none⟩) rfl rfl Try.underlying26 rfl ti23 rfl ?_
          refine o_load1 rfl rfl Try.underlying23 rfl (rd_mem 4 rfl rfl) ?_
          refine o_move rfl rfl ?_
          refine o_index e_S_ok rfl rfl rfl Try.underlying23 (by omega) (by omega) (rds_own e_S_ok 1 rfl) fun ad82 ead82 => ?_
          obtain ⟨x82, hx82⟩ : ∃ x, (rs)[((j : Int)).toNat]? = some x := ⟨_, List.getElem?_eq_getElem (by omega)⟩
          refine l_f1 ?_
          refine o_storeRow0 (x1 := (⟨#[63]⟩ : ByteArray)) e_S_ok ead82 rfl rfl rfl ti9 hx82 rfl ?_
          refine l_f4 ?_
          refine l_conv (L' := blk b6 (.cells #[.int .i64 c22.f_Kind, .slice c22.f_Reads.a (rs).length c22.f_Reads.c, .slice c22.f_Writes.a (c22.f_Writes.xs).length c22.f_Writes.c, .slice c22.f_Ops.a (os).length c22.f_Ops.c, .int .i64 c22.f_To] 26 (0, 0)) :: _) (fun w S => S) ?_
          refine l_conv (L' := blk b6 (.cells #[.int .i64 c22.f_Kind, .slice c22.f_Reads.a ((rs).set ((j : Int)).toNat (⟨#[63]⟩ : ByteArray)).length c22.f_Reads.c, .slice c22.f_Writes.a (c22.f_Writes.xs).length c22.f_Writes.c, .slice c22.f_Ops.a (os).length c22.f_Ops.c, .int .i64 c22.f_To] 26 (0, 0)) :: row e_S.T e_S.sz c22.f_Reads.a ((rs).set ((j : Int)).toNat (⟨#[63]⟩ : ByteArray)).length c22.f_Reads.c (flat e_S ((rs).set ((j : Int)).toNat (⟨#[63]⟩ : ByteArray))) :: stars (((c22.f_Ops.xs.drop i).map Op.f_Value).map (vrow e8)) :: row e_S.T e_S.sz c22.f_Writes.a (c22.f_Writes.xs).length c22.f_Writes.c (flat e_S c22.f_Writes.xs) :: row e_Op.T e_Op.sz c22.f_Ops.a (os).length c22.f_Ops.c (flat e_Op os) :: blk b5 (.cells #[.int .i64 c20.f_Kind, .slice c20.f_Reads.a (c20.f_Reads.xs).length c20.f_Reads.c, .slice c20.f_Writes.a (c20.f_Writes.xs).length c20.f_Writes.c, .slice c20.f_Ops.a (c20.f_Ops.xs).length c20.f_Ops.c, .int .i64 c20.f_To] 26 (0, 0)) :: txM c20 :: blk b3 (.cells #[.int .i64 b.f_Kind, .slice b.f_Reads.a (b.f_Reads.xs).length b.f_Reads.c, .slice b.f_Writes.a (b.f_Writes.xs).length b.f_Writes.c, .slice b.f_Ops.a (b.f_Ops.xs).length b.f_Ops.c, .int .i64 b.f_To] 26 (0, 0)) :: blk b2 (.cells #[.int .i64 a.f_Kind, .slice a.f_Reads.a (a.f_Reads.xs).length a.f_Reads.c, .slice a.f_Writes.a (a.f_Writes.xs).length a.f_Writes.c, .slice a.f_Ops.a (a.f_Ops.xs).length a.f_Ops.c, .int .i64 a.f_To] 26 (0, 0)) :: F) (fun w S => by first | exact S | simpa only [List.length_set] using S) ?_
          refine l_nil ?_
          refine q_block ?_
          refine q_then ?_
          refine c_region ?_
          refine o_bin rfl rfl rfl (b_add (wrap_i64 (by omega) (by omega))) ?_
          refine o_move rfl rfl ?_
          refine l_nil ?_
          refine q_conv (fun w S => S.perm p8) ?_
          refine q_conv (fun w S => S.perm p8) ?_
          refine q_conv (fun w S => S.perm p8) ?_
          refine q_conv (fun w S => S.perm p8) ?_
          refine q_conv (fun w S => S.perm p4) ?_
          refine q_conv (fun w S => S.perm p8) ?_
          refine q_conv (fun w S => S.perm p8) ?_
          refine q_conv (fun w S => S.perm p7) ?_
          refine q_conv (fun w S => S.perm p8) ?_
          exact q_round (j + 1, rs.set ((j : Int)).toNat ⟨#[63]⟩) (by exact ⟨by omega, by rw [List.length_set]; exact hrl⟩) (by (try dsimp only); omega) ⟨(by first | rfl | exact vint (by omega)), (by first | rfl | exact vint (by omega)), (by first | rfl | exact vint (by omega)), (by first | rfl | exact vint (by omega)), (by first | rfl | exact vint (by omega)), trivial⟩ (fun w S => S)
        · -- h5F
          have h5b := h5
          try simp only [decide_eq_true_eq, decide_eq_false_iff_not, Bool.not_eq_eq_eq_not, Bool.not_true, Bool.not_false, Bool.not_eq_true', Bool.not_eq_false', Int.not_lt, Int.not_le, Bool.or_eq_true, Bool.and_eq_true] at h5
          refine c_exit ?_
          refine q_pass_exit ?_
          refine q_pass_exit ?_
          refine q_hit ?_
          refine q_then ?_
          refine c_seq ?_
          refine c_seq ?_
          refine c_region ?_
          refine o_fieldAddr (q := ⟨b6, 2, none⟩) rfl rfl Try.underlying26 rfl ti23 rfl ?_
          refine o_load1 rfl rfl Try.underlying23 rfl (rd_mem 4 rfl rfl) ?_
          refine o_len rfl rfl Try.underlying23 ?_
          refine o_move rfl rfl ?_
          refine l_nil ?_
          refine q_then ?_
          refine c_block ?_
          refine c_loop (α := Nat × (List ByteArray)) (fun z => [(2, .pointer (some ⟨b2, 0, none⟩)), (5, .pointer (some ⟨b5, 0, none⟩)), (6, .pointer (some ⟨b6, 0, none⟩)), (86, .int .i64 ((c22.f_Writes.xs).length : Int)), (87, .int .i64 (z.1 : Int))]) (fun z => stars (((c22.f_Ops.xs.drop i).map Op.f_Value).map (vrow e8)) :: row e_S.T e_S.sz c22.f_Reads.a (rs).length c22.f_Reads.c (flat e_S rs) :: row e_S.T e_S.sz c22.f_Writes.a (z.2).length c22.f_Writes.c (flat e_S z.2) :: row e_Op.T e_Op.sz c22.f_Ops.a (os).length c22.f_Ops.c (flat e_Op os) :: blk b6 (.cells #[.int .i64 c22.f_Kind, .slice c22.f_Reads.a (rs).length c22.f_Reads.c, .slice c22.f_Writes.a (z.2).length c22.f_Writes.c, .slice c22.f_Ops.a (os).length c22.f_Ops.c, .int .i64 c22.f_To] 26 (0, 0)) :: blk b5 (.cells #[.int .i64 c20.f_Kind, .slice c20.f_Reads.a (c20.f_Reads.xs).length c20.f_Reads.c, .slice c20.f_Writes.a (c20.f_Writes.xs).length c20.f_Writes.c, .slice c20.f_Ops.a (c20.f_Ops.xs).length c20.f_Ops.c, .int .i64 c20.f_To] 26 (0, 0)) :: txM c20 :: blk b3 (.cells #[.int .i64 b.f_Kind, .slice b.f_Reads.a (b.f_Reads.xs).length b.f_Reads.c, .slice b.f_Writes.a (b.f_Writes.xs).length b.f_Writes.c, .slice b.f_Ops.a (b.f_Ops.xs).length b.f_Ops.c, .int .i64 b.f_To] 26 (0, 0)) :: blk b2 (.cells #[.int .i64 a.f_Kind, .slice a.f_Reads.a (a.f_Reads.xs).length a.f_Reads.c, .slice a.f_Writes.a (a.f_Writes.xs).length a.f_Writes.c, .slice a.f_Ops.a (a.f_Ops.xs).length a.f_Ops.c, .int .i64 a.f_To] 26 (0, 0)) :: F) (fun z => z.1 ≤ c22.f_Writes.xs.length ∧ z.2.length = c22.f_Writes.xs.length) (fun z => c22.f_Writes.xs.length - z.1) (0, c22.f_Writes.xs) (by exact ⟨Nat.zero_le _, rfl⟩) ⟨(by first | rfl | exact vint (by omega)), (by first | rfl | exact vint (by omega)), (by first | rfl | exact vint (by omega)), (by first | rfl | exact vint (by omega)), (by first | rfl | exact vint (by omega)), trivial⟩ (fun w S => S) ?_
          rintro ⟨j2, ws⟩ ⟨hj2, hwl⟩
          try dsimp only at *
          refine c_seq ?_
          refine c_region ?_
          refine o_bin rfl rfl rfl b_lss ?_
          refine l_nil ?_
          refine q_then ?_
          refine c_seq ?_
          refine c_cond rfl (fun h6 => ?_) (fun h6 => ?_)
          · -- h6T
            have h6b := h6
            try simp only [decide_eq_true_eq, decide_eq_false_iff_not, Bool.not_eq_eq_eq_not, Bool.not_true, Bool.not_false, Bool.not_eq_true', Bool.not_eq_false', Int.not_lt, Int.not_le, Bool.or_eq_true, Bool.and_eq_true] at h6
            refine c_skip ?_
            refine q_then ?_
            refine c_seq ?_
            refine c_block ?_
            refine c_seq ?_
            refine c_region ?_
            refine o_move rfl rfl ?_
            refine o_assign rfl rfl ?_
            refine l_nil ?_
            refine q_then ?_
            refine c_region ?_
            refine o_fieldAddr (q := ⟨b6, 2, none⟩) rfl rfl Try.underlying26 rfl ti23 rfl ?_
            refine o_load1 rfl rfl Try.underlying23 rfl (rd_mem 4 rfl rfl) ?_
            refine o_move rfl rfl ?_
            refine o_index e_S_ok rfl rfl rfl Try.underlying23 (by omega) (by omega) (rds_own e_S_ok 2 rfl) fun ad93 ead93 => ?_
            obtain ⟨x93, hx93⟩ : ∃ x, (ws)[((j2 : Int)).toNat]? = some x := ⟨_, List.getElem?_eq_getElem (by omega)⟩
            refine l_f2 ?_
            refine o_storeRow0 (x1 := (⟨#[63]⟩ : ByteArray)) e_S_ok ead93 rfl rfl rfl ti9 hx93 rfl ?_
            refine l_f4 ?_
            refine l_conv (L' := blk b6 (.cells #[.int .i64 c22.f_Kind, .slice c22.f_Reads.a (rs).length c22.f_Reads.c, .slice c22.f_Writes.a (ws).length c22.f_Writes.c, .slice c22.f_Ops.a (os).length c22.f_Ops.c, .int .i64 c22.f_To] 26 (0, 0)) :: _) (fun w S => S) ?_
            refine l_conv (L' := blk b6 (.cells #[.int .i64 c22.f_Kind, .slice c22.f_Reads.a (rs).length c22.f_Reads.c, .slice c22.f_Writes.a ((ws).set ((j2 : Int)).toNat (⟨#[63]⟩ : ByteArray)).length c22.f_Writes.c, .slice c22.f_Ops.a (os).length c22.f_Ops.c, .int .i64 c22.f_To] 26 (0, 0)) :: row e_S.T e_S.sz c22.f_Writes.a ((ws).set ((j2 : Int)).toNat (⟨#[63]⟩ : ByteArray)).length c22.f_Writes.c (flat e_S ((ws).set ((j2 : Int)).toNat (⟨#[63]⟩ : ByteArray))) :: stars (((c22.f_Ops.xs.drop i).map Op.f_Value).map (vrow e8)) :: row e_S.T e_S.sz c22.f_Reads.a (rs).length c22.f_Reads.c (flat e_S rs) :: row e_Op.T e_Op.sz c22.f_Ops.a (os).length c22.f_Ops.c (flat e_Op os) :: blk b5 (.cells #[.int .i64 c20.f_Kind, .slice c20.f_Reads.a (c20.f_Reads.xs).length c20.f_Reads.c, .slice c20.f_Writes.a (c20.f_Writes.xs).length c20.f_Writes.c, .slice c20.f_Ops.a (c20.f_Ops.xs).length c20.f_Ops.c, .int .i64 c20.f_To] 26 (0, 0)) :: txM c20 :: blk b3 (.cells #[.int .i64 b.f_Kind, .slice b.f_Reads.a (b.f_Reads.xs).length b.f_Reads.c, .slice b.f_Writes.a (b.f_Writes.xs).length b.f_Writes.c, .slice b.f_Ops.a (b.f_Ops.xs).length b.f_Ops.c, .int .i64 b.f_To] 26 (0, 0)) :: blk b2 (.cells #[.int .i64 a.f_Kind, .slice a.f_Reads.a (a.f_Reads.xs).length a.f_Reads.c, .slice a.f_Writes.a (a.f_Writes.xs).length a.f_Writes.c, .slice a.f_Ops.a (a.f_Ops.xs).length a.f_Ops.c, .int .i64 a.f_To] 26 (0, 0)) :: F) (fun w S => by first | exact S | simpa only [List.length_set] using S) ?_
            refine l_nil ?_
            refine q_block ?_
            refine q_then ?_
            refine c_region ?_
            refine o_bin rfl rfl rfl (b_add (wrap_i64 (by omega) (by omega))) ?_
            refine o_move rfl rfl ?_
            refine l_nil ?_
            refine q_conv (fun w S => S.perm p8) ?_
            refine q_conv (fun w S => S.perm p8) ?_
            refine q_conv (fun w S => S.perm p8) ?_
            refine q_conv (fun w S => S.perm p8) ?_
            refine q_conv (fun w S => S.perm p4) ?_
            refine q_conv (fun w S => S.perm p8) ?_
            refine q_conv (fun w S => S.perm p6) ?_
            refine q_conv (fun w S => S.perm p8) ?_
            refine q_conv (fun w S => S.perm p8) ?_
            exact q_round (j2 + 1, ws.set ((j2 : Int)).toNat ⟨#[63]⟩) (by exact ⟨by omega, by rw [List.length_set]; exact hwl⟩) (by (try dsimp only); omega) ⟨(by first | rfl | exact vint (by omega)), (by first | rfl | exact vint (by omega)), (by first | rfl | exact vint (by omega)), (by first | rfl | exact vint (by omega)), (by first | rfl | exact vint (by omega)), trivial⟩ (fun w S => S)
          · -- h6F
            have h6b := h6
            try simp only [decide_eq_true_eq, decide_eq_false_iff_not, Bool.not_eq_eq_eq_not, Bool.not_true, Bool.not_false, Bool.not_eq_true', Bool.not_eq_false', Int.not_lt, Int.not_le, Bool.or_eq_true, Bool.and_eq_true] at h6
            refine c_exit ?_
            refine q_pass_exit ?_
            refine q_pass_exit ?_
            refine q_hit ?_
            refine q_then ?_
            refine c_seq ?_
            refine c_region ?_
            refine o_loadn (vs := [_, _, _, _, _]) rfl rfl Try.underlying26 rfl ti26 (rdn_lit 5 rfl rfl) ?_
            refine o_loadn (vs := [_, _, _, _, _]) rfl rfl Try.underlying26 rfl ti26 (rdn_lit 8 rfl rfl) ?_
            refine o_call rfl cal15 rfl (same_ (a := c20) (b := a) (txM_R L_c20 6 rfl) (TxR.c (TxR.c (TxR.c (TxR.c (TxR.c (TxR.c (TxR.c (TxR.c (TxR.c T_a)))))))))) ?_
            rintro _ _ ⟨rfl, rfl⟩
            refine l_eq (t := 97) (v' := .bool true) rfl (show _ = Value.bool true from by rw [decide_eq_true hs_c20]) ?_
            refine o_assign rfl rfl ?_
            refine l_nil ?_
            refine q_then ?_
            refine c_ret ?_
            refine q_conv (fun w S => S.tail) ?_
            refine q_conv (fun w S => S.tail) ?_
            refine q_conv (fun w S => S.tail) ?_
            refine q_conv (fun w S => S.tail) ?_
            refine q_conv (fun w S => S.tail) ?_
            refine q_conv (fun w S => S.tail) ?_
            refine q_conv (fun w S => S.tail) ?_
            refine q_conv (fun w S => S.tail) ?_
            refine q_conv (fun w S => S.tail) ?_
            exact f_ret (r_one rfl rfl) (⟨rfl, rfl⟩) (fun w S => S)

end Go.Proofs.Ytllclglbfdncnaa
