/- Printed by eng2.py out of 09a/spec.py. -/
import Derived.Test.YtlblipkcbmcfkaaSpeaks
import Derived.Test.YtlblipkcbmcfkaaArgs
set_option linter.unusedVariables false
set_option linter.unusedSimpArgs false
set_option maxRecDepth 10000
namespace Go.Proofs.Ytlblipkcbmcfkaa
open Go.RowKit Classical
theorem chkO_1 {o : Order} {r : Int} (h : ¬ chkO o r = 0) : chkO o r = 1 := chkO_no fun h9 => h (chkO_yes h9)
set_option maxHeartbeats 4000000 in
theorem checksO_ {W : World} {F : List Res} {g : Int} {o : Order} (T_o : OrdR W F o) (hu : 0 ≤ o.f_Tag_Id_Epoch ∧ 0 ≤ o.f_Tag_Id_Seq) : CS Try.prog 3 #[.agg #[.int .i64 o.f_Tag_Id_Node, .int .u64 o.f_Tag_Id_Epoch, .int .u64 o.f_Tag_Id_Seq, .int .i64 o.f_Tag_Try, .int .i64 o.f_Txn_Kind, .slice o.f_Txn_Reads.a (o.f_Txn_Reads.xs).length o.f_Txn_Reads.c, .slice o.f_Txn_Writes.a (o.f_Txn_Writes.xs).length o.f_Txn_Writes.c, .slice o.f_Txn_Ops.a (o.f_Txn_Ops.xs).length o.f_Txn_Ops.c, .int .i64 o.f_Txn_To, .slice o.f_Marks.a (o.f_Marks.xs).length o.f_Marks.c], .int .i64 g] W (F) (fun r L' => r = .bool true ∧ F = L') := by
 refine f_door (l0 := [(0, .agg #[.int .i64 o.f_Tag_Id_Node, .int .u64 o.f_Tag_Id_Epoch, .int .u64 o.f_Tag_Id_Seq, .int .i64 o.f_Tag_Try, .int .i64 o.f_Txn_Kind, .slice o.f_Txn_Reads.a (o.f_Txn_Reads.xs).length o.f_Txn_Reads.c, .slice o.f_Txn_Writes.a (o.f_Txn_Writes.xs).length o.f_Txn_Writes.c, .slice o.f_Txn_Ops.a (o.f_Txn_Ops.xs).length o.f_Txn_Ops.c, .int .i64 o.f_Txn_To, .slice o.f_Marks.a (o.f_Marks.xs).length o.f_Marks.c]), (1, .int .i64 g)]) Try.func3 Try.ntmps3 rfl rfl rfl ?_
 refine c_seq ?_
 refine c_region ?_
 refine o_box rfl rfl fun b2 => ?_
 refine o_assign rfl rfl ?_
 refine l_nil ?_
 refine q_then ?_
 refine c_seq ?_
 refine c_seq ?_
 refine c_region ?_
 refine o_call rfl cal7 rfl (speaks_) ?_
 rintro _ _ ⟨rfl, rfl⟩
 refine o_not rfl rfl ?_
 refine l_nil ?_
 refine q_then ?_
 refine c_false rfl ?_
 refine c_skip ?_
 refine q_then ?_
 refine c_seq ?_
 refine c_seq ?_
 refine c_region ?_
 refine o_loadn (vs := [_, _, _, _, _, _, _, _, _, _]) rfl rfl Try.underlying33 rfl ti33 (rdn_lit 0 rfl rfl) ?_
 refine o_call rfl cal8 rfl (rgreat_ (o := o) (OrdR.c T_o)) ?_
 rintro _ _ ⟨g13, hg13, rfl, rfl⟩
 refine l_nil ?_
 refine q_then ?_
 refine c_cond rfl (fun h1 => ?_) (fun h1 => ?_)
 · -- h1T
  have h1b := h1
  try simp only [decide_eq_true_eq, decide_eq_false_iff_not, Bool.not_eq_eq_eq_not, Bool.not_true, Bool.not_false, Bool.not_eq_true', Bool.not_eq_false', Int.not_lt, Int.not_le, Bool.or_eq_true, Bool.and_eq_true] at h1
  refine c_seq ?_
  refine c_region ?_
  refine o_assign rfl rfl ?_
  refine l_nil ?_
  refine q_then ?_
  refine c_ret ?_
  refine q_pass_ret ?_
  refine q_conv (fun w S => S.tail) ?_
  exact f_ret (r_one rfl rfl) (⟨rfl, rfl⟩) (fun w S => S)
 · -- h1F
  have h1b := h1
  try simp only [decide_eq_true_eq, decide_eq_false_iff_not, Bool.not_eq_eq_eq_not, Bool.not_true, Bool.not_false, Bool.not_eq_true', Bool.not_eq_false', Int.not_lt, Int.not_le, Bool.or_eq_true, Bool.and_eq_true] at h1
  refine c_skip ?_
  refine q_then ?_
  refine c_seq ?_
  refine c_region ?_
  refine o_loadn (vs := [_, _, _, _, _, _, _, _, _, _]) rfl rfl Try.underlying33 rfl ti33 (rdn_lit 0 rfl rfl) ?_
  refine o_call rfl cal9 rfl (rocopy_ (o := o) (OrdR.c T_o) (hg13 (by assumption))) ?_
  rintro _ _ ⟨c15, hs_c15, rfl, rfl⟩
  have L_c15 : OrdLen c15 := OrdLen.same T_o.len hs_c15
  refine o_alloc rfl ti33 fun b5 => ?_
  refine o_storen rfl rfl ti33 rfl rfl rfl rfl ?_
  refine l_nil ?_
  refine q_then ?_
  refine c_seq ?_
  refine c_heldF [] (blk b5 (.cells #[.int .i64 c15.f_Tag_Id_Node, .int .u64 c15.f_Tag_Id_Epoch, .int .u64 c15.f_Tag_Id_Seq, .int .i64 c15.f_Tag_Try, .int .i64 c15.f_Txn_Kind, .slice c15.f_Txn_Reads.a (c15.f_Txn_Reads.xs).length c15.f_Txn_Reads.c, .slice c15.f_Txn_Writes.a (c15.f_Txn_Writes.xs).length c15.f_Txn_Writes.c, .slice c15.f_Txn_Ops.a (c15.f_Txn_Ops.xs).length c15.f_Txn_Ops.c, .int .i64 c15.f_Txn_To, .slice c15.f_Marks.a (c15.f_Marks.xs).length c15.f_Marks.c] 33 (0, 0)) :: ordM c15 :: blk b2 (.cells #[.int .i64 o.f_Tag_Id_Node, .int .u64 o.f_Tag_Id_Epoch, .int .u64 o.f_Tag_Id_Seq, .int .i64 o.f_Tag_Try, .int .i64 o.f_Txn_Kind, .slice o.f_Txn_Reads.a (o.f_Txn_Reads.xs).length o.f_Txn_Reads.c, .slice o.f_Txn_Writes.a (o.f_Txn_Writes.xs).length o.f_Txn_Writes.c, .slice o.f_Txn_Ops.a (o.f_Txn_Ops.xs).length o.f_Txn_Ops.c, .int .i64 o.f_Txn_To, .slice o.f_Marks.a (o.f_Marks.xs).length o.f_Marks.c] 33 (0, 0)) :: F) (by kernel_rfl) ?_
  refine h_take 0 rfl rfl (by kernel_rfl) (by kernel_rfl) (by kernel_rfl) (fun L0 => v_loadn (vs := [_, _, _, _, _, _, _, _, _, _]) rfl rfl Try.underlying33 rfl ti33 (rdn_lit 0 rfl rfl)) ?_
  refine h_take 2 rfl rfl (by kernel_rfl) (by kernel_rfl) (by kernel_rfl) (fun L0 => v_loadn (vs := [_, _, _, _, _, _, _, _, _, _]) rfl rfl Try.underlying33 rfl ti33 (rdn_lit 2 rfl rfl)) ?_
  refine h_one 1 rfl (by kernel_rfl) ?_
  refine l_conv (L' := blk b5 (.cells #[.int .i64 c15.f_Tag_Id_Node, .int .u64 c15.f_Tag_Id_Epoch, .int .u64 c15.f_Tag_Id_Seq, .int .i64 c15.f_Tag_Try, .int .i64 c15.f_Txn_Kind, .slice c15.f_Txn_Reads.a (c15.f_Txn_Reads.xs).length c15.f_Txn_Reads.c, .slice c15.f_Txn_Writes.a (c15.f_Txn_Writes.xs).length c15.f_Txn_Writes.c, .slice c15.f_Txn_Ops.a (c15.f_Txn_Ops.xs).length c15.f_Txn_Ops.c, .int .i64 c15.f_Txn_To, .slice c15.f_Marks.a (c15.f_Marks.xs).length c15.f_Marks.c] 33 (0, 0)) :: ordM c15 :: blk b2 (.cells #[.int .i64 o.f_Tag_Id_Node, .int .u64 o.f_Tag_Id_Epoch, .int .u64 o.f_Tag_Id_Seq, .int .i64 o.f_Tag_Try, .int .i64 o.f_Txn_Kind, .slice o.f_Txn_Reads.a (o.f_Txn_Reads.xs).length o.f_Txn_Reads.c, .slice o.f_Txn_Writes.a (o.f_Txn_Writes.xs).length o.f_Txn_Writes.c, .slice o.f_Txn_Ops.a (o.f_Txn_Ops.xs).length o.f_Txn_Ops.c, .int .i64 o.f_Txn_To, .slice o.f_Marks.a (o.f_Marks.xs).length o.f_Marks.c] 33 (0, 0)) :: F) (fun w S => S.perm List.perm_append_comm) ?_
  refine o_call rfl cal10 rfl (homes_ (o := c15) (ordM_R L_c15 1 rfl) (by have h7 := ((OSmall.same (hg13 (by assumption)) hs_c15)).m; omega)) ?_
  rintro _ _ ⟨a17, c17, rfl, rfl⟩
  have hhl17 := homes_len c15
  refine l_nil ?_
  refine q_conv (L' := (blk b5 (.cells #[.int .i64 c15.f_Tag_Id_Node, .int .u64 c15.f_Tag_Id_Epoch, .int .u64 c15.f_Tag_Id_Seq, .int .i64 c15.f_Tag_Try, .int .i64 c15.f_Txn_Kind, .slice c15.f_Txn_Reads.a (c15.f_Txn_Reads.xs).length c15.f_Txn_Reads.c, .slice c15.f_Txn_Writes.a (c15.f_Txn_Writes.xs).length c15.f_Txn_Writes.c, .slice c15.f_Txn_Ops.a (c15.f_Txn_Ops.xs).length c15.f_Txn_Ops.c, .int .i64 c15.f_Txn_To, .slice c15.f_Marks.a (c15.f_Marks.xs).length c15.f_Marks.c] 33 (0, 0)) :: ordM c15 :: blk b2 (.cells #[.int .i64 o.f_Tag_Id_Node, .int .u64 o.f_Tag_Id_Epoch, .int .u64 o.f_Tag_Id_Seq, .int .i64 o.f_Tag_Try, .int .i64 o.f_Txn_Kind, .slice o.f_Txn_Reads.a (o.f_Txn_Reads.xs).length o.f_Txn_Reads.c, .slice o.f_Txn_Writes.a (o.f_Txn_Writes.xs).length o.f_Txn_Writes.c, .slice o.f_Txn_Ops.a (o.f_Txn_Ops.xs).length o.f_Txn_Ops.c, .int .i64 o.f_Txn_To, .slice o.f_Marks.a (o.f_Marks.xs).length o.f_Marks.c] 33 (0, 0)) :: F) ++ [row e_I.T e_I.sz a17 (homes c15).length c17 (flat e_I (homes c15))]) (fun w S => S.perm (List.perm_append_comm (l₁ := [row e_I.T e_I.sz a17 (homes c15).length c17 (flat e_I (homes c15))]) (l₂ := blk b5 (.cells #[.int .i64 c15.f_Tag_Id_Node, .int .u64 c15.f_Tag_Id_Epoch, .int .u64 c15.f_Tag_Id_Seq, .int .i64 c15.f_Tag_Try, .int .i64 c15.f_Txn_Kind, .slice c15.f_Txn_Reads.a (c15.f_Txn_Reads.xs).length c15.f_Txn_Reads.c, .slice c15.f_Txn_Writes.a (c15.f_Txn_Writes.xs).length c15.f_Txn_Writes.c, .slice c15.f_Txn_Ops.a (c15.f_Txn_Ops.xs).length c15.f_Txn_Ops.c, .int .i64 c15.f_Txn_To, .slice c15.f_Marks.a (c15.f_Marks.xs).length c15.f_Marks.c] 33 (0, 0)) :: ordM c15 :: blk b2 (.cells #[.int .i64 o.f_Tag_Id_Node, .int .u64 o.f_Tag_Id_Epoch, .int .u64 o.f_Tag_Id_Seq, .int .i64 o.f_Tag_Try, .int .i64 o.f_Txn_Kind, .slice o.f_Txn_Reads.a (o.f_Txn_Reads.xs).length o.f_Txn_Reads.c, .slice o.f_Txn_Writes.a (o.f_Txn_Writes.xs).length o.f_Txn_Writes.c, .slice o.f_Txn_Ops.a (o.f_Txn_Ops.xs).length o.f_Txn_Ops.c, .int .i64 o.f_Txn_To, .slice o.f_Marks.a (o.f_Marks.xs).length o.f_Marks.c] 33 (0, 0)) :: F))) ?_
  refine h_next ?_
  refine h_one 3 rfl (by kernel_rfl) ?_
  refine l_conv (L' := row e_I.T e_I.sz a17 (homes c15).length c17 (flat e_I (homes c15)) :: blk b5 (.cells #[.int .i64 c15.f_Tag_Id_Node, .int .u64 c15.f_Tag_Id_Epoch, .int .u64 c15.f_Tag_Id_Seq, .int .i64 c15.f_Tag_Try, .int .i64 c15.f_Txn_Kind, .slice c15.f_Txn_Reads.a (c15.f_Txn_Reads.xs).length c15.f_Txn_Reads.c, .slice c15.f_Txn_Writes.a (c15.f_Txn_Writes.xs).length c15.f_Txn_Writes.c, .slice c15.f_Txn_Ops.a (c15.f_Txn_Ops.xs).length c15.f_Txn_Ops.c, .int .i64 c15.f_Txn_To, .slice c15.f_Marks.a (c15.f_Marks.xs).length c15.f_Marks.c] 33 (0, 0)) :: ordM c15 :: blk b2 (.cells #[.int .i64 o.f_Tag_Id_Node, .int .u64 o.f_Tag_Id_Epoch, .int .u64 o.f_Tag_Id_Seq, .int .i64 o.f_Tag_Try, .int .i64 o.f_Txn_Kind, .slice o.f_Txn_Reads.a (o.f_Txn_Reads.xs).length o.f_Txn_Reads.c, .slice o.f_Txn_Writes.a (o.f_Txn_Writes.xs).length o.f_Txn_Writes.c, .slice o.f_Txn_Ops.a (o.f_Txn_Ops.xs).length o.f_Txn_Ops.c, .int .i64 o.f_Txn_To, .slice o.f_Marks.a (o.f_Marks.xs).length o.f_Marks.c] 33 (0, 0)) :: F) (fun w S => S.perm List.perm_append_comm) ?_
  refine o_call rfl cal11 rfl (rhomes_ (o := o) (OrdR.c (OrdR.c (OrdR.c (OrdR.c T_o)))) (by have h7 := ((hg13 (by assumption))).m; omega)) ?_
  rintro _ _ ⟨a19, c19, rfl, rfl⟩
  have hhl19 := homes_len o
  refine l_nil ?_
  refine q_conv (L' := (blk b5 (.cells #[.int .i64 c15.f_Tag_Id_Node, .int .u64 c15.f_Tag_Id_Epoch, .int .u64 c15.f_Tag_Id_Seq, .int .i64 c15.f_Tag_Try, .int .i64 c15.f_Txn_Kind, .slice c15.f_Txn_Reads.a (c15.f_Txn_Reads.xs).length c15.f_Txn_Reads.c, .slice c15.f_Txn_Writes.a (c15.f_Txn_Writes.xs).length c15.f_Txn_Writes.c, .slice c15.f_Txn_Ops.a (c15.f_Txn_Ops.xs).length c15.f_Txn_Ops.c, .int .i64 c15.f_Txn_To, .slice c15.f_Marks.a (c15.f_Marks.xs).length c15.f_Marks.c] 33 (0, 0)) :: ordM c15 :: blk b2 (.cells #[.int .i64 o.f_Tag_Id_Node, .int .u64 o.f_Tag_Id_Epoch, .int .u64 o.f_Tag_Id_Seq, .int .i64 o.f_Tag_Try, .int .i64 o.f_Txn_Kind, .slice o.f_Txn_Reads.a (o.f_Txn_Reads.xs).length o.f_Txn_Reads.c, .slice o.f_Txn_Writes.a (o.f_Txn_Writes.xs).length o.f_Txn_Writes.c, .slice o.f_Txn_Ops.a (o.f_Txn_Ops.xs).length o.f_Txn_Ops.c, .int .i64 o.f_Txn_To, .slice o.f_Marks.a (o.f_Marks.xs).length o.f_Marks.c] 33 (0, 0)) :: F) ++ [row e_I.T e_I.sz a19 (homes o).length c19 (flat e_I (homes o)), row e_I.T e_I.sz a17 (homes c15).length c17 (flat e_I (homes c15))]) (fun w S => S.perm (List.perm_append_comm (l₁ := [row e_I.T e_I.sz a19 (homes o).length c19 (flat e_I (homes o)), row e_I.T e_I.sz a17 (homes c15).length c17 (flat e_I (homes c15))]) (l₂ := blk b5 (.cells #[.int .i64 c15.f_Tag_Id_Node, .int .u64 c15.f_Tag_Id_Epoch, .int .u64 c15.f_Tag_Id_Seq, .int .i64 c15.f_Tag_Try, .int .i64 c15.f_Txn_Kind, .slice c15.f_Txn_Reads.a (c15.f_Txn_Reads.xs).length c15.f_Txn_Reads.c, .slice c15.f_Txn_Writes.a (c15.f_Txn_Writes.xs).length c15.f_Txn_Writes.c, .slice c15.f_Txn_Ops.a (c15.f_Txn_Ops.xs).length c15.f_Txn_Ops.c, .int .i64 c15.f_Txn_To, .slice c15.f_Marks.a (c15.f_Marks.xs).length c15.f_Marks.c] 33 (0, 0)) :: ordM c15 :: blk b2 (.cells #[.int .i64 o.f_Tag_Id_Node, .int .u64 o.f_Tag_Id_Epoch, .int .u64 o.f_Tag_Id_Seq, .int .i64 o.f_Tag_Try, .int .i64 o.f_Txn_Kind, .slice o.f_Txn_Reads.a (o.f_Txn_Reads.xs).length o.f_Txn_Reads.c, .slice o.f_Txn_Writes.a (o.f_Txn_Writes.xs).length o.f_Txn_Writes.c, .slice o.f_Txn_Ops.a (o.f_Txn_Ops.xs).length o.f_Txn_Ops.c, .int .i64 o.f_Txn_To, .slice o.f_Marks.a (o.f_Marks.xs).length o.f_Marks.c] 33 (0, 0)) :: F))) ?_
  refine h_next ?_
  refine h_take 4 rfl rfl (by kernel_rfl) (by kernel_rfl) (by kernel_rfl) (fun L0 => v_assign rfl rfl) ?_
  refine h_take 5 rfl rfl (by kernel_rfl) (by kernel_rfl) (by kernel_rfl) (fun L0 => v_assign rfl rfl) ?_
  refine h_done (by kernel_rfl) ?_
  refine q_conv (L' := row e_I.T e_I.sz a19 (homes o).length c19 (flat e_I (homes o)) :: row e_I.T e_I.sz a17 (homes c15).length c17 (flat e_I (homes c15)) :: blk b5 (.cells #[.int .i64 c15.f_Tag_Id_Node, .int .u64 c15.f_Tag_Id_Epoch, .int .u64 c15.f_Tag_Id_Seq, .int .i64 c15.f_Tag_Try, .int .i64 c15.f_Txn_Kind, .slice c15.f_Txn_Reads.a (c15.f_Txn_Reads.xs).length c15.f_Txn_Reads.c, .slice c15.f_Txn_Writes.a (c15.f_Txn_Writes.xs).length c15.f_Txn_Writes.c, .slice c15.f_Txn_Ops.a (c15.f_Txn_Ops.xs).length c15.f_Txn_Ops.c, .int .i64 c15.f_Txn_To, .slice c15.f_Marks.a (c15.f_Marks.xs).length c15.f_Marks.c] 33 (0, 0)) :: ordM c15 :: blk b2 (.cells #[.int .i64 o.f_Tag_Id_Node, .int .u64 o.f_Tag_Id_Epoch, .int .u64 o.f_Tag_Id_Seq, .int .i64 o.f_Tag_Try, .int .i64 o.f_Txn_Kind, .slice o.f_Txn_Reads.a (o.f_Txn_Reads.xs).length o.f_Txn_Reads.c, .slice o.f_Txn_Writes.a (o.f_Txn_Writes.xs).length o.f_Txn_Writes.c, .slice o.f_Txn_Ops.a (o.f_Txn_Ops.xs).length o.f_Txn_Ops.c, .int .i64 o.f_Txn_To, .slice o.f_Marks.a (o.f_Marks.xs).length o.f_Marks.c] 33 (0, 0)) :: F) (fun w S => S.perm List.perm_append_comm) ?_
  refine q_then ?_
  refine c_seq ?_
  refine c_seq ?_
  have hh := homes_same hs_c15
  have hhl := homes_len o
  have hsm := (hg13 (by assumption)).m
  have hhc : (homes c15).length ≤ 61 := by rw [hh]; omega
  refine c_region ?_
  refine o_move rfl rfl ?_
  refine o_len rfl rfl Try.underlying37 ?_
  refine o_move rfl rfl ?_
  refine o_len rfl rfl Try.underlying37 ?_
  refine o_bin rfl rfl rfl b_neq ?_
  refine l_eq (t := 24) (v' := .bool false) rfl (show _ = Value.bool false from by rw [hh]; simp) ?_
  refine l_nil ?_
  refine q_then ?_
  refine c_false rfl ?_
  refine c_skip ?_
  refine q_then ?_
  refine c_seq ?_
  refine c_seq ?_
  refine c_region ?_
  refine o_move rfl rfl ?_
  refine o_len rfl rfl Try.underlying37 ?_
  refine o_move rfl rfl ?_
  refine l_nil ?_
  refine q_then ?_
  refine c_block ?_
  refine c_loop (α := Nat) (fun z => [(1, .int .i64 g), (2, .pointer (some ⟨b2, 0, none⟩)), (5, .pointer (some ⟨b5, 0, none⟩)), (6, .slice a17 (homes c15).length c17), (7, .slice a19 (homes o).length c19), (26, .int .i64 ((homes c15).length : Int)), (27, .int .i64 (z : Int))]) (fun z => row e_I.T e_I.sz a19 (homes o).length c19 (flat e_I (homes o)) :: row e_I.T e_I.sz a17 (homes c15).length c17 (flat e_I (homes c15)) :: blk b5 (.cells #[.int .i64 c15.f_Tag_Id_Node, .int .u64 c15.f_Tag_Id_Epoch, .int .u64 c15.f_Tag_Id_Seq, .int .i64 c15.f_Tag_Try, .int .i64 c15.f_Txn_Kind, .slice c15.f_Txn_Reads.a (c15.f_Txn_Reads.xs).length c15.f_Txn_Reads.c, .slice c15.f_Txn_Writes.a (c15.f_Txn_Writes.xs).length c15.f_Txn_Writes.c, .slice c15.f_Txn_Ops.a (c15.f_Txn_Ops.xs).length c15.f_Txn_Ops.c, .int .i64 c15.f_Txn_To, .slice c15.f_Marks.a (c15.f_Marks.xs).length c15.f_Marks.c] 33 (0, 0)) :: ordM c15 :: blk b2 (.cells #[.int .i64 o.f_Tag_Id_Node, .int .u64 o.f_Tag_Id_Epoch, .int .u64 o.f_Tag_Id_Seq, .int .i64 o.f_Tag_Try, .int .i64 o.f_Txn_Kind, .slice o.f_Txn_Reads.a (o.f_Txn_Reads.xs).length o.f_Txn_Reads.c, .slice o.f_Txn_Writes.a (o.f_Txn_Writes.xs).length o.f_Txn_Writes.c, .slice o.f_Txn_Ops.a (o.f_Txn_Ops.xs).length o.f_Txn_Ops.c, .int .i64 o.f_Txn_To, .slice o.f_Marks.a (o.f_Marks.xs).length o.f_Marks.c] 33 (0, 0)) :: F) (fun z => z ≤ (homes c15).length) (fun z => (homes c15).length - z) (0) (by exact Nat.zero_le _) ⟨(by first | rfl | exact vint (by omega)), (by first | rfl | exact vint (by omega)), (by first | rfl | exact vint (by omega)), (by first | rfl | exact vint (by omega)), (by first | rfl | exact vint (by omega)), (by first | rfl | exact vint (by omega)), (by first | rfl | exact vint (by omega)), trivial⟩ (fun w S => S) ?_
  rintro i hi
  try dsimp only at *
  refine c_seq ?_
  refine c_region ?_
  refine o_bin rfl rfl rfl b_lss ?_
  refine l_nil ?_
  refine q_then ?_
  refine c_seq ?_
  refine c_cond rfl (fun h2 => ?_) (fun h2 => ?_)
  · -- h2T
   have h2b := h2
   try simp only [decide_eq_true_eq] at h2
   refine c_skip ?_
   refine q_then ?_
   refine c_seq ?_
   refine c_block ?_
   refine c_seq ?_
   refine c_region ?_
   refine o_move rfl rfl ?_
   refine o_assign rfl rfl ?_
   refine l_nil ?_
   refine q_then ?_
   refine c_seq ?_
   refine c_fact (p := ∃ ad, a17 = some ad) (rds_some (e := e_I) (xs := homes c15) (rds_own e_I_ok 1 rfl) (by intro h0; have h00 := congrArg List.length h0; simp only [List.length_nil] at h00; omega)) ?_
   rintro ⟨adx, eadx⟩
   refine c_fact (p := ∃ ad, a19 = some ad) (rds_some (e := e_I) (xs := homes o) (rds_own e_I_ok 0 rfl) (by intro h0; have h00 := congrArg List.length h0; simp only [List.length_nil] at h00; rw [hh] at *; omega)) ?_
   rintro ⟨ady, eady⟩
   refine c_quiet (by kernel_rfl) (by kernel_rfl) ?_
   refine Qt.o_val rfl (v_move rfl rfl) ?_
   refine Qt.o_val rfl (v_move rfl rfl) ?_
   refine Qt.o_val rfl (v_indexK e_I_ok eadx rfl rfl rfl Try.underlying37 (by omega) (by omega)) ?_
   obtain ⟨x32, hx32⟩ : ∃ x, (homes c15)[((i : Int)).toNat]? = some x := ⟨_, List.getElem?_eq_getElem (by (try rw [hh]); (try rw [hh] at *); omega)⟩
   refine Qt.o_val rfl (v_load1 rfl rfl Try.underlying3 rfl (rd_sl0 e_I_ok eadx (rds_own e_I_ok 1 rfl) hx32 rfl)) ?_
   refine Qt.o_val rfl (v_move rfl rfl) ?_
   refine Qt.o_val rfl (v_move rfl rfl) ?_
   refine Qt.o_val rfl (v_indexK e_I_ok eady rfl rfl rfl Try.underlying37 (by omega) (by rw [hh] at *; omega)) ?_
   obtain ⟨x36, hx36⟩ : ∃ x, (homes o)[((i : Int)).toNat]? = some x := ⟨_, List.getElem?_eq_getElem (by (try rw [hh]); (try rw [hh] at *); omega)⟩
   have e36 : x32 = x36 := by rw [hh, hx36] at hx32; exact (Option.some.inj hx32).symm
   refine Qt.o_val rfl (v_load1 rfl rfl Try.underlying3 rfl (rd_sl0 e_I_ok eady (rds_own e_I_ok 0 rfl) hx36 rfl)) ?_
   refine Qt.o_val rfl (v_bin rfl rfl rfl b_neq) ?_
   refine Qt.l_eq (t := 38) (v' := .bool false) rfl (show _ = Value.bool false from by rw [e36]; simp) ?_
   refine Qt.l_nil ?_
   refine q_then ?_
   refine c_false rfl ?_
   refine c_skip ?_
   refine q_block ?_
   refine q_then ?_
   refine c_region ?_
   refine o_bin rfl rfl rfl (b_add (wrap_i64 (by omega) (by omega))) ?_
   refine o_move rfl rfl ?_
   refine l_nil ?_
   exact q_round (i + 1) (by omega) (by (try dsimp only); omega) ⟨(by first | rfl | exact vint (by omega)), (by first | rfl | exact vint (by omega)), (by first | rfl | exact vint (by omega)), (by first | rfl | exact vint (by omega)), (by first | rfl | exact vint (by omega)), (by first | rfl | exact vint (by omega)), (by first | rfl | exact vint (by omega)), trivial⟩ (fun w S => S)
  · -- h2F
   have h2b := h2
   try simp only [decide_eq_false_iff_not, Int.not_lt, Int.not_le] at h2
   refine c_exit ?_
   refine q_pass_exit ?_
   refine q_pass_exit ?_
   refine q_hit ?_
   refine q_then ?_
   refine c_seq ?_
   refine c_region ?_
   refine o_loadn (vs := [_, _, _, _, _, _, _, _, _, _]) rfl rfl Try.underlying33 rfl ti33 (rdn_lit 2 rfl rfl) ?_
   refine o_move rfl rfl ?_
   refine o_call rfl cal12 rfl (ocheck_ (o := c15) (g := g) (ordM_R L_c15 3 rfl) (by have h7 := ((OSmall.same (hg13 (by assumption)) hs_c15)).r; have h8 := ((OSmall.same (hg13 (by assumption)) hs_c15)).w; omega) (by have h7 := ((OSmall.same (hg13 (by assumption)) hs_c15)).m; omega)) ?_
   rintro _ _ ⟨rfl, rfl⟩
   refine o_assign rfl rfl ?_
   refine l_nil ?_
   refine q_then ?_
   refine c_seq ?_
   refine c_heldF [] (row e_I.T e_I.sz a19 (homes o).length c19 (flat e_I (homes o)) :: row e_I.T e_I.sz a17 (homes c15).length c17 (flat e_I (homes c15)) :: blk b5 (.cells #[.int .i64 c15.f_Tag_Id_Node, .int .u64 c15.f_Tag_Id_Epoch, .int .u64 c15.f_Tag_Id_Seq, .int .i64 c15.f_Tag_Try, .int .i64 c15.f_Txn_Kind, .slice c15.f_Txn_Reads.a (c15.f_Txn_Reads.xs).length c15.f_Txn_Reads.c, .slice c15.f_Txn_Writes.a (c15.f_Txn_Writes.xs).length c15.f_Txn_Writes.c, .slice c15.f_Txn_Ops.a (c15.f_Txn_Ops.xs).length c15.f_Txn_Ops.c, .int .i64 c15.f_Txn_To, .slice c15.f_Marks.a (c15.f_Marks.xs).length c15.f_Marks.c] 33 (0, 0)) :: ordM c15 :: blk b2 (.cells #[.int .i64 o.f_Tag_Id_Node, .int .u64 o.f_Tag_Id_Epoch, .int .u64 o.f_Tag_Id_Seq, .int .i64 o.f_Tag_Try, .int .i64 o.f_Txn_Kind, .slice o.f_Txn_Reads.a (o.f_Txn_Reads.xs).length o.f_Txn_Reads.c, .slice o.f_Txn_Writes.a (o.f_Txn_Writes.xs).length o.f_Txn_Writes.c, .slice o.f_Txn_Ops.a (o.f_Txn_Ops.xs).length o.f_Txn_Ops.c, .int .i64 o.f_Txn_To, .slice o.f_Marks.a (o.f_Marks.xs).length o.f_Marks.c] 33 (0, 0)) :: F) (by kernel_rfl) ?_
   refine h_take 0 rfl rfl (by kernel_rfl) (by kernel_rfl) (by kernel_rfl) (fun L0 => v_move rfl rfl) ?_
   refine h_take 1 rfl rfl (by kernel_rfl) (by kernel_rfl) (by kernel_rfl) (fun L0 => v_bin rfl rfl rfl b_eql) ?_
   refine h_take 2 rfl rfl (by kernel_rfl) (by kernel_rfl) (by kernel_rfl) (fun L0 => v_loadn (vs := [_, _, _, _, _, _, _, _, _, _]) rfl rfl Try.underlying33 rfl ti33 (rdn_lit 4 rfl rfl)) ?_
   refine h_take 3 rfl rfl (by kernel_rfl) (by kernel_rfl) (by kernel_rfl) (fun L0 => v_move rfl rfl) ?_
   refine h_one 4 rfl (by kernel_rfl) ?_
   refine l_conv (L' := row e_I.T e_I.sz a19 (homes o).length c19 (flat e_I (homes o)) :: row e_I.T e_I.sz a17 (homes c15).length c17 (flat e_I (homes c15)) :: blk b5 (.cells #[.int .i64 c15.f_Tag_Id_Node, .int .u64 c15.f_Tag_Id_Epoch, .int .u64 c15.f_Tag_Id_Seq, .int .i64 c15.f_Tag_Try, .int .i64 c15.f_Txn_Kind, .slice c15.f_Txn_Reads.a (c15.f_Txn_Reads.xs).length c15.f_Txn_Reads.c, .slice c15.f_Txn_Writes.a (c15.f_Txn_Writes.xs).length c15.f_Txn_Writes.c, .slice c15.f_Txn_Ops.a (c15.f_Txn_Ops.xs).length c15.f_Txn_Ops.c, .int .i64 c15.f_Txn_To, .slice c15.f_Marks.a (c15.f_Marks.xs).length c15.f_Marks.c] 33 (0, 0)) :: ordM c15 :: blk b2 (.cells #[.int .i64 o.f_Tag_Id_Node, .int .u64 o.f_Tag_Id_Epoch, .int .u64 o.f_Tag_Id_Seq, .int .i64 o.f_Tag_Try, .int .i64 o.f_Txn_Kind, .slice o.f_Txn_Reads.a (o.f_Txn_Reads.xs).length o.f_Txn_Reads.c, .slice o.f_Txn_Writes.a (o.f_Txn_Writes.xs).length o.f_Txn_Writes.c, .slice o.f_Txn_Ops.a (o.f_Txn_Ops.xs).length o.f_Txn_Ops.c, .int .i64 o.f_Txn_To, .slice o.f_Marks.a (o.f_Marks.xs).length o.f_Marks.c] 33 (0, 0)) :: F) (fun w S => S.perm List.perm_append_comm) ?_
   refine o_call rfl cal13 rfl (roright_ (o := o) (g := g) (OrdR.c (OrdR.c (OrdR.c (OrdR.c (OrdR.c T_o))))) hu (by have h7 := ((hg13 (by assumption))).r; have h8 := ((hg13 (by assumption))).w; omega) (by have h7 := ((hg13 (by assumption))).m; omega)) ?_
   rintro _ _ ⟨rfl, rfl⟩
   refine l_nil ?_
   refine q_conv (L' := (row e_I.T e_I.sz a19 (homes o).length c19 (flat e_I (homes o)) :: row e_I.T e_I.sz a17 (homes c15).length c17 (flat e_I (homes c15)) :: blk b5 (.cells #[.int .i64 c15.f_Tag_Id_Node, .int .u64 c15.f_Tag_Id_Epoch, .int .u64 c15.f_Tag_Id_Seq, .int .i64 c15.f_Tag_Try, .int .i64 c15.f_Txn_Kind, .slice c15.f_Txn_Reads.a (c15.f_Txn_Reads.xs).length c15.f_Txn_Reads.c, .slice c15.f_Txn_Writes.a (c15.f_Txn_Writes.xs).length c15.f_Txn_Writes.c, .slice c15.f_Txn_Ops.a (c15.f_Txn_Ops.xs).length c15.f_Txn_Ops.c, .int .i64 c15.f_Txn_To, .slice c15.f_Marks.a (c15.f_Marks.xs).length c15.f_Marks.c] 33 (0, 0)) :: ordM c15 :: blk b2 (.cells #[.int .i64 o.f_Tag_Id_Node, .int .u64 o.f_Tag_Id_Epoch, .int .u64 o.f_Tag_Id_Seq, .int .i64 o.f_Tag_Try, .int .i64 o.f_Txn_Kind, .slice o.f_Txn_Reads.a (o.f_Txn_Reads.xs).length o.f_Txn_Reads.c, .slice o.f_Txn_Writes.a (o.f_Txn_Writes.xs).length o.f_Txn_Writes.c, .slice o.f_Txn_Ops.a (o.f_Txn_Ops.xs).length o.f_Txn_Ops.c, .int .i64 o.f_Txn_To, .slice o.f_Marks.a (o.f_Marks.xs).length o.f_Marks.c] 33 (0, 0)) :: F) ++ []) (fun w S => S.perm (List.perm_append_comm (l₁ := []) (l₂ := row e_I.T e_I.sz a19 (homes o).length c19 (flat e_I (homes o)) :: row e_I.T e_I.sz a17 (homes c15).length c17 (flat e_I (homes c15)) :: blk b5 (.cells #[.int .i64 c15.f_Tag_Id_Node, .int .u64 c15.f_Tag_Id_Epoch, .int .u64 c15.f_Tag_Id_Seq, .int .i64 c15.f_Tag_Try, .int .i64 c15.f_Txn_Kind, .slice c15.f_Txn_Reads.a (c15.f_Txn_Reads.xs).length c15.f_Txn_Reads.c, .slice c15.f_Txn_Writes.a (c15.f_Txn_Writes.xs).length c15.f_Txn_Writes.c, .slice c15.f_Txn_Ops.a (c15.f_Txn_Ops.xs).length c15.f_Txn_Ops.c, .int .i64 c15.f_Txn_To, .slice c15.f_Marks.a (c15.f_Marks.xs).length c15.f_Marks.c] 33 (0, 0)) :: ordM c15 :: blk b2 (.cells #[.int .i64 o.f_Tag_Id_Node, .int .u64 o.f_Tag_Id_Epoch, .int .u64 o.f_Tag_Id_Seq, .int .i64 o.f_Tag_Try, .int .i64 o.f_Txn_Kind, .slice o.f_Txn_Reads.a (o.f_Txn_Reads.xs).length o.f_Txn_Reads.c, .slice o.f_Txn_Writes.a (o.f_Txn_Writes.xs).length o.f_Txn_Writes.c, .slice o.f_Txn_Ops.a (o.f_Txn_Ops.xs).length o.f_Txn_Ops.c, .int .i64 o.f_Txn_To, .slice o.f_Marks.a (o.f_Marks.xs).length o.f_Marks.c] 33 (0, 0)) :: F))) ?_
   refine h_next ?_
   refine h_take 5 rfl rfl (by kernel_rfl) (by kernel_rfl) (by kernel_rfl) (fun L0 => v_bin rfl rfl rfl (b_beq Try.underlying4 _ _)) ?_
   refine h_eq (t := 48) (v' := .bool true) rfl (show _ = Value.bool true from by rw [chkO_same hs_c15]; by_cases hb : OrdOk o g <;> simp [chkO_0, hb]) ?_
   refine h_take 6 rfl rfl (by kernel_rfl) (by kernel_rfl) (by kernel_rfl) (fun L0 => v_move rfl rfl) ?_
   refine h_take_yes 7 rfl rfl rfl rfl rfl (by kernel_rfl) (by kernel_rfl) (by kernel_rfl) (fun L0 => v_move rfl rfl) ?_
   refine h_take_yes 8 rfl rfl rfl rfl rfl (by kernel_rfl) (by kernel_rfl) (by kernel_rfl) (fun L0 => v_bin rfl rfl rfl b_eql) ?_
   refine h_take_yes 9 rfl rfl rfl rfl rfl (by kernel_rfl) (by kernel_rfl) (by kernel_rfl) (fun L0 => v_move rfl rfl) ?_
   refine h_split (t := 52) rfl (fun h3 => ?_) (fun h3 => ?_)
   · -- h3T
    have h3b := h3
    try simp only [decide_eq_true_eq] at h3
    refine h_take_no 10 rfl rfl rfl rfl rfl (by kernel_rfl) (by kernel_rfl) (by kernel_rfl) ?_
    refine h_take_no 11 rfl rfl rfl rfl rfl (by kernel_rfl) (by kernel_rfl) (by kernel_rfl) ?_
    refine h_take_yes 12 rfl rfl rfl rfl rfl (by kernel_rfl) (by kernel_rfl) (by kernel_rfl) (fun L0 => v_pick_true rfl rfl rfl) ?_
    refine h_take 13 rfl rfl (by kernel_rfl) (by kernel_rfl) (by kernel_rfl) (fun L0 => v_pick_true rfl rfl rfl) ?_
    refine h_take 14 rfl rfl (by kernel_rfl) (by kernel_rfl) (by kernel_rfl) (fun L0 => v_move rfl rfl) ?_
    refine h_take_yes 15 rfl rfl rfl rfl rfl (by kernel_rfl) (by kernel_rfl) (by kernel_rfl) (fun L0 => v_loadn (vs := [_, _, _, _, _, _, _, _, _, _]) rfl rfl Try.underlying33 rfl ti33 (rdn_lit 2 rfl rfl)) ?_
    refine h_take_yes 17 rfl rfl rfl rfl rfl (by kernel_rfl) (by kernel_rfl) (by kernel_rfl) (fun L0 => v_loadn (vs := [_, _, _, _, _, _, _, _, _, _]) rfl rfl Try.underlying33 rfl ti33 (rdn_lit 4 rfl rfl)) ?_
    refine h_one 16 rfl (by kernel_rfl) ?_
    refine l_conv (L' := row e_I.T e_I.sz a19 (homes o).length c19 (flat e_I (homes o)) :: row e_I.T e_I.sz a17 (homes c15).length c17 (flat e_I (homes c15)) :: blk b5 (.cells #[.int .i64 c15.f_Tag_Id_Node, .int .u64 c15.f_Tag_Id_Epoch, .int .u64 c15.f_Tag_Id_Seq, .int .i64 c15.f_Tag_Try, .int .i64 c15.f_Txn_Kind, .slice c15.f_Txn_Reads.a (c15.f_Txn_Reads.xs).length c15.f_Txn_Reads.c, .slice c15.f_Txn_Writes.a (c15.f_Txn_Writes.xs).length c15.f_Txn_Writes.c, .slice c15.f_Txn_Ops.a (c15.f_Txn_Ops.xs).length c15.f_Txn_Ops.c, .int .i64 c15.f_Txn_To, .slice c15.f_Marks.a (c15.f_Marks.xs).length c15.f_Marks.c] 33 (0, 0)) :: ordM c15 :: blk b2 (.cells #[.int .i64 o.f_Tag_Id_Node, .int .u64 o.f_Tag_Id_Epoch, .int .u64 o.f_Tag_Id_Seq, .int .i64 o.f_Tag_Try, .int .i64 o.f_Txn_Kind, .slice o.f_Txn_Reads.a (o.f_Txn_Reads.xs).length o.f_Txn_Reads.c, .slice o.f_Txn_Writes.a (o.f_Txn_Writes.xs).length o.f_Txn_Writes.c, .slice o.f_Txn_Ops.a (o.f_Txn_Ops.xs).length o.f_Txn_Ops.c, .int .i64 o.f_Txn_To, .slice o.f_Marks.a (o.f_Marks.xs).length o.f_Marks.c] 33 (0, 0)) :: F) (fun w S => S.perm List.perm_append_comm) ?_
    refine o_yes rfl rfl rfl ?_
    refine o_call rfl cal14 rfl (single_ (o := c15) (ordM_R L_c15 3 rfl) (by have h7 := ((OSmall.same (hg13 (by assumption)) hs_c15)).m; omega)) ?_
    rintro _ _ ⟨rfl, rfl⟩
    refine l_nil ?_
    refine q_conv (L' := (row e_I.T e_I.sz a19 (homes o).length c19 (flat e_I (homes o)) :: row e_I.T e_I.sz a17 (homes c15).length c17 (flat e_I (homes c15)) :: blk b5 (.cells #[.int .i64 c15.f_Tag_Id_Node, .int .u64 c15.f_Tag_Id_Epoch, .int .u64 c15.f_Tag_Id_Seq, .int .i64 c15.f_Tag_Try, .int .i64 c15.f_Txn_Kind, .slice c15.f_Txn_Reads.a (c15.f_Txn_Reads.xs).length c15.f_Txn_Reads.c, .slice c15.f_Txn_Writes.a (c15.f_Txn_Writes.xs).length c15.f_Txn_Writes.c, .slice c15.f_Txn_Ops.a (c15.f_Txn_Ops.xs).length c15.f_Txn_Ops.c, .int .i64 c15.f_Txn_To, .slice c15.f_Marks.a (c15.f_Marks.xs).length c15.f_Marks.c] 33 (0, 0)) :: ordM c15 :: blk b2 (.cells #[.int .i64 o.f_Tag_Id_Node, .int .u64 o.f_Tag_Id_Epoch, .int .u64 o.f_Tag_Id_Seq, .int .i64 o.f_Tag_Try, .int .i64 o.f_Txn_Kind, .slice o.f_Txn_Reads.a (o.f_Txn_Reads.xs).length o.f_Txn_Reads.c, .slice o.f_Txn_Writes.a (o.f_Txn_Writes.xs).length o.f_Txn_Writes.c, .slice o.f_Txn_Ops.a (o.f_Txn_Ops.xs).length o.f_Txn_Ops.c, .int .i64 o.f_Txn_To, .slice o.f_Marks.a (o.f_Marks.xs).length o.f_Marks.c] 33 (0, 0)) :: F) ++ []) (fun w S => S.perm (List.perm_append_comm (l₁ := []) (l₂ := row e_I.T e_I.sz a19 (homes o).length c19 (flat e_I (homes o)) :: row e_I.T e_I.sz a17 (homes c15).length c17 (flat e_I (homes c15)) :: blk b5 (.cells #[.int .i64 c15.f_Tag_Id_Node, .int .u64 c15.f_Tag_Id_Epoch, .int .u64 c15.f_Tag_Id_Seq, .int .i64 c15.f_Tag_Try, .int .i64 c15.f_Txn_Kind, .slice c15.f_Txn_Reads.a (c15.f_Txn_Reads.xs).length c15.f_Txn_Reads.c, .slice c15.f_Txn_Writes.a (c15.f_Txn_Writes.xs).length c15.f_Txn_Writes.c, .slice c15.f_Txn_Ops.a (c15.f_Txn_Ops.xs).length c15.f_Txn_Ops.c, .int .i64 c15.f_Txn_To, .slice c15.f_Marks.a (c15.f_Marks.xs).length c15.f_Marks.c] 33 (0, 0)) :: ordM c15 :: blk b2 (.cells #[.int .i64 o.f_Tag_Id_Node, .int .u64 o.f_Tag_Id_Epoch, .int .u64 o.f_Tag_Id_Seq, .int .i64 o.f_Tag_Try, .int .i64 o.f_Txn_Kind, .slice o.f_Txn_Reads.a (o.f_Txn_Reads.xs).length o.f_Txn_Reads.c, .slice o.f_Txn_Writes.a (o.f_Txn_Writes.xs).length o.f_Txn_Writes.c, .slice o.f_Txn_Ops.a (o.f_Txn_Ops.xs).length o.f_Txn_Ops.c, .int .i64 o.f_Txn_To, .slice o.f_Marks.a (o.f_Marks.xs).length o.f_Marks.c] 33 (0, 0)) :: F))) ?_
    refine h_next ?_
    refine h_one 18 rfl (by kernel_rfl) ?_
    refine l_conv (L' := row e_I.T e_I.sz a19 (homes o).length c19 (flat e_I (homes o)) :: row e_I.T e_I.sz a17 (homes c15).length c17 (flat e_I (homes c15)) :: blk b5 (.cells #[.int .i64 c15.f_Tag_Id_Node, .int .u64 c15.f_Tag_Id_Epoch, .int .u64 c15.f_Tag_Id_Seq, .int .i64 c15.f_Tag_Try, .int .i64 c15.f_Txn_Kind, .slice c15.f_Txn_Reads.a (c15.f_Txn_Reads.xs).length c15.f_Txn_Reads.c, .slice c15.f_Txn_Writes.a (c15.f_Txn_Writes.xs).length c15.f_Txn_Writes.c, .slice c15.f_Txn_Ops.a (c15.f_Txn_Ops.xs).length c15.f_Txn_Ops.c, .int .i64 c15.f_Txn_To, .slice c15.f_Marks.a (c15.f_Marks.xs).length c15.f_Marks.c] 33 (0, 0)) :: ordM c15 :: blk b2 (.cells #[.int .i64 o.f_Tag_Id_Node, .int .u64 o.f_Tag_Id_Epoch, .int .u64 o.f_Tag_Id_Seq, .int .i64 o.f_Tag_Try, .int .i64 o.f_Txn_Kind, .slice o.f_Txn_Reads.a (o.f_Txn_Reads.xs).length o.f_Txn_Reads.c, .slice o.f_Txn_Writes.a (o.f_Txn_Writes.xs).length o.f_Txn_Writes.c, .slice o.f_Txn_Ops.a (o.f_Txn_Ops.xs).length o.f_Txn_Ops.c, .int .i64 o.f_Txn_To, .slice o.f_Marks.a (o.f_Marks.xs).length o.f_Marks.c] 33 (0, 0)) :: F) (fun w S => S.perm List.perm_append_comm) ?_
    refine o_yes rfl rfl rfl ?_
    refine o_call rfl cal15 rfl (rsingle_ (o := o) (OrdR.c (OrdR.c (OrdR.c (OrdR.c (OrdR.c T_o))))) (by have h7 := ((hg13 (by assumption))).m; omega)) ?_
    rintro _ _ ⟨rfl, rfl⟩
    refine l_nil ?_
    refine q_conv (L' := (row e_I.T e_I.sz a19 (homes o).length c19 (flat e_I (homes o)) :: row e_I.T e_I.sz a17 (homes c15).length c17 (flat e_I (homes c15)) :: blk b5 (.cells #[.int .i64 c15.f_Tag_Id_Node, .int .u64 c15.f_Tag_Id_Epoch, .int .u64 c15.f_Tag_Id_Seq, .int .i64 c15.f_Tag_Try, .int .i64 c15.f_Txn_Kind, .slice c15.f_Txn_Reads.a (c15.f_Txn_Reads.xs).length c15.f_Txn_Reads.c, .slice c15.f_Txn_Writes.a (c15.f_Txn_Writes.xs).length c15.f_Txn_Writes.c, .slice c15.f_Txn_Ops.a (c15.f_Txn_Ops.xs).length c15.f_Txn_Ops.c, .int .i64 c15.f_Txn_To, .slice c15.f_Marks.a (c15.f_Marks.xs).length c15.f_Marks.c] 33 (0, 0)) :: ordM c15 :: blk b2 (.cells #[.int .i64 o.f_Tag_Id_Node, .int .u64 o.f_Tag_Id_Epoch, .int .u64 o.f_Tag_Id_Seq, .int .i64 o.f_Tag_Try, .int .i64 o.f_Txn_Kind, .slice o.f_Txn_Reads.a (o.f_Txn_Reads.xs).length o.f_Txn_Reads.c, .slice o.f_Txn_Writes.a (o.f_Txn_Writes.xs).length o.f_Txn_Writes.c, .slice o.f_Txn_Ops.a (o.f_Txn_Ops.xs).length o.f_Txn_Ops.c, .int .i64 o.f_Txn_To, .slice o.f_Marks.a (o.f_Marks.xs).length o.f_Marks.c] 33 (0, 0)) :: F) ++ []) (fun w S => S.perm (List.perm_append_comm (l₁ := []) (l₂ := row e_I.T e_I.sz a19 (homes o).length c19 (flat e_I (homes o)) :: row e_I.T e_I.sz a17 (homes c15).length c17 (flat e_I (homes c15)) :: blk b5 (.cells #[.int .i64 c15.f_Tag_Id_Node, .int .u64 c15.f_Tag_Id_Epoch, .int .u64 c15.f_Tag_Id_Seq, .int .i64 c15.f_Tag_Try, .int .i64 c15.f_Txn_Kind, .slice c15.f_Txn_Reads.a (c15.f_Txn_Reads.xs).length c15.f_Txn_Reads.c, .slice c15.f_Txn_Writes.a (c15.f_Txn_Writes.xs).length c15.f_Txn_Writes.c, .slice c15.f_Txn_Ops.a (c15.f_Txn_Ops.xs).length c15.f_Txn_Ops.c, .int .i64 c15.f_Txn_To, .slice c15.f_Marks.a (c15.f_Marks.xs).length c15.f_Marks.c] 33 (0, 0)) :: ordM c15 :: blk b2 (.cells #[.int .i64 o.f_Tag_Id_Node, .int .u64 o.f_Tag_Id_Epoch, .int .u64 o.f_Tag_Id_Seq, .int .i64 o.f_Tag_Try, .int .i64 o.f_Txn_Kind, .slice o.f_Txn_Reads.a (o.f_Txn_Reads.xs).length o.f_Txn_Reads.c, .slice o.f_Txn_Writes.a (o.f_Txn_Writes.xs).length o.f_Txn_Writes.c, .slice o.f_Txn_Ops.a (o.f_Txn_Ops.xs).length o.f_Txn_Ops.c, .int .i64 o.f_Txn_To, .slice o.f_Marks.a (o.f_Marks.xs).length o.f_Marks.c] 33 (0, 0)) :: F))) ?_
    refine h_next ?_
    refine h_take_yes 19 rfl rfl rfl rfl rfl (by kernel_rfl) (by kernel_rfl) (by kernel_rfl) (fun L0 => v_bin rfl rfl rfl (b_beq Try.underlying4 _ _)) ?_
    refine h_eq (t := 62) (v' := .bool true) rfl (show _ = Value.bool true from by simp [single_same hs_c15]) ?_
    refine h_take 20 rfl rfl (by kernel_rfl) (by kernel_rfl) (by kernel_rfl) (fun L0 => v_pick_true rfl rfl rfl) ?_
    refine h_take 21 rfl rfl (by kernel_rfl) (by kernel_rfl) (by kernel_rfl) (fun L0 => v_move rfl rfl) ?_
    refine h_take_yes 22 rfl rfl rfl rfl rfl (by kernel_rfl) (by kernel_rfl) (by kernel_rfl) (fun L0 => v_loadn (vs := [_, _, _, _, _, _, _, _, _, _]) rfl rfl Try.underlying33 rfl ti33 (rdn_lit 2 rfl rfl)) ?_
    refine h_take_yes 23 rfl rfl rfl rfl rfl (by kernel_rfl) (by kernel_rfl) (by kernel_rfl) (fun L0 => v_loadn (vs := [_, _, _, _, _, _, _, _, _, _]) rfl rfl Try.underlying33 rfl ti33 (rdn_lit 4 rfl rfl)) ?_
    refine h_one 24 rfl (by kernel_rfl) ?_
    refine l_conv (L' := row e_I.T e_I.sz a19 (homes o).length c19 (flat e_I (homes o)) :: row e_I.T e_I.sz a17 (homes c15).length c17 (flat e_I (homes c15)) :: blk b5 (.cells #[.int .i64 c15.f_Tag_Id_Node, .int .u64 c15.f_Tag_Id_Epoch, .int .u64 c15.f_Tag_Id_Seq, .int .i64 c15.f_Tag_Try, .int .i64 c15.f_Txn_Kind, .slice c15.f_Txn_Reads.a (c15.f_Txn_Reads.xs).length c15.f_Txn_Reads.c, .slice c15.f_Txn_Writes.a (c15.f_Txn_Writes.xs).length c15.f_Txn_Writes.c, .slice c15.f_Txn_Ops.a (c15.f_Txn_Ops.xs).length c15.f_Txn_Ops.c, .int .i64 c15.f_Txn_To, .slice c15.f_Marks.a (c15.f_Marks.xs).length c15.f_Marks.c] 33 (0, 0)) :: ordM c15 :: blk b2 (.cells #[.int .i64 o.f_Tag_Id_Node, .int .u64 o.f_Tag_Id_Epoch, .int .u64 o.f_Tag_Id_Seq, .int .i64 o.f_Tag_Try, .int .i64 o.f_Txn_Kind, .slice o.f_Txn_Reads.a (o.f_Txn_Reads.xs).length o.f_Txn_Reads.c, .slice o.f_Txn_Writes.a (o.f_Txn_Writes.xs).length o.f_Txn_Writes.c, .slice o.f_Txn_Ops.a (o.f_Txn_Ops.xs).length o.f_Txn_Ops.c, .int .i64 o.f_Txn_To, .slice o.f_Marks.a (o.f_Marks.xs).length o.f_Marks.c] 33 (0, 0)) :: F) (fun w S => S.perm List.perm_append_comm) ?_
    refine o_yes rfl rfl rfl ?_
    refine o_call rfl cal16 rfl (same9_ (a := c15) (b := o) (ordM_R L_c15 3 rfl) (OrdR.c (OrdR.c (OrdR.c (OrdR.c (OrdR.c T_o)))))) ?_
    rintro _ _ ⟨rfl, rfl⟩
    refine l_nil ?_
    refine q_conv (L' := (row e_I.T e_I.sz a19 (homes o).length c19 (flat e_I (homes o)) :: row e_I.T e_I.sz a17 (homes c15).length c17 (flat e_I (homes c15)) :: blk b5 (.cells #[.int .i64 c15.f_Tag_Id_Node, .int .u64 c15.f_Tag_Id_Epoch, .int .u64 c15.f_Tag_Id_Seq, .int .i64 c15.f_Tag_Try, .int .i64 c15.f_Txn_Kind, .slice c15.f_Txn_Reads.a (c15.f_Txn_Reads.xs).length c15.f_Txn_Reads.c, .slice c15.f_Txn_Writes.a (c15.f_Txn_Writes.xs).length c15.f_Txn_Writes.c, .slice c15.f_Txn_Ops.a (c15.f_Txn_Ops.xs).length c15.f_Txn_Ops.c, .int .i64 c15.f_Txn_To, .slice c15.f_Marks.a (c15.f_Marks.xs).length c15.f_Marks.c] 33 (0, 0)) :: ordM c15 :: blk b2 (.cells #[.int .i64 o.f_Tag_Id_Node, .int .u64 o.f_Tag_Id_Epoch, .int .u64 o.f_Tag_Id_Seq, .int .i64 o.f_Tag_Try, .int .i64 o.f_Txn_Kind, .slice o.f_Txn_Reads.a (o.f_Txn_Reads.xs).length o.f_Txn_Reads.c, .slice o.f_Txn_Writes.a (o.f_Txn_Writes.xs).length o.f_Txn_Writes.c, .slice o.f_Txn_Ops.a (o.f_Txn_Ops.xs).length o.f_Txn_Ops.c, .int .i64 o.f_Txn_To, .slice o.f_Marks.a (o.f_Marks.xs).length o.f_Marks.c] 33 (0, 0)) :: F) ++ []) (fun w S => S.perm (List.perm_append_comm (l₁ := []) (l₂ := row e_I.T e_I.sz a19 (homes o).length c19 (flat e_I (homes o)) :: row e_I.T e_I.sz a17 (homes c15).length c17 (flat e_I (homes c15)) :: blk b5 (.cells #[.int .i64 c15.f_Tag_Id_Node, .int .u64 c15.f_Tag_Id_Epoch, .int .u64 c15.f_Tag_Id_Seq, .int .i64 c15.f_Tag_Try, .int .i64 c15.f_Txn_Kind, .slice c15.f_Txn_Reads.a (c15.f_Txn_Reads.xs).length c15.f_Txn_Reads.c, .slice c15.f_Txn_Writes.a (c15.f_Txn_Writes.xs).length c15.f_Txn_Writes.c, .slice c15.f_Txn_Ops.a (c15.f_Txn_Ops.xs).length c15.f_Txn_Ops.c, .int .i64 c15.f_Txn_To, .slice c15.f_Marks.a (c15.f_Marks.xs).length c15.f_Marks.c] 33 (0, 0)) :: ordM c15 :: blk b2 (.cells #[.int .i64 o.f_Tag_Id_Node, .int .u64 o.f_Tag_Id_Epoch, .int .u64 o.f_Tag_Id_Seq, .int .i64 o.f_Tag_Try, .int .i64 o.f_Txn_Kind, .slice o.f_Txn_Reads.a (o.f_Txn_Reads.xs).length o.f_Txn_Reads.c, .slice o.f_Txn_Writes.a (o.f_Txn_Writes.xs).length o.f_Txn_Writes.c, .slice o.f_Txn_Ops.a (o.f_Txn_Ops.xs).length o.f_Txn_Ops.c, .int .i64 o.f_Txn_To, .slice o.f_Marks.a (o.f_Marks.xs).length o.f_Marks.c] 33 (0, 0)) :: F))) ?_
    refine h_next ?_
    refine h_eq (t := 67) (v' := .bool true) rfl (show _ = Value.bool true from by rw [decide_eq_true hs_c15]) ?_
    refine h_take 25 rfl rfl (by kernel_rfl) (by kernel_rfl) (by kernel_rfl) (fun L0 => v_pick_true rfl rfl rfl) ?_
    refine h_take 26 rfl rfl (by kernel_rfl) (by kernel_rfl) (by kernel_rfl) (fun L0 => v_assign rfl rfl) ?_
    refine h_done (by kernel_rfl) ?_
    refine q_conv (L' := row e_I.T e_I.sz a19 (homes o).length c19 (flat e_I (homes o)) :: row e_I.T e_I.sz a17 (homes c15).length c17 (flat e_I (homes c15)) :: blk b5 (.cells #[.int .i64 c15.f_Tag_Id_Node, .int .u64 c15.f_Tag_Id_Epoch, .int .u64 c15.f_Tag_Id_Seq, .int .i64 c15.f_Tag_Try, .int .i64 c15.f_Txn_Kind, .slice c15.f_Txn_Reads.a (c15.f_Txn_Reads.xs).length c15.f_Txn_Reads.c, .slice c15.f_Txn_Writes.a (c15.f_Txn_Writes.xs).length c15.f_Txn_Writes.c, .slice c15.f_Txn_Ops.a (c15.f_Txn_Ops.xs).length c15.f_Txn_Ops.c, .int .i64 c15.f_Txn_To, .slice c15.f_Marks.a (c15.f_Marks.xs).length c15.f_Marks.c] 33 (0, 0)) :: ordM c15 :: blk b2 (.cells #[.int .i64 o.f_Tag_Id_Node, .int .u64 o.f_Tag_Id_Epoch, .int .u64 o.f_Tag_Id_Seq, .int .i64 o.f_Tag_Try, .int .i64 o.f_Txn_Kind, .slice o.f_Txn_Reads.a (o.f_Txn_Reads.xs).length o.f_Txn_Reads.c, .slice o.f_Txn_Writes.a (o.f_Txn_Writes.xs).length o.f_Txn_Writes.c, .slice o.f_Txn_Ops.a (o.f_Txn_Ops.xs).length o.f_Txn_Ops.c, .int .i64 o.f_Txn_To, .slice o.f_Marks.a (o.f_Marks.xs).length o.f_Marks.c] 33 (0, 0)) :: F) (fun w S => S.perm List.perm_append_comm) ?_
    refine q_then ?_
    refine c_ret ?_
    refine q_conv (fun w S => S.tail) ?_
    refine q_conv (fun w S => S.tail) ?_
    refine q_conv (fun w S => S.tail) ?_
    refine q_conv (fun w S => S.tail) ?_
    refine q_conv (fun w S => S.tail) ?_
    exact f_ret (r_one rfl rfl) (⟨rfl, rfl⟩) (fun w S => S)
   · -- h3F
    have h3b := h3
    try simp only [decide_eq_false_iff_not, Int.not_lt, Int.not_le] at h3
    refine h_take_yes 10 rfl rfl rfl rfl rfl (by kernel_rfl) (by kernel_rfl) (by kernel_rfl) (fun L0 => v_move rfl rfl) ?_
    refine h_take_yes 11 rfl rfl rfl rfl rfl (by kernel_rfl) (by kernel_rfl) (by kernel_rfl) (fun L0 => v_bin rfl rfl rfl b_eql) ?_
    refine h_eq (t := 54) (v' := .bool true) rfl (show _ = Value.bool true from by rw [chkO_1 (by assumption)]; rfl) ?_
    refine h_take_yes 12 rfl rfl rfl rfl rfl (by kernel_rfl) (by kernel_rfl) (by kernel_rfl) (fun L0 => v_pick_false rfl rfl rfl) ?_
    refine h_take 13 rfl rfl (by kernel_rfl) (by kernel_rfl) (by kernel_rfl) (fun L0 => v_pick_true rfl rfl rfl) ?_
    refine h_take 14 rfl rfl (by kernel_rfl) (by kernel_rfl) (by kernel_rfl) (fun L0 => v_move rfl rfl) ?_
    refine h_take_yes 15 rfl rfl rfl rfl rfl (by kernel_rfl) (by kernel_rfl) (by kernel_rfl) (fun L0 => v_loadn (vs := [_, _, _, _, _, _, _, _, _, _]) rfl rfl Try.underlying33 rfl ti33 (rdn_lit 2 rfl rfl)) ?_
    refine h_take_yes 17 rfl rfl rfl rfl rfl (by kernel_rfl) (by kernel_rfl) (by kernel_rfl) (fun L0 => v_loadn (vs := [_, _, _, _, _, _, _, _, _, _]) rfl rfl Try.underlying33 rfl ti33 (rdn_lit 4 rfl rfl)) ?_
    refine h_one 16 rfl (by kernel_rfl) ?_
    refine l_conv (L' := row e_I.T e_I.sz a19 (homes o).length c19 (flat e_I (homes o)) :: row e_I.T e_I.sz a17 (homes c15).length c17 (flat e_I (homes c15)) :: blk b5 (.cells #[.int .i64 c15.f_Tag_Id_Node, .int .u64 c15.f_Tag_Id_Epoch, .int .u64 c15.f_Tag_Id_Seq, .int .i64 c15.f_Tag_Try, .int .i64 c15.f_Txn_Kind, .slice c15.f_Txn_Reads.a (c15.f_Txn_Reads.xs).length c15.f_Txn_Reads.c, .slice c15.f_Txn_Writes.a (c15.f_Txn_Writes.xs).length c15.f_Txn_Writes.c, .slice c15.f_Txn_Ops.a (c15.f_Txn_Ops.xs).length c15.f_Txn_Ops.c, .int .i64 c15.f_Txn_To, .slice c15.f_Marks.a (c15.f_Marks.xs).length c15.f_Marks.c] 33 (0, 0)) :: ordM c15 :: blk b2 (.cells #[.int .i64 o.f_Tag_Id_Node, .int .u64 o.f_Tag_Id_Epoch, .int .u64 o.f_Tag_Id_Seq, .int .i64 o.f_Tag_Try, .int .i64 o.f_Txn_Kind, .slice o.f_Txn_Reads.a (o.f_Txn_Reads.xs).length o.f_Txn_Reads.c, .slice o.f_Txn_Writes.a (o.f_Txn_Writes.xs).length o.f_Txn_Writes.c, .slice o.f_Txn_Ops.a (o.f_Txn_Ops.xs).length o.f_Txn_Ops.c, .int .i64 o.f_Txn_To, .slice o.f_Marks.a (o.f_Marks.xs).length o.f_Marks.c] 33 (0, 0)) :: F) (fun w S => S.perm List.perm_append_comm) ?_
    refine o_yes rfl rfl rfl ?_
    refine o_call rfl cal14 rfl (single_ (o := c15) (ordM_R L_c15 3 rfl) (by have h7 := ((OSmall.same (hg13 (by assumption)) hs_c15)).m; omega)) ?_
    rintro _ _ ⟨rfl, rfl⟩
    refine l_nil ?_
    refine q_conv (L' := (row e_I.T e_I.sz a19 (homes o).length c19 (flat e_I (homes o)) :: row e_I.T e_I.sz a17 (homes c15).length c17 (flat e_I (homes c15)) :: blk b5 (.cells #[.int .i64 c15.f_Tag_Id_Node, .int .u64 c15.f_Tag_Id_Epoch, .int .u64 c15.f_Tag_Id_Seq, .int .i64 c15.f_Tag_Try, .int .i64 c15.f_Txn_Kind, .slice c15.f_Txn_Reads.a (c15.f_Txn_Reads.xs).length c15.f_Txn_Reads.c, .slice c15.f_Txn_Writes.a (c15.f_Txn_Writes.xs).length c15.f_Txn_Writes.c, .slice c15.f_Txn_Ops.a (c15.f_Txn_Ops.xs).length c15.f_Txn_Ops.c, .int .i64 c15.f_Txn_To, .slice c15.f_Marks.a (c15.f_Marks.xs).length c15.f_Marks.c] 33 (0, 0)) :: ordM c15 :: blk b2 (.cells #[.int .i64 o.f_Tag_Id_Node, .int .u64 o.f_Tag_Id_Epoch, .int .u64 o.f_Tag_Id_Seq, .int .i64 o.f_Tag_Try, .int .i64 o.f_Txn_Kind, .slice o.f_Txn_Reads.a (o.f_Txn_Reads.xs).length o.f_Txn_Reads.c, .slice o.f_Txn_Writes.a (o.f_Txn_Writes.xs).length o.f_Txn_Writes.c, .slice o.f_Txn_Ops.a (o.f_Txn_Ops.xs).length o.f_Txn_Ops.c, .int .i64 o.f_Txn_To, .slice o.f_Marks.a (o.f_Marks.xs).length o.f_Marks.c] 33 (0, 0)) :: F) ++ []) (fun w S => S.perm (List.perm_append_comm (l₁ := []) (l₂ := row e_I.T e_I.sz a19 (homes o).length c19 (flat e_I (homes o)) :: row e_I.T e_I.sz a17 (homes c15).length c17 (flat e_I (homes c15)) :: blk b5 (.cells #[.int .i64 c15.f_Tag_Id_Node, .int .u64 c15.f_Tag_Id_Epoch, .int .u64 c15.f_Tag_Id_Seq, .int .i64 c15.f_Tag_Try, .int .i64 c15.f_Txn_Kind, .slice c15.f_Txn_Reads.a (c15.f_Txn_Reads.xs).length c15.f_Txn_Reads.c, .slice c15.f_Txn_Writes.a (c15.f_Txn_Writes.xs).length c15.f_Txn_Writes.c, .slice c15.f_Txn_Ops.a (c15.f_Txn_Ops.xs).length c15.f_Txn_Ops.c, .int .i64 c15.f_Txn_To, .slice c15.f_Marks.a (c15.f_Marks.xs).length c15.f_Marks.c] 33 (0, 0)) :: ordM c15 :: blk b2 (.cells #[.int .i64 o.f_Tag_Id_Node, .int .u64 o.f_Tag_Id_Epoch, .int .u64 o.f_Tag_Id_Seq, .int .i64 o.f_Tag_Try, .int .i64 o.f_Txn_Kind, .slice o.f_Txn_Reads.a (o.f_Txn_Reads.xs).length o.f_Txn_Reads.c, .slice o.f_Txn_Writes.a (o.f_Txn_Writes.xs).length o.f_Txn_Writes.c, .slice o.f_Txn_Ops.a (o.f_Txn_Ops.xs).length o.f_Txn_Ops.c, .int .i64 o.f_Txn_To, .slice o.f_Marks.a (o.f_Marks.xs).length o.f_Marks.c] 33 (0, 0)) :: F))) ?_
    refine h_next ?_
    refine h_one 18 rfl (by kernel_rfl) ?_
    refine l_conv (L' := row e_I.T e_I.sz a19 (homes o).length c19 (flat e_I (homes o)) :: row e_I.T e_I.sz a17 (homes c15).length c17 (flat e_I (homes c15)) :: blk b5 (.cells #[.int .i64 c15.f_Tag_Id_Node, .int .u64 c15.f_Tag_Id_Epoch, .int .u64 c15.f_Tag_Id_Seq, .int .i64 c15.f_Tag_Try, .int .i64 c15.f_Txn_Kind, .slice c15.f_Txn_Reads.a (c15.f_Txn_Reads.xs).length c15.f_Txn_Reads.c, .slice c15.f_Txn_Writes.a (c15.f_Txn_Writes.xs).length c15.f_Txn_Writes.c, .slice c15.f_Txn_Ops.a (c15.f_Txn_Ops.xs).length c15.f_Txn_Ops.c, .int .i64 c15.f_Txn_To, .slice c15.f_Marks.a (c15.f_Marks.xs).length c15.f_Marks.c] 33 (0, 0)) :: ordM c15 :: blk b2 (.cells #[.int .i64 o.f_Tag_Id_Node, .int .u64 o.f_Tag_Id_Epoch, .int .u64 o.f_Tag_Id_Seq, .int .i64 o.f_Tag_Try, .int .i64 o.f_Txn_Kind, .slice o.f_Txn_Reads.a (o.f_Txn_Reads.xs).length o.f_Txn_Reads.c, .slice o.f_Txn_Writes.a (o.f_Txn_Writes.xs).length o.f_Txn_Writes.c, .slice o.f_Txn_Ops.a (o.f_Txn_Ops.xs).length o.f_Txn_Ops.c, .int .i64 o.f_Txn_To, .slice o.f_Marks.a (o.f_Marks.xs).length o.f_Marks.c] 33 (0, 0)) :: F) (fun w S => S.perm List.perm_append_comm) ?_
    refine o_yes rfl rfl rfl ?_
    refine o_call rfl cal15 rfl (rsingle_ (o := o) (OrdR.c (OrdR.c (OrdR.c (OrdR.c (OrdR.c T_o))))) (by have h7 := ((hg13 (by assumption))).m; omega)) ?_
    rintro _ _ ⟨rfl, rfl⟩
    refine l_nil ?_
    refine q_conv (L' := (row e_I.T e_I.sz a19 (homes o).length c19 (flat e_I (homes o)) :: row e_I.T e_I.sz a17 (homes c15).length c17 (flat e_I (homes c15)) :: blk b5 (.cells #[.int .i64 c15.f_Tag_Id_Node, .int .u64 c15.f_Tag_Id_Epoch, .int .u64 c15.f_Tag_Id_Seq, .int .i64 c15.f_Tag_Try, .int .i64 c15.f_Txn_Kind, .slice c15.f_Txn_Reads.a (c15.f_Txn_Reads.xs).length c15.f_Txn_Reads.c, .slice c15.f_Txn_Writes.a (c15.f_Txn_Writes.xs).length c15.f_Txn_Writes.c, .slice c15.f_Txn_Ops.a (c15.f_Txn_Ops.xs).length c15.f_Txn_Ops.c, .int .i64 c15.f_Txn_To, .slice c15.f_Marks.a (c15.f_Marks.xs).length c15.f_Marks.c] 33 (0, 0)) :: ordM c15 :: blk b2 (.cells #[.int .i64 o.f_Tag_Id_Node, .int .u64 o.f_Tag_Id_Epoch, .int .u64 o.f_Tag_Id_Seq, .int .i64 o.f_Tag_Try, .int .i64 o.f_Txn_Kind, .slice o.f_Txn_Reads.a (o.f_Txn_Reads.xs).length o.f_Txn_Reads.c, .slice o.f_Txn_Writes.a (o.f_Txn_Writes.xs).length o.f_Txn_Writes.c, .slice o.f_Txn_Ops.a (o.f_Txn_Ops.xs).length o.f_Txn_Ops.c, .int .i64 o.f_Txn_To, .slice o.f_Marks.a (o.f_Marks.xs).length o.f_Marks.c] 33 (0, 0)) :: F) ++ []) (fun w S => S.perm (List.perm_append_comm (l₁ := []) (l₂ := row e_I.T e_I.sz a19 (homes o).length c19 (flat e_I (homes o)) :: row e_I.T e_I.sz a17 (homes c15).length c17 (flat e_I (homes c15)) :: blk b5 (.cells #[.int .i64 c15.f_Tag_Id_Node, .int .u64 c15.f_Tag_Id_Epoch, .int .u64 c15.f_Tag_Id_Seq, .int .i64 c15.f_Tag_Try, .int .i64 c15.f_Txn_Kind, .slice c15.f_Txn_Reads.a (c15.f_Txn_Reads.xs).length c15.f_Txn_Reads.c, .slice c15.f_Txn_Writes.a (c15.f_Txn_Writes.xs).length c15.f_Txn_Writes.c, .slice c15.f_Txn_Ops.a (c15.f_Txn_Ops.xs).length c15.f_Txn_Ops.c, .int .i64 c15.f_Txn_To, .slice c15.f_Marks.a (c15.f_Marks.xs).length c15.f_Marks.c] 33 (0, 0)) :: ordM c15 :: blk b2 (.cells #[.int .i64 o.f_Tag_Id_Node, .int .u64 o.f_Tag_Id_Epoch, .int .u64 o.f_Tag_Id_Seq, .int .i64 o.f_Tag_Try, .int .i64 o.f_Txn_Kind, .slice o.f_Txn_Reads.a (o.f_Txn_Reads.xs).length o.f_Txn_Reads.c, .slice o.f_Txn_Writes.a (o.f_Txn_Writes.xs).length o.f_Txn_Writes.c, .slice o.f_Txn_Ops.a (o.f_Txn_Ops.xs).length o.f_Txn_Ops.c, .int .i64 o.f_Txn_To, .slice o.f_Marks.a (o.f_Marks.xs).length o.f_Marks.c] 33 (0, 0)) :: F))) ?_
    refine h_next ?_
    refine h_take_yes 19 rfl rfl rfl rfl rfl (by kernel_rfl) (by kernel_rfl) (by kernel_rfl) (fun L0 => v_bin rfl rfl rfl (b_beq Try.underlying4 _ _)) ?_
    refine h_eq (t := 62) (v' := .bool true) rfl (show _ = Value.bool true from by simp [single_same hs_c15]) ?_
    refine h_take 20 rfl rfl (by kernel_rfl) (by kernel_rfl) (by kernel_rfl) (fun L0 => v_pick_true rfl rfl rfl) ?_
    refine h_take 21 rfl rfl (by kernel_rfl) (by kernel_rfl) (by kernel_rfl) (fun L0 => v_move rfl rfl) ?_
    refine h_take_yes 22 rfl rfl rfl rfl rfl (by kernel_rfl) (by kernel_rfl) (by kernel_rfl) (fun L0 => v_loadn (vs := [_, _, _, _, _, _, _, _, _, _]) rfl rfl Try.underlying33 rfl ti33 (rdn_lit 2 rfl rfl)) ?_
    refine h_take_yes 23 rfl rfl rfl rfl rfl (by kernel_rfl) (by kernel_rfl) (by kernel_rfl) (fun L0 => v_loadn (vs := [_, _, _, _, _, _, _, _, _, _]) rfl rfl Try.underlying33 rfl ti33 (rdn_lit 4 rfl rfl)) ?_
    refine h_one 24 rfl (by kernel_rfl) ?_
    refine l_conv (L' := row e_I.T e_I.sz a19 (homes o).length c19 (flat e_I (homes o)) :: row e_I.T e_I.sz a17 (homes c15).length c17 (flat e_I (homes c15)) :: blk b5 (.cells #[.int .i64 c15.f_Tag_Id_Node, .int .u64 c15.f_Tag_Id_Epoch, .int .u64 c15.f_Tag_Id_Seq, .int .i64 c15.f_Tag_Try, .int .i64 c15.f_Txn_Kind, .slice c15.f_Txn_Reads.a (c15.f_Txn_Reads.xs).length c15.f_Txn_Reads.c, .slice c15.f_Txn_Writes.a (c15.f_Txn_Writes.xs).length c15.f_Txn_Writes.c, .slice c15.f_Txn_Ops.a (c15.f_Txn_Ops.xs).length c15.f_Txn_Ops.c, .int .i64 c15.f_Txn_To, .slice c15.f_Marks.a (c15.f_Marks.xs).length c15.f_Marks.c] 33 (0, 0)) :: ordM c15 :: blk b2 (.cells #[.int .i64 o.f_Tag_Id_Node, .int .u64 o.f_Tag_Id_Epoch, .int .u64 o.f_Tag_Id_Seq, .int .i64 o.f_Tag_Try, .int .i64 o.f_Txn_Kind, .slice o.f_Txn_Reads.a (o.f_Txn_Reads.xs).length o.f_Txn_Reads.c, .slice o.f_Txn_Writes.a (o.f_Txn_Writes.xs).length o.f_Txn_Writes.c, .slice o.f_Txn_Ops.a (o.f_Txn_Ops.xs).length o.f_Txn_Ops.c, .int .i64 o.f_Txn_To, .slice o.f_Marks.a (o.f_Marks.xs).length o.f_Marks.c] 33 (0, 0)) :: F) (fun w S => S.perm List.perm_append_comm) ?_
    refine o_yes rfl rfl rfl ?_
    refine o_call rfl cal16 rfl (same9_ (a := c15) (b := o) (ordM_R L_c15 3 rfl) (OrdR.c (OrdR.c (OrdR.c (OrdR.c (OrdR.c T_o)))))) ?_
    rintro _ _ ⟨rfl, rfl⟩
    refine l_nil ?_
    refine q_conv (L' := (row e_I.T e_I.sz a19 (homes o).length c19 (flat e_I (homes o)) :: row e_I.T e_I.sz a17 (homes c15).length c17 (flat e_I (homes c15)) :: blk b5 (.cells #[.int .i64 c15.f_Tag_Id_Node, .int .u64 c15.f_Tag_Id_Epoch, .int .u64 c15.f_Tag_Id_Seq, .int .i64 c15.f_Tag_Try, .int .i64 c15.f_Txn_Kind, .slice c15.f_Txn_Reads.a (c15.f_Txn_Reads.xs).length c15.f_Txn_Reads.c, .slice c15.f_Txn_Writes.a (c15.f_Txn_Writes.xs).length c15.f_Txn_Writes.c, .slice c15.f_Txn_Ops.a (c15.f_Txn_Ops.xs).length c15.f_Txn_Ops.c, .int .i64 c15.f_Txn_To, .slice c15.f_Marks.a (c15.f_Marks.xs).length c15.f_Marks.c] 33 (0, 0)) :: ordM c15 :: blk b2 (.cells #[.int .i64 o.f_Tag_Id_Node, .int .u64 o.f_Tag_Id_Epoch, .int .u64 o.f_Tag_Id_Seq, .int .i64 o.f_Tag_Try, .int .i64 o.f_Txn_Kind, .slice o.f_Txn_Reads.a (o.f_Txn_Reads.xs).length o.f_Txn_Reads.c, .slice o.f_Txn_Writes.a (o.f_Txn_Writes.xs).length o.f_Txn_Writes.c, .slice o.f_Txn_Ops.a (o.f_Txn_Ops.xs).length o.f_Txn_Ops.c, .int .i64 o.f_Txn_To, .slice o.f_Marks.a (o.f_Marks.xs).length o.f_Marks.c] 33 (0, 0)) :: F) ++ []) (fun w S => S.perm (List.perm_append_comm (l₁ := []) (l₂ := row e_I.T e_I.sz a19 (homes o).length c19 (flat e_I (homes o)) :: row e_I.T e_I.sz a17 (homes c15).length c17 (flat e_I (homes c15)) :: blk b5 (.cells #[.int .i64 c15.f_Tag_Id_Node, .int .u64 c15.f_Tag_Id_Epoch, .int .u64 c15.f_Tag_Id_Seq, .int .i64 c15.f_Tag_Try, .int .i64 c15.f_Txn_Kind, .slice c15.f_Txn_Reads.a (c15.f_Txn_Reads.xs).length c15.f_Txn_Reads.c, .slice c15.f_Txn_Writes.a (c15.f_Txn_Writes.xs).length c15.f_Txn_Writes.c, .slice c15.f_Txn_Ops.a (c15.f_Txn_Ops.xs).length c15.f_Txn_Ops.c, .int .i64 c15.f_Txn_To, .slice c15.f_Marks.a (c15.f_Marks.xs).length c15.f_Marks.c] 33 (0, 0)) :: ordM c15 :: blk b2 (.cells #[.int .i64 o.f_Tag_Id_Node, .int .u64 o.f_Tag_Id_Epoch, .int .u64 o.f_Tag_Id_Seq, .int .i64 o.f_Tag_Try, .int .i64 o.f_Txn_Kind, .slice o.f_Txn_Reads.a (o.f_Txn_Reads.xs).length o.f_Txn_Reads.c, .slice o.f_Txn_Writes.a (o.f_Txn_Writes.xs).length o.f_Txn_Writes.c, .slice o.f_Txn_Ops.a (o.f_Txn_Ops.xs).length o.f_Txn_Ops.c, .int .i64 o.f_Txn_To, .slice o.f_Marks.a (o.f_Marks.xs).length o.f_Marks.c] 33 (0, 0)) :: F))) ?_
    refine h_next ?_
    refine h_eq (t := 67) (v' := .bool true) rfl (show _ = Value.bool true from by rw [decide_eq_true hs_c15]) ?_
    refine h_take 25 rfl rfl (by kernel_rfl) (by kernel_rfl) (by kernel_rfl) (fun L0 => v_pick_true rfl rfl rfl) ?_
    refine h_take 26 rfl rfl (by kernel_rfl) (by kernel_rfl) (by kernel_rfl) (fun L0 => v_assign rfl rfl) ?_
    refine h_done (by kernel_rfl) ?_
    refine q_conv (L' := row e_I.T e_I.sz a19 (homes o).length c19 (flat e_I (homes o)) :: row e_I.T e_I.sz a17 (homes c15).length c17 (flat e_I (homes c15)) :: blk b5 (.cells #[.int .i64 c15.f_Tag_Id_Node, .int .u64 c15.f_Tag_Id_Epoch, .int .u64 c15.f_Tag_Id_Seq, .int .i64 c15.f_Tag_Try, .int .i64 c15.f_Txn_Kind, .slice c15.f_Txn_Reads.a (c15.f_Txn_Reads.xs).length c15.f_Txn_Reads.c, .slice c15.f_Txn_Writes.a (c15.f_Txn_Writes.xs).length c15.f_Txn_Writes.c, .slice c15.f_Txn_Ops.a (c15.f_Txn_Ops.xs).length c15.f_Txn_Ops.c, .int .i64 c15.f_Txn_To, .slice c15.f_Marks.a (c15.f_Marks.xs).length c15.f_Marks.c] 33 (0, 0)) :: ordM c15 :: blk b2 (.cells #[.int .i64 o.f_Tag_Id_Node, .int .u64 o.f_Tag_Id_Epoch, .int .u64 o.f_Tag_Id_Seq, .int .i64 o.f_Tag_Try, .int .i64 o.f_Txn_Kind, .slice o.f_Txn_Reads.a (o.f_Txn_Reads.xs).length o.f_Txn_Reads.c, .slice o.f_Txn_Writes.a (o.f_Txn_Writes.xs).length o.f_Txn_Writes.c, .slice o.f_Txn_Ops.a (o.f_Txn_Ops.xs).length o.f_Txn_Ops.c, .int .i64 o.f_Txn_To, .slice o.f_Marks.a (o.f_Marks.xs).length o.f_Marks.c] 33 (0, 0)) :: F) (fun w S => S.perm List.perm_append_comm) ?_
    refine q_then ?_
    refine c_ret ?_
    refine q_conv (fun w S => S.tail) ?_
    refine q_conv (fun w S => S.tail) ?_
    refine q_conv (fun w S => S.tail) ?_
    refine q_conv (fun w S => S.tail) ?_
    refine q_conv (fun w S => S.tail) ?_
    exact f_ret (r_one rfl rfl) (⟨rfl, rfl⟩) (fun w S => S)

end Go.Proofs.Ytlblipkcbmcfkaa
