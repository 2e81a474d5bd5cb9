/- Printed by eng2.py out of 15/spec.py. -/
import Derived.Test.YteehongibjkjlaaFil
import Derived.Test.YteehongibjkjlaaFili
set_option linter.unusedVariables false
set_option linter.unusedSimpArgs false
set_option maxRecDepth 10000
namespace Go.Proofs.Yteehongibjkjlaa
open Go.RowKit Classical
theorem item_no {s : FS} {x : Item} (h : ¬ s.region ∈ homes x.ord) : s.item x = (false, s) := by unfold FS.item; rw [if_pos h]
theorem item_run {s : FS} {x : Item} (h : s.region ∈ homes x.ord) (h1 : x.f_Kind = 1) (h2 : single x.ord) : s.item x = s.first x.ord.tag := by unfold FS.item; rw [if_neg (fun h9 => h9 h), if_pos ⟨h1, h2⟩]
theorem item_piece {s : FS} {x : Item} (h : s.region ∈ homes x.ord) (h1 : x.f_Kind = 2) (h2 : ¬ single x.ord) (h3 : s.last < x.f_Index) : s.item x = (true, { s with last := x.f_Index }) := by unfold FS.item; rw [if_neg (fun h9 => h9 h), if_neg (by omega), if_pos ⟨h1, h2, h3⟩]
theorem item_off {s : FS} {x : Item} (h : s.region ∈ homes x.ord) (h1 : ¬ (x.f_Kind = 1 ∧ single x.ord)) (h2 : ¬ (x.f_Kind = 2 ∧ ¬ single x.ord ∧ s.last < x.f_Index)) : s.item x = (false, s) := by unfold FS.item; rw [if_neg (fun h9 => h9 h), if_neg h1, if_neg h2]
set_option maxHeartbeats 1000000 in
theorem fitem_ {W : World} {F : List Res} {k : Nat} {s : FS} {x : Item} (T_x : OrdR W F x.ord) (hm : x.ord.f_Marks.xs.length ≤ 1000000) : CS Try.prog 23 #[.pointer (some ⟨k, 0, none⟩), .agg #[.int .i64 x.f_Kind, .int .i64 x.f_Index, .int .i64 x.ord.f_Tag_Id_Node, .int .u64 x.ord.f_Tag_Id_Epoch, .int .u64 x.ord.f_Tag_Id_Seq, .int .i64 x.ord.f_Tag_Try, .int .i64 x.ord.f_Txn_Kind, .slice x.ord.f_Txn_Reads.a (x.ord.f_Txn_Reads.xs).length x.ord.f_Txn_Reads.c, .slice x.ord.f_Txn_Writes.a (x.ord.f_Txn_Writes.xs).length x.ord.f_Txn_Writes.c, .slice x.ord.f_Txn_Ops.a (x.ord.f_Txn_Ops.xs).length x.ord.f_Txn_Ops.c, .int .i64 x.ord.f_Txn_To, .slice x.ord.f_Marks.a (x.ord.f_Marks.xs).length x.ord.f_Marks.c]] W (FltR k s :: F) (fun r L' => r = .bool (s.item x).1 ∧ L' = FltR k (s.item x).2 :: F) := by
 refine f_door (l0 := [(0, .pointer (some ⟨k, 0, none⟩)), (1, .agg #[.int .i64 x.f_Kind, .int .i64 x.f_Index, .int .i64 x.ord.f_Tag_Id_Node, .int .u64 x.ord.f_Tag_Id_Epoch, .int .u64 x.ord.f_Tag_Id_Seq, .int .i64 x.ord.f_Tag_Try, .int .i64 x.ord.f_Txn_Kind, .slice x.ord.f_Txn_Reads.a (x.ord.f_Txn_Reads.xs).length x.ord.f_Txn_Reads.c, .slice x.ord.f_Txn_Writes.a (x.ord.f_Txn_Writes.xs).length x.ord.f_Txn_Writes.c, .slice x.ord.f_Txn_Ops.a (x.ord.f_Txn_Ops.xs).length x.ord.f_Txn_Ops.c, .int .i64 x.ord.f_Txn_To, .slice x.ord.f_Marks.a (x.ord.f_Marks.xs).length x.ord.f_Marks.c])]) Try.func23 Try.ntmps23 rfl rfl rfl ?_
 refine c_seq ?_
 refine c_region ?_
 refine o_box rfl rfl fun b3 => ?_
 refine o_assign rfl rfl ?_
 refine l_nil ?_
 refine q_then ?_
 refine c_seq ?_
 refine c_seq ?_
 refine c_conv (fun w S => S.perm p1) ?_
 refine c_obj ?_
 rintro m_1 ok_1
 refine c_conv (L' := blk k (.cells #[.int .i64 s.region, .int .i64 s.last, .map (some m_1)] 71 (0, 0)) :: mapR kvTag vvInt m_1 s.seen :: _) (fun w S => S) ?_
 refine c_heldF [] (blk k (.cells #[.int .i64 s.region, .int .i64 s.last, .map (some m_1)] 71 (0, 0)) :: mapR kvTag vvInt m_1 s.seen :: blk b3 (.cells #[.int .i64 x.f_Kind, .int .i64 x.f_Index, .int .i64 x.ord.f_Tag_Id_Node, .int .u64 x.ord.f_Tag_Id_Epoch, .int .u64 x.ord.f_Tag_Id_Seq, .int .i64 x.ord.f_Tag_Try, .int .i64 x.ord.f_Txn_Kind, .slice x.ord.f_Txn_Reads.a (x.ord.f_Txn_Reads.xs).length x.ord.f_Txn_Reads.c, .slice x.ord.f_Txn_Writes.a (x.ord.f_Txn_Writes.xs).length x.ord.f_Txn_Writes.c, .slice x.ord.f_Txn_Ops.a (x.ord.f_Txn_Ops.xs).length x.ord.f_Txn_Ops.c, .int .i64 x.ord.f_Txn_To, .slice x.ord.f_Marks.a (x.ord.f_Marks.xs).length x.ord.f_Marks.c] 42 (0, 0)) :: F) (by kernel_rfl) ?_
 refine h_take 0 rfl rfl (by kernel_rfl) (by kernel_rfl) (by kernel_rfl) (fun L0 => v_fieldAddr (q := ⟨b3, 2, none⟩) rfl rfl Try.underlying42 rfl ti40 rfl) ?_
 refine h_take 1 rfl rfl (by kernel_rfl) (by kernel_rfl) (by kernel_rfl) (fun L0 => v_loadn (vs := [_, _, _, _, _, _, _, _, _, _]) rfl rfl Try.underlying40 rfl ti40 (rdn_lit 2 rfl rfl)) ?_
 refine h_take 3 rfl rfl (by kernel_rfl) (by kernel_rfl) (by kernel_rfl) (fun L0 => v_move rfl rfl) ?_
 refine h_take 4 rfl rfl (by kernel_rfl) (by kernel_rfl) (by kernel_rfl) (fun L0 => v_nil rfl rfl) ?_
 refine h_take 5 rfl rfl (by kernel_rfl) (by kernel_rfl) (by kernel_rfl) (fun L0 => v_fieldAddr (q := ⟨k, 0, none⟩) rfl rfl Try.underlying71 rfl ti3 rfl) ?_
 refine h_take 6 rfl rfl (by kernel_rfl) (by kernel_rfl) (by kernel_rfl) (fun L0 => v_load1 rfl rfl Try.underlying3 rfl (rd_mem 0 rfl rfl)) ?_
 refine h_one 2 rfl (by kernel_rfl) ?_
 refine l_conv (L' := blk k (.cells #[.int .i64 s.region, .int .i64 s.last, .map (some m_1)] 71 (0, 0)) :: mapR kvTag vvInt m_1 s.seen :: blk b3 (.cells #[.int .i64 x.f_Kind, .int .i64 x.f_Index, .int .i64 x.ord.f_Tag_Id_Node, .int .u64 x.ord.f_Tag_Id_Epoch, .int .u64 x.ord.f_Tag_Id_Seq, .int .i64 x.ord.f_Tag_Try, .int .i64 x.ord.f_Txn_Kind, .slice x.ord.f_Txn_Reads.a (x.ord.f_Txn_Reads.xs).length x.ord.f_Txn_Reads.c, .slice x.ord.f_Txn_Writes.a (x.ord.f_Txn_Writes.xs).length x.ord.f_Txn_Writes.c, .slice x.ord.f_Txn_Ops.a (x.ord.f_Txn_Ops.xs).length x.ord.f_Txn_Ops.c, .int .i64 x.ord.f_Txn_To, .slice x.ord.f_Marks.a (x.ord.f_Marks.xs).length x.ord.f_Marks.c] 42 (0, 0)) :: F) (fun w S => S.perm List.perm_append_comm) ?_
 refine o_call rfl cal33 rfl (homes_ (o := x.ord) (OrdR.c (OrdR.c (OrdR.c T_x))) (by omega)) ?_
 rintro _ _ ⟨a8, c8, rfl, rfl⟩
 have hhl8 := homes_len x.ord
 refine l_nil ?_
 refine q_conv (L' := (blk k (.cells #[.int .i64 s.region, .int .i64 s.last, .map (some m_1)] 71 (0, 0)) :: mapR kvTag vvInt m_1 s.seen :: blk b3 (.cells #[.int .i64 x.f_Kind, .int .i64 x.f_Index, .int .i64 x.ord.f_Tag_Id_Node, .int .u64 x.ord.f_Tag_Id_Epoch, .int .u64 x.ord.f_Tag_Id_Seq, .int .i64 x.ord.f_Tag_Try, .int .i64 x.ord.f_Txn_Kind, .slice x.ord.f_Txn_Reads.a (x.ord.f_Txn_Reads.xs).length x.ord.f_Txn_Reads.c, .slice x.ord.f_Txn_Writes.a (x.ord.f_Txn_Writes.xs).length x.ord.f_Txn_Writes.c, .slice x.ord.f_Txn_Ops.a (x.ord.f_Txn_Ops.xs).length x.ord.f_Txn_Ops.c, .int .i64 x.ord.f_Txn_To, .slice x.ord.f_Marks.a (x.ord.f_Marks.xs).length x.ord.f_Marks.c] 42 (0, 0)) :: F) ++ [row e_I.T e_I.sz a8 (homes x.ord).length c8 (flat e_I (homes x.ord))]) (fun w S => S.perm (List.perm_append_comm (l₁ := [row e_I.T e_I.sz a8 (homes x.ord).length c8 (flat e_I (homes x.ord))]) (l₂ := blk k (.cells #[.int .i64 s.region, .int .i64 s.last, .map (some m_1)] 71 (0, 0)) :: mapR kvTag vvInt m_1 s.seen :: blk b3 (.cells #[.int .i64 x.f_Kind, .int .i64 x.f_Index, .int .i64 x.ord.f_Tag_Id_Node, .int .u64 x.ord.f_Tag_Id_Epoch, .int .u64 x.ord.f_Tag_Id_Seq, .int .i64 x.ord.f_Tag_Try, .int .i64 x.ord.f_Txn_Kind, .slice x.ord.f_Txn_Reads.a (x.ord.f_Txn_Reads.xs).length x.ord.f_Txn_Reads.c, .slice x.ord.f_Txn_Writes.a (x.ord.f_Txn_Writes.xs).length x.ord.f_Txn_Writes.c, .slice x.ord.f_Txn_Ops.a (x.ord.f_Txn_Ops.xs).length x.ord.f_Txn_Ops.c, .int .i64 x.ord.f_Txn_To, .slice x.ord.f_Marks.a (x.ord.f_Marks.xs).length x.ord.f_Marks.c] 42 (0, 0)) :: F))) ?_
 refine h_next ?_
 refine h_one 7 rfl (by kernel_rfl) ?_
 refine l_conv (L' := row e_I.T e_I.sz a8 (homes x.ord).length c8 (flat e_I (homes x.ord)) :: blk k (.cells #[.int .i64 s.region, .int .i64 s.last, .map (some m_1)] 71 (0, 0)) :: mapR kvTag vvInt m_1 s.seen :: blk b3 (.cells #[.int .i64 x.f_Kind, .int .i64 x.f_Index, .int .i64 x.ord.f_Tag_Id_Node, .int .u64 x.ord.f_Tag_Id_Epoch, .int .u64 x.ord.f_Tag_Id_Seq, .int .i64 x.ord.f_Tag_Try, .int .i64 x.ord.f_Txn_Kind, .slice x.ord.f_Txn_Reads.a (x.ord.f_Txn_Reads.xs).length x.ord.f_Txn_Reads.c, .slice x.ord.f_Txn_Writes.a (x.ord.f_Txn_Writes.xs).length x.ord.f_Txn_Writes.c, .slice x.ord.f_Txn_Ops.a (x.ord.f_Txn_Ops.xs).length x.ord.f_Txn_Ops.c, .int .i64 x.ord.f_Txn_To, .slice x.ord.f_Marks.a (x.ord.f_Marks.xs).length x.ord.f_Marks.c] 42 (0, 0)) :: F) (fun w S => S.perm List.perm_append_comm) ?_
 refine o_call rfl cal32 rfl (containsI_ (key := s.region) (rds_own e_I_ok 0 rfl) (by omega)) ?_
 rintro _ _ ⟨rfl, rfl⟩
 refine l_nil ?_
 refine q_conv (L' := (blk k (.cells #[.int .i64 s.region, .int .i64 s.last, .map (some m_1)] 71 (0, 0)) :: mapR kvTag vvInt m_1 s.seen :: blk b3 (.cells #[.int .i64 x.f_Kind, .int .i64 x.f_Index, .int .i64 x.ord.f_Tag_Id_Node, .int .u64 x.ord.f_Tag_Id_Epoch, .int .u64 x.ord.f_Tag_Id_Seq, .int .i64 x.ord.f_Tag_Try, .int .i64 x.ord.f_Txn_Kind, .slice x.ord.f_Txn_Reads.a (x.ord.f_Txn_Reads.xs).length x.ord.f_Txn_Reads.c, .slice x.ord.f_Txn_Writes.a (x.ord.f_Txn_Writes.xs).length x.ord.f_Txn_Writes.c, .slice x.ord.f_Txn_Ops.a (x.ord.f_Txn_Ops.xs).length x.ord.f_Txn_Ops.c, .int .i64 x.ord.f_Txn_To, .slice x.ord.f_Marks.a (x.ord.f_Marks.xs).length x.ord.f_Marks.c] 42 (0, 0)) :: F) ++ [row e_I.T e_I.sz a8 (homes x.ord).length c8 (flat e_I (homes x.ord))]) (fun w S => S.perm (List.perm_append_comm (l₁ := [row e_I.T e_I.sz a8 (homes x.ord).length c8 (flat e_I (homes x.ord))]) (l₂ := blk k (.cells #[.int .i64 s.region, .int .i64 s.last, .map (some m_1)] 71 (0, 0)) :: mapR kvTag vvInt m_1 s.seen :: blk b3 (.cells #[.int .i64 x.f_Kind, .int .i64 x.f_Index, .int .i64 x.ord.f_Tag_Id_Node, .int .u64 x.ord.f_Tag_Id_Epoch, .int .u64 x.ord.f_Tag_Id_Seq, .int .i64 x.ord.f_Tag_Try, .int .i64 x.ord.f_Txn_Kind, .slice x.ord.f_Txn_Reads.a (x.ord.f_Txn_Reads.xs).length x.ord.f_Txn_Reads.c, .slice x.ord.f_Txn_Writes.a (x.ord.f_Txn_Writes.xs).length x.ord.f_Txn_Writes.c, .slice x.ord.f_Txn_Ops.a (x.ord.f_Txn_Ops.xs).length x.ord.f_Txn_Ops.c, .int .i64 x.ord.f_Txn_To, .slice x.ord.f_Marks.a (x.ord.f_Marks.xs).length x.ord.f_Marks.c] 42 (0, 0)) :: F))) ?_
 refine h_next ?_
 refine h_take 8 rfl rfl (by kernel_rfl) (by kernel_rfl) (by kernel_rfl) (fun L0 => v_not rfl rfl) ?_
 refine h_done (by kernel_rfl) ?_
 refine q_conv (L' := row e_I.T e_I.sz a8 (homes x.ord).length c8 (flat e_I (homes x.ord)) :: blk k (.cells #[.int .i64 s.region, .int .i64 s.last, .map (some m_1)] 71 (0, 0)) :: mapR kvTag vvInt m_1 s.seen :: blk b3 (.cells #[.int .i64 x.f_Kind, .int .i64 x.f_Index, .int .i64 x.ord.f_Tag_Id_Node, .int .u64 x.ord.f_Tag_Id_Epoch, .int .u64 x.ord.f_Tag_Id_Seq, .int .i64 x.ord.f_Tag_Try, .int .i64 x.ord.f_Txn_Kind, .slice x.ord.f_Txn_Reads.a (x.ord.f_Txn_Reads.xs).length x.ord.f_Txn_Reads.c, .slice x.ord.f_Txn_Writes.a (x.ord.f_Txn_Writes.xs).length x.ord.f_Txn_Writes.c, .slice x.ord.f_Txn_Ops.a (x.ord.f_Txn_Ops.xs).length x.ord.f_Txn_Ops.c, .int .i64 x.ord.f_Txn_To, .slice x.ord.f_Marks.a (x.ord.f_Marks.xs).length x.ord.f_Marks.c] 42 (0, 0)) :: F) (fun w S => S.perm List.perm_append_comm) ?_
 refine q_then ?_
 refine c_cond rfl (fun h1 => ?_) (fun h1 => ?_)
 · -- h1T
  have h1b := h1
  try simp only [Bool.not_eq_true', decide_eq_false_iff_not, Int.not_lt, Int.not_le] at h1
  refine c_seq ?_
  refine c_region ?_
  refine o_assign rfl rfl ?_
  refine l_nil ?_
  refine q_then ?_
  refine c_ret ?_
  refine q_pass_ret ?_
  refine q_conv (fun w S => S.perm p3) ?_
  refine q_conv (fun w S => S.perm p1) ?_
  refine q_conv (fun w S => S.perm p3) ?_
  refine q_conv (fun w S => S.perm p3) ?_
  refine q_conv (L' := FltR k s :: _) (fun w S => Sat.obj_mk m_1 ok_1 S) ?_
  refine q_conv (fun w S => (S.perm p1).tail) ?_
  refine q_conv (fun w S => (S.perm p1).tail) ?_
  exact f_ret (r_one rfl rfl) (⟨by rw [item_no (by simpa using h1b)], by rw [item_no (by simpa using h1b)]⟩) (fun w S => S)
 · -- h1F
  have h1b := h1
  try simp only [Bool.not_eq_false', decide_eq_true_eq] at h1
  refine c_skip ?_
  refine q_then ?_
  refine c_seq ?_
  refine c_seq ?_
  refine c_region ?_
  refine o_fieldAddr (q := ⟨b3, 2, none⟩) rfl rfl Try.underlying42 rfl ti40 rfl ?_
  refine o_loadn (vs := [_, _, _, _, _, _, _, _, _, _]) rfl rfl Try.underlying40 rfl ti40 (rdn_lit 3 rfl rfl) ?_
  refine o_call rfl cal34 rfl (single_ (o := x.ord) (OrdR.c (OrdR.c (OrdR.c (OrdR.c T_x)))) (by omega)) ?_
  rintro _ _ ⟨rfl, rfl⟩
  refine o_assign rfl rfl ?_
  refine l_nil ?_
  refine q_then ?_
  refine c_block ?_
  refine c_seq ?_
  refine c_region ?_
  refine o_fieldAddr (q := ⟨b3, 0, none⟩) rfl rfl Try.underlying42 rfl ti3 rfl ?_
  refine o_load1 rfl rfl Try.underlying3 rfl (rd_mem 3 rfl rfl) ?_
  refine o_bin rfl rfl rfl b_eql ?_
  refine o_move rfl rfl ?_
  refine l_split (t := 22) rfl (fun h2 => ?_) (fun h2 => ?_)
  · -- h2T
   have h2b := h2
   try simp only [decide_eq_true_eq] at h2
   refine o_yes rfl rfl rfl ?_
   refine o_move rfl rfl ?_
   refine o_pick_true rfl rfl rfl ?_
   refine o_assign rfl rfl ?_
   refine l_nil ?_
   refine q_then ?_
   refine c_cond rfl (fun h3 => ?_) (fun h3 => ?_)
   · -- h3T
    have h3b := h3
    try simp only [decide_eq_true_eq] at h3
    refine c_seq ?_
    refine c_region ?_
    refine o_move rfl rfl ?_
    refine o_fieldAddr (q := ⟨b3, 2, none⟩) rfl rfl Try.underlying42 rfl ti40 rfl ?_
    refine o_fieldAddr (q := ⟨b3, 2, none⟩) rfl rfl Try.underlying40 rfl ti33 rfl ?_
    refine o_loadn (vs := [_, _, _, _]) rfl rfl Try.underlying33 rfl ti33 (rdn_lit 3 rfl rfl) ?_
    refine l_conv (fun w S => S.perm p3) ?_
    refine l_conv (fun w S => S.perm p1) ?_
    refine l_conv (fun w S => S.perm p3) ?_
    refine l_conv (fun w S => S.perm p3) ?_
    refine l_conv (L' := FltR k s :: _) (fun w S => Sat.obj_mk m_1 ok_1 S) ?_
    refine o_call rfl cal35 rfl (ffirst_ (tg := x.ord.tag)) ?_
    rintro _ _ ⟨rfl, rfl⟩
    refine o_assign rfl rfl ?_
    refine l_nil ?_
    refine q_then ?_
    refine c_ret ?_
    refine q_block_ret ?_
    refine q_pass_ret ?_
    refine q_conv (fun w S => (S.perm p1).tail) ?_
    refine q_conv (fun w S => (S.perm p1).tail) ?_
    exact f_ret (r_one rfl rfl) (⟨by rw [item_run (by simpa using h1b) (by grind) (by grind)], by rw [item_run (by simpa using h1b) (by grind) (by grind)]⟩) (fun w S => S)
   · -- h3F
    have h3b := h3
    try simp only [decide_eq_false_iff_not, Int.not_lt, Int.not_le] at h3
    refine c_seq ?_
    refine c_quiet (by kernel_rfl) (by kernel_rfl) ?_
    refine Qt.o_val rfl (v_fieldAddr (q := ⟨b3, 0, none⟩) rfl rfl Try.underlying42 rfl ti3 rfl) ?_
    refine Qt.o_val rfl (v_load1 rfl rfl Try.underlying3 rfl (rd_mem 3 rfl rfl)) ?_
    refine Qt.o_val rfl (v_bin rfl rfl rfl b_eql) ?_
    refine Qt.o_val rfl (v_move rfl rfl) ?_
    refine Qt.l_split (t := 34) rfl (fun h4 => ?_) (fun h4 => ?_)
    · -- h4T
     have h4b := h4
     try simp only [decide_eq_true_eq] at h4
     refine Qt.o_yes rfl rfl rfl ?_
     refine Qt.o_val rfl (v_move rfl rfl) ?_
     refine Qt.o_yes rfl rfl rfl ?_
     refine Qt.o_val rfl (v_not rfl rfl) ?_
     refine Qt.o_val rfl (v_pick_true rfl rfl rfl) ?_
     refine Qt.o_val rfl (v_move rfl rfl) ?_
     refine Qt.l_split (t := 38) rfl (fun h5 => ?_) (fun h5 => ?_)
     · -- h5T
      have h5b := h5
      try simp only [Bool.not_eq_true', decide_eq_false_iff_not, Int.not_lt, Int.not_le] at h5
      refine Qt.o_yes rfl rfl rfl ?_
      refine Qt.o_val rfl (v_fieldAddr (q := ⟨b3, 1, none⟩) rfl rfl Try.underlying42 rfl ti3 rfl) ?_
      refine Qt.o_yes rfl rfl rfl ?_
      refine Qt.o_val rfl (v_load1 rfl rfl Try.underlying3 rfl (rd_mem 3 rfl rfl)) ?_
      refine Qt.o_yes rfl rfl rfl ?_
      refine Qt.o_val rfl (v_move rfl rfl) ?_
      refine Qt.o_yes rfl rfl rfl ?_
      refine Qt.o_val rfl (v_nil rfl rfl) ?_
      refine Qt.o_yes rfl rfl rfl ?_
      refine Qt.o_val rfl (v_fieldAddr (q := ⟨k, 1, none⟩) rfl rfl Try.underlying71 rfl ti3 rfl) ?_
      refine Qt.o_yes rfl rfl rfl ?_
      refine Qt.o_val rfl (v_load1 rfl rfl Try.underlying3 rfl (rd_mem 1 rfl rfl)) ?_
      refine Qt.o_yes rfl rfl rfl ?_
      refine Qt.o_val rfl (v_bin rfl rfl rfl b_gtr) ?_
      refine Qt.o_val rfl (v_pick_true rfl rfl rfl) ?_
      refine Qt.o_val rfl (v_assign rfl rfl) ?_
      refine Qt.l_nil ?_
      refine q_then ?_
      refine c_cond rfl (fun h6 => ?_) (fun h6 => ?_)
      · -- h6T
       have h6b := h6
       try simp only [decide_eq_true_eq] at h6
       refine c_seq ?_
       refine c_region ?_
       refine o_move rfl rfl ?_
       refine o_fieldAddr (q := ⟨b3, 1, none⟩) rfl rfl Try.underlying42 rfl ti3 rfl ?_
       refine o_load1 rfl rfl Try.underlying3 rfl (rd_mem 3 rfl rfl) ?_
       refine o_nil rfl rfl ?_
       refine o_fieldAddr (q := ⟨k, 1, none⟩) rfl rfl Try.underlying71 rfl ti3 rfl ?_
       refine l_f1 ?_
       refine o_store1 rfl rfl rfl ti3 rfl rfl ?_
       refine l_nil ?_
       refine q_then ?_
       refine c_seq ?_
       refine c_region ?_
       refine o_assign rfl rfl ?_
       refine l_nil ?_
       refine q_then ?_
       refine c_ret ?_
       refine q_block_ret ?_
       refine q_pass_ret ?_
       refine q_conv (fun w S => S.perm p3) ?_
       refine q_conv (fun w S => S.perm p2) ?_
       refine q_conv (fun w S => S.perm p3) ?_
       refine q_conv (fun w S => S.perm p3) ?_
       refine q_conv (L' := FltR k (⟨s.region, x.f_Index, s.seen⟩ : FS) :: _) (fun w S => Sat.obj_mk m_1 trivial S) ?_
       refine q_conv (fun w S => (S.perm p1).tail) ?_
       refine q_conv (fun w S => (S.perm p1).tail) ?_
       exact f_ret (r_one rfl rfl) (⟨by rw [item_piece (by simpa using h1b) (by grind) (by grind) (by grind)], by rw [item_piece (by simpa using h1b) (by grind) (by grind) (by grind)]⟩) (fun w S => S)
      · -- h6F
       have h6b := h6
       try simp only [decide_eq_false_iff_not, Int.not_lt, Int.not_le] at h6
       refine c_skip ?_
       refine q_block ?_
       refine q_then ?_
       refine c_seq ?_
       refine c_region ?_
       refine o_assign rfl rfl ?_
       refine l_nil ?_
       refine q_then ?_
       refine c_ret ?_
       refine q_conv (fun w S => S.perm p3) ?_
       refine q_conv (fun w S => S.perm p1) ?_
       refine q_conv (fun w S => S.perm p3) ?_
       refine q_conv (fun w S => S.perm p3) ?_
       refine q_conv (L' := FltR k s :: _) (fun w S => Sat.obj_mk m_1 ok_1 S) ?_
       refine q_conv (fun w S => (S.perm p1).tail) ?_
       refine q_conv (fun w S => (S.perm p1).tail) ?_
       exact f_ret (r_one rfl rfl) (⟨by rw [item_off (by simpa using h1b) (by grind) (by grind)], by rw [item_off (by simpa using h1b) (by grind) (by grind)]⟩) (fun w S => S)
     · -- h5F
      have h5b := h5
      try simp only [Bool.not_eq_false', decide_eq_true_eq] at h5
      refine Qt.o_no rfl rfl rfl rfl ?_
      refine Qt.o_no rfl rfl rfl rfl ?_
      refine Qt.o_no rfl rfl rfl rfl ?_
      refine Qt.o_no rfl rfl rfl rfl ?_
      refine Qt.o_no rfl rfl rfl rfl ?_
      refine Qt.o_no rfl rfl rfl rfl ?_
      refine Qt.o_no rfl rfl rfl rfl ?_
      refine Qt.o_val rfl (v_pick_false rfl rfl rfl) ?_
      refine Qt.o_val rfl (v_assign rfl rfl) ?_
      refine Qt.l_nil ?_
      refine q_then ?_
      refine c_false rfl ?_
      refine c_skip ?_
      refine q_block ?_
      refine q_then ?_
      refine c_seq ?_
      refine c_region ?_
      refine o_assign rfl rfl ?_
      refine l_nil ?_
      refine q_then ?_
      refine c_ret ?_
      refine q_conv (fun w S => S.perm p3) ?_
      refine q_conv (fun w S => S.perm p1) ?_
      refine q_conv (fun w S => S.perm p3) ?_
      refine q_conv (fun w S => S.perm p3) ?_
      refine q_conv (L' := FltR k s :: _) (fun w S => Sat.obj_mk m_1 ok_1 S) ?_
      refine q_conv (fun w S => (S.perm p1).tail) ?_
      refine q_conv (fun w S => (S.perm p1).tail) ?_
      exact f_ret (r_one rfl rfl) (⟨by rw [item_off (by simpa using h1b) (by grind) (by grind)], by rw [item_off (by simpa using h1b) (by grind) (by grind)]⟩) (fun w S => S)
    · -- h4F
     have h4b := h4
     try simp only [decide_eq_false_iff_not, Int.not_lt, Int.not_le] at h4
     refine Qt.o_no rfl rfl rfl rfl ?_
     refine Qt.o_no rfl rfl rfl rfl ?_
     refine Qt.o_val rfl (v_pick_false rfl rfl rfl) ?_
     refine Qt.o_val rfl (v_move rfl rfl) ?_
     refine Qt.o_no rfl rfl rfl rfl ?_
     refine Qt.o_no rfl rfl rfl rfl ?_
     refine Qt.o_no rfl rfl rfl rfl ?_
     refine Qt.o_no rfl rfl rfl rfl ?_
     refine Qt.o_no rfl rfl rfl rfl ?_
     refine Qt.o_no rfl rfl rfl rfl ?_
     refine Qt.o_no rfl rfl rfl rfl ?_
     refine Qt.o_val rfl (v_pick_false rfl rfl rfl) ?_
     refine Qt.o_val rfl (v_assign rfl rfl) ?_
     refine Qt.l_nil ?_
     refine q_then ?_
     refine c_false rfl ?_
     refine c_skip ?_
     refine q_block ?_
     refine q_then ?_
     refine c_seq ?_
     refine c_region ?_
     refine o_assign rfl rfl ?_
     refine l_nil ?_
     refine q_then ?_
     refine c_ret ?_
     refine q_conv (fun w S => S.perm p3) ?_
     refine q_conv (fun w S => S.perm p1) ?_
     refine q_conv (fun w S => S.perm p3) ?_
     refine q_conv (fun w S => S.perm p3) ?_
     refine q_conv (L' := FltR k s :: _) (fun w S => Sat.obj_mk m_1 ok_1 S) ?_
     refine q_conv (fun w S => (S.perm p1).tail) ?_
     refine q_conv (fun w S => (S.perm p1).tail) ?_
     exact f_ret (r_one rfl rfl) (⟨by rw [item_off (by simpa using h1b) (by grind) (by grind)], by rw [item_off (by simpa using h1b) (by grind) (by grind)]⟩) (fun w S => S)
  · -- h2F
   have h2b := h2
   try simp only [decide_eq_false_iff_not, Int.not_lt, Int.not_le] at h2
   refine o_no rfl rfl rfl rfl ?_
   refine o_pick_false rfl rfl rfl ?_
   refine o_assign rfl rfl ?_
   refine l_nil ?_
   refine q_then ?_
   refine c_false rfl ?_
   refine c_seq ?_
   refine c_quiet (by kernel_rfl) (by kernel_rfl) ?_
   refine Qt.o_val rfl (v_fieldAddr (q := ⟨b3, 0, none⟩) rfl rfl Try.underlying42 rfl ti3 rfl) ?_
   refine Qt.o_val rfl (v_load1 rfl rfl Try.underlying3 rfl (rd_mem 3 rfl rfl)) ?_
   refine Qt.o_val rfl (v_bin rfl rfl rfl b_eql) ?_
   refine Qt.o_val rfl (v_move rfl rfl) ?_
   refine Qt.l_split (t := 34) rfl (fun h7 => ?_) (fun h7 => ?_)
   · -- h7T
    have h7b := h7
    try simp only [decide_eq_true_eq] at h7
    refine Qt.o_yes rfl rfl rfl ?_
    refine Qt.o_val rfl (v_move rfl rfl) ?_
    refine Qt.o_yes rfl rfl rfl ?_
    refine Qt.o_val rfl (v_not rfl rfl) ?_
    refine Qt.o_val rfl (v_pick_true rfl rfl rfl) ?_
    refine Qt.o_val rfl (v_move rfl rfl) ?_
    refine Qt.l_split (t := 38) rfl (fun h8 => ?_) (fun h8 => ?_)
    · -- h8T
     have h8b := h8
     try simp only [Bool.not_eq_true', decide_eq_false_iff_not, Int.not_lt, Int.not_le] at h8
     refine Qt.o_yes rfl rfl rfl ?_
     refine Qt.o_val rfl (v_fieldAddr (q := ⟨b3, 1, none⟩) rfl rfl Try.underlying42 rfl ti3 rfl) ?_
     refine Qt.o_yes rfl rfl rfl ?_
     refine Qt.o_val rfl (v_load1 rfl rfl Try.underlying3 rfl (rd_mem 3 rfl rfl)) ?_
     refine Qt.o_yes rfl rfl rfl ?_
     refine Qt.o_val rfl (v_move rfl rfl) ?_
     refine Qt.o_yes rfl rfl rfl ?_
     refine Qt.o_val rfl (v_nil rfl rfl) ?_
     refine Qt.o_yes rfl rfl rfl ?_
     refine Qt.o_val rfl (v_fieldAddr (q := ⟨k, 1, none⟩) rfl rfl Try.underlying71 rfl ti3 rfl) ?_
     refine Qt.o_yes rfl rfl rfl ?_
     refine Qt.o_val rfl (v_load1 rfl rfl Try.underlying3 rfl (rd_mem 1 rfl rfl)) ?_
     refine Qt.o_yes rfl rfl rfl ?_
     refine Qt.o_val rfl (v_bin rfl rfl rfl b_gtr) ?_
     refine Qt.o_val rfl (v_pick_true rfl rfl rfl) ?_
     refine Qt.o_val rfl (v_assign rfl rfl) ?_
     refine Qt.l_nil ?_
     refine q_then ?_
     refine c_cond rfl (fun h9 => ?_) (fun h9 => ?_)
     · -- h9T
      have h9b := h9
      try simp only [decide_eq_true_eq] at h9
      refine c_seq ?_
      refine c_region ?_
      refine o_move rfl rfl ?_
      refine o_fieldAddr (q := ⟨b3, 1, none⟩) rfl rfl Try.underlying42 rfl ti3 rfl ?_
      refine o_load1 rfl rfl Try.underlying3 rfl (rd_mem 3 rfl rfl) ?_
      refine o_nil rfl rfl ?_
      refine o_fieldAddr (q := ⟨k, 1, none⟩) rfl rfl Try.underlying71 rfl ti3 rfl ?_
      refine l_f1 ?_
      refine o_store1 rfl rfl rfl ti3 rfl rfl ?_
      refine l_nil ?_
      refine q_then ?_
      refine c_seq ?_
      refine c_region ?_
      refine o_assign rfl rfl ?_
      refine l_nil ?_
      refine q_then ?_
      refine c_ret ?_
      refine q_block_ret ?_
      refine q_pass_ret ?_
      refine q_conv (fun w S => S.perm p3) ?_
      refine q_conv (fun w S => S.perm p2) ?_
      refine q_conv (fun w S => S.perm p3) ?_
      refine q_conv (fun w S => S.perm p3) ?_
      refine q_conv (L' := FltR k (⟨s.region, x.f_Index, s.seen⟩ : FS) :: _) (fun w S => Sat.obj_mk m_1 trivial S) ?_
      refine q_conv (fun w S => (S.perm p1).tail) ?_
      refine q_conv (fun w S => (S.perm p1).tail) ?_
      exact f_ret (r_one rfl rfl) (⟨by rw [item_piece (by simpa using h1b) (by grind) (by grind) (by grind)], by rw [item_piece (by simpa using h1b) (by grind) (by grind) (by grind)]⟩) (fun w S => S)
     · -- h9F
      have h9b := h9
      try simp only [decide_eq_false_iff_not, Int.not_lt, Int.not_le] at h9
      refine c_skip ?_
      refine q_block ?_
      refine q_then ?_
      refine c_seq ?_
      refine c_region ?_
      refine o_assign rfl rfl ?_
      refine l_nil ?_
      refine q_then ?_
      refine c_ret ?_
      refine q_conv (fun w S => S.perm p3) ?_
      refine q_conv (fun w S => S.perm p1) ?_
      refine q_conv (fun w S => S.perm p3) ?_
      refine q_conv (fun w S => S.perm p3) ?_
      refine q_conv (L' := FltR k s :: _) (fun w S => Sat.obj_mk m_1 ok_1 S) ?_
      refine q_conv (fun w S => (S.perm p1).tail) ?_
      refine q_conv (fun w S => (S.perm p1).tail) ?_
      exact f_ret (r_one rfl rfl) (⟨by rw [item_off (by simpa using h1b) (by grind) (by grind)], by rw [item_off (by simpa using h1b) (by grind) (by grind)]⟩) (fun w S => S)
    · -- h8F
     have h8b := h8
     try simp only [Bool.not_eq_false', decide_eq_true_eq] at h8
     refine Qt.o_no rfl rfl rfl rfl ?_
     refine Qt.o_no rfl rfl rfl rfl ?_
     refine Qt.o_no rfl rfl rfl rfl ?_
     refine Qt.o_no rfl rfl rfl rfl ?_
     refine Qt.o_no rfl rfl rfl rfl ?_
     refine Qt.o_no rfl rfl rfl rfl ?_
     refine Qt.o_no rfl rfl rfl rfl ?_
     refine Qt.o_val rfl (v_pick_false rfl rfl rfl) ?_
     refine Qt.o_val rfl (v_assign rfl rfl) ?_
     refine Qt.l_nil ?_
     refine q_then ?_
     refine c_false rfl ?_
     refine c_skip ?_
     refine q_block ?_
     refine q_then ?_
     refine c_seq ?_
     refine c_region ?_
     refine o_assign rfl rfl ?_
     refine l_nil ?_
     refine q_then ?_
     refine c_ret ?_
     refine q_conv (fun w S => S.perm p3) ?_
     refine q_conv (fun w S => S.perm p1) ?_
     refine q_conv (fun w S => S.perm p3) ?_
     refine q_conv (fun w S => S.perm p3) ?_
     refine q_conv (L' := FltR k s :: _) (fun w S => Sat.obj_mk m_1 ok_1 S) ?_
     refine q_conv (fun w S => (S.perm p1).tail) ?_
     refine q_conv (fun w S => (S.perm p1).tail) ?_
     exact f_ret (r_one rfl rfl) (⟨by rw [item_off (by simpa using h1b) (by grind) (by grind)], by rw [item_off (by simpa using h1b) (by grind) (by grind)]⟩) (fun w S => S)
   · -- h7F
    have h7b := h7
    try simp only [decide_eq_false_iff_not, Int.not_lt, Int.not_le] at h7
    refine Qt.o_no rfl rfl rfl rfl ?_
    refine Qt.o_no rfl rfl rfl rfl ?_
    refine Qt.o_val rfl (v_pick_false rfl rfl rfl) ?_
    refine Qt.o_val rfl (v_move rfl rfl) ?_
    refine Qt.o_no rfl rfl rfl rfl ?_
    refine Qt.o_no rfl rfl rfl rfl ?_
    refine Qt.o_no rfl rfl rfl rfl ?_
    refine Qt.o_no rfl rfl rfl rfl ?_
    refine Qt.o_no rfl rfl rfl rfl ?_
    refine Qt.o_no rfl rfl rfl rfl ?_
    refine Qt.o_no rfl rfl rfl rfl ?_
    refine Qt.o_val rfl (v_pick_false rfl rfl rfl) ?_
    refine Qt.o_val rfl (v_assign rfl rfl) ?_
    refine Qt.l_nil ?_
    refine q_then ?_
    refine c_false rfl ?_
    refine c_skip ?_
    refine q_block ?_
    refine q_then ?_
    refine c_seq ?_
    refine c_region ?_
    refine o_assign rfl rfl ?_
    refine l_nil ?_
    refine q_then ?_
    refine c_ret ?_
    refine q_conv (fun w S => S.perm p3) ?_
    refine q_conv (fun w S => S.perm p1) ?_
    refine q_conv (fun w S => S.perm p3) ?_
    refine q_conv (fun w S => S.perm p3) ?_
    refine q_conv (L' := FltR k s :: _) (fun w S => Sat.obj_mk m_1 ok_1 S) ?_
    refine q_conv (fun w S => (S.perm p1).tail) ?_
    refine q_conv (fun w S => (S.perm p1).tail) ?_
    exact f_ret (r_one rfl rfl) (⟨by rw [item_off (by simpa using h1b) (by grind) (by grind)], by rw [item_off (by simpa using h1b) (by grind) (by grind)]⟩) (fun w S => S)

end Go.Proofs.Yteehongibjkjlaa
