/- Texts of the proof: FilI, OGreat, Tree, Iter, Speaks, IterM, MapIt, Tagp, TKeys, TColl, TCmp, SortK, TLay, Tags, Tagq, TRest, Restores. -/
import Derived.Laws.IdiomRangeMap
import Derived.Shelf.SlSortCmp.Insertion
import Derived.Shelf.SlSortCmp.WholeK
import Derived.Shelf.SlSortCmp.NoneTotal
import Derived.Test.YtjoigmbapnjhhaaProg
import Derived.Lib.AppendZerosOnto
import Derived.Lib.Overlaps
import Derived.Laws.CopyRow
import Derived.Laws.Externs
import Derived.Test.YtjoigmbapnjhhaaPrA
namespace Go.Proofs.Ytjoigmbapnjhhaa
section
set_option linter.unusedVariables false
set_option linter.unusedSimpArgs false
set_option maxRecDepth 10000
open Go.RowKit Classical
theorem item_no {s : FS} {x : Item} (h : ¬ s.region ∈ homes x.ord) : s.item x = (false, s) := by unfold FS.item; rw [if_pos h]
theorem item_run {s : FS} {x : Item} (h : s.region ∈ homes x.ord) (h1 : x.f_Kind = 1) (h2 : single x.ord) : s.item x = s.first x.ord.tag := by unfold FS.item; rw [if_neg (fun h9 => h9 h), if_pos ⟨h1, h2⟩]
theorem item_piece {s : FS} {x : Item} (h : s.region ∈ homes x.ord) (h1 : x.f_Kind = 2) (h2 : ¬ single x.ord) (h3 : s.last < x.f_Index) : s.item x = (true, { s with last := x.f_Index }) := by unfold FS.item; rw [if_neg (fun h9 => h9 h), if_neg (by omega), if_pos ⟨h1, h2, h3⟩]
theorem item_off {s : FS} {x : Item} (h : s.region ∈ homes x.ord) (h1 : ¬ (x.f_Kind = 1 ∧ single x.ord)) (h2 : ¬ (x.f_Kind = 2 ∧ ¬ single x.ord ∧ s.last < x.f_Index)) : s.item x = (false, s) := by unfold FS.item; rw [if_neg (fun h9 => h9 h), if_neg h1, if_neg h2]
set_option maxHeartbeats 1000000 in
theorem fitem_ {W : World} {F : List Res} {k : Nat} {s : FS} {x : Item} (T_x : OrdR W F x.ord) (hm : x.ord.f_Marks.xs.length ≤ 1000000) : CS Try.prog 11 #[.pointer (some ⟨k, 0, none⟩), .agg #[.int .i64 x.f_Kind, .int .i64 x.f_Index, .int .i64 x.ord.f_Tag_Id_Node, .int .u64 x.ord.f_Tag_Id_Epoch, .int .u64 x.ord.f_Tag_Id_Seq, .int .i64 x.ord.f_Tag_Try, .int .i64 x.ord.f_Txn_Kind, .slice x.ord.f_Txn_Reads.a (x.ord.f_Txn_Reads.xs).length x.ord.f_Txn_Reads.c, .slice x.ord.f_Txn_Writes.a (x.ord.f_Txn_Writes.xs).length x.ord.f_Txn_Writes.c, .slice x.ord.f_Txn_Ops.a (x.ord.f_Txn_Ops.xs).length x.ord.f_Txn_Ops.c, .int .i64 x.ord.f_Txn_To, .slice x.ord.f_Marks.a (x.ord.f_Marks.xs).length x.ord.f_Marks.c]] W (FltR k s :: F) (fun r L' => r = .bool (s.item x).1 ∧ L' = FltR k (s.item x).2 :: F) := by
 refine f_door (l0 := [(0, .pointer (some ⟨k, 0, none⟩)), (1, .agg #[.int .i64 x.f_Kind, .int .i64 x.f_Index, .int .i64 x.ord.f_Tag_Id_Node, .int .u64 x.ord.f_Tag_Id_Epoch, .int .u64 x.ord.f_Tag_Id_Seq, .int .i64 x.ord.f_Tag_Try, .int .i64 x.ord.f_Txn_Kind, .slice x.ord.f_Txn_Reads.a (x.ord.f_Txn_Reads.xs).length x.ord.f_Txn_Reads.c, .slice x.ord.f_Txn_Writes.a (x.ord.f_Txn_Writes.xs).length x.ord.f_Txn_Writes.c, .slice x.ord.f_Txn_Ops.a (x.ord.f_Txn_Ops.xs).length x.ord.f_Txn_Ops.c, .int .i64 x.ord.f_Txn_To, .slice x.ord.f_Marks.a (x.ord.f_Marks.xs).length x.ord.f_Marks.c])]) Try.func11 Try.ntmps11 rfl rfl rfl ?_
 refine c_seq ?_
 refine c_region ?_
 refine o_box rfl rfl fun b3 => ?_
 refine o_assign rfl rfl ?_
 refine l_nil ?_
 refine q_then ?_
 refine c_seq ?_
 refine c_seq ?_
 refine c_conv (fun w S => S.perm p1) ?_
 refine c_obj ?_
 rintro m_1 ok_1
 refine c_conv (L' := blk k (.cells #[.int .i64 s.region, .int .i64 s.last, .map (some m_1)] 64 (0, 0)) :: mapR kvTag vvInt m_1 s.seen :: _) (fun w S => S) ?_
 refine c_heldF [] (blk k (.cells #[.int .i64 s.region, .int .i64 s.last, .map (some m_1)] 64 (0, 0)) :: mapR kvTag vvInt m_1 s.seen :: blk b3 (.cells #[.int .i64 x.f_Kind, .int .i64 x.f_Index, .int .i64 x.ord.f_Tag_Id_Node, .int .u64 x.ord.f_Tag_Id_Epoch, .int .u64 x.ord.f_Tag_Id_Seq, .int .i64 x.ord.f_Tag_Try, .int .i64 x.ord.f_Txn_Kind, .slice x.ord.f_Txn_Reads.a (x.ord.f_Txn_Reads.xs).length x.ord.f_Txn_Reads.c, .slice x.ord.f_Txn_Writes.a (x.ord.f_Txn_Writes.xs).length x.ord.f_Txn_Writes.c, .slice x.ord.f_Txn_Ops.a (x.ord.f_Txn_Ops.xs).length x.ord.f_Txn_Ops.c, .int .i64 x.ord.f_Txn_To, .slice x.ord.f_Marks.a (x.ord.f_Marks.xs).length x.ord.f_Marks.c] 41 (0, 0)) :: F) (by kernel_rfl) ?_
 refine h_take 0 rfl rfl (by kernel_rfl) (by kernel_rfl) (by kernel_rfl) (fun L0 => v_fieldAddr (q := ⟨b3, 2, none⟩) rfl rfl Try.underlying41 rfl ti39 rfl) ?_
 refine h_take 1 rfl rfl (by kernel_rfl) (by kernel_rfl) (by kernel_rfl) (fun L0 => v_loadn (vs := [_, _, _, _, _, _, _, _, _, _]) rfl rfl Try.underlying39 rfl ti39 (rdn_lit 2 rfl rfl)) ?_
 refine h_take 3 rfl rfl (by kernel_rfl) (by kernel_rfl) (by kernel_rfl) (fun L0 => v_move rfl rfl) ?_
 refine h_take 4 rfl rfl (by kernel_rfl) (by kernel_rfl) (by kernel_rfl) (fun L0 => v_nil rfl rfl) ?_
 refine h_take 5 rfl rfl (by kernel_rfl) (by kernel_rfl) (by kernel_rfl) (fun L0 => v_fieldAddr (q := ⟨k, 0, none⟩) rfl rfl Try.underlying64 rfl ti3 rfl) ?_
 refine h_take 6 rfl rfl (by kernel_rfl) (by kernel_rfl) (by kernel_rfl) (fun L0 => v_load1 rfl rfl Try.underlying3 rfl (rd_mem 0 rfl rfl)) ?_
 refine h_one 2 rfl (by kernel_rfl) ?_
 refine l_conv (L' := blk k (.cells #[.int .i64 s.region, .int .i64 s.last, .map (some m_1)] 64 (0, 0)) :: mapR kvTag vvInt m_1 s.seen :: blk b3 (.cells #[.int .i64 x.f_Kind, .int .i64 x.f_Index, .int .i64 x.ord.f_Tag_Id_Node, .int .u64 x.ord.f_Tag_Id_Epoch, .int .u64 x.ord.f_Tag_Id_Seq, .int .i64 x.ord.f_Tag_Try, .int .i64 x.ord.f_Txn_Kind, .slice x.ord.f_Txn_Reads.a (x.ord.f_Txn_Reads.xs).length x.ord.f_Txn_Reads.c, .slice x.ord.f_Txn_Writes.a (x.ord.f_Txn_Writes.xs).length x.ord.f_Txn_Writes.c, .slice x.ord.f_Txn_Ops.a (x.ord.f_Txn_Ops.xs).length x.ord.f_Txn_Ops.c, .int .i64 x.ord.f_Txn_To, .slice x.ord.f_Marks.a (x.ord.f_Marks.xs).length x.ord.f_Marks.c] 41 (0, 0)) :: F) (fun w S => S.perm List.perm_append_comm) ?_
 refine o_call rfl cal26 rfl (homes_ (o := x.ord) (OrdR.c (OrdR.c (OrdR.c T_x))) (by omega)) ?_
 rintro _ _ ⟨a8, c8, rfl, rfl⟩
 have hhl8 := homes_len x.ord
 refine l_nil ?_
 refine q_conv (L' := (blk k (.cells #[.int .i64 s.region, .int .i64 s.last, .map (some m_1)] 64 (0, 0)) :: mapR kvTag vvInt m_1 s.seen :: blk b3 (.cells #[.int .i64 x.f_Kind, .int .i64 x.f_Index, .int .i64 x.ord.f_Tag_Id_Node, .int .u64 x.ord.f_Tag_Id_Epoch, .int .u64 x.ord.f_Tag_Id_Seq, .int .i64 x.ord.f_Tag_Try, .int .i64 x.ord.f_Txn_Kind, .slice x.ord.f_Txn_Reads.a (x.ord.f_Txn_Reads.xs).length x.ord.f_Txn_Reads.c, .slice x.ord.f_Txn_Writes.a (x.ord.f_Txn_Writes.xs).length x.ord.f_Txn_Writes.c, .slice x.ord.f_Txn_Ops.a (x.ord.f_Txn_Ops.xs).length x.ord.f_Txn_Ops.c, .int .i64 x.ord.f_Txn_To, .slice x.ord.f_Marks.a (x.ord.f_Marks.xs).length x.ord.f_Marks.c] 41 (0, 0)) :: F) ++ [row e_I.T e_I.sz a8 (homes x.ord).length c8 (flat e_I (homes x.ord))]) (fun w S => S.perm (List.perm_append_comm (l₁ := [row e_I.T e_I.sz a8 (homes x.ord).length c8 (flat e_I (homes x.ord))]) (l₂ := blk k (.cells #[.int .i64 s.region, .int .i64 s.last, .map (some m_1)] 64 (0, 0)) :: mapR kvTag vvInt m_1 s.seen :: blk b3 (.cells #[.int .i64 x.f_Kind, .int .i64 x.f_Index, .int .i64 x.ord.f_Tag_Id_Node, .int .u64 x.ord.f_Tag_Id_Epoch, .int .u64 x.ord.f_Tag_Id_Seq, .int .i64 x.ord.f_Tag_Try, .int .i64 x.ord.f_Txn_Kind, .slice x.ord.f_Txn_Reads.a (x.ord.f_Txn_Reads.xs).length x.ord.f_Txn_Reads.c, .slice x.ord.f_Txn_Writes.a (x.ord.f_Txn_Writes.xs).length x.ord.f_Txn_Writes.c, .slice x.ord.f_Txn_Ops.a (x.ord.f_Txn_Ops.xs).length x.ord.f_Txn_Ops.c, .int .i64 x.ord.f_Txn_To, .slice x.ord.f_Marks.a (x.ord.f_Marks.xs).length x.ord.f_Marks.c] 41 (0, 0)) :: F))) ?_
 refine h_next ?_
 refine h_one 7 rfl (by kernel_rfl) ?_
 refine l_conv (L' := row e_I.T e_I.sz a8 (homes x.ord).length c8 (flat e_I (homes x.ord)) :: blk k (.cells #[.int .i64 s.region, .int .i64 s.last, .map (some m_1)] 64 (0, 0)) :: mapR kvTag vvInt m_1 s.seen :: blk b3 (.cells #[.int .i64 x.f_Kind, .int .i64 x.f_Index, .int .i64 x.ord.f_Tag_Id_Node, .int .u64 x.ord.f_Tag_Id_Epoch, .int .u64 x.ord.f_Tag_Id_Seq, .int .i64 x.ord.f_Tag_Try, .int .i64 x.ord.f_Txn_Kind, .slice x.ord.f_Txn_Reads.a (x.ord.f_Txn_Reads.xs).length x.ord.f_Txn_Reads.c, .slice x.ord.f_Txn_Writes.a (x.ord.f_Txn_Writes.xs).length x.ord.f_Txn_Writes.c, .slice x.ord.f_Txn_Ops.a (x.ord.f_Txn_Ops.xs).length x.ord.f_Txn_Ops.c, .int .i64 x.ord.f_Txn_To, .slice x.ord.f_Marks.a (x.ord.f_Marks.xs).length x.ord.f_Marks.c] 41 (0, 0)) :: F) (fun w S => S.perm List.perm_append_comm) ?_
 refine o_call rfl cal25 rfl (containsI_ (key := s.region) (rds_own e_I_ok 0 rfl) (by omega)) ?_
 rintro _ _ ⟨rfl, rfl⟩
 refine l_nil ?_
 refine q_conv (L' := (blk k (.cells #[.int .i64 s.region, .int .i64 s.last, .map (some m_1)] 64 (0, 0)) :: mapR kvTag vvInt m_1 s.seen :: blk b3 (.cells #[.int .i64 x.f_Kind, .int .i64 x.f_Index, .int .i64 x.ord.f_Tag_Id_Node, .int .u64 x.ord.f_Tag_Id_Epoch, .int .u64 x.ord.f_Tag_Id_Seq, .int .i64 x.ord.f_Tag_Try, .int .i64 x.ord.f_Txn_Kind, .slice x.ord.f_Txn_Reads.a (x.ord.f_Txn_Reads.xs).length x.ord.f_Txn_Reads.c, .slice x.ord.f_Txn_Writes.a (x.ord.f_Txn_Writes.xs).length x.ord.f_Txn_Writes.c, .slice x.ord.f_Txn_Ops.a (x.ord.f_Txn_Ops.xs).length x.ord.f_Txn_Ops.c, .int .i64 x.ord.f_Txn_To, .slice x.ord.f_Marks.a (x.ord.f_Marks.xs).length x.ord.f_Marks.c] 41 (0, 0)) :: F) ++ [row e_I.T e_I.sz a8 (homes x.ord).length c8 (flat e_I (homes x.ord))]) (fun w S => S.perm (List.perm_append_comm (l₁ := [row e_I.T e_I.sz a8 (homes x.ord).length c8 (flat e_I (homes x.ord))]) (l₂ := blk k (.cells #[.int .i64 s.region, .int .i64 s.last, .map (some m_1)] 64 (0, 0)) :: mapR kvTag vvInt m_1 s.seen :: blk b3 (.cells #[.int .i64 x.f_Kind, .int .i64 x.f_Index, .int .i64 x.ord.f_Tag_Id_Node, .int .u64 x.ord.f_Tag_Id_Epoch, .int .u64 x.ord.f_Tag_Id_Seq, .int .i64 x.ord.f_Tag_Try, .int .i64 x.ord.f_Txn_Kind, .slice x.ord.f_Txn_Reads.a (x.ord.f_Txn_Reads.xs).length x.ord.f_Txn_Reads.c, .slice x.ord.f_Txn_Writes.a (x.ord.f_Txn_Writes.xs).length x.ord.f_Txn_Writes.c, .slice x.ord.f_Txn_Ops.a (x.ord.f_Txn_Ops.xs).length x.ord.f_Txn_Ops.c, .int .i64 x.ord.f_Txn_To, .slice x.ord.f_Marks.a (x.ord.f_Marks.xs).length x.ord.f_Marks.c] 41 (0, 0)) :: F))) ?_
 refine h_next ?_
 refine h_take 8 rfl rfl (by kernel_rfl) (by kernel_rfl) (by kernel_rfl) (fun L0 => v_not rfl rfl) ?_
 refine h_done (by kernel_rfl) ?_
 refine q_conv (L' := row e_I.T e_I.sz a8 (homes x.ord).length c8 (flat e_I (homes x.ord)) :: blk k (.cells #[.int .i64 s.region, .int .i64 s.last, .map (some m_1)] 64 (0, 0)) :: mapR kvTag vvInt m_1 s.seen :: blk b3 (.cells #[.int .i64 x.f_Kind, .int .i64 x.f_Index, .int .i64 x.ord.f_Tag_Id_Node, .int .u64 x.ord.f_Tag_Id_Epoch, .int .u64 x.ord.f_Tag_Id_Seq, .int .i64 x.ord.f_Tag_Try, .int .i64 x.ord.f_Txn_Kind, .slice x.ord.f_Txn_Reads.a (x.ord.f_Txn_Reads.xs).length x.ord.f_Txn_Reads.c, .slice x.ord.f_Txn_Writes.a (x.ord.f_Txn_Writes.xs).length x.ord.f_Txn_Writes.c, .slice x.ord.f_Txn_Ops.a (x.ord.f_Txn_Ops.xs).length x.ord.f_Txn_Ops.c, .int .i64 x.ord.f_Txn_To, .slice x.ord.f_Marks.a (x.ord.f_Marks.xs).length x.ord.f_Marks.c] 41 (0, 0)) :: F) (fun w S => S.perm List.perm_append_comm) ?_
 refine q_then ?_
 refine c_cond rfl (fun h1 => ?_) (fun h1 => ?_)
 · -- h1T
  have h1b := h1
  try simp only [Bool.not_eq_true', decide_eq_false_iff_not, Int.not_lt, Int.not_le] at h1
  refine c_seq ?_
  refine c_region ?_
  refine o_assign rfl rfl ?_
  refine l_nil ?_
  refine q_then ?_
  refine c_ret ?_
  refine q_pass_ret ?_
  refine q_conv (fun w S => S.perm p3) ?_
  refine q_conv (fun w S => S.perm p1) ?_
  refine q_conv (fun w S => S.perm p3) ?_
  refine q_conv (fun w S => S.perm p3) ?_
  refine q_conv (L' := FltR k s :: _) (fun w S => Sat.obj_mk m_1 ok_1 S) ?_
  refine q_conv (fun w S => (S.perm p1).tail) ?_
  refine q_conv (fun w S => (S.perm p1).tail) ?_
  exact f_ret (r_one rfl rfl) (⟨by rw [item_no (by simpa using h1b)], by rw [item_no (by simpa using h1b)]⟩) (fun w S => S)
 · -- h1F
  have h1b := h1
  try simp only [Bool.not_eq_false', decide_eq_true_eq] at h1
  refine c_skip ?_
  refine q_then ?_
  refine c_seq ?_
  refine c_seq ?_
  refine c_region ?_
  refine o_fieldAddr (q := ⟨b3, 2, none⟩) rfl rfl Try.underlying41 rfl ti39 rfl ?_
  refine o_loadn (vs := [_, _, _, _, _, _, _, _, _, _]) rfl rfl Try.underlying39 rfl ti39 (rdn_lit 3 rfl rfl) ?_
  refine o_call rfl cal27 rfl (single_ (o := x.ord) (OrdR.c (OrdR.c (OrdR.c (OrdR.c T_x)))) (by omega)) ?_
  rintro _ _ ⟨rfl, rfl⟩
  refine o_assign rfl rfl ?_
  refine l_nil ?_
  refine q_then ?_
  refine c_block ?_
  refine c_seq ?_
  refine c_region ?_
  refine o_fieldAddr (q := ⟨b3, 0, none⟩) rfl rfl Try.underlying41 rfl ti3 rfl ?_
  refine o_load1 rfl rfl Try.underlying3 rfl (rd_mem 3 rfl rfl) ?_
  refine o_bin rfl rfl rfl b_eql ?_
  refine o_move rfl rfl ?_
  refine l_split (t := 22) rfl (fun h2 => ?_) (fun h2 => ?_)
  · -- h2T
   have h2b := h2
   try simp only [decide_eq_true_eq] at h2
   refine o_yes rfl rfl rfl ?_
   refine o_move rfl rfl ?_
   refine o_pick_true rfl rfl rfl ?_
   refine o_assign rfl rfl ?_
   refine l_nil ?_
   refine q_then ?_
   refine c_cond rfl (fun h3 => ?_) (fun h3 => ?_)
   · -- h3T
    have h3b := h3
    try simp only [decide_eq_true_eq] at h3
    refine c_seq ?_
    refine c_region ?_
    refine o_move rfl rfl ?_
    refine o_fieldAddr (q := ⟨b3, 2, none⟩) rfl rfl Try.underlying41 rfl ti39 rfl ?_
    refine o_fieldAddr (q := ⟨b3, 2, none⟩) rfl rfl Try.underlying39 rfl ti32 rfl ?_
    refine o_loadn (vs := [_, _, _, _]) rfl rfl Try.underlying32 rfl ti32 (rdn_lit 3 rfl rfl) ?_
    refine l_conv (fun w S => S.perm p3) ?_
    refine l_conv (fun w S => S.perm p1) ?_
    refine l_conv (fun w S => S.perm p3) ?_
    refine l_conv (fun w S => S.perm p3) ?_
    refine l_conv (L' := FltR k s :: _) (fun w S => Sat.obj_mk m_1 ok_1 S) ?_
    refine o_call rfl cal28 rfl (ffirst_ (tg := x.ord.tag)) ?_
    rintro _ _ ⟨rfl, rfl⟩
    refine o_assign rfl rfl ?_
    refine l_nil ?_
    refine q_then ?_
    refine c_ret ?_
    refine q_block_ret ?_
    refine q_pass_ret ?_
    refine q_conv (fun w S => (S.perm p1).tail) ?_
    refine q_conv (fun w S => (S.perm p1).tail) ?_
    exact f_ret (r_one rfl rfl) (⟨by rw [item_run (by simpa using h1b) (by grind) (by grind)], by rw [item_run (by simpa using h1b) (by grind) (by grind)]⟩) (fun w S => S)
   · -- h3F
    have h3b := h3
    try simp only [decide_eq_false_iff_not, Int.not_lt, Int.not_le] at h3
    refine c_seq ?_
    refine c_quiet (by kernel_rfl) (by kernel_rfl) ?_
    refine Qt.o_val rfl (v_fieldAddr (q := ⟨b3, 0, none⟩) rfl rfl Try.underlying41 rfl ti3 rfl) ?_
    refine Qt.o_val rfl (v_load1 rfl rfl Try.underlying3 rfl (rd_mem 3 rfl rfl)) ?_
    refine Qt.o_val rfl (v_bin rfl rfl rfl b_eql) ?_
    refine Qt.o_val rfl (v_move rfl rfl) ?_
    refine Qt.l_split (t := 34) rfl (fun h4 => ?_) (fun h4 => ?_)
    · -- h4T
     have h4b := h4
     try simp only [decide_eq_true_eq] at h4
     refine Qt.o_yes rfl rfl rfl ?_
     refine Qt.o_val rfl (v_move rfl rfl) ?_
     refine Qt.o_yes rfl rfl rfl ?_
     refine Qt.o_val rfl (v_not rfl rfl) ?_
     refine Qt.o_val rfl (v_pick_true rfl rfl rfl) ?_
     refine Qt.o_val rfl (v_move rfl rfl) ?_
     refine Qt.l_split (t := 38) rfl (fun h5 => ?_) (fun h5 => ?_)
     · -- h5T
      have h5b := h5
      try simp only [Bool.not_eq_true', decide_eq_false_iff_not, Int.not_lt, Int.not_le] at h5
      refine Qt.o_yes rfl rfl rfl ?_
      refine Qt.o_val rfl (v_fieldAddr (q := ⟨b3, 1, none⟩) rfl rfl Try.underlying41 rfl ti3 rfl) ?_
      refine Qt.o_yes rfl rfl rfl ?_
      refine Qt.o_val rfl (v_load1 rfl rfl Try.underlying3 rfl (rd_mem 3 rfl rfl)) ?_
      refine Qt.o_yes rfl rfl rfl ?_
      refine Qt.o_val rfl (v_move rfl rfl) ?_
      refine Qt.o_yes rfl rfl rfl ?_
      refine Qt.o_val rfl (v_nil rfl rfl) ?_
      refine Qt.o_yes rfl rfl rfl ?_
      refine Qt.o_val rfl (v_fieldAddr (q := ⟨k, 1, none⟩) rfl rfl Try.underlying64 rfl ti3 rfl) ?_
      refine Qt.o_yes rfl rfl rfl ?_
      refine Qt.o_val rfl (v_load1 rfl rfl Try.underlying3 rfl (rd_mem 1 rfl rfl)) ?_
      refine Qt.o_yes rfl rfl rfl ?_
      refine Qt.o_val rfl (v_bin rfl rfl rfl b_gtr) ?_
      refine Qt.o_val rfl (v_pick_true rfl rfl rfl) ?_
      refine Qt.o_val rfl (v_assign rfl rfl) ?_
      refine Qt.l_nil ?_
      refine q_then ?_
      refine c_cond rfl (fun h6 => ?_) (fun h6 => ?_)
      · -- h6T
       have h6b := h6
       try simp only [decide_eq_true_eq] at h6
       refine c_seq ?_
       refine c_region ?_
       refine o_move rfl rfl ?_
       refine o_fieldAddr (q := ⟨b3, 1, none⟩) rfl rfl Try.underlying41 rfl ti3 rfl ?_
       refine o_load1 rfl rfl Try.underlying3 rfl (rd_mem 3 rfl rfl) ?_
       refine o_nil rfl rfl ?_
       refine o_fieldAddr (q := ⟨k, 1, none⟩) rfl rfl Try.underlying64 rfl ti3 rfl ?_
       refine l_f1 ?_
       refine o_store1 rfl rfl rfl ti3 rfl rfl ?_
       refine l_nil ?_
       refine q_then ?_
       refine c_seq ?_
       refine c_region ?_
       refine o_assign rfl rfl ?_
       refine l_nil ?_
       refine q_then ?_
       refine c_ret ?_
       refine q_block_ret ?_
       refine q_pass_ret ?_
       refine q_conv (fun w S => S.perm p3) ?_
       refine q_conv (fun w S => S.perm p2) ?_
       refine q_conv (fun w S => S.perm p3) ?_
       refine q_conv (fun w S => S.perm p3) ?_
       refine q_conv (L' := FltR k (⟨s.region, x.f_Index, s.seen⟩ : FS) :: _) (fun w S => Sat.obj_mk m_1 trivial S) ?_
       refine q_conv (fun w S => (S.perm p1).tail) ?_
       refine q_conv (fun w S => (S.perm p1).tail) ?_
       exact f_ret (r_one rfl rfl) (⟨by rw [item_piece (by simpa using h1b) (by grind) (by grind) (by grind)], by rw [item_piece (by simpa using h1b) (by grind) (by grind) (by grind)]⟩) (fun w S => S)
      · -- h6F
       have h6b := h6
       try simp only [decide_eq_false_iff_not, Int.not_lt, Int.not_le] at h6
       refine c_skip ?_
       refine q_block ?_
       refine q_then ?_
       refine c_seq ?_
       refine c_region ?_
       refine o_assign rfl rfl ?_
       refine l_nil ?_
       refine q_then ?_
       refine c_ret ?_
       refine q_conv (fun w S => S.perm p3) ?_
       refine q_conv (fun w S => S.perm p1) ?_
       refine q_conv (fun w S => S.perm p3) ?_
       refine q_conv (fun w S => S.perm p3) ?_
       refine q_conv (L' := FltR k s :: _) (fun w S => Sat.obj_mk m_1 ok_1 S) ?_
       refine q_conv (fun w S => (S.perm p1).tail) ?_
       refine q_conv (fun w S => (S.perm p1).tail) ?_
       exact f_ret (r_one rfl rfl) (⟨by rw [item_off (by simpa using h1b) (by grind) (by grind)], by rw [item_off (by simpa using h1b) (by grind) (by grind)]⟩) (fun w S => S)
     · -- h5F
      have h5b := h5
      try simp only [Bool.not_eq_false', decide_eq_true_eq] at h5
      refine Qt.o_no rfl rfl rfl rfl ?_
      refine Qt.o_no rfl rfl rfl rfl ?_
      refine Qt.o_no rfl rfl rfl rfl ?_
      refine Qt.o_no rfl rfl rfl rfl ?_
      refine Qt.o_no rfl rfl rfl rfl ?_
      refine Qt.o_no rfl rfl rfl rfl ?_
      refine Qt.o_no rfl rfl rfl rfl ?_
      refine Qt.o_val rfl (v_pick_false rfl rfl rfl) ?_
      refine Qt.o_val rfl (v_assign rfl rfl) ?_
      refine Qt.l_nil ?_
      refine q_then ?_
      refine c_false rfl ?_
      refine c_skip ?_
      refine q_block ?_
      refine q_then ?_
      refine c_seq ?_
      refine c_region ?_
      refine o_assign rfl rfl ?_
      refine l_nil ?_
      refine q_then ?_
      refine c_ret ?_
      refine q_conv (fun w S => S.perm p3) ?_
      refine q_conv (fun w S => S.perm p1) ?_
      refine q_conv (fun w S => S.perm p3) ?_
      refine q_conv (fun w S => S.perm p3) ?_
      refine q_conv (L' := FltR k s :: _) (fun w S => Sat.obj_mk m_1 ok_1 S) ?_
      refine q_conv (fun w S => (S.perm p1).tail) ?_
      refine q_conv (fun w S => (S.perm p1).tail) ?_
      exact f_ret (r_one rfl rfl) (⟨by rw [item_off (by simpa using h1b) (by grind) (by grind)], by rw [item_off (by simpa using h1b) (by grind) (by grind)]⟩) (fun w S => S)
    · -- h4F
     have h4b := h4
     try simp only [decide_eq_false_iff_not, Int.not_lt, Int.not_le] at h4
     refine Qt.o_no rfl rfl rfl rfl ?_
     refine Qt.o_no rfl rfl rfl rfl ?_
     refine Qt.o_val rfl (v_pick_false rfl rfl rfl) ?_
     refine Qt.o_val rfl (v_move rfl rfl) ?_
     refine Qt.o_no rfl rfl rfl rfl ?_
     refine Qt.o_no rfl rfl rfl rfl ?_
     refine Qt.o_no rfl rfl rfl rfl ?_
     refine Qt.o_no rfl rfl rfl rfl ?_
     refine Qt.o_no rfl rfl rfl rfl ?_
     refine Qt.o_no rfl rfl rfl rfl ?_
     refine Qt.o_no rfl rfl rfl rfl ?_
     refine Qt.o_val rfl (v_pick_false rfl rfl rfl) ?_
     refine Qt.o_val rfl (v_assign rfl rfl) ?_
     refine Qt.l_nil ?_
     refine q_then ?_
     refine c_false rfl ?_
     refine c_skip ?_
     refine q_block ?_
     refine q_then ?_
     refine c_seq ?_
     refine c_region ?_
     refine o_assign rfl rfl ?_
     refine l_nil ?_
     refine q_then ?_
     refine c_ret ?_
     refine q_conv (fun w S => S.perm p3) ?_
     refine q_conv (fun w S => S.perm p1) ?_
     refine q_conv (fun w S => S.perm p3) ?_
     refine q_conv (fun w S => S.perm p3) ?_
     refine q_conv (L' := FltR k s :: _) (fun w S => Sat.obj_mk m_1 ok_1 S) ?_
     refine q_conv (fun w S => (S.perm p1).tail) ?_
     refine q_conv (fun w S => (S.perm p1).tail) ?_
     exact f_ret (r_one rfl rfl) (⟨by rw [item_off (by simpa using h1b) (by grind) (by grind)], by rw [item_off (by simpa using h1b) (by grind) (by grind)]⟩) (fun w S => S)
  · -- h2F
   have h2b := h2
   try simp only [decide_eq_false_iff_not, Int.not_lt, Int.not_le] at h2
   refine o_no rfl rfl rfl rfl ?_
   refine o_pick_false rfl rfl rfl ?_
   refine o_assign rfl rfl ?_
   refine l_nil ?_
   refine q_then ?_
   refine c_false rfl ?_
   refine c_seq ?_
   refine c_quiet (by kernel_rfl) (by kernel_rfl) ?_
   refine Qt.o_val rfl (v_fieldAddr (q := ⟨b3, 0, none⟩) rfl rfl Try.underlying41 rfl ti3 rfl) ?_
   refine Qt.o_val rfl (v_load1 rfl rfl Try.underlying3 rfl (rd_mem 3 rfl rfl)) ?_
   refine Qt.o_val rfl (v_bin rfl rfl rfl b_eql) ?_
   refine Qt.o_val rfl (v_move rfl rfl) ?_
   refine Qt.l_split (t := 34) rfl (fun h7 => ?_) (fun h7 => ?_)
   · -- h7T
    have h7b := h7
    try simp only [decide_eq_true_eq] at h7
    refine Qt.o_yes rfl rfl rfl ?_
    refine Qt.o_val rfl (v_move rfl rfl) ?_
    refine Qt.o_yes rfl rfl rfl ?_
    refine Qt.o_val rfl (v_not rfl rfl) ?_
    refine Qt.o_val rfl (v_pick_true rfl rfl rfl) ?_
    refine Qt.o_val rfl (v_move rfl rfl) ?_
    refine Qt.l_split (t := 38) rfl (fun h8 => ?_) (fun h8 => ?_)
    · -- h8T
     have h8b := h8
     try simp only [Bool.not_eq_true', decide_eq_false_iff_not, Int.not_lt, Int.not_le] at h8
     refine Qt.o_yes rfl rfl rfl ?_
     refine Qt.o_val rfl (v_fieldAddr (q := ⟨b3, 1, none⟩) rfl rfl Try.underlying41 rfl ti3 rfl) ?_
     refine Qt.o_yes rfl rfl rfl ?_
     refine Qt.o_val rfl (v_load1 rfl rfl Try.underlying3 rfl (rd_mem 3 rfl rfl)) ?_
     refine Qt.o_yes rfl rfl rfl ?_
     refine Qt.o_val rfl (v_move rfl rfl) ?_
     refine Qt.o_yes rfl rfl rfl ?_
     refine Qt.o_val rfl (v_nil rfl rfl) ?_
     refine Qt.o_yes rfl rfl rfl ?_
     refine Qt.o_val rfl (v_fieldAddr (q := ⟨k, 1, none⟩) rfl rfl Try.underlying64 rfl ti3 rfl) ?_
     refine Qt.o_yes rfl rfl rfl ?_
     refine Qt.o_val rfl (v_load1 rfl rfl Try.underlying3 rfl (rd_mem 1 rfl rfl)) ?_
     refine Qt.o_yes rfl rfl rfl ?_
     refine Qt.o_val rfl (v_bin rfl rfl rfl b_gtr) ?_
     refine Qt.o_val rfl (v_pick_true rfl rfl rfl) ?_
     refine Qt.o_val rfl (v_assign rfl rfl) ?_
     refine Qt.l_nil ?_
     refine q_then ?_
     refine c_cond rfl (fun h9 => ?_) (fun h9 => ?_)
     · -- h9T
      have h9b := h9
      try simp only [decide_eq_true_eq] at h9
      refine c_seq ?_
      refine c_region ?_
      refine o_move rfl rfl ?_
      refine o_fieldAddr (q := ⟨b3, 1, none⟩) rfl rfl Try.underlying41 rfl ti3 rfl ?_
      refine o_load1 rfl rfl Try.underlying3 rfl (rd_mem 3 rfl rfl) ?_
      refine o_nil rfl rfl ?_
      refine o_fieldAddr (q := ⟨k, 1, none⟩) rfl rfl Try.underlying64 rfl ti3 rfl ?_
      refine l_f1 ?_
      refine o_store1 rfl rfl rfl ti3 rfl rfl ?_
      refine l_nil ?_
      refine q_then ?_
      refine c_seq ?_
      refine c_region ?_
      refine o_assign rfl rfl ?_
      refine l_nil ?_
      refine q_then ?_
      refine c_ret ?_
      refine q_block_ret ?_
      refine q_pass_ret ?_
      refine q_conv (fun w S => S.perm p3) ?_
      refine q_conv (fun w S => S.perm p2) ?_
      refine q_conv (fun w S => S.perm p3) ?_
      refine q_conv (fun w S => S.perm p3) ?_
      refine q_conv (L' := FltR k (⟨s.region, x.f_Index, s.seen⟩ : FS) :: _) (fun w S => Sat.obj_mk m_1 trivial S) ?_
      refine q_conv (fun w S => (S.perm p1).tail) ?_
      refine q_conv (fun w S => (S.perm p1).tail) ?_
      exact f_ret (r_one rfl rfl) (⟨by rw [item_piece (by simpa using h1b) (by grind) (by grind) (by grind)], by rw [item_piece (by simpa using h1b) (by grind) (by grind) (by grind)]⟩) (fun w S => S)
     · -- h9F
      have h9b := h9
      try simp only [decide_eq_false_iff_not, Int.not_lt, Int.not_le] at h9
      refine c_skip ?_
      refine q_block ?_
      refine q_then ?_
      refine c_seq ?_
      refine c_region ?_
      refine o_assign rfl rfl ?_
      refine l_nil ?_
      refine q_then ?_
      refine c_ret ?_
      refine q_conv (fun w S => S.perm p3) ?_
      refine q_conv (fun w S => S.perm p1) ?_
      refine q_conv (fun w S => S.perm p3) ?_
      refine q_conv (fun w S => S.perm p3) ?_
      refine q_conv (L' := FltR k s :: _) (fun w S => Sat.obj_mk m_1 ok_1 S) ?_
      refine q_conv (fun w S => (S.perm p1).tail) ?_
      refine q_conv (fun w S => (S.perm p1).tail) ?_
      exact f_ret (r_one rfl rfl) (⟨by rw [item_off (by simpa using h1b) (by grind) (by grind)], by rw [item_off (by simpa using h1b) (by grind) (by grind)]⟩) (fun w S => S)
    · -- h8F
     have h8b := h8
     try simp only [Bool.not_eq_false', decide_eq_true_eq] at h8
     refine Qt.o_no rfl rfl rfl rfl ?_
     refine Qt.o_no rfl rfl rfl rfl ?_
     refine Qt.o_no rfl rfl rfl rfl ?_
     refine Qt.o_no rfl rfl rfl rfl ?_
     refine Qt.o_no rfl rfl rfl rfl ?_
     refine Qt.o_no rfl rfl rfl rfl ?_
     refine Qt.o_no rfl rfl rfl rfl ?_
     refine Qt.o_val rfl (v_pick_false rfl rfl rfl) ?_
     refine Qt.o_val rfl (v_assign rfl rfl) ?_
     refine Qt.l_nil ?_
     refine q_then ?_
     refine c_false rfl ?_
     refine c_skip ?_
     refine q_block ?_
     refine q_then ?_
     refine c_seq ?_
     refine c_region ?_
     refine o_assign rfl rfl ?_
     refine l_nil ?_
     refine q_then ?_
     refine c_ret ?_
     refine q_conv (fun w S => S.perm p3) ?_
     refine q_conv (fun w S => S.perm p1) ?_
     refine q_conv (fun w S => S.perm p3) ?_
     refine q_conv (fun w S => S.perm p3) ?_
     refine q_conv (L' := FltR k s :: _) (fun w S => Sat.obj_mk m_1 ok_1 S) ?_
     refine q_conv (fun w S => (S.perm p1).tail) ?_
     refine q_conv (fun w S => (S.perm p1).tail) ?_
     exact f_ret (r_one rfl rfl) (⟨by rw [item_off (by simpa using h1b) (by grind) (by grind)], by rw [item_off (by simpa using h1b) (by grind) (by grind)]⟩) (fun w S => S)
   · -- h7F
    have h7b := h7
    try simp only [decide_eq_false_iff_not, Int.not_lt, Int.not_le] at h7
    refine Qt.o_no rfl rfl rfl rfl ?_
    refine Qt.o_no rfl rfl rfl rfl ?_
    refine Qt.o_val rfl (v_pick_false rfl rfl rfl) ?_
    refine Qt.o_val rfl (v_move rfl rfl) ?_
    refine Qt.o_no rfl rfl rfl rfl ?_
    refine Qt.o_no rfl rfl rfl rfl ?_
    refine Qt.o_no rfl rfl rfl rfl ?_
    refine Qt.o_no rfl rfl rfl rfl ?_
    refine Qt.o_no rfl rfl rfl rfl ?_
    refine Qt.o_no rfl rfl rfl rfl ?_
    refine Qt.o_no rfl rfl rfl rfl ?_
    refine Qt.o_val rfl (v_pick_false rfl rfl rfl) ?_
    refine Qt.o_val rfl (v_assign rfl rfl) ?_
    refine Qt.l_nil ?_
    refine q_then ?_
    refine c_false rfl ?_
    refine c_skip ?_
    refine q_block ?_
    refine q_then ?_
    refine c_seq ?_
    refine c_region ?_
    refine o_assign rfl rfl ?_
    refine l_nil ?_
    refine q_then ?_
    refine c_ret ?_
    refine q_conv (fun w S => S.perm p3) ?_
    refine q_conv (fun w S => S.perm p1) ?_
    refine q_conv (fun w S => S.perm p3) ?_
    refine q_conv (fun w S => S.perm p3) ?_
    refine q_conv (L' := FltR k s :: _) (fun w S => Sat.obj_mk m_1 ok_1 S) ?_
    refine q_conv (fun w S => (S.perm p1).tail) ?_
    refine q_conv (fun w S => (S.perm p1).tail) ?_
    exact f_ret (r_one rfl rfl) (⟨by rw [item_off (by simpa using h1b) (by grind) (by grind)], by rw [item_off (by simpa using h1b) (by grind) (by grind)]⟩) (fun w S => S)
end
section
set_option linter.unusedVariables false
set_option linter.unusedSimpArgs false
set_option maxRecDepth 10000
open Go.RowKit Classical
theorem rgreatT_ {W : World} {F : List Res} {o : Order} (T_o : OrdR W F o) : CS Try.prog 29 #[.agg #[.int .i64 o.f_Txn_Kind, .slice o.f_Txn_Reads.a (o.f_Txn_Reads.xs).length o.f_Txn_Reads.c, .slice o.f_Txn_Writes.a (o.f_Txn_Writes.xs).length o.f_Txn_Writes.c, .slice o.f_Txn_Ops.a (o.f_Txn_Ops.xs).length o.f_Txn_Ops.c, .int .i64 o.f_Txn_To]] W (F) (fun r L' => ∃ g : Bool, (g = false → o.f_Txn_Reads.xs.length ≤ 40 ∧ o.f_Txn_Writes.xs.length ≤ 40 ∧ o.f_Txn_Ops.xs.length ≤ 60 ∧ (∀ x ∈ o.f_Txn_Reads.xs, x.size ≤ 200) ∧ (∀ x ∈ o.f_Txn_Writes.xs, x.size ≤ 200) ∧ ∀ x ∈ o.f_Txn_Ops.xs, x.f_Key.size ≤ 200 ∧ x.f_Value.xs.length ≤ 200) ∧ r = .bool g ∧ F = L') := by
 have hlr := T_o.lr
 have hlw := T_o.lw
 have hlo := T_o.lo
 refine f_door (l0 := [(0, .agg #[.int .i64 o.f_Txn_Kind, .slice o.f_Txn_Reads.a (o.f_Txn_Reads.xs).length o.f_Txn_Reads.c, .slice o.f_Txn_Writes.a (o.f_Txn_Writes.xs).length o.f_Txn_Writes.c, .slice o.f_Txn_Ops.a (o.f_Txn_Ops.xs).length o.f_Txn_Ops.c, .int .i64 o.f_Txn_To])]) Try.func29 Try.ntmps29 rfl rfl rfl ?_
 refine c_seq ?_
 refine c_region ?_
 refine o_box rfl rfl fun b1 => ?_
 refine o_assign rfl rfl ?_
 refine l_nil ?_
 refine q_then ?_
 refine c_seq ?_
 refine c_seq ?_
 refine c_region ?_
 refine o_fieldAddr (q := ⟨b1, 1, none⟩) rfl rfl Try.underlying36 rfl ti33 rfl ?_
 refine o_load1 rfl rfl Try.underlying33 rfl (rd_mem 0 rfl rfl) ?_
 refine o_len rfl rfl Try.underlying33 ?_
 refine o_bin rfl rfl rfl b_gtr ?_
 refine o_move rfl rfl ?_
 refine l_split (t := 10) rfl (fun h1 => ?_) (fun h1 => ?_)
 · -- h1T
  have h1b := h1
  try simp only [decide_eq_true_eq] at h1
  refine o_no rfl rfl rfl rfl ?_
  refine o_no rfl rfl rfl rfl ?_
  refine o_no rfl rfl rfl rfl ?_
  refine o_no rfl rfl rfl rfl ?_
  refine o_pick_true rfl rfl rfl ?_
  refine o_move rfl rfl ?_
  refine o_no rfl rfl rfl rfl ?_
  refine o_no rfl rfl rfl rfl ?_
  refine o_no rfl rfl rfl rfl ?_
  refine o_no rfl rfl rfl rfl ?_
  refine o_pick_true rfl rfl rfl ?_
  refine l_nil ?_
  refine q_then ?_
  refine c_true rfl ?_
  refine c_seq ?_
  refine c_region ?_
  refine o_assign rfl rfl ?_
  refine l_nil ?_
  refine q_then ?_
  refine c_ret ?_
  refine q_pass_ret ?_
  refine q_conv (fun w S => S.tail) ?_
  exact f_ret (r_one rfl rfl) (⟨true, fun h9 => absurd h9 (by decide), rfl, rfl⟩) (fun w S => S)
 · -- h1F
  have h1b := h1
  try simp only [decide_eq_false_iff_not, Int.not_lt, Int.not_le] at h1
  refine o_yes rfl rfl rfl ?_
  refine o_fieldAddr (q := ⟨b1, 2, none⟩) rfl rfl Try.underlying36 rfl ti33 rfl ?_
  refine o_yes rfl rfl rfl ?_
  refine o_load1 rfl rfl Try.underlying33 rfl (rd_mem 0 rfl rfl) ?_
  refine o_yes rfl rfl rfl ?_
  refine o_len rfl rfl Try.underlying33 ?_
  refine o_yes rfl rfl rfl ?_
  refine o_bin rfl rfl rfl b_gtr ?_
  refine o_pick_false rfl rfl rfl ?_
  refine o_move rfl rfl ?_
  refine l_split (t := 16) rfl (fun h2 => ?_) (fun h2 => ?_)
  · -- h2T
   have h2b := h2
   try simp only [decide_eq_true_eq] at h2
   refine o_no rfl rfl rfl rfl ?_
   refine o_no rfl rfl rfl rfl ?_
   refine o_no rfl rfl rfl rfl ?_
   refine o_no rfl rfl rfl rfl ?_
   refine o_pick_true rfl rfl rfl ?_
   refine l_nil ?_
   refine q_then ?_
   refine c_true rfl ?_
   refine c_seq ?_
   refine c_region ?_
   refine o_assign rfl rfl ?_
   refine l_nil ?_
   refine q_then ?_
   refine c_ret ?_
   refine q_pass_ret ?_
   refine q_conv (fun w S => S.tail) ?_
   exact f_ret (r_one rfl rfl) (⟨true, fun h9 => absurd h9 (by decide), rfl, rfl⟩) (fun w S => S)
  · -- h2F
   have h2b := h2
   try simp only [decide_eq_false_iff_not, Int.not_lt, Int.not_le] at h2
   refine o_yes rfl rfl rfl ?_
   refine o_fieldAddr (q := ⟨b1, 3, none⟩) rfl rfl Try.underlying36 rfl ti34 rfl ?_
   refine o_yes rfl rfl rfl ?_
   refine o_load1 rfl rfl Try.underlying34 rfl (rd_mem 0 rfl rfl) ?_
   refine o_yes rfl rfl rfl ?_
   refine o_len rfl rfl Try.underlying34 ?_
   refine o_yes rfl rfl rfl ?_
   refine o_bin rfl rfl rfl b_gtr ?_
   refine o_pick_false rfl rfl rfl ?_
   refine l_nil ?_
   refine q_then ?_
   refine c_cond rfl (fun h3 => ?_) (fun h3 => ?_)
   · -- h3T
    have h3b := h3
    try simp only [decide_eq_true_eq] at h3
    refine c_seq ?_
    refine c_region ?_
    refine o_assign rfl rfl ?_
    refine l_nil ?_
    refine q_then ?_
    refine c_ret ?_
    refine q_pass_ret ?_
    refine q_conv (fun w S => S.tail) ?_
    exact f_ret (r_one rfl rfl) (⟨true, fun h9 => absurd h9 (by decide), rfl, rfl⟩) (fun w S => S)
   · -- h3F
    have h3b := h3
    try simp only [decide_eq_false_iff_not, Int.not_lt, Int.not_le] at h3
    refine c_skip ?_
    refine q_then ?_
    refine c_seq ?_
    refine c_seq ?_
    refine c_region ?_
    refine o_assign rfl rfl ?_
    refine l_nil ?_
    refine q_then ?_
    refine c_block ?_
    refine c_loop (α := Nat) (fun z => [(1, .pointer (some ⟨b1, 0, none⟩)), (3, .int .i64 (z : Int))]) (fun z => blk b1 (.cells #[.int .i64 o.f_Txn_Kind, .slice o.f_Txn_Reads.a (o.f_Txn_Reads.xs).length o.f_Txn_Reads.c, .slice o.f_Txn_Writes.a (o.f_Txn_Writes.xs).length o.f_Txn_Writes.c, .slice o.f_Txn_Ops.a (o.f_Txn_Ops.xs).length o.f_Txn_Ops.c, .int .i64 o.f_Txn_To] 36 (0, 0)) :: F) (fun z => z ≤ o.f_Txn_Reads.xs.length ∧ UpTo (fun x : ByteArray => x.size ≤ 200) o.f_Txn_Reads.xs z) (fun z => o.f_Txn_Reads.xs.length - z) (0) (by exact ⟨Nat.zero_le _, upTo_0⟩) ⟨(by first | rfl | exact vint (by omega)), (by first | rfl | exact vint (by omega)), trivial⟩ (fun w S => S) ?_
    rintro i1 ⟨hi1, ht1⟩
    try dsimp only at *
    refine c_seq ?_
    refine c_seq ?_
    refine c_region ?_
    refine o_move rfl rfl ?_
    refine o_fieldAddr (q := ⟨b1, 1, none⟩) rfl rfl Try.underlying36 rfl ti33 rfl ?_
    refine o_load1 rfl rfl Try.underlying33 rfl (rd_mem 0 rfl rfl) ?_
    refine o_len rfl rfl Try.underlying33 ?_
    refine o_bin rfl rfl rfl b_lss ?_
    refine l_nil ?_
    refine q_then ?_
    refine c_cond rfl (fun h4 => ?_) (fun h4 => ?_)
    · -- h4T
     have h4b := h4
     try simp only [decide_eq_true_eq] at h4
     refine c_skip ?_
     refine q_then ?_
     refine c_seq ?_
     refine c_block ?_
     refine c_seq ?_
     refine c_region ?_
     refine o_fieldAddr (q := ⟨b1, 1, none⟩) rfl rfl Try.underlying36 rfl ti33 rfl ?_
     refine o_load1 rfl rfl Try.underlying33 rfl (rd_mem 0 rfl rfl) ?_
     refine o_move rfl rfl ?_
     refine o_index e_S_ok rfl rfl rfl Try.underlying33 (by omega) (by omega) (OrdR.c T_o).rr fun ad32 ead32 => ?_
     obtain ⟨x32, hx32⟩ : ∃ x, (o.f_Txn_Reads.xs)[((i1 : Int)).toNat]? = some x := ⟨_, List.getElem?_eq_getElem (by omega)⟩
     refine o_load1 rfl rfl Try.underlying9 rfl (rd_sl0 e_S_ok ead32 (OrdR.c T_o).rr hx32 rfl) ?_
     refine o_lenStr rfl rfl Try.underlying9 ?_
     refine o_bin rfl rfl rfl b_gtr ?_
     refine l_nil ?_
     refine q_then ?_
     refine c_cond rfl (fun h5 => ?_) (fun h5 => ?_)
     · -- h5T
      have h5b := h5
      try simp only [decide_eq_true_eq] at h5
      refine c_seq ?_
      refine c_region ?_
      refine o_assign rfl rfl ?_
      refine l_nil ?_
      refine q_then ?_
      refine c_ret ?_
      refine q_block_ret ?_
      refine q_pass_ret ?_
      refine q_pass_ret ?_
      refine q_block_ret ?_
      refine q_pass_ret ?_
      refine q_conv (fun w S => S.tail) ?_
      exact f_ret (r_one rfl rfl) (⟨true, fun h9 => absurd h9 (by decide), rfl, rfl⟩) (fun w S => S)
     · -- h5F
      have h5b := h5
      try simp only [decide_eq_false_iff_not, Int.not_lt, Int.not_le] at h5
      refine c_skip ?_
      refine q_block ?_
      refine q_then ?_
      refine c_region ?_
      refine o_move rfl rfl ?_
      refine o_bin rfl rfl rfl (b_add (wrap_i64 (by omega) (by omega))) ?_
      refine o_assign rfl rfl ?_
      refine l_nil ?_
      exact q_round (i1 + 1) (by exact ⟨by omega, upTo_on ht1 hx32 (by show x32.size ≤ 200; omega)⟩) (by (try dsimp only); omega) ⟨(by first | rfl | exact vint (by omega)), (by first | rfl | exact vint (by omega)), trivial⟩ (fun w S => S)
    · -- h4F
     have h4b := h4
     try simp only [decide_eq_false_iff_not, Int.not_lt, Int.not_le] at h4
     refine c_exit ?_
     refine q_pass_exit ?_
     refine q_pass_exit ?_
     refine q_hit ?_
     refine q_then ?_
     refine c_seq ?_
     refine c_seq ?_
     refine c_region ?_
     refine o_assign rfl rfl ?_
     refine l_nil ?_
     refine q_then ?_
     refine c_block ?_
     refine c_loop (α := Nat) (fun z => [(1, .pointer (some ⟨b1, 0, none⟩)), (4, .int .i64 (z : Int))]) (fun z => blk b1 (.cells #[.int .i64 o.f_Txn_Kind, .slice o.f_Txn_Reads.a (o.f_Txn_Reads.xs).length o.f_Txn_Reads.c, .slice o.f_Txn_Writes.a (o.f_Txn_Writes.xs).length o.f_Txn_Writes.c, .slice o.f_Txn_Ops.a (o.f_Txn_Ops.xs).length o.f_Txn_Ops.c, .int .i64 o.f_Txn_To] 36 (0, 0)) :: F) (fun z => z ≤ o.f_Txn_Writes.xs.length ∧ UpTo (fun x : ByteArray => x.size ≤ 200) o.f_Txn_Writes.xs z) (fun z => o.f_Txn_Writes.xs.length - z) (0) (by exact ⟨Nat.zero_le _, upTo_0⟩) ⟨(by first | rfl | exact vint (by omega)), (by first | rfl | exact vint (by omega)), trivial⟩ (fun w S => S) ?_
     rintro i2 ⟨hi2, ht2⟩
     try dsimp only at *
     refine c_seq ?_
     refine c_seq ?_
     refine c_region ?_
     refine o_move rfl rfl ?_
     refine o_fieldAddr (q := ⟨b1, 2, none⟩) rfl rfl Try.underlying36 rfl ti33 rfl ?_
     refine o_load1 rfl rfl Try.underlying33 rfl (rd_mem 0 rfl rfl) ?_
     refine o_len rfl rfl Try.underlying33 ?_
     refine o_bin rfl rfl rfl b_lss ?_
     refine l_nil ?_
     refine q_then ?_
     refine c_cond rfl (fun h6 => ?_) (fun h6 => ?_)
     · -- h6T
      have h6b := h6
      try simp only [decide_eq_true_eq] at h6
      refine c_skip ?_
      refine q_then ?_
      refine c_seq ?_
      refine c_block ?_
      refine c_seq ?_
      refine c_region ?_
      refine o_fieldAddr (q := ⟨b1, 2, none⟩) rfl rfl Try.underlying36 rfl ti33 rfl ?_
      refine o_load1 rfl rfl Try.underlying33 rfl (rd_mem 0 rfl rfl) ?_
      refine o_move rfl rfl ?_
      refine o_index e_S_ok rfl rfl rfl Try.underlying33 (by omega) (by omega) (OrdR.c T_o).rw fun ad46 ead46 => ?_
      obtain ⟨x46, hx46⟩ : ∃ x, (o.f_Txn_Writes.xs)[((i2 : Int)).toNat]? = some x := ⟨_, List.getElem?_eq_getElem (by omega)⟩
      refine o_load1 rfl rfl Try.underlying9 rfl (rd_sl0 e_S_ok ead46 (OrdR.c T_o).rw hx46 rfl) ?_
      refine o_lenStr rfl rfl Try.underlying9 ?_
      refine o_bin rfl rfl rfl b_gtr ?_
      refine l_nil ?_
      refine q_then ?_
      refine c_cond rfl (fun h7 => ?_) (fun h7 => ?_)
      · -- h7T
       have h7b := h7
       try simp only [decide_eq_true_eq] at h7
       refine c_seq ?_
       refine c_region ?_
       refine o_assign rfl rfl ?_
       refine l_nil ?_
       refine q_then ?_
       refine c_ret ?_
       refine q_block_ret ?_
       refine q_pass_ret ?_
       refine q_pass_ret ?_
       refine q_block_ret ?_
       refine q_pass_ret ?_
       refine q_conv (fun w S => S.tail) ?_
       exact f_ret (r_one rfl rfl) (⟨true, fun h9 => absurd h9 (by decide), rfl, rfl⟩) (fun w S => S)
      · -- h7F
       have h7b := h7
       try simp only [decide_eq_false_iff_not, Int.not_lt, Int.not_le] at h7
       refine c_skip ?_
       refine q_block ?_
       refine q_then ?_
       refine c_region ?_
       refine o_move rfl rfl ?_
       refine o_bin rfl rfl rfl (b_add (wrap_i64 (by omega) (by omega))) ?_
       refine o_assign rfl rfl ?_
       refine l_nil ?_
       exact q_round (i2 + 1) (by exact ⟨by omega, upTo_on ht2 hx46 (by show x46.size ≤ 200; omega)⟩) (by (try dsimp only); omega) ⟨(by first | rfl | exact vint (by omega)), (by first | rfl | exact vint (by omega)), trivial⟩ (fun w S => S)
     · -- h6F
      have h6b := h6
      try simp only [decide_eq_false_iff_not, Int.not_lt, Int.not_le] at h6
      refine c_exit ?_
      refine q_pass_exit ?_
      refine q_pass_exit ?_
      refine q_hit ?_
      refine q_then ?_
      refine c_seq ?_
      refine c_seq ?_
      refine c_region ?_
      refine o_assign rfl rfl ?_
      refine l_nil ?_
      refine q_then ?_
      refine c_block ?_
      refine c_loop (α := Nat) (fun z => [(1, .pointer (some ⟨b1, 0, none⟩)), (5, .int .i64 (z : Int))]) (fun z => blk b1 (.cells #[.int .i64 o.f_Txn_Kind, .slice o.f_Txn_Reads.a (o.f_Txn_Reads.xs).length o.f_Txn_Reads.c, .slice o.f_Txn_Writes.a (o.f_Txn_Writes.xs).length o.f_Txn_Writes.c, .slice o.f_Txn_Ops.a (o.f_Txn_Ops.xs).length o.f_Txn_Ops.c, .int .i64 o.f_Txn_To] 36 (0, 0)) :: F) (fun z => z ≤ o.f_Txn_Ops.xs.length ∧ UpTo (fun x : Op => x.f_Key.size ≤ 200 ∧ x.f_Value.xs.length ≤ 200) o.f_Txn_Ops.xs z) (fun z => o.f_Txn_Ops.xs.length - z) (0) (by exact ⟨Nat.zero_le _, upTo_0⟩) ⟨(by first | rfl | exact vint (by omega)), (by first | rfl | exact vint (by omega)), trivial⟩ (fun w S => S) ?_
      rintro i3 ⟨hi3, ht3⟩
      try dsimp only at *
      refine c_seq ?_
      refine c_seq ?_
      refine c_region ?_
      refine o_move rfl rfl ?_
      refine o_fieldAddr (q := ⟨b1, 3, none⟩) rfl rfl Try.underlying36 rfl ti34 rfl ?_
      refine o_load1 rfl rfl Try.underlying34 rfl (rd_mem 0 rfl rfl) ?_
      refine o_len rfl rfl Try.underlying34 ?_
      refine o_bin rfl rfl rfl b_lss ?_
      refine l_nil ?_
      refine q_then ?_
      refine c_cond rfl (fun h8 => ?_) (fun h8 => ?_)
      · -- h8T
       have h8b := h8
       try simp only [decide_eq_true_eq] at h8
       refine c_skip ?_
       refine q_then ?_
       refine c_seq ?_
       refine c_block ?_
       refine c_seq ?_
       refine c_region ?_
       refine o_fieldAddr (q := ⟨b1, 3, none⟩) rfl rfl Try.underlying36 rfl ti34 rfl ?_
       refine o_load1 rfl rfl Try.underlying34 rfl (rd_mem 0 rfl rfl) ?_
       refine o_move rfl rfl ?_
       refine o_index e_Op_ok rfl rfl rfl Try.underlying34 (by omega) (by omega) (OrdR.c T_o).ro fun ad60 ead60 => ?_
       obtain ⟨x60, hx60⟩ : ∃ x, (o.f_Txn_Ops.xs)[((i3 : Int)).toNat]? = some x := ⟨_, List.getElem?_eq_getElem (by omega)⟩
       refine o_fieldAddr rfl rfl Try.underlying79 rfl ti9 (Addr.add_add' _ _ _) ?_
       refine o_load1 rfl rfl Try.underlying9 rfl (rd_sl e_Op_ok ead60 (OrdR.c T_o).ro hx60 rfl) ?_
       refine o_lenStr rfl rfl Try.underlying9 ?_
       refine o_bin rfl rfl rfl b_gtr ?_
       refine o_move rfl rfl ?_
       refine l_split (t := 65) rfl (fun h9 => ?_) (fun h9 => ?_)
       · -- h9T
        have h9b := h9
        try simp only [decide_eq_true_eq] at h9
        refine o_no rfl rfl rfl rfl ?_
        refine o_no rfl rfl rfl rfl ?_
        refine o_no rfl rfl rfl rfl ?_
        refine o_no rfl rfl rfl rfl ?_
        refine o_no rfl rfl rfl rfl ?_
        refine o_no rfl rfl rfl rfl ?_
        refine o_no rfl rfl rfl rfl ?_
        refine o_no rfl rfl rfl rfl ?_
        refine o_pick_true rfl rfl rfl ?_
        refine l_nil ?_
        refine q_then ?_
        refine c_true rfl ?_
        refine c_seq ?_
        refine c_region ?_
        refine o_assign rfl rfl ?_
        refine l_nil ?_
        refine q_then ?_
        refine c_ret ?_
        refine q_block_ret ?_
        refine q_pass_ret ?_
        refine q_pass_ret ?_
        refine q_block_ret ?_
        refine q_pass_ret ?_
        refine q_conv (fun w S => S.tail) ?_
        exact f_ret (r_one rfl rfl) (⟨true, fun h9 => absurd h9 (by decide), rfl, rfl⟩) (fun w S => S)
       · -- h9F
        have h9b := h9
        try simp only [decide_eq_false_iff_not, Int.not_lt, Int.not_le] at h9
        refine o_yes rfl rfl rfl ?_
        refine o_fieldAddr (q := ⟨b1, 3, none⟩) rfl rfl Try.underlying36 rfl ti34 rfl ?_
        refine o_yes rfl rfl rfl ?_
        refine o_load1 rfl rfl Try.underlying34 rfl (rd_mem 0 rfl rfl) ?_
        refine o_yes rfl rfl rfl ?_
        refine o_move rfl rfl ?_
        refine o_yes rfl rfl rfl ?_
        refine o_indexK e_Op_ok ead60 rfl rfl rfl Try.underlying34 (by omega) (by omega) ?_
        obtain ⟨x69, hx69⟩ : ∃ x, (o.f_Txn_Ops.xs)[((i3 : Int)).toNat]? = some x := ⟨_, List.getElem?_eq_getElem (by omega)⟩
        have e69 : x69 = x60 := by rw [hx60] at hx69; exact (Option.some.inj hx69).symm
        have e69' : x69.f_Value.xs.length = x60.f_Value.xs.length := by rw [e69]
        refine o_yes rfl rfl rfl ?_
        refine o_fieldAddr rfl rfl Try.underlying79 rfl ti77 (Addr.add_add' _ _ _) ?_
        refine o_yes rfl rfl rfl ?_
        refine o_load1 rfl rfl Try.underlying77 rfl (rd_sl e_Op_ok ead60 (OrdR.c T_o).ro hx69 rfl) ?_
        refine o_yes rfl rfl rfl ?_
        refine o_len rfl rfl Try.underlying77 ?_
        refine o_yes rfl rfl rfl ?_
        refine o_bin rfl rfl rfl b_gtr ?_
        refine o_pick_false rfl rfl rfl ?_
        refine l_nil ?_
        refine q_then ?_
        refine c_cond rfl (fun h10 => ?_) (fun h10 => ?_)
        · -- h10T
         have h10b := h10
         try simp only [decide_eq_true_eq] at h10
         refine c_seq ?_
         refine c_region ?_
         refine o_assign rfl rfl ?_
         refine l_nil ?_
         refine q_then ?_
         refine c_ret ?_
         refine q_block_ret ?_
         refine q_pass_ret ?_
         refine q_pass_ret ?_
         refine q_block_ret ?_
         refine q_pass_ret ?_
         refine q_conv (fun w S => S.tail) ?_
         exact f_ret (r_one rfl rfl) (⟨true, fun h9 => absurd h9 (by decide), rfl, rfl⟩) (fun w S => S)
        · -- h10F
         have h10b := h10
         try simp only [decide_eq_false_iff_not, Int.not_lt, Int.not_le] at h10
         refine c_skip ?_
         refine q_block ?_
         refine q_then ?_
         refine c_region ?_
         refine o_move rfl rfl ?_
         refine o_bin rfl rfl rfl (b_add (wrap_i64 (by omega) (by omega))) ?_
         refine o_assign rfl rfl ?_
         refine l_nil ?_
         exact q_round (i3 + 1) (by exact ⟨by omega, upTo_on ht3 hx60 ⟨by omega, by omega⟩⟩) (by (try dsimp only); omega) ⟨(by first | rfl | exact vint (by omega)), (by first | rfl | exact vint (by omega)), trivial⟩ (fun w S => S)
      · -- h8F
       have h8b := h8
       try simp only [decide_eq_false_iff_not, Int.not_lt, Int.not_le] at h8
       refine c_exit ?_
       refine q_pass_exit ?_
       refine q_pass_exit ?_
       refine q_hit ?_
       refine q_then ?_
       refine c_seq ?_
       refine c_region ?_
       refine o_assign rfl rfl ?_
       refine l_nil ?_
       refine q_then ?_
       refine c_ret ?_
       refine q_conv (fun w S => S.tail) ?_
       exact f_ret (r_one rfl rfl) (⟨false, fun _ => ⟨by omega, by omega, by omega, upTo_all ht1 (by omega), upTo_all ht2 (by omega), upTo_all ht3 (by omega)⟩, rfl, rfl⟩) (fun w S => S)
theorem rgreat_ {W : World} {F : List Res} {o : Order} (T_o : OrdR W F o) : CS Try.prog 17 #[.agg #[.int .i64 o.f_Tag_Id_Node, .int .u64 o.f_Tag_Id_Epoch, .int .u64 o.f_Tag_Id_Seq, .int .i64 o.f_Tag_Try, .int .i64 o.f_Txn_Kind, .slice o.f_Txn_Reads.a (o.f_Txn_Reads.xs).length o.f_Txn_Reads.c, .slice o.f_Txn_Writes.a (o.f_Txn_Writes.xs).length o.f_Txn_Writes.c, .slice o.f_Txn_Ops.a (o.f_Txn_Ops.xs).length o.f_Txn_Ops.c, .int .i64 o.f_Txn_To, .slice o.f_Marks.a (o.f_Marks.xs).length o.f_Marks.c]] W (F) (fun r L' => ∃ g : Bool, (g = false → OSmall o) ∧ r = .bool g ∧ F = L') := by
 have hlm := T_o.lm
 refine f_door (l0 := [(0, .agg #[.int .i64 o.f_Tag_Id_Node, .int .u64 o.f_Tag_Id_Epoch, .int .u64 o.f_Tag_Id_Seq, .int .i64 o.f_Tag_Try, .int .i64 o.f_Txn_Kind, .slice o.f_Txn_Reads.a (o.f_Txn_Reads.xs).length o.f_Txn_Reads.c, .slice o.f_Txn_Writes.a (o.f_Txn_Writes.xs).length o.f_Txn_Writes.c, .slice o.f_Txn_Ops.a (o.f_Txn_Ops.xs).length o.f_Txn_Ops.c, .int .i64 o.f_Txn_To, .slice o.f_Marks.a (o.f_Marks.xs).length o.f_Marks.c])]) Try.func17 Try.ntmps17 rfl rfl rfl ?_
 refine c_seq ?_
 refine c_region ?_
 refine o_box rfl rfl fun b1 => ?_
 refine o_assign rfl rfl ?_
 refine l_nil ?_
 refine q_then ?_
 refine c_seq ?_
 refine c_seq ?_
 refine c_region ?_
 refine o_fieldAddr (q := ⟨b1, 4, none⟩) rfl rfl Try.underlying39 rfl ti36 rfl ?_
 refine o_loadn (vs := [_, _, _, _, _]) rfl rfl Try.underlying36 rfl ti36 (rdn_lit 0 rfl rfl) ?_
 refine o_call rfl cal29 rfl (rgreatT_ (o := o) (OrdR.c T_o)) ?_
 rintro _ _ ⟨g6, hg6, rfl, rfl⟩
 refine o_move rfl rfl ?_
 refine l_split (t := 7) rfl (fun h1 => ?_) (fun h1 => ?_)
 · -- h1T
  have h1b := h1
  try simp only [decide_eq_true_eq, decide_eq_false_iff_not, Bool.not_eq_eq_eq_not, Bool.not_true, Bool.not_false, Bool.not_eq_true', Bool.not_eq_false', Int.not_lt, Int.not_le, Bool.or_eq_true, Bool.and_eq_true] at h1
  refine o_no rfl rfl rfl rfl ?_
  refine o_no rfl rfl rfl rfl ?_
  refine o_no rfl rfl rfl rfl ?_
  refine o_no rfl rfl rfl rfl ?_
  refine o_pick_true rfl rfl rfl ?_
  refine l_nil ?_
  refine q_then ?_
  refine c_true rfl ?_
  refine c_seq ?_
  refine c_region ?_
  refine o_assign rfl rfl ?_
  refine l_nil ?_
  refine q_then ?_
  refine c_ret ?_
  refine q_pass_ret ?_
  refine q_conv (fun w S => S.tail) ?_
  exact f_ret (r_one rfl rfl) (⟨true, fun h9 => absurd h9 (by decide), rfl, rfl⟩) (fun w S => S)
 · -- h1F
  have h1b := h1
  try simp only [decide_eq_true_eq, decide_eq_false_iff_not, Bool.not_eq_eq_eq_not, Bool.not_true, Bool.not_false, Bool.not_eq_true', Bool.not_eq_false', Int.not_lt, Int.not_le, Bool.or_eq_true, Bool.and_eq_true] at h1
  refine o_yes rfl rfl rfl ?_
  refine o_fieldAddr (q := ⟨b1, 9, none⟩) rfl rfl Try.underlying39 rfl ti37 rfl ?_
  refine o_yes rfl rfl rfl ?_
  refine o_load1 rfl rfl Try.underlying37 rfl (rd_mem 0 rfl rfl) ?_
  refine o_yes rfl rfl rfl ?_
  refine o_len rfl rfl Try.underlying37 ?_
  refine o_yes rfl rfl rfl ?_
  refine o_bin rfl rfl rfl b_gtr ?_
  refine o_pick_false rfl rfl rfl ?_
  refine l_nil ?_
  refine q_then ?_
  refine c_cond rfl (fun h2 => ?_) (fun h2 => ?_)
  · -- h2T
   have h2b := h2
   try simp only [decide_eq_true_eq] at h2
   refine c_seq ?_
   refine c_region ?_
   refine o_assign rfl rfl ?_
   refine l_nil ?_
   refine q_then ?_
   refine c_ret ?_
   refine q_pass_ret ?_
   refine q_conv (fun w S => S.tail) ?_
   exact f_ret (r_one rfl rfl) (⟨true, fun h9 => absurd h9 (by decide), rfl, rfl⟩) (fun w S => S)
  · -- h2F
   have h2b := h2
   try simp only [decide_eq_false_iff_not, Int.not_lt, Int.not_le] at h2
   refine c_skip ?_
   refine q_then ?_
   refine c_seq ?_
   refine c_seq ?_
   refine c_region ?_
   refine o_assign rfl rfl ?_
   refine l_nil ?_
   refine q_then ?_
   refine c_block ?_
   refine c_loop (α := Nat) (fun z => [(1, .pointer (some ⟨b1, 0, none⟩)), (3, .int .i64 (z : Int))]) (fun z => blk b1 (.cells #[.int .i64 o.f_Tag_Id_Node, .int .u64 o.f_Tag_Id_Epoch, .int .u64 o.f_Tag_Id_Seq, .int .i64 o.f_Tag_Try, .int .i64 o.f_Txn_Kind, .slice o.f_Txn_Reads.a (o.f_Txn_Reads.xs).length o.f_Txn_Reads.c, .slice o.f_Txn_Writes.a (o.f_Txn_Writes.xs).length o.f_Txn_Writes.c, .slice o.f_Txn_Ops.a (o.f_Txn_Ops.xs).length o.f_Txn_Ops.c, .int .i64 o.f_Txn_To, .slice o.f_Marks.a (o.f_Marks.xs).length o.f_Marks.c] 39 (0, 0)) :: F) (fun z => z ≤ o.f_Marks.xs.length ∧ UpTo (fun x : Mark => x.f_Key.size ≤ 200) o.f_Marks.xs z) (fun z => o.f_Marks.xs.length - z) (0) (by exact ⟨Nat.zero_le _, upTo_0⟩) ⟨(by first | rfl | exact vint (by omega)), (by first | rfl | exact vint (by omega)), trivial⟩ (fun w S => S) ?_
   rintro i1 ⟨hi1, ht1⟩
   try dsimp only at *
   refine c_seq ?_
   refine c_seq ?_
   refine c_region ?_
   refine o_move rfl rfl ?_
   refine o_fieldAddr (q := ⟨b1, 9, none⟩) rfl rfl Try.underlying39 rfl ti37 rfl ?_
   refine o_load1 rfl rfl Try.underlying37 rfl (rd_mem 0 rfl rfl) ?_
   refine o_len rfl rfl Try.underlying37 ?_
   refine o_bin rfl rfl rfl b_lss ?_
   refine l_nil ?_
   refine q_then ?_
   refine c_cond rfl (fun h3 => ?_) (fun h3 => ?_)
   · -- h3T
    have h3b := h3
    try simp only [decide_eq_true_eq] at h3
    refine c_skip ?_
    refine q_then ?_
    refine c_seq ?_
    refine c_block ?_
    refine c_seq ?_
    refine c_region ?_
    refine o_fieldAddr (q := ⟨b1, 9, none⟩) rfl rfl Try.underlying39 rfl ti37 rfl ?_
    refine o_load1 rfl rfl Try.underlying37 rfl (rd_mem 0 rfl rfl) ?_
    refine o_move rfl rfl ?_
    refine o_index e_Mark_ok rfl rfl rfl Try.underlying37 (by omega) (by omega) (OrdR.c T_o).rm fun ad23 ead23 => ?_
    obtain ⟨x23, hx23⟩ : ∃ x, (o.f_Marks.xs)[((i1 : Int)).toNat]? = some x := ⟨_, List.getElem?_eq_getElem (by omega)⟩
    refine o_fieldAddr rfl rfl Try.underlying61 rfl ti9 (Addr.add_add' _ _ _) ?_
    refine o_load1 rfl rfl Try.underlying9 rfl (rd_sl e_Mark_ok ead23 (OrdR.c T_o).rm hx23 rfl) ?_
    refine o_lenStr rfl rfl Try.underlying9 ?_
    refine o_bin rfl rfl rfl b_gtr ?_
    refine l_nil ?_
    refine q_then ?_
    refine c_cond rfl (fun h4 => ?_) (fun h4 => ?_)
    · -- h4T
     have h4b := h4
     try simp only [decide_eq_true_eq] at h4
     refine c_seq ?_
     refine c_region ?_
     refine o_assign rfl rfl ?_
     refine l_nil ?_
     refine q_then ?_
     refine c_ret ?_
     refine q_block_ret ?_
     refine q_pass_ret ?_
     refine q_pass_ret ?_
     refine q_block_ret ?_
     refine q_pass_ret ?_
     refine q_conv (fun w S => S.tail) ?_
     exact f_ret (r_one rfl rfl) (⟨true, fun h9 => absurd h9 (by decide), rfl, rfl⟩) (fun w S => S)
    · -- h4F
     have h4b := h4
     try simp only [decide_eq_false_iff_not, Int.not_lt, Int.not_le] at h4
     refine c_skip ?_
     refine q_block ?_
     refine q_then ?_
     refine c_region ?_
     refine o_move rfl rfl ?_
     refine o_bin rfl rfl rfl (b_add (wrap_i64 (by omega) (by omega))) ?_
     refine o_assign rfl rfl ?_
     refine l_nil ?_
     exact q_round (i1 + 1) (by exact ⟨by omega, upTo_on ht1 hx23 (by show x23.f_Key.size ≤ 200; omega)⟩) (by (try dsimp only); omega) ⟨(by first | rfl | exact vint (by omega)), (by first | rfl | exact vint (by omega)), trivial⟩ (fun w S => S)
   · -- h3F
    have h3b := h3
    try simp only [decide_eq_false_iff_not, Int.not_lt, Int.not_le] at h3
    refine c_exit ?_
    refine q_pass_exit ?_
    refine q_pass_exit ?_
    refine q_hit ?_
    refine q_then ?_
    refine c_seq ?_
    refine c_region ?_
    refine o_assign rfl rfl ?_
    refine l_nil ?_
    refine q_then ?_
    refine c_ret ?_
    refine q_conv (fun w S => S.tail) ?_
    exact f_ret (r_one rfl rfl) (⟨false, fun _ => (by obtain ⟨q1, q2, q3, q4, q5, q6⟩ := hg6 (by assumption); exact ⟨q1, q2, q3, by omega, q4, q5, upTo_all ht1 (by omega), q6⟩), rfl, rfl⟩) (fun w S => S)
end
section
set_option linter.unusedVariables false
set_option linter.unusedSimpArgs false
open Go.RowKit Classical
section
variable {α κ β : Type} {key : α → κ} {lt : κ → κ → Prop} {val : α → β} {zero : β} (eI : Enc α) (eK : Enc Nat) (TN : Nat)
def Shape (d : Nat) (items : List α) (kids : List (Nat × List α)) : Prop := (d = 0 ∧ kids = []) ∨ (d ≠ 0 ∧ kids.length = items.length + 1 ∧ 1 ≤ items.length)
variable {eI eK TN} {P : Program} {N : FN} {l : Fr} {W w : World} {L : List Res} {Q : Exit → Act → World → Prop} {ops : Array Oper} {rest : List Oper} {cd : Code} {d mn b : Nat} {xs : List α}
structure Old (key : α → κ) (val : α → β) (zero : β) (x : α) (xs : List α) (old : β) (had : Bool) : Prop where
  hadI : had = true ↔ ∃ y ∈ xs, key y = key x
  old1 : ∀ y ∈ xs, key y = key x → old = val y
  old0 : had = false → old = zero
theorem Shape.or {items : List α} {kids : List (Nat × List α)} (h : Shape d items kids) : kids.map Prod.snd = [] ∨ (kids.map Prod.snd).length = items.length + 1 := by
  rcases h with ⟨_, h⟩ | ⟨_, h, _⟩
  · exact .inl (by rw [h]; rfl)
  · exact .inr (by rw [List.length_map]; exact h)
end
end
section
set_option linter.unusedVariables false
set_option linter.unusedSimpArgs false
open Go.RowKit
section
variable {P : Program} {N : FN} {l : Fr} {W : World} {L L' L0 : List Res} {Q : Exit → Act → World → Prop}
end
theorem rgP {A B : Res} (Lx I F : List Res) : (A :: B :: (Lx ++ (I ++ F))).Perm (A :: B :: (I ++ (Lx ++ F))) := ((List.perm_append_comm_assoc Lx I F).cons B).cons A
section
open Classical
variable {α κ : Type} {key : α → κ} {lt : κ → κ → Prop}
/-- Where a walk begins: at all, or at a key that lies in memory. -/
def FromOk (kv : κ → Value) (TK : Nat) (G : List Res) (fr : Option κ) (fp : Option Addr) : Prop := (fr = none ∧ fp = none) ∨ ∃ k kb, fr = some k ∧ fp = some ⟨kb, 0, none⟩ ∧ blk kb (.cells #[kv k] TK (0, 0)) ∈ G
theorem FromOk.some {kv : κ → Value} {TK : Nat} {G : List Res} {fr : Option κ} {fp : Option Addr} (h : FromOk kv TK G fr fp) (hn : fp ≠ none) : ∃ k kb, fr = Option.some k ∧ fp = Option.some ⟨kb, 0, none⟩ ∧ blk kb (.cells #[kv k] TK (0, 0)) ∈ G := by
  rcases h with ⟨_, h⟩ | h
  · exact absurd h hn
  · exact h
theorem FromOk.none {kv : κ → Value} {TK : Nat} {G : List Res} {fr : Option κ} {fp : Option Addr} (h : FromOk kv TK G fr fp) (hn : fp = none) : fr = Option.none := by
  rcases h with ⟨h, _⟩ | ⟨k, kb, _, h, _⟩
  · exact h
  · rw [hn] at h; cases h
theorem FromOk.more {kv : κ → Value} {TK : Nat} {G : List Res} {fr : Option κ} {fp : Option Addr} (h : FromOk kv TK G fr fp) (A : List Res) : FromOk kv TK (A ++ G) fr fp := by
  rcases h with h | ⟨k, kb, h1, h2, h3⟩
  · exact .inl h
  · exact .inr ⟨k, kb, h1, h2, List.mem_append_right _ h3⟩
end
section
open Classical
variable {α κ β : Type} {key : α → κ} {lt : κ → κ → Prop} {val : α → β} {zero : β} (eI : Enc α) (eK : Enc Nat) (TN TT : Nat)
variable {eI eK TN TT} {P : Program} {N : FN} {l : Fr} {W w : World} {L : List Res} {Q : Exit → Act → World → Prop} {ops : Array Oper} {rest : List Oper} {cd : Code} {t : Nat} {xs : List α}
theorem Old.len (o : Sto lt) {x : α} {old : β} {had : Bool} (hs : Srt key lt xs) (h : Old key val zero x xs old had) : ((ins key lt x xs).length : Int) = (xs.length : Int) + (if had then 0 else 1) := by
  have hgen : ∀ {ys : List α}, Srt key lt ys → ((∃ y ∈ ys, key y = key x) → (ins key lt x ys).length = ys.length) ∧ ((¬ ∃ y ∈ ys, key y = key x) → (ins key lt x ys).length = ys.length + 1) := by
    intro ys
    induction ys with
    | nil => intro _; exact ⟨fun ⟨y, hy, _⟩ => by simp at hy, fun _ => rfl⟩
    | cons y ys ih =>
      intro hys
      have h' := List.pairwise_cons.1 hys
      have ih' := ih h'.2
      rw [ins]
      split
      · rename_i h1
        refine ⟨fun ⟨z, hz, he⟩ => ?_, fun _ => rfl⟩
        rcases List.mem_cons.1 hz with rfl | hz
        · exact absurd (he ▸ h1) (o.irr _)
        · exact absurd (he ▸ o.tr h1 (h'.1 z hz)) (o.irr _)
      · rename_i h1
        split
        · rename_i h2
          refine ⟨fun ⟨z, hz, he⟩ => ?_, fun hn => ?_⟩
          · rcases List.mem_cons.1 hz with rfl | hz
            · exact absurd (he ▸ h2) (o.irr _)
            · rw [List.length_cons, ih'.1 ⟨z, hz, he⟩]; rfl
          · rw [List.length_cons, ih'.2 (fun ⟨z, hz, he⟩ => hn ⟨z, List.mem_cons_of_mem _ hz, he⟩)]; rfl
        · rename_i h2
          exact ⟨fun _ => rfl, fun hn => absurd ⟨y, by simp, (o.tri h1 h2).symm⟩ hn⟩
  have hg := hgen hs
  cases had with
  | true => rw [hg.1 (h.hadI.1 rfl)]; simp
  | false => rw [hg.2 (fun h9 => by have := h.hadI.2 h9; cases this)]; simp
end
end
section
set_option linter.unusedVariables false
set_option linter.unusedSimpArgs false
set_option maxRecDepth 10000
open Go.RowKit Classical
theorem great_ {W : World} {F : List Res} {log : List Item} {a : Option Addr} {c : Nat} (hs : RdS W F e_Item a log) (ho : ∀ x ∈ log, OrdR W F x.ord) (hn : log.length ≤ 9223372036854775807) : CS Try.prog 9 #[.slice a log.length c] W (F) (fun r L' => ∃ g : Bool, (g = false → log.length ≤ 40 ∧ ∀ x ∈ log, OSmall x.ord) ∧ r = .bool g ∧ F = L') := by
 refine f_door (l0 := [(0, .slice a log.length c)]) Try.func9 Try.ntmps9 rfl rfl rfl ?_
 refine c_seq ?_
 refine c_region ?_
 refine o_assign rfl rfl ?_
 refine l_nil ?_
 refine q_then ?_
 refine c_seq ?_
 refine c_seq ?_
 refine c_region ?_
 refine o_move rfl rfl ?_
 refine o_len rfl rfl Try.underlying22 ?_
 refine o_bin rfl rfl rfl b_gtr ?_
 refine l_nil ?_
 refine q_then ?_
 refine c_cond rfl (fun h1 => ?_) (fun h1 => ?_)
 · -- h1T
  have h1b := h1
  try simp only [decide_eq_true_eq] at h1
  refine c_seq ?_
  refine c_region ?_
  refine o_assign rfl rfl ?_
  refine l_nil ?_
  refine q_then ?_
  refine c_ret ?_
  refine q_pass_ret ?_
  exact f_ret (r_one rfl rfl) (⟨true, fun h9 => absurd h9 (by decide), rfl, rfl⟩) (fun w S => S)
 · -- h1F
  have h1b := h1
  try simp only [decide_eq_false_iff_not, Int.not_lt, Int.not_le] at h1
  refine c_skip ?_
  refine q_then ?_
  refine c_seq ?_
  refine c_seq ?_
  refine c_region ?_
  refine o_move rfl rfl ?_
  refine o_len rfl rfl Try.underlying22 ?_
  refine o_move rfl rfl ?_
  refine l_nil ?_
  refine q_then ?_
  refine c_block ?_
  refine c_loop (α := Nat) (fun z => [(8, .slice a (log).length c), (9, .int .i64 ((log).length : Int)), (10, .int .i64 (z : Int))]) (fun z => F) (fun z => z ≤ log.length ∧ UpTo (fun x : Item => OSmall x.ord) log z) (fun z => log.length - z) (0) (by exact ⟨Nat.zero_le _, upTo_0⟩) ⟨(by first | rfl | exact vint (by omega)), (by first | rfl | exact vint (by omega)), (by first | rfl | exact vint (by omega)), trivial⟩ (fun w S => S) ?_
  rintro i ⟨hi, ht⟩
  try dsimp only at *
  refine c_seq ?_
  refine c_region ?_
  refine o_bin rfl rfl rfl b_lss ?_
  refine l_nil ?_
  refine q_then ?_
  refine c_seq ?_
  refine c_cond rfl (fun h2 => ?_) (fun h2 => ?_)
  · -- h2T
   have h2b := h2
   try simp only [decide_eq_true_eq] at h2
   refine c_skip ?_
   refine q_then ?_
   refine c_seq ?_
   refine c_block ?_
   refine c_seq ?_
   refine c_region ?_
   refine o_index e_Item_ok rfl rfl rfl Try.underlying22 (by omega) (by omega) hs fun ad12 ead12 => ?_
   obtain ⟨x12, hx12⟩ : ∃ x, (log)[((i : Int)).toNat]? = some x := ⟨_, List.getElem?_eq_getElem (by omega)⟩
   refine o_loadn (vs := e_Item.cells x12) rfl rfl Try.underlying41 rfl ti41 (rdn_sl e_Item_ok ead12 hs hx12) ?_
   refine o_alloc rfl ti41 fun b4 => ?_
   refine o_storen rfl rfl ti41 rfl rfl rfl rfl ?_
   refine l_nil ?_
   refine q_then ?_
   refine c_seq ?_
   refine c_region ?_
   refine o_fieldAddr (q := ⟨b4, 2, none⟩) rfl rfl Try.underlying41 rfl ti39 rfl ?_
   refine o_loadn (vs := [_, _, _, _, _, _, _, _, _, _]) rfl rfl Try.underlying39 rfl ti39 (rdn_lit 0 rfl rfl) ?_
   refine o_call rfl cal17 rfl (rgreat_ (o := x12.ord) (OrdR.c (ho x12 (List.mem_of_getElem? hx12)))) ?_
   rintro _ _ ⟨g16, hg16, rfl, rfl⟩
   refine l_nil ?_
   refine q_then ?_
   refine c_cond rfl (fun h3 => ?_) (fun h3 => ?_)
   · -- h3T
    have h3b := h3
    try simp only [decide_eq_true_eq, decide_eq_false_iff_not, Bool.not_eq_eq_eq_not, Bool.not_true, Bool.not_false, Bool.not_eq_true', Bool.not_eq_false', Int.not_lt, Int.not_le, Bool.or_eq_true, Bool.and_eq_true] at h3
    refine c_seq ?_
    refine c_region ?_
    refine o_assign rfl rfl ?_
    refine l_nil ?_
    refine q_then ?_
    refine c_ret ?_
    refine q_block_ret ?_
    refine q_pass_ret ?_
    refine q_pass_ret ?_
    refine q_block_ret ?_
    refine q_pass_ret ?_
    refine q_conv (fun w S => S.tail) ?_
    exact f_ret (r_one rfl rfl) (⟨true, fun h9 => absurd h9 (by decide), rfl, rfl⟩) (fun w S => S)
   · -- h3F
    have h3b := h3
    try simp only [decide_eq_true_eq, decide_eq_false_iff_not, Bool.not_eq_eq_eq_not, Bool.not_true, Bool.not_false, Bool.not_eq_true', Bool.not_eq_false', Int.not_lt, Int.not_le, Bool.or_eq_true, Bool.and_eq_true] at h3
    refine c_skip ?_
    refine q_block ?_
    refine q_then ?_
    refine c_region ?_
    refine o_bin rfl rfl rfl (b_add (wrap_i64 (by omega) (by omega))) ?_
    refine o_move rfl rfl ?_
    refine l_nil ?_
    refine q_conv (fun w S => S.tail) ?_
    exact q_round (i + 1) (by exact ⟨by omega, upTo_on ht hx12 (hg16 h3)⟩) (by (try dsimp only); omega) ⟨(by first | rfl | exact vint (by omega)), (by first | rfl | exact vint (by omega)), (by first | rfl | exact vint (by omega)), trivial⟩ (fun w S => S)
  · -- h2F
   have h2b := h2
   try simp only [decide_eq_false_iff_not, Int.not_lt, Int.not_le] at h2
   refine c_exit ?_
   refine q_pass_exit ?_
   refine q_pass_exit ?_
   refine q_hit ?_
   refine q_then ?_
   refine c_seq ?_
   refine c_region ?_
   refine o_assign rfl rfl ?_
   refine l_nil ?_
   refine q_then ?_
   refine c_ret ?_
   exact f_ret (r_one rfl rfl) (⟨false, fun _ => ⟨by omega, upTo_all ht (by omega)⟩, rfl, rfl⟩) (fun w S => S)
abbrev it1 (h : Int) (a : Option Addr) : Item := ⟨1, 0, 0, 0, 0, 0, 1, ⟨none, [], 0⟩, ⟨none, [], 0⟩, ⟨none, [], 0⟩, 0, ⟨a, [⟨ByteArray.empty, h, 0⟩], 1⟩⟩
theorem it1_homes (h : Int) (a : Option Addr) : homes (it1 h a).ord = [h] := by rw [homes_ne (by simp)]; rfl
theorem it1_single (h : Int) (a : Option Addr) : single (it1 h a).ord := ⟨rfl, by rw [it1_homes]; rfl⟩
theorem it1_run (g h : Int) (a : Option Addr) : RunOk g (it1 h a) ↔ g = h := by
  unfold RunOk
  rw [it1_homes]
  exact ⟨fun h => by simpa using h.2.1, fun h1 => ⟨rfl, by simp [h1], it1_single h a⟩⟩
theorem it1_piece (g h : Int) (a : Option Addr) : ¬ PieceOk g (it1 h a) := fun h1 => by have := h1.1; simp at this
section
variable (a b : Option Addr)
theorem sp_vw1 : ((⟨1, -1, []⟩ : FS).item (it1 1 a)).1 = true ∧ Vw ((⟨1, -1, []⟩ : FS).item (it1 1 a)).2 1 (-1) (fun t => if (it1 1 a).ord.tag = t then 1 else 0) := by
  obtain ⟨h1, h2⟩ := item_vw (Vw.new 1) (it1 1 a) (fun t => by omega)
  refine ⟨by rw [h1]; simp [it1_run], h2.region, by rw [h2.last]; unfold lastOn; rw [if_neg (fun h => it1_piece _ _ _ h.1)], fun t => ?_⟩
  rw [h2.cnt, it1_run]; simp
theorem sp_vw2 : (((⟨1, -1, []⟩ : FS).item (it1 1 a)).2.item (it1 1 a)).1 = false ∧ ∃ n, (∀ t, n t ≤ 1000000) ∧ Vw (((⟨1, -1, []⟩ : FS).item (it1 1 a)).2.item (it1 1 a)).2 1 (-1) n := by
  obtain ⟨h1, h2⟩ := item_vw (sp_vw1 a).2 (it1 1 a) (fun t => by split <;> omega)
  refine ⟨by rw [h1]; simp [it1_piece], _, ?_, h2.region, by rw [h2.last]; unfold lastOn; rw [if_neg (fun h => it1_piece _ _ _ h.1)], h2.cnt⟩
  intro t; split <;> split <;> omega
theorem sp_vw3 : ((((⟨1, -1, []⟩ : FS).item (it1 1 a)).2.item (it1 1 a)).2.item (it1 2 b)).1 = false ∧ ((((⟨1, -1, []⟩ : FS).item (it1 1 a)).2.item (it1 1 a)).2.item (it1 2 b)).2.last = -1 := by
  obtain ⟨_, n, hn, h⟩ := sp_vw2 a
  obtain ⟨h1, h2⟩ := item_vw h (it1 2 b) hn
  refine ⟨by rw [h1]; simp [it1_run, it1_piece], ?_⟩
  rw [h2.last]; unfold lastOn; rw [if_neg (fun h => it1_piece _ _ _ h.1)]
end
set_option maxHeartbeats 1000000 in
theorem speaks_ {W : World} {F : List Res} : CS Try.prog 8 #[] W (F) (fun r L' => r = .bool true ∧ F = L') := by
 refine f_door (l0 := []) Try.func8 Try.ntmps8 rfl rfl rfl ?_
 refine c_seq ?_
 refine c_region ?_
 refine o_assign rfl rfl ?_
 refine l_nil ?_
 refine q_then ?_
 refine c_seq ?_
 refine c_region ?_
 refine o_call rfl cal10 rfl (region_ (g := 1)) ?_
 rintro _ _ ⟨b4, rfl, rfl⟩
 refine o_assign rfl rfl ?_
 refine l_nil ?_
 refine q_then ?_
 refine c_seq ?_
 refine c_seq ?_
 refine c_region ?_
 refine o_move rfl rfl ?_
 refine o_bin rfl rfl rfl (b_peq Try.underlying25 _) ?_
 refine l_nil ?_
 refine q_then ?_
 refine c_false rfl ?_
 refine c_skip ?_
 refine q_then ?_
 refine c_seq ?_
 refine c_region ?_
 refine o_build rfl sp36 ti36 rfl ((fill_cons (cells' := [.int .i64 1, .slice none 0 0, .slice none 0 0, .slice none 0 0, .int .i64 0]) rfl rfl rfl rfl fill_nil)) ?_
 refine o_build rfl sp61 ti61 rfl ((fill_cons (cells' := [.string ByteArray.empty, .int .i64 1, .int .u64 0]) rfl rfl rfl rfl fill_nil)) ?_
 refine o_lit e_Mark_ok rfl Try.underlying37 rfl rfl rfl (lit_ok rfl) [⟨ByteArray.empty, 1, 0⟩] rfl rfl fun a9 => ?_
 refine o_build rfl sp39 ti39 rfl ((fill_cons (cells' := [.int .i64 0, .int .u64 0, .int .u64 0, .int .i64 0, .int .i64 1, .slice none 0 0, .slice none 0 0, .slice none 0 0, .int .i64 0, .slice none 0 0]) rfl rfl rfl rfl (fill_cons (cells' := [.int .i64 0, .int .u64 0, .int .u64 0, .int .i64 0, .int .i64 1, .slice none 0 0, .slice none 0 0, .slice none 0 0, .int .i64 0, .slice a9 ([⟨ByteArray.empty, 1, 0⟩]).length 1]) rfl rfl rfl rfl fill_nil))) ?_
 refine o_build rfl sp41 ti41 rfl ((fill_cons (cells' := [.int .i64 1, .int .i64 0, .int .i64 0, .int .u64 0, .int .u64 0, .int .i64 0, .int .i64 0, .slice none 0 0, .slice none 0 0, .slice none 0 0, .int .i64 0, .slice none 0 0]) rfl rfl rfl rfl (fill_cons (cells' := [.int .i64 1, .int .i64 0, .int .i64 0, .int .u64 0, .int .u64 0, .int .i64 0, .int .i64 1, .slice none 0 0, .slice none 0 0, .slice none 0 0, .int .i64 0, .slice a9 ([⟨ByteArray.empty, 1, 0⟩]).length 1]) rfl rfl rfl rfl fill_nil))) ?_
 refine o_alloc rfl ti41 fun b2 => ?_
 refine o_storen rfl rfl ti41 rfl rfl rfl rfl ?_
 refine l_nil ?_
 refine q_then ?_
 refine c_seq ?_
 refine c_region ?_
 refine o_build rfl sp36 ti36 rfl ((fill_cons (cells' := [.int .i64 1, .slice none 0 0, .slice none 0 0, .slice none 0 0, .int .i64 0]) rfl rfl rfl rfl fill_nil)) ?_
 refine o_build rfl sp61 ti61 rfl ((fill_cons (cells' := [.string ByteArray.empty, .int .i64 2, .int .u64 0]) rfl rfl rfl rfl fill_nil)) ?_
 refine o_lit e_Mark_ok rfl Try.underlying37 rfl rfl rfl (lit_ok rfl) [⟨ByteArray.empty, 2, 0⟩] rfl rfl fun a14 => ?_
 refine o_build rfl sp39 ti39 rfl ((fill_cons (cells' := [.int .i64 0, .int .u64 0, .int .u64 0, .int .i64 0, .int .i64 1, .slice none 0 0, .slice none 0 0, .slice none 0 0, .int .i64 0, .slice none 0 0]) rfl rfl rfl rfl (fill_cons (cells' := [.int .i64 0, .int .u64 0, .int .u64 0, .int .i64 0, .int .i64 1, .slice none 0 0, .slice none 0 0, .slice none 0 0, .int .i64 0, .slice a14 ([⟨ByteArray.empty, 2, 0⟩]).length 1]) rfl rfl rfl rfl fill_nil))) ?_
 refine o_build rfl sp41 ti41 rfl ((fill_cons (cells' := [.int .i64 1, .int .i64 0, .int .i64 0, .int .u64 0, .int .u64 0, .int .i64 0, .int .i64 0, .slice none 0 0, .slice none 0 0, .slice none 0 0, .int .i64 0, .slice none 0 0]) rfl rfl rfl rfl (fill_cons (cells' := [.int .i64 1, .int .i64 0, .int .i64 0, .int .u64 0, .int .u64 0, .int .i64 0, .int .i64 1, .slice none 0 0, .slice none 0 0, .slice none 0 0, .int .i64 0, .slice a14 ([⟨ByteArray.empty, 2, 0⟩]).length 1]) rfl rfl rfl rfl fill_nil))) ?_
 refine o_alloc rfl ti41 fun b3 => ?_
 refine o_storen rfl rfl ti41 rfl rfl rfl rfl ?_
 refine l_nil ?_
 refine q_then ?_
 refine c_seq ?_
 refine c_region ?_
 refine o_move rfl rfl ?_
 refine o_loadn (vs := [_, _, _, _, _, _, _, _, _, _, _, _]) rfl rfl Try.underlying41 rfl ti41 (rdn_lit 2 rfl rfl) ?_
 refine l_f4 ?_
 refine o_call rfl cal11 rfl (fitem_ (x := (⟨1, 0, 0, 0, 0, 0, 1, ⟨none, [], 0⟩, ⟨none, [], 0⟩, ⟨none, [], 0⟩, 0, ⟨a9, [⟨ByteArray.empty, 1, 0⟩], 1⟩⟩ : Item)) (OrdR.mk (o := (⟨0, 0, 0, 0, 1, ⟨none, [], 0⟩, ⟨none, [], 0⟩, ⟨none, [], 0⟩, 0, ⟨a9, [⟨ByteArray.empty, 1, 0⟩], 1⟩⟩ : Order)) (rds_own e_Mark_ok 3 rfl) (rds_nil _ _) (rds_nil _ _) (rds_nil _ _) (fun x hx => by cases hx) (by simp) (by simp) (by simp) (by simp) (fun x hx => by cases hx)) (by simp)) ?_
 rintro _ _ ⟨rfl, rfl⟩
 refine l_eq (t := 19) (v' := .bool true) rfl (show _ = Value.bool true from by exact congrArg Value.bool (sp_vw1 _).1) ?_
 refine o_move rfl rfl ?_
 refine o_yes rfl rfl rfl ?_
 refine o_move rfl rfl ?_
 refine o_yes rfl rfl rfl ?_
 refine o_loadn (vs := [_, _, _, _, _, _, _, _, _, _, _, _]) rfl rfl Try.underlying41 rfl ti41 (rdn_lit 3 rfl rfl) ?_
 refine o_yes rfl rfl rfl ?_
 refine o_call rfl cal11 rfl (fitem_ (x := (⟨1, 0, 0, 0, 0, 0, 1, ⟨none, [], 0⟩, ⟨none, [], 0⟩, ⟨none, [], 0⟩, 0, ⟨a9, [⟨ByteArray.empty, 1, 0⟩], 1⟩⟩ : Item)) (OrdR.mk (o := (⟨0, 0, 0, 0, 1, ⟨none, [], 0⟩, ⟨none, [], 0⟩, ⟨none, [], 0⟩, 0, ⟨a9, [⟨ByteArray.empty, 1, 0⟩], 1⟩⟩ : Order)) (rds_own e_Mark_ok 3 rfl) (rds_nil _ _) (rds_nil _ _) (rds_nil _ _) (fun x hx => by cases hx) (by simp) (by simp) (by simp) (by simp) (fun x hx => by cases hx)) (by simp)) ?_
 rintro _ _ ⟨rfl, rfl⟩
 refine o_yes rfl rfl rfl ?_
 refine o_not rfl rfl ?_
 refine l_eq (t := 24) (v' := .bool true) rfl (show _ = Value.bool true from by exact congrArg (fun b => Value.bool (!b)) (sp_vw2 _).1) ?_
 refine o_pick_true rfl rfl rfl ?_
 refine o_move rfl rfl ?_
 refine o_yes rfl rfl rfl ?_
 refine o_move rfl rfl ?_
 refine o_yes rfl rfl rfl ?_
 refine o_loadn (vs := [_, _, _, _, _, _, _, _, _, _, _, _]) rfl rfl Try.underlying41 rfl ti41 (rdn_lit 1 rfl rfl) ?_
 refine o_yes rfl rfl rfl ?_
 refine o_call rfl cal11 rfl (fitem_ (x := (⟨1, 0, 0, 0, 0, 0, 1, ⟨none, [], 0⟩, ⟨none, [], 0⟩, ⟨none, [], 0⟩, 0, ⟨a14, [⟨ByteArray.empty, 2, 0⟩], 1⟩⟩ : Item)) (OrdR.mk (o := (⟨0, 0, 0, 0, 1, ⟨none, [], 0⟩, ⟨none, [], 0⟩, ⟨none, [], 0⟩, 0, ⟨a14, [⟨ByteArray.empty, 2, 0⟩], 1⟩⟩ : Order)) (rds_own e_Mark_ok 1 rfl) (rds_nil _ _) (rds_nil _ _) (rds_nil _ _) (fun x hx => by cases hx) (by simp) (by simp) (by simp) (by simp) (fun x hx => by cases hx)) (by simp)) ?_
 rintro _ _ ⟨rfl, rfl⟩
 refine o_yes rfl rfl rfl ?_
 refine o_not rfl rfl ?_
 refine l_eq (t := 30) (v' := .bool true) rfl (show _ = Value.bool true from by exact congrArg (fun b => Value.bool (!b)) (sp_vw3 _ _).1) ?_
 refine o_pick_true rfl rfl rfl ?_
 refine o_move rfl rfl ?_
 refine o_yes rfl rfl rfl ?_
 refine o_move rfl rfl ?_
 refine o_yes rfl rfl rfl ?_
 refine o_call rfl cal12 rfl (flast_) ?_
 rintro _ _ ⟨rfl, rfl⟩
 refine o_yes rfl rfl rfl ?_
 refine o_bin rfl rfl rfl b_eql ?_
 refine l_eq (t := 35) (v' := .bool true) rfl (show _ = Value.bool true from by rw [decide_eq_true (sp_vw3 _ _).2]) ?_
 refine o_pick_true rfl rfl rfl ?_
 refine o_assign rfl rfl ?_
 refine l_nil ?_
 refine q_then ?_
 refine c_ret ?_
 refine q_conv (fun w S => S.tail) ?_
 refine q_conv (fun w S => S.tail) ?_
 refine q_conv (fun w S => S.tail) ?_
 refine q_conv (fun w S => S.tail) ?_
 refine q_conv (fun w S => S.tail) ?_
 exact f_ret (r_one rfl rfl) (⟨rfl, rfl⟩) (fun w S => S)
end
section
set_option linter.unusedVariables false
set_option linter.unusedSimpArgs false
open Go.RowKit
/-- An iterator: called with any yield that keeps 'I' (what has come: 'pre') and tells by 'J' that it wants no more, beside whatever else there is. -/
def IterM {X : Type} (P : Program) (gf : FuncId) (caps : Array Value) (encs : X → List Value) (W : World) (Li : List Res) (M : X → Res) (ok dn : List X → Prop) : Prop :=
  ∀ (y : Value) (I : List X → List Res → Prop) (J : List Res → Prop) (L0 : List Res), I [] L0 →
    (∀ (Lx : List Res) pre x L, I pre L → ok (pre ++ [x]) → FV P y (encs x) W (M x :: (Lx ++ L)) (fun v L' => ∃ (bb : Bool) (L2 : List Res), v = .bool bb ∧ ((bb = true ∧ I (pre ++ [x]) L2) ∨ (bb = false ∧ J L2)) ∧ L' = Lx ++ L2)) →
    CS P gf (#[y] ++ caps) W (Li ++ L0) (fun _ L' => ∃ L2, ((∃ xs, dn xs ∧ I xs L2) ∨ J L2) ∧ L' = Li ++ L2)
section
variable {P : Program} {N : FN} {l : Fr} {W : World} {L L' L0 : List Res} {Q : Exit → Act → World → Prop}
/-- The statement 'for .. := range g { .. }' that is in no other's round. -/
theorem c_rangeM {X : Type} {g : Operand} {ps : Array Tmp} {assign body : Code} {gf : FuncId} {caps : Array Value} {encs : X → List Value} {M : X → Res} {ok dn : List X → Prop} {Li : List Res} (I : List X → List Res → Prop) (J : Code → List Res → Prop)
    (hro : N.ro = none) (hx : opv l g = some (.func (.func gf) #[] caps)) (hcl : Callable P gf) (hps : ps.toList.all (fun t => Nat.ble (t + 1) N.n) = true) (hen : ∀ x, ps.toList.length = (encs x).length) (hit : IterM P gf caps encs W Li M ok dn) (hL : ∀ w, Sat W w L → Sat W w (Li ++ L0)) (h0 : I [] L0)
    (hround : ∀ (Lx : List Res) (k : Nat) (r : Loop) (D : Res) pre x Lp, r.state = .ready → I pre Lp → ok (pre ++ [x]) →
      WC P assign (postB P k body fun e w' => ∃ v L', e = .returned v ∧ ((v = .bool true ∧ ∃ L2, I (pre ++ [x]) L2 ∧ L' = blk k (.loop { r with state := .ready, pending := none }) :: D :: (Lx ++ L2)) ∨ (v = .bool false ∧ ∃ c L2, J c L2 ∧ L' = blk k (.loop { r with state := .done, pending := some c }) :: D :: (Lx ++ L2))) ∧ Sat W w' L')
        { n := N.n, ro := some k } (putArgs ps.toList (encs x) l) W (blk k (.loop r) :: D :: M x :: (Lx ++ Lp)))
    (hdone : ∀ (d : Nat) xs Lp, dn xs → I xs Lp → WQ Q .normal { N with df := markD d :: N.df } l W (blk d (.deferred (some [])) :: (Li ++ Lp)))
    (hjump : ∀ (d : Nat) c Lp, J c Lp → WC P c Q { N with df := markD d :: N.df } l W (blk d (.deferred (some [])) :: (Li ++ Lp))) :
    WC P (.rangeFunc g ps assign body) Q N l W L := fun a w K S => by
  refine wpIn_rangeFunc fun fn _ => ?_
  have hfr : (fen N.ro).round = none := hro
  rw [hfr]
  let D : Res := blk w.heap.size (.deferred (some []))
  let r0 : Loop := { state := .ready, pending := none, fn, tmps := a.tmps, params := ps, assign, body, defers := w.heap.size }
  have S1 : Sat W (w.alloc (.deferred (some []))) (D :: (Li ++ L0)) := (hL w S).alloc _
  have S2 := S1.alloc (.loop r0)
  obtain ⟨k, hk⟩ : ∃ k, k = (w.alloc (.deferred (some []))).heap.size := ⟨_, rfl⟩
  rw [← hk] at S2
  have hks : k = w.heap.size + 1 := by rw [hk]; simp
  have pm : ∀ (A B : Res) (L : List Res), (A :: B :: (Li ++ L)).Perm (Li ++ (A :: B :: L)) := fun A B L =>
    ((List.Perm.cons A List.perm_middle.symm).trans List.perm_middle.symm)
  have pm' : ∀ (M : List Res) (A B : Res) (L : List Res), (A :: B :: (M ++ L)).Perm (M ++ (A :: B :: L)) := fun M A B L =>
    ((List.Perm.cons A List.perm_middle.symm).trans List.perm_middle.symm)
  have S3 : Sat W ((w.alloc (.deferred (some []))).alloc (.loop r0)) (Li ++ (blk k (.loop r0) :: D :: L0)) := S2.perm (pm _ _ _)
  have hcall := hit (.func (.yield k) #[] #[])
    (fun pre L => ∃ (r : Loop) (Lp : List Res), r.state = .ready ∧ r.pending = none ∧ r.fn = fn ∧ r.tmps = a.tmps ∧ r.params = ps ∧ r.assign = assign ∧ r.body = body ∧ I pre Lp ∧ L = blk k (.loop r) :: D :: Lp)
    (fun L => ∃ (r : Loop) (c : Code) (Lp : List Res), r.state = .done ∧ r.pending = some c ∧ J c Lp ∧ L = blk k (.loop r) :: D :: Lp)
    _ ⟨r0, L0, rfl, rfl, rfl, rfl, rfl, rfl, rfl, h0, rfl⟩ (by
      rintro Lx pre x L ⟨r, Lp, hr1, hr2, hr3, hr4, hr5, hr6, hr7, hI, rfl⟩ hpre w1 Sw ρ xo as_ tys dst ty pos af gd hxo has
      have Sk : Sat W w1 (blk k (.loop r) :: D :: M x :: (Lx ++ Lp)) := Sw.perm (((pm' Lx _ _ _).symm.cons (M x)).trans ((List.Perm.swap _ _ _).trans ((List.Perm.swap _ _ _).cons _)))
      have hy := run_yield (P := P) (args := (encs x).toArray) Sk.read.2 (by
        rw [hr5]; have := hen x; simpa using this.symm)
      refine ⟨.round k r.fn ((r.params.zip (encs x).toArray).foldl (fun tmps (p : Nat × Value) => tmps.setIfInBounds p.1 p.2) r.tmps) r.assign r.body, w1, ?_, .inr ⟨k, r.fn, _, r.assign, r.body, rfl, ?_⟩⟩
      · simp only [execOp, resolve, hxo, has, Deferred.ofValue, Sem.run_bind, Sem.run_pure, Result.andThen_ok, invoke]
        simpa using hy
      · rw [hr6, hr7, hr4, hr5]
        have K1 : Know { tmps := a.tmps, defers := [] } { n := N.n, ro := some k } l := ⟨K.size, rfl, K.val⟩
        have K2 := know_putArgs ps.toList (encs x) K1 hps (hen x)
        have h9 := hround Lx k r D pre x Lp hr1 hI hpre _ w1 K2 Sk
        have hz : (ps.zip (encs x).toArray).foldl (fun tmps (p : Nat × Value) => tmps.setIfInBounds p.1 p.2) a.tmps = (ps.toList.zip (encs x)).foldl (fun tmps (p : Nat × Value) => tmps.setIfInBounds p.1 p.2) a.tmps := by
          rw [← Array.foldl_toList, Array.toList_zip]
        have h8 : RoundIn (fen none) 0 P k r.fn _ assign body w1 _ := roundIn_of_wpIn (F := fen none) trivial h9
        have h7 : RoundIn Fence.wide 0 P k r.fn _ assign body w1 _ := h8
        have h6 : RoundIn Fence.wide 0 P k r.fn ((ps.zip (encs x).toArray).foldl (fun tmps (p : Nat × Value) => tmps.setIfInBounds p.1 p.2) a.tmps) assign body w1 _ := hz ▸ h7
        refine h6.mono ?_
        rintro e w2 ⟨v, L', rfl, hv, hs⟩
        rcases hv with ⟨rfl, L2, hI2, rfl⟩ | ⟨rfl, c, L2, hJ2, rfl⟩
        · exact ⟨_, _, rfl, ⟨true, _, rfl, .inl ⟨rfl, ⟨{ r with state := .ready, pending := none }, L2, rfl, rfl, hr3, hr4, hr5, hr6, hr7, hI2, rfl⟩⟩, rfl⟩, hs.perm (pm' Lx _ _ _)⟩
        · exact ⟨_, _, rfl, ⟨false, _, rfl, .inr ⟨rfl, ⟨{ r with state := .done, pending := some c }, c, L2, rfl, rfl, hJ2, rfl⟩⟩, rfl⟩, hs.perm (pm' Lx _ _ _)⟩)
  obtain ⟨gn, hf, hb, hn⟩ := hcl.is
  have hn' : ¬ gn.name = "runtime.NumGoroutine" := by simpa using hn
  have hb' : ¬ gn.body = none := by
    intro h0
    rw [h0] at hb
    cases hb
  obtain ⟨w3, hw3⟩ : ∃ w3, w3 = (w.alloc (.deferred (some []))).alloc (.loop r0) := ⟨_, rfl⟩
  rw [← hw3] at S3
  refine ⟨k, [markD w.heap.size], w3, { target := .fn (.func gf) caps, args := #[.func (.yield k) #[] #[]] }, w3, gf, #[.func (.yield k) #[] #[]] ++ caps, w3, ?_, ?_, fun _ _ => trivial, ?_, by simp [fen], ?_⟩
  · rw [hks, hw3]; exact run_enterLoop_outer _ _ _ _ _
  · simp only [resolve, K.eval hx, Deferred.ofValue]
    simp [Act.eval]
  · simp only [invoke, callFunc]
    simp [hf, hb', hn']
  · have h5 : CallsIn (fen none) 0 P gf (#[.func (.yield k) #[] #[]] ++ caps) _ _ := calls_in (hcall _ S3)
    refine h5.mono ?_
    rintro e w2 ⟨v, L', rfl, ⟨L2, hL2, rfl⟩, hs⟩
    rcases hL2 with ⟨xs, hdn, r, Lp, hr1, hr2, _, _, _, _, _, hI, rfl⟩ | ⟨r, c, Lp, hr1, hr2, hJ, rfl⟩
    · have hs1 := hs.perm (pm _ _ _).symm
      refine ⟨none, w2.putObj k (.loop { r with state := .exhausted }), by rw [run_endLoop hs1.read.2 (by rw [hr1]; simp), hr2], ?_⟩
      exact hdone w.heap.size xs Lp hdn hI _ _ ⟨K.size, by show [markD w.heap.size] ++ a.defers = _; rw [K.dfr]; rfl, K.val⟩ (hs1.putObj (o' := .loop { r with state := .exhausted })).tail
    · have hs1 := hs.perm (pm _ _ _).symm
      refine ⟨some c, w2.putObj k (.loop { r with state := .exhausted }), by rw [run_endLoop hs1.read.2 (by rw [hr1]; simp), hr2], ?_⟩
      have h4 := hjump w.heap.size c Lp hJ { tmps := a.tmps, defers := [markD w.heap.size] ++ a.defers } _ ⟨K.size, by show [markD w.heap.size] ++ a.defers = _; rw [K.dfr]; rfl, K.val⟩ (hs1.putObj (o' := .loop { r with state := .exhausted })).tail
      exact h4
end
theorem rgPM {A B C : Res} (Lx I F : List Res) : (A :: B :: C :: (Lx ++ (I ++ F))).Perm (A :: B :: C :: (I ++ (Lx ++ F))) := (((List.perm_append_comm_assoc Lx I F).cons C).cons B).cons A
end
section
set_option linter.unusedVariables false
set_option linter.unusedSimpArgs false
open Go.RowKit
/-- Of an iterator: what it has handed out (stamps) are the entries at the places 'is'. -/
structure Seen (es : Array MapEntry) (seen : Array Nat) (is : List Nat) : Prop where
  same : seen.toList.map some = is.map fun i => (es.toList.map (·.born))[i]?
  nod : is.Nodup
section
variable {κ β : Type} {kv : κ → Value} {vv : β → Value} {D : List (κ × β)}
/-- An iterator in block r over the map in block m. -/
def mapIt (kv : κ → Value) (vv : β → Value) (r m : Nat) (D : List (κ × β)) (is : List Nat) : Res := fun h => ∃ es clock seen, Ents kv vv D es clock ∧ Seen es seen is ∧ star (blk r (.mapIter (some m) clock seen clock)) (blk m (.map es clock)) h
variable {W w : World} {L : List Res} {r m : Nat} {is : List Nat}
theorem Sat.it_read (S : Sat W w (mapIt kv vv r m D is :: L)) : ∃ es clock seen, Ents kv vv D es clock ∧ Seen es seen is ∧ Sat W w (blk r (.mapIter (some m) clock seen clock) :: blk m (.map es clock) :: L) := by
  obtain ⟨y, ⟨x, b, hd, he, ⟨es, clock, seen, h1, h3, h2⟩, hb⟩, hy⟩ := S.own
  have S' : Sat W w (star (blk r (.mapIter (some m) clock seen clock)) (blk m (.map es clock)) :: L) := ⟨S.below, S.dr, y, ⟨x, b, hd, he, h2, hb⟩, hy⟩
  exact ⟨es, clock, seen, h1, h3, S'.conv fun _ => star_assoc.1⟩
theorem Sat.it_mk {es : Array MapEntry} {clock : Nat} {seen : Array Nat} (h1 : Ents kv vv D es clock) (h2 : Seen es seen is) (S : Sat W w (blk r (.mapIter (some m) clock seen clock) :: blk m (.map es clock) :: L)) : Sat W w (mapIt kv vv r m D is :: L) := by
  have S' : Sat W w (star (blk r (.mapIter (some m) clock seen clock)) (blk m (.map es clock)) :: L) := S.conv fun _ => star_assoc.2
  exact S'.imp fun x hx => ⟨es, clock, seen, h1, h2, hx⟩
theorem Sat.it_end (S : Sat W w (mapIt kv vv r m D is :: L)) : Sat W w (mapR kv vv m D :: L) := by
  obtain ⟨es, clock, seen, h1, _, S'⟩ := S.it_read
  exact (S'.tail).map_mk h1
theorem ents_len {es : Array MapEntry} {clock : Nat} (h : Ents kv vv D es clock) : es.toList.length = D.length := by
  have := congrArg List.length h.same
  simpa using this
theorem ents_at {es : Array MapEntry} {clock : Nat} (h : Ents kv vv D es clock) {i : Nat} {e : MapEntry} (he : es.toList[i]? = some e) : ∃ p, D[i]? = some p ∧ e.key = kv p.1 ∧ e.val = vv p.2 := by
  have h1 := congrArg (·[i]?) h.same
  simp only [List.getElem?_map, he, Option.map_some] at h1
  cases h2 : D[i]? with
  | none => rw [h2] at h1; cases h1
  | some p =>
    rw [h2] at h1
    simp only [Option.map_some, Option.some.injEq, Prod.mk.injEq] at h1
    exact ⟨p, rfl, h1.1, h1.2⟩
theorem Ents.nod {es : Array MapEntry} {clock : Nat} (h : Ents kv vv D es clock) : (es.toList.map (·.born)).Nodup := h.born.imp fun h => Nat.ne_of_lt h
theorem seen_in {es : Array MapEntry} {clock : Nat} (h : Ents kv vv D es clock) {seen : Array Nat} (s : Seen es seen is) {i : Nat} {e : MapEntry} (he : es.toList[i]? = some e) : e.born ∈ seen.toList ↔ i ∈ is := by
  have hb : (es.toList.map (·.born))[i]? = some e.born := by rw [List.getElem?_map, he]; rfl
  constructor
  · intro h1
    have h2 : some e.born ∈ seen.toList.map some := List.mem_map.2 ⟨_, h1, rfl⟩
    rw [s.same] at h2
    obtain ⟨j, hj, e1⟩ := List.mem_map.1 h2
    have h3 := h.nod
    obtain ⟨hjl, e2⟩ := List.getElem?_eq_some_iff.1 e1
    obtain ⟨hil, e3⟩ := List.getElem?_eq_some_iff.1 hb
    have hp := List.pairwise_iff_getElem.1 h.born
    rcases Nat.lt_trichotomy j i with q | q | q
    · have := hp j i hjl hil q
      rw [e2, e3] at this; exact absurd this (Nat.lt_irrefl _)
    · rw [← q]; exact hj
    · have := hp i j hil hjl q
      rw [e2, e3] at this; exact absurd this (Nat.lt_irrefl _)
  · intro h1
    have h2 : some e.born ∈ is.map fun i => (es.toList.map (·.born))[i]? := List.mem_map.2 ⟨i, h1, hb⟩
    rw [← s.same] at h2
    obtain ⟨x, hx, e1⟩ := List.mem_map.1 h2
    cases e1; exact hx
theorem seen_push {es : Array MapEntry} {seen : Array Nat} (s : Seen es seen is) {i : Nat} {e : MapEntry} (he : es.toList[i]? = some e) (hi : i ∉ is) : Seen es (seen.push e.born) (is ++ [i]) := by
  refine ⟨?_, List.nodup_append.2 ⟨s.nod, by simp, fun a ha b hb => by rw [List.mem_singleton.1 hb]; rintro rfl; exact hi ha⟩⟩
  rw [Array.toList_push, List.map_append, List.map_append, s.same]
  simp only [List.map_cons, List.map_nil, List.getElem?_map, he, Option.map_some]
/-- What 'next' says. -/
theorem run_next_it {P : Program} (ty : TypeId) (S : Sat W w (mapIt kv vv r m D is :: L)) :
    ((∀ i, i < D.length → i ∈ is) ∧ (Instr.next (.pointer (some ⟨r, 0, none⟩)) false ty).run P w = .ok (.tuple #[.bool false]) w) ∨
    ∃ i p w', i ∉ is ∧ D[i]? = some p ∧ (Instr.next (.pointer (some ⟨r, 0, none⟩)) false ty).run P w = .ok (.tuple #[.bool true, kv p.1, vv p.2]) w' ∧ Sat W w' (mapIt kv vv r m D (is ++ [i]) :: L) := by
  obtain ⟨es, clock, seen, h1, h2, S1⟩ := S.it_read
  have hr := S1.read.2
  have hm := S1.tail.read.2
  have ht := next_test_false seen es clock clock (fun x hx => h1.less x hx) (Nat.le_refl _)
  simp only [Instr.next, getObj, Sem.run_bind, Sem.run, hr, hm, Result.andThen, ht, Bool.false_eq_true, if_false]
  have hmem : ∀ x ∈ (Array.filter (fun e => !seen.contains e.born) es).toList, x.born < clock := fun x hx => h1.less x (by simp at hx ⊢; exact hx.1)
  have hin : ∀ x ∈ (Array.filter (fun e => !seen.contains e.born) es).toList, x ∈ es.toList ∧ x.born ∉ seen.toList := fun x hx => by simpa using hx
  have hout : ∀ x ∈ es.toList, x.born ∉ seen.toList → x ∈ (Array.filter (fun e => !seen.contains e.born) es).toList := fun x hx h => by simpa using ⟨by simpa using hx, by simpa using h⟩
  generalize Array.filter (fun e => !seen.contains e.born) es = F at hmem hin hout ⊢
  have e1 : F.filter (fun x => decide (x.born < clock)) = F := Array.filter_eq_self.2 (fun x hx => by simpa using hmem x (by simpa using hx))
  have e2 : F.filter (fun x => decide (x.born ≥ clock)) = #[] := by
    rw [Array.filter_eq_empty_iff]
    intro x hx
    have := hmem x (by simpa using hx)
    simp
    omega
  simp only [e1, e2, Array.append_empty]
  by_cases h0 : F.size = 0
  · left
    have hF : F = #[] := Array.eq_empty_of_size_eq_zero h0
    subst hF
    refine ⟨fun i hi => ?_, by simp [choose, Sem.run, Question.forced]⟩
    have hl := ents_len h1
    have he := List.getElem?_eq_getElem (l := es.toList) (i := i) (by omega)
    refine Classical.byContradiction fun hni => ?_
    have := hout _ (List.getElem_mem _) (fun hb => hni ((seen_in h1 h2 he).1 hb))
    simp at this
  · right
    have hne : F.isEmpty = false := by simp [Array.isEmpty, h0]
    simp only [hne, Bool.false_eq_true, if_false, Array.empty_append, Array.size_map]
    have hch : ∃ (j : Nat) (w1 : World), j < F.size ∧ (w1 = w ∨ w1 = w.drew) ∧ (choose (Question.mapNext F.size)).run P w = .ok j w1 := by
      by_cases hf : F.size ≤ 1
      · exact ⟨0, w, by omega, .inl rfl, by simp [choose, Sem.run, Question.forced, hf]⟩
      · exact ⟨_, w.drew, Nat.mod_lt _ (by omega), .inr rfl, by
          simp only [choose, Sem.run, Question.forced, decide_eq_true_eq, hf, if_false, Question.cut]
          rfl⟩
    obtain ⟨j, w1, hj, hw1, hrun⟩ := hch
    have S2 : Sat W w1 (blk r (.mapIter (some m) clock seen clock) :: blk m (.map es clock) :: L) := by
      rcases hw1 with rfl | rfl
      · exact S1
      · exact S1.drew
    obtain ⟨hx1, hx2⟩ := hin F[j] (by simp)
    obtain ⟨i, hi, e3⟩ := List.mem_iff_getElem.1 hx1
    have he : es.toList[i]? = some F[j] := by rw [List.getElem?_eq_getElem hi, e3]
    obtain ⟨p, hp, k1, k2⟩ := ents_at h1 he
    have hni : i ∉ is := fun h => hx2 ((seen_in h1 h2 he).2 h)
    refine ⟨i, p, World.put w1 r (.mapIter (some m) clock (seen.push F[j].born) clock), hni, hp, ?_, ?_⟩
    · simp only [hrun, Array.getElem?_map, Array.getElem?_eq_getElem hj, Option.map_some, Sem.run_bind, run_setObj_put S2.read.2 rfl, Result.andThen, k1, k2]
      rfl
    · exact Sat.it_mk h1 (seen_push h2 he hni) S2.put
theorem run_entry_it {P : Program} {i : Nat} {p : κ × β} (hp : D[i]? = some p) (S : Sat W w (mapIt kv vv r m D (is ++ [i]) :: L)) : (Instr.entry (.pointer (some ⟨r, 0, none⟩))).run P w = .ok (.tuple #[kv p.1, vv p.2]) w := by
  obtain ⟨es, clock, seen, h1, h2, S1⟩ := S.it_read
  have hr := S1.read.2
  have hm := S1.tail.read.2
  have hi := (List.getElem?_eq_some_iff.1 hp).1
  have hl := ents_len h1
  have he := List.getElem?_eq_getElem (l := es.toList) (i := i) (by omega)
  obtain ⟨p', hp', k1, k2⟩ := ents_at h1 he
  rw [hp] at hp'; cases hp'
  have hs := congrArg List.getLast? h2.same
  simp only [List.map_append, List.map_cons, List.map_nil, List.getLast?_append, List.getLast?_singleton, List.getElem?_map, he, Option.map_some, Option.some_or] at hs
  have hb : seen.back? = some (es.toList[i]'(by omega)).born := by
    rw [← Array.getLast?_toList]
    rw [List.getLast?_map] at hs
    cases hq : seen.toList.getLast? with
    | none => rw [hq] at hs; cases hs
    | some y => rw [hq] at hs; simpa using hs
  have hf : es.find? (·.born == (es.toList[i]'(by omega)).born) = some (es.toList[i]'(by omega)) := by rw [← Array.find?_toList]; exact find_born _ es.toList h1.nod (List.getElem_mem _)
  simp only [Instr.entry, getObj, Sem.run_bind, Sem.run, hr, hm, hb, Result.andThen, bne_self_eq_false, Bool.false_eq_true, if_false, hf, k1, k2]
  rfl
end
section
variable {P : Program} {N : FN} {l : Fr} {W : World} {L : List Res} {Q : Exit → Act → World → Prop} {ops : Array Oper} {rest : List Oper}
variable {d : Nat} {ty : TypeId} {pos : String} {af : Array Edge} {κ β : Type} {kv : κ → Value} {vv : β → Value} {D : List (κ × β)} {r m : Nat} {is : List Nat}
theorem o_range {t k e : TypeId} {x : Operand} (hd : Nat.ble (d + 1) N = true) (hx : opv l x = some (.map (some m))) (ht : P.underlying t = some (.map k e)) (h : ∀ r, WL P ops Q rest N ((d, .pointer (some ⟨r, 0, none⟩)) :: l) W (mapIt kv vv r m D [] :: L)) :
    WL P ops Q (⟨some d, .range t x, ty, pos, af, none⟩ :: rest) N l W (mapR kv vv m D :: L) :=
  o_runx hd (vv := fun r => .pointer (some ⟨r, 0, none⟩)) (LL := fun r => mapIt kv vv r m D [] :: L) (fun a w K S => by
    obtain ⟨es, clock, he, S'⟩ := S.map_read
    exact ⟨w.heap.size, _, by simp only [execOp, K.eval hx, run_range_map w t k e m es clock ht S'.read.2, Sem.run_bind, Result.andThen_ok]; rfl, Sat.it_mk he ⟨rfl, List.nodup_nil⟩ (S'.alloc _)⟩) h
theorem o_next {it : Operand} (hd : Nat.ble (d + 1) N = true) (hx : opv l it = some (.pointer (some ⟨r, 0, none⟩)))
    (hN : ∀ i p, i ∉ is → D[i]? = some p → WL P ops Q rest N ((d, .tuple #[.bool true, kv p.1, vv p.2]) :: l) W (mapIt kv vv r m D (is ++ [i]) :: L))
    (hD : (∀ i, i < D.length → i ∈ is) → WL P ops Q rest N ((d, .tuple #[.bool false]) :: l) W (mapIt kv vv r m D is :: L)) :
    WL P ops Q (⟨some d, .next it false, ty, pos, af, none⟩ :: rest) N l W (mapIt kv vv r m D is :: L) := fun a w K S => by
  rcases run_next_it (P := P) ty S with ⟨h1, h2⟩ | ⟨i, p, w', h1, h2, h3, h4⟩
  · refine wpListIn_plain rfl fun k hk => wpIn_of_run (by simp only [execOp, K.eval hx, h2, Sem.run_bind, Result.andThen_ok]; rfl) (by simp) ?_
    exact hk _ _ (hD h1 _ _ (K.put hd _) S)
  · refine wpListIn_plain rfl fun k hk => wpIn_of_run (by simp only [execOp, K.eval hx, h3, Sem.run_bind, Result.andThen_ok]; rfl) (by simp) ?_
    exact hk _ _ (hN i p h1 h2 _ _ (K.put hd _) h4)
theorem o_entry {it : Operand} {i : Nat} {p : κ × β} (hp : D[i]? = some p) (hd : Nat.ble (d + 1) N = true) (hx : opv l it = some (.pointer (some ⟨r, 0, none⟩)))
    (h : WL P ops Q rest N ((d, .tuple #[kv p.1, vv p.2]) :: l) W (mapIt kv vv r m D (is ++ [i]) :: L)) :
    WL P ops Q (⟨some d, .entry it, ty, pos, af, none⟩ :: rest) N l W (mapIt kv vv r m D (is ++ [i]) :: L) :=
  o_val hd (fun a w K S => by
    simp only [execOp, K.eval hx, run_entry_it hp S, Sem.run_bind, Result.andThen_ok]; rfl) h
end
end
section
set_option linter.unusedVariables false
set_option linter.unusedSimpArgs false
open Go.RowKit Classical
instance : Inhabited Tag := ⟨⟨0, 0, 0, 0⟩⟩
def cmpI (x y : Int) : Int := if x < y then -1 else if y < x then 1 else 0
def orI : List Int → Int
  | [] => 0
  | x :: xs => if x = 0 then orI xs else x
theorem orI_on {xs : List Int} {i : Nat} (hx : xs[((i : Int)).toNat]? = some 0) : orI (xs.drop i) = orI (xs.drop (i + 1)) := by
  have hx' : xs[i]? = some 0 := hx
  obtain ⟨hi, e⟩ := List.getElem?_eq_some_iff.1 hx'
  rw [List.drop_eq_getElem_cons hi, e, orI, if_pos rfl]
theorem orI_at {xs : List Int} {i : Nat} {x : Int} (hx : xs[((i : Int)).toNat]? = some x) (h0 : x ≠ 0) : orI (xs.drop i) = x := by
  have hx' : xs[i]? = some x := hx
  obtain ⟨hi, e⟩ := List.getElem?_eq_some_iff.1 hx'
  rw [List.drop_eq_getElem_cons hi, e, orI, if_neg h0]
theorem orI_lt (x y : Int) (xs : List Int) : orI (cmpI x y :: xs) < 0 ↔ x < y ∨ (x = y ∧ orI xs < 0) := by
  unfold cmpI
  by_cases h1 : x < y
  · rw [if_pos h1, orI, if_neg (by decide)]; simp [h1]
  · rw [if_neg h1]
    by_cases h2 : y < x
    · rw [if_pos h2, orI, if_neg (by decide)]
      constructor
      · intro h; omega
      · rintro (h | ⟨h, _⟩) <;> omega
    · rw [if_neg h2, orI, if_pos rfl]
      have : x = y := by omega
      simp [this]
/-- What the comparer says. -/
def cmpT (a b : Tag) : Int := orI [cmpI a.f_Id_Node b.f_Id_Node, cmpI a.f_Id_Epoch b.f_Id_Epoch, cmpI a.f_Id_Seq b.f_Id_Seq, cmpI a.f_Try b.f_Try]
def tlt (a b : Tag) : Prop := a.f_Id_Node < b.f_Id_Node ∨ (a.f_Id_Node = b.f_Id_Node ∧ (a.f_Id_Epoch < b.f_Id_Epoch ∨ (a.f_Id_Epoch = b.f_Id_Epoch ∧ (a.f_Id_Seq < b.f_Id_Seq ∨ (a.f_Id_Seq = b.f_Id_Seq ∧ a.f_Try < b.f_Try)))))
theorem cmpT_lt (a b : Tag) : cmpT a b < 0 ↔ tlt a b := by
  unfold cmpT tlt
  rw [orI_lt, orI_lt, orI_lt, orI_lt]
  simp [orI]
theorem ltT (a b : Tag) : Go.Proofs.ltOf cmpT a b = true ↔ tlt a b := by
  unfold Go.Proofs.ltOf
  rw [decide_eq_true_eq, cmpT_lt]
theorem ltF (a b : Tag) : Go.Proofs.ltOf cmpT a b = false ↔ ¬ tlt a b := by rw [← ltT]; simp
theorem tlt_swo : Go.Sort.SWO (Go.Proofs.ltOf cmpT) where
  irrefl x := by rw [ltF]; unfold tlt; omega
  trans x y z := by rw [ltT, ltT, ltT]; unfold tlt; omega
  ntrans x y z := by rw [ltF, ltF, ltF]; unfold tlt; omega
theorem tlt_tri {a b : Tag} (h : a ≠ b) (hn : ¬ tlt b a) : tlt a b := by
  have h2 : ¬ (a.f_Id_Node = b.f_Id_Node ∧ a.f_Id_Epoch = b.f_Id_Epoch ∧ a.f_Id_Seq = b.f_Id_Seq ∧ a.f_Try = b.f_Try) := fun ⟨h1, h2, h3, h4⟩ => h (by cases a; cases b; simp_all)
  unfold tlt at *; omega
section
variable {κ β : Type}
structure KeysAt (D : List (κ × β)) (is : List Nat) (pre : List κ) : Prop where
  nod : is.Nodup
  same : pre.map some = is.map fun i => (D.map Prod.fst)[i]?
def okK (D : List (κ × β)) (pre : List κ) : Prop := ∃ is, KeysAt D is pre
def dnK (D : List (κ × β)) (pre : List κ) : Prop := ∃ is, KeysAt D is pre ∧ ∀ i, i < D.length → i ∈ is
theorem keysAt_0 (D : List (κ × β)) : KeysAt D [] [] := ⟨List.nodup_nil, rfl⟩
theorem KeysAt.on {D : List (κ × β)} {is : List Nat} {pre : List κ} (h : KeysAt D is pre) {i : Nat} {p : κ × β} (hi : i ∉ is) (hp : D[i]? = some p) : KeysAt D (is ++ [i]) (pre ++ [p.1]) := by
  refine ⟨List.nodup_append.2 ⟨h.nod, by simp, fun a ha b hb => by rw [List.mem_singleton.1 hb]; rintro rfl; exact hi ha⟩, ?_⟩
  rw [List.map_append, List.map_append, h.same]
  simp only [List.map_cons, List.map_nil, List.getElem?_map, hp, Option.map_some]
theorem KeysAt.lt {D : List (κ × β)} {is : List Nat} {pre : List κ} (h : KeysAt D is pre) : ∀ i ∈ is, i < D.length := fun i hi => by
  have h1 : (D.map Prod.fst)[i]? ∈ pre.map some := by rw [h.same]; exact List.mem_map.2 ⟨i, hi, rfl⟩
  obtain ⟨x, _, hx⟩ := List.mem_map.1 h1
  have := (List.getElem?_eq_some_iff.1 hx.symm).1
  simpa using this
theorem KeysAt.len {D : List (κ × β)} {is : List Nat} {pre : List κ} (h : KeysAt D is pre) : pre.length = is.length ∧ is.length ≤ D.length := by
  refine ⟨by simpa using congrArg List.length h.same, ?_⟩
  have := h.nod.length_le_of_subset (l₂ := List.range D.length) fun i hi => List.mem_range.2 (h.lt i hi)
  simpa using this
theorem okK_len {D : List (κ × β)} {pre : List κ} (h : okK D pre) : pre.length ≤ D.length := by
  obtain ⟨is, h⟩ := h
  have := h.len; omega
theorem dnK_perm {D : List (κ × β)} {pre : List κ} (h : dnK D pre) : pre.Perm (D.map Prod.fst) := by
  obtain ⟨is, h, ha⟩ := h
  have h1 : is.Perm (List.range D.length) := (List.perm_ext_iff_of_nodup h.nod List.nodup_range).2 fun i => by rw [List.mem_range]; exact ⟨h.lt i, ha i⟩
  have h2 := h1.map fun i => (D.map Prod.fst)[i]?
  rw [← h.same] at h2
  have h3 : (List.range D.length).map (fun i => (D.map Prod.fst)[i]?) = (D.map Prod.fst).map some := by
    apply List.ext_getElem?
    intro j
    rw [List.getElem?_map, List.getElem?_map]
    by_cases hj : j < D.length
    · rw [List.getElem?_range hj, List.getElem?_eq_getElem (by simpa using hj)]
      simp only [Option.map_some]
      rw [List.getElem?_eq_getElem (by simpa using hj)]
    · rw [List.getElem?_eq_none (by simpa using hj), List.getElem?_eq_none (by simpa using hj)]; rfl
  rw [h3] at h2
  have h4 := h2.filterMap id
  simpa [List.filterMap_map] using h4
end
end
section
set_option linter.unusedVariables false
set_option linter.unusedSimpArgs false
set_option maxRecDepth 10000
open Go.RowKit Classical
theorem keys_iter {W : World} {b m : Nat} {D : List (Tag × Int)} : IterM Try.prog 39 #[.pointer (some ⟨b, 0, none⟩)] (fun x : Tag => [Value.agg (e_Tag.cells x).toArray]) W [mapR kvTag vvInt m D, blk b (.cells #[.map (some m)] 62 (0, 0))] (fun _ => stars []) (okK D) (dnK D) := by
 intro y I J L0 h0 hy
 show CS Try.prog 39 #[y, .pointer (some ⟨b, 0, none⟩)] W (mapR kvTag vvInt m D :: blk b (.cells #[.map (some m)] 62 (0, 0)) :: L0) (fun _ L' => ∃ L2, ((∃ xs, dnK D xs ∧ I xs L2) ∨ J L2) ∧ L' = [mapR kvTag vvInt m D, blk b (.cells #[.map (some m)] 62 (0, 0))] ++ L2)
 refine f_door (l0 := [(0, y), (1, .pointer (some ⟨b, 0, none⟩))]) Try.func39 Try.ntmps39 rfl rfl rfl ?_
 refine c_seq ?_
 refine c_region ?_
 refine o_load1 rfl rfl Try.underlying62 rfl (rd_mem 1 rfl rfl) ?_
 refine o_range rfl rfl Try.underlying62 fun r5 => ?_
 refine l_nil ?_
 refine q_then ?_
 refine c_block ?_
 refine c_loop (α := (List Nat) × (List Tag) × (List Res)) (fun z => [(0, y), (5, .pointer (some ⟨r5, 0, none⟩))]) (fun z => mapIt kvTag vvInt r5 m D z.1 :: blk b (.cells #[.map (some m)] 62 (0, 0)) :: z.2.2) (fun z => I z.2.1 z.2.2 ∧ KeysAt D z.1 z.2.1) (fun z => D.length - z.1.length) ([], [], L0) (by exact ⟨h0, keysAt_0 D⟩) ⟨(by first | rfl | exact vint (by omega)), (by first | rfl | exact vint (by omega)), trivial⟩ (fun w S => S) ?_
 rintro ⟨is, pre, Lp⟩ ⟨hI, hK⟩
 try dsimp only at *
 refine c_seq ?_
 refine c_region ?_
 refine o_next rfl rfl (fun in1 pn1 hin1 hpn1 => ?_) (fun halln1 => ?_)
 · -- next: True
  refine o_extract rfl rfl rfl ?_
  refine l_nil ?_
  refine q_then ?_
  refine c_seq ?_
  refine c_true rfl ?_
  refine c_skip ?_
  refine q_then ?_
  refine c_block ?_
  refine c_seq ?_
  refine c_region ?_
  refine o_entry hpn1 rfl rfl ?_
  refine o_extract rfl rfl rfl ?_
  refine o_alloc rfl ti32 fun b3 => ?_
  refine o_storen rfl rfl ti32 rfl rfl rfl rfl ?_
  refine l_nil ?_
  refine q_then ?_
  refine c_seq ?_
  refine c_region ?_
  refine o_move rfl rfl ?_
  refine o_loadn (vs := [_, _, _, _]) rfl rfl Try.underlying32 rfl ti32 (rdn_lit 0 rfl rfl) ?_
  refine l_conv (L' := stars [] :: blk b3 (.cells #[.int .i64 pn1.1.f_Id_Node, .int .u64 pn1.1.f_Id_Epoch, .int .u64 pn1.1.f_Id_Seq, .int .i64 pn1.1.f_Try] 32 (0, 0)) :: mapIt kvTag vvInt r5 m D (is ++ [in1]) :: blk b (.cells #[.map (some m)] 62 (0, 0)) :: Lp) (fun w S => S.stars_nil) ?_
  refine o_callV rfl rfl rfl (hy [blk b3 (.cells #[.int .i64 pn1.1.f_Id_Node, .int .u64 pn1.1.f_Id_Epoch, .int .u64 pn1.1.f_Id_Seq, .int .i64 pn1.1.f_Try] 32 (0, 0)), mapIt kvTag vvInt r5 m D (is ++ [in1]), blk b (.cells #[.map (some m)] 62 (0, 0))] pre pn1.1 _ hI ⟨_, hK.on hin1 hpn1⟩) ?_
  rintro _ _ ⟨bb, L12, rfl, hyy, rfl⟩
  refine l_conv (L' := blk b3 (.cells #[.int .i64 pn1.1.f_Id_Node, .int .u64 pn1.1.f_Id_Epoch, .int .u64 pn1.1.f_Id_Seq, .int .i64 pn1.1.f_Try] 32 (0, 0)) :: mapIt kvTag vvInt r5 m D (is ++ [in1]) :: blk b (.cells #[.map (some m)] 62 (0, 0)) :: L12) (fun w S => S) ?_
  refine o_not rfl rfl ?_
  refine l_nil ?_
  refine q_then ?_
  refine c_cond rfl (fun h2 => ?_) (fun h2 => ?_)
  · -- h2T
   have h2b := h2
   try simp only [decide_eq_true_eq, decide_eq_false_iff_not, Bool.not_eq_eq_eq_not, Bool.not_true, Bool.not_false, Bool.not_eq_true', Bool.not_eq_false', Int.not_lt, Int.not_le, Bool.or_eq_true, Bool.and_eq_true] at h2
   refine c_ret ?_
   refine q_block_ret ?_
   refine q_pass_ret ?_
   refine q_block_ret ?_
   refine q_conv (fun w S => S.tail) ?_
   exact f_ret (r_none rfl) (⟨L12, .inr (by rcases hyy with ⟨q, _⟩ | ⟨_, q⟩; (exfalso; simp_all); exact q), rfl⟩) (fun w S => S.it_end)
  · -- h2F
   have h2b := h2
   try simp only [decide_eq_true_eq, decide_eq_false_iff_not, Bool.not_eq_eq_eq_not, Bool.not_true, Bool.not_false, Bool.not_eq_true', Bool.not_eq_false', Int.not_lt, Int.not_le, Bool.or_eq_true, Bool.and_eq_true] at h2
   refine c_skip ?_
   refine q_block ?_
   refine q_conv (fun w S => S.tail) ?_
   exact q_round (is ++ [in1], pre ++ [pn1.1], L12) (by exact ⟨(by rcases hyy with ⟨_, q⟩ | ⟨q, _⟩; exact q; (exfalso; simp_all)), hK.on hin1 hpn1⟩) (by have h8 := (hK.on hin1 hpn1).len; simp only [List.length_append, List.length_cons, List.length_nil] at h8 ⊢; omega) ⟨(by first | rfl | exact vint (by omega)), (by first | rfl | exact vint (by omega)), trivial⟩ (fun w S => S)
 · -- next: False
  refine o_extract rfl rfl rfl ?_
  refine l_nil ?_
  refine q_then ?_
  refine c_seq ?_
  refine c_false rfl ?_
  refine c_exit ?_
  refine q_pass_exit ?_
  refine q_pass_exit ?_
  refine q_hit ?_
  exact f_end (r_none rfl) (⟨Lp, .inl ⟨pre, ⟨_, hK, halln1⟩, hI⟩, rfl⟩) (fun w S => S.it_end)
end
section
set_option linter.unusedVariables false
set_option linter.unusedSimpArgs false
set_option maxRecDepth 10000
open Go.RowKit Classical
theorem mkeys_ {W : World} {F : List Res} {m : Nat} : CS Try.prog 32 #[.map (some m)] W (F) (fun r L' => ∃ b : Nat, r = .func (.func 39) #[] #[.pointer (some ⟨b, 0, none⟩)] ∧ L' = blk b (.cells #[.map (some m)] 62 (0, 0)) :: F) := by
 refine f_door (l0 := [(0, .map (some m))]) Try.func32 Try.ntmps32 rfl rfl rfl ?_
 refine c_seq ?_
 refine c_region ?_
 refine o_box rfl rfl fun b => ?_
 refine o_assign rfl rfl ?_
 refine l_nil ?_
 refine q_then ?_
 refine c_seq ?_
 refine c_region ?_
 refine o_makeFunc rfl rfl rfl ?_
 refine o_assign rfl rfl ?_
 refine l_nil ?_
 refine q_then ?_
 refine c_ret ?_
 exact f_ret (r_one rfl rfl) (⟨b, rfl, rfl⟩) (fun w S => S)
set_option maxHeartbeats 1000000 in
theorem appendSeqT_ {W : World} {F : List Res} {b m : Nat} {D : List (Tag × Int)} (hD : D.length ≤ 1000000) : CS Try.prog 45 #[.slice none 0 0, .func (.func 39) #[] #[.pointer (some ⟨b, 0, none⟩)]] W (mapR kvTag vvInt m D :: blk b (.cells #[.map (some m)] 62 (0, 0)) :: F) (fun r L' => ∃ (a' : Option Addr) (c' : Nat) (ps : List Tag), dnK D ps ∧ r = .slice a' ps.length c' ∧ L' = row e_Tag.T e_Tag.sz a' ps.length c' (flat e_Tag ps) :: mapR kvTag vvInt m D :: F) := by
 refine f_door (l0 := [(0, .slice none 0 0), (1, .func (.func 39) #[] #[.pointer (some ⟨b, 0, none⟩)])]) Try.func45 Try.ntmps45 rfl rfl rfl ?_
 refine c_seq ?_
 refine c_region ?_
 refine o_box rfl rfl fun b2 => ?_
 refine o_assign rfl rfl ?_
 refine l_nil ?_
 refine q_then ?_
 refine c_seq ?_
 refine c_seq ?_
 refine c_region ?_
 refine o_move rfl rfl ?_
 refine l_nil ?_
 refine q_then ?_
 refine c_block ?_
 refine c_nilrow e_Tag ?_
 refine c_conv (fun w S => S.perm p1) ?_
 refine c_conv (fun w S => S.perm p3) ?_
 refine c_conv (fun w S => S.perm p3) ?_
 refine c_rangeM (Li := [mapR kvTag vvInt m D, blk b (.cells #[.map (some m)] 62 (0, 0))]) (L0 := blk b2 (.cells #[.slice none (([] : List Tag)).length 0] 54 (0, 0)) :: row e_Tag.T e_Tag.sz none (([] : List Tag)).length 0 (flat e_Tag ([] : List Tag)) :: F) (fun pre L => ∃ a : Option Addr, ∃ c' : Nat, (pre.length ≤ D.length) ∧ L = blk b2 (.cells #[.slice a (pre).length c'] 54 (0, 0)) :: row e_Tag.T e_Tag.sz a (pre).length c' (flat e_Tag pre) :: F) (fun c L => False) rfl rfl cal39 rfl (fun _ => rfl) (keys_iter) (fun w S => S) ⟨none, 0, Nat.zero_le _, rfl⟩ ?_ ?_ ?_
 · -- round
  rintro Lxg1 kg1 rg1 Dg1 pre x _ hrg1 ⟨a, c', hpl, rfl⟩ hpre
  try dsimp only at *
  have hpl2 := okK_len hpre
  rw [List.length_append] at hpl2
  simp only [List.length_cons, List.length_nil] at hpl2
  refine c_conv (L' := blk kg1 (.loop rg1) :: Dg1 :: stars [] :: blk b2 (.cells #[.slice a (pre).length c'] 54 (0, 0)) :: row e_Tag.T e_Tag.sz a (pre).length c' (flat e_Tag pre) :: (Lxg1 ++ F)) (fun w S => S.perm (rgPM Lxg1 [blk b2 (.cells #[.slice a (pre).length c'] 54 (0, 0)), row e_Tag.T e_Tag.sz a (pre).length c' (flat e_Tag pre)] F)) ?_
  refine c_region ?_
  refine o_alloc rfl ti32 fun b5 => ?_
  refine o_storen rfl rfl ti32 rfl rfl rfl rfl ?_
  refine l_nil ?_
  refine q_conv (fun w S => S.perm p5) ?_
  refine q_conv (fun w S => S.perm p5) ?_
  refine q_conv (fun w S => S.perm p5) ?_
  refine q_conv (fun w S => S.perm p5) ?_
  refine q_conv (fun w S => S.perm p4) ?_
  refine q_conv (fun w S => S.perm p5) ?_
  refine q_begin rfl hrg1 ?_
  refine c_block ?_
  refine c_region ?_
  refine o_load1 rfl rfl Try.underlying54 rfl (rd_mem 4 rfl rfl) ?_
  refine o_loadn (vs := [_, _, _, _]) rfl rfl Try.underlying32 rfl ti32 (rdn_lit 1 rfl rfl) ?_
  refine o_lit e_Tag_ok rfl Try.underlying54 rfl rfl rfl (lit_ok rfl) [x] rfl rfl fun a10 => ?_
  refine l_f6 ?_
  refine o_append e_Tag_ok rfl rfl rfl Try.underlying54 (rds_own e_Tag_ok 1 rfl) (by show (_ + _) * _ ≤ _; simp only [List.length_cons, List.length_nil]; omega) (by simp only [List.length_cons, List.length_nil]; omega) fun a11 c11 => ?_
  refine l_f1 ?_
  refine l_drop ?_
  refine l_f5 ?_
  refine o_store1 rfl rfl rfl ti54 rfl rfl ?_
  refine l_nil ?_
  refine q_block ?_
  refine q_conv (fun w S => (S.perm p3).tail) ?_
  refine q_conv (fun w S => (S.perm p4).tail) ?_
  refine q_conv (fun w S => S.perm p1) ?_
  refine q_conv (fun w S => S.perm p1) ?_
  refine q_conv (fun w S => S.perm p3) ?_
  refine q_conv (fun w S => S.perm p3) ?_
  exact q_roundOn (.inl ⟨rfl, _, ⟨a11, c11, by rw [List.length_append]; simpa using hpl2, rfl⟩, rfl⟩) (fun w S => S.perm (rgP Lxg1 [blk b2 (.cells #[.slice a11 (pre ++ [x]).length c11] 54 (0, 0)), row e_Tag.T e_Tag.sz a11 (pre ++ [x]).length c11 (flat e_Tag (pre ++ [x]))] F).symm)
 · -- all have come
  rintro dg1 xsg1 _ hdng1 ⟨a, c', hpl, rfl⟩
  try dsimp only at *
  refine q_block ?_
  refine q_then ?_
  refine c_seq ?_
  refine c_region ?_
  refine o_load1 rfl rfl Try.underlying54 rfl (rd_mem 3 rfl rfl) ?_
  refine o_assign rfl rfl ?_
  refine l_nil ?_
  refine q_then ?_
  refine c_ret ?_
  refine f_retMq [dg1] (.inl rfl) rfl (fun w S => S) (rs_1 rfl (rs_tmp rfl)) (fun w S => ?_)
  replace S := (S.perm p1).tail
  replace S := (S.perm p1).tail
  replace S := S.perm p1
  exact ⟨_, ⟨a, c', xsg1, hdng1, rfl, rfl⟩, (fun w S => S) w S⟩
 · -- a round has left
  exact fun _ _ _ h => h.elim
theorem collectT_ {W : World} {F : List Res} {b m : Nat} {D : List (Tag × Int)} (hD : D.length ≤ 1000000) : CS Try.prog 37 #[.func (.func 39) #[] #[.pointer (some ⟨b, 0, none⟩)]] W (mapR kvTag vvInt m D :: blk b (.cells #[.map (some m)] 62 (0, 0)) :: F) (fun r L' => ∃ (a' : Option Addr) (c' : Nat) (ps : List Tag), dnK D ps ∧ r = .slice a' ps.length c' ∧ L' = row e_Tag.T e_Tag.sz a' ps.length c' (flat e_Tag ps) :: mapR kvTag vvInt m D :: F) := by
 refine f_door (l0 := [(0, .func (.func 39) #[] #[.pointer (some ⟨b, 0, none⟩)])]) Try.func37 Try.ntmps37 rfl rfl rfl ?_
 refine c_seq ?_
 refine c_region ?_
 refine o_assign rfl rfl ?_
 refine l_nil ?_
 refine q_then ?_
 refine c_seq ?_
 refine c_region ?_
 refine o_move rfl rfl ?_
 refine l_f1 ?_
 refine l_f1 ?_
 refine o_call rfl cal45 rfl (appendSeqT_ (by omega)) ?_
 rintro _ _ ⟨a4, c4, ps4, hdn4, rfl, rfl⟩
 refine o_assign rfl rfl ?_
 refine l_nil ?_
 refine q_then ?_
 refine c_ret ?_
 exact f_ret (r_one rfl rfl) (⟨a4, c4, ps4, hdn4, rfl, rfl⟩) (fun w S => S)
end
section
set_option linter.unusedVariables false
set_option linter.unusedSimpArgs false
set_option maxRecDepth 10000
open Go.RowKit Classical
theorem nan_i64 {W : World} {F : List Res} {x : Int} : CS Try.prog 47 #[.int .i64 x] W (F) (fun r L' => r = .bool false ∧ F = L') := by
 refine f_door (l0 := [(0, .int .i64 x)]) Try.func47 Try.ntmps47 rfl rfl rfl ?_
 refine c_seq ?_
 refine c_region ?_
 refine o_assign rfl rfl ?_
 refine l_nil ?_
 refine q_then ?_
 refine c_seq ?_
 refine c_region ?_
 refine o_move rfl rfl ?_
 refine o_move rfl rfl ?_
 refine o_bin rfl rfl rfl b_neq ?_
 refine o_assign rfl rfl ?_
 refine l_nil ?_
 refine q_then ?_
 refine c_ret ?_
 exact f_ret (r_one rfl rfl) (⟨by simp, rfl⟩) (fun w S => S)
theorem cmp_i64 {W : World} {F : List Res} {x y : Int} : CS Try.prog 41 #[.int .i64 x, .int .i64 y] W (F) (fun r L' => r = .int .i64 (cmpI x y) ∧ F = L') := by
 refine f_door (l0 := [(0, .int .i64 x), (1, .int .i64 y)]) Try.func41 Try.ntmps41 rfl rfl rfl ?_
 refine c_seq ?_
 refine c_region ?_
 refine o_assign rfl rfl ?_
 refine l_nil ?_
 refine q_then ?_
 refine c_seq ?_
 refine c_region ?_
 refine o_move rfl rfl ?_
 refine o_call rfl cal47 rfl (nan_i64) ?_
 rintro _ _ ⟨rfl, rfl⟩
 refine o_assign rfl rfl ?_
 refine l_nil ?_
 refine q_then ?_
 refine c_seq ?_
 refine c_region ?_
 refine o_move rfl rfl ?_
 refine o_call rfl cal47 rfl (nan_i64) ?_
 rintro _ _ ⟨rfl, rfl⟩
 refine o_assign rfl rfl ?_
 refine l_nil ?_
 refine q_then ?_
 refine c_seq ?_
 refine c_seq ?_
 refine c_region ?_
 refine o_move rfl rfl ?_
 refine l_nil ?_
 refine q_then ?_
 refine c_false rfl ?_
 refine c_skip ?_
 refine q_then ?_
 refine c_seq ?_
 refine c_seq ?_
 refine c_region ?_
 refine o_move rfl rfl ?_
 refine l_nil ?_
 refine q_then ?_
 refine c_false rfl ?_
 refine c_skip ?_
 refine q_then ?_
 refine c_seq ?_
 refine c_seq ?_
 refine c_region ?_
 refine o_move rfl rfl ?_
 refine o_move rfl rfl ?_
 refine o_bin rfl rfl rfl b_lss ?_
 refine l_nil ?_
 refine q_then ?_
 refine c_cond rfl (fun h1 => ?_) (fun h1 => ?_)
 · -- h1T
  have h1b := h1
  try simp only [decide_eq_true_eq] at h1
  refine c_seq ?_
  refine c_region ?_
  refine o_assign rfl rfl ?_
  refine l_nil ?_
  refine q_then ?_
  refine c_ret ?_
  refine q_pass_ret ?_
  exact f_ret (r_one rfl rfl) (⟨by unfold cmpI; rw [if_pos (by omega)], rfl⟩) (fun w S => S)
 · -- h1F
  have h1b := h1
  try simp only [decide_eq_false_iff_not, Int.not_lt, Int.not_le] at h1
  refine c_skip ?_
  refine q_then ?_
  refine c_seq ?_
  refine c_seq ?_
  refine c_region ?_
  refine o_move rfl rfl ?_
  refine o_move rfl rfl ?_
  refine o_bin rfl rfl rfl b_gtr ?_
  refine l_nil ?_
  refine q_then ?_
  refine c_cond rfl (fun h2 => ?_) (fun h2 => ?_)
  · -- h2T
   have h2b := h2
   try simp only [decide_eq_true_eq] at h2
   refine c_seq ?_
   refine c_region ?_
   refine o_assign rfl rfl ?_
   refine l_nil ?_
   refine q_then ?_
   refine c_ret ?_
   refine q_pass_ret ?_
   exact f_ret (r_one rfl rfl) (⟨by unfold cmpI; rw [if_neg (by omega), if_pos (by omega)], rfl⟩) (fun w S => S)
  · -- h2F
   have h2b := h2
   try simp only [decide_eq_false_iff_not, Int.not_lt, Int.not_le] at h2
   refine c_skip ?_
   refine q_then ?_
   refine c_seq ?_
   refine c_region ?_
   refine o_assign rfl rfl ?_
   refine l_nil ?_
   refine q_then ?_
   refine c_ret ?_
   exact f_ret (r_one rfl rfl) (⟨by unfold cmpI; rw [if_neg (by omega), if_neg (by omega)], rfl⟩) (fun w S => S)
theorem nan_u64 {W : World} {F : List Res} {x : Int} : CS Try.prog 48 #[.int .u64 x] W (F) (fun r L' => r = .bool false ∧ F = L') := by
 refine f_door (l0 := [(0, .int .u64 x)]) Try.func48 Try.ntmps48 rfl rfl rfl ?_
 refine c_seq ?_
 refine c_region ?_
 refine o_assign rfl rfl ?_
 refine l_nil ?_
 refine q_then ?_
 refine c_seq ?_
 refine c_region ?_
 refine o_move rfl rfl ?_
 refine o_move rfl rfl ?_
 refine o_bin rfl rfl rfl b_neq ?_
 refine o_assign rfl rfl ?_
 refine l_nil ?_
 refine q_then ?_
 refine c_ret ?_
 exact f_ret (r_one rfl rfl) (⟨by simp, rfl⟩) (fun w S => S)
theorem cmp_u64 {W : World} {F : List Res} {x y : Int} : CS Try.prog 42 #[.int .u64 x, .int .u64 y] W (F) (fun r L' => r = .int .i64 (cmpI x y) ∧ F = L') := by
 refine f_door (l0 := [(0, .int .u64 x), (1, .int .u64 y)]) Try.func42 Try.ntmps42 rfl rfl rfl ?_
 refine c_seq ?_
 refine c_region ?_
 refine o_assign rfl rfl ?_
 refine l_nil ?_
 refine q_then ?_
 refine c_seq ?_
 refine c_region ?_
 refine o_move rfl rfl ?_
 refine o_call rfl cal48 rfl (nan_u64) ?_
 rintro _ _ ⟨rfl, rfl⟩
 refine o_assign rfl rfl ?_
 refine l_nil ?_
 refine q_then ?_
 refine c_seq ?_
 refine c_region ?_
 refine o_move rfl rfl ?_
 refine o_call rfl cal48 rfl (nan_u64) ?_
 rintro _ _ ⟨rfl, rfl⟩
 refine o_assign rfl rfl ?_
 refine l_nil ?_
 refine q_then ?_
 refine c_seq ?_
 refine c_seq ?_
 refine c_region ?_
 refine o_move rfl rfl ?_
 refine l_nil ?_
 refine q_then ?_
 refine c_false rfl ?_
 refine c_skip ?_
 refine q_then ?_
 refine c_seq ?_
 refine c_seq ?_
 refine c_region ?_
 refine o_move rfl rfl ?_
 refine l_nil ?_
 refine q_then ?_
 refine c_false rfl ?_
 refine c_skip ?_
 refine q_then ?_
 refine c_seq ?_
 refine c_seq ?_
 refine c_region ?_
 refine o_move rfl rfl ?_
 refine o_move rfl rfl ?_
 refine o_bin rfl rfl rfl b_lss ?_
 refine l_nil ?_
 refine q_then ?_
 refine c_cond rfl (fun h1 => ?_) (fun h1 => ?_)
 · -- h1T
  have h1b := h1
  try simp only [decide_eq_true_eq] at h1
  refine c_seq ?_
  refine c_region ?_
  refine o_assign rfl rfl ?_
  refine l_nil ?_
  refine q_then ?_
  refine c_ret ?_
  refine q_pass_ret ?_
  exact f_ret (r_one rfl rfl) (⟨by unfold cmpI; rw [if_pos (by omega)], rfl⟩) (fun w S => S)
 · -- h1F
  have h1b := h1
  try simp only [decide_eq_false_iff_not, Int.not_lt, Int.not_le] at h1
  refine c_skip ?_
  refine q_then ?_
  refine c_seq ?_
  refine c_seq ?_
  refine c_region ?_
  refine o_move rfl rfl ?_
  refine o_move rfl rfl ?_
  refine o_bin rfl rfl rfl b_gtr ?_
  refine l_nil ?_
  refine q_then ?_
  refine c_cond rfl (fun h2 => ?_) (fun h2 => ?_)
  · -- h2T
   have h2b := h2
   try simp only [decide_eq_true_eq] at h2
   refine c_seq ?_
   refine c_region ?_
   refine o_assign rfl rfl ?_
   refine l_nil ?_
   refine q_then ?_
   refine c_ret ?_
   refine q_pass_ret ?_
   exact f_ret (r_one rfl rfl) (⟨by unfold cmpI; rw [if_neg (by omega), if_pos (by omega)], rfl⟩) (fun w S => S)
  · -- h2F
   have h2b := h2
   try simp only [decide_eq_false_iff_not, Int.not_lt, Int.not_le] at h2
   refine c_skip ?_
   refine q_then ?_
   refine c_seq ?_
   refine c_region ?_
   refine o_assign rfl rfl ?_
   refine l_nil ?_
   refine q_then ?_
   refine c_ret ?_
   exact f_ret (r_one rfl rfl) (⟨by unfold cmpI; rw [if_neg (by omega), if_neg (by omega)], rfl⟩) (fun w S => S)
theorem or_ {W : World} {F : List Res} {xs : List Int} {a : Option Addr} {c : Nat} (hs : RdS W F e_I a xs) (hn : xs.length ≤ 9223372036854775807) : CS Try.prog 40 #[.slice a xs.length c] W (F) (fun r L' => r = .int .i64 (orI xs) ∧ F = L') := by
 refine f_door (l0 := [(0, .slice a xs.length c)]) Try.func40 Try.ntmps40 rfl rfl rfl ?_
 refine c_seq ?_
 refine c_region ?_
 refine o_assign rfl rfl ?_
 refine l_nil ?_
 refine q_then ?_
 refine c_seq ?_
 refine c_region ?_
 refine o_assign rfl rfl ?_
 refine l_nil ?_
 refine q_then ?_
 refine c_seq ?_
 refine c_seq ?_
 refine c_region ?_
 refine o_move rfl rfl ?_
 refine o_len rfl rfl Try.underlying66 ?_
 refine o_move rfl rfl ?_
 refine l_nil ?_
 refine q_then ?_
 refine c_block ?_
 refine c_loop (α := Nat) (fun z => [(3, .int .i64 0), (6, .slice a (xs).length c), (7, .int .i64 ((xs).length : Int)), (8, .int .i64 (z : Int))]) (fun z => F) (fun z => z ≤ xs.length ∧ orI xs = orI (xs.drop z)) (fun z => xs.length - z) (0) (by exact ⟨Nat.zero_le _, rfl⟩) ⟨(by first | rfl | exact vint (by omega)), (by first | rfl | exact vint (by omega)), (by first | rfl | exact vint (by omega)), (by first | rfl | exact vint (by omega)), trivial⟩ (fun w S => S) ?_
 rintro i ⟨hi, hor⟩
 try dsimp only at *
 refine c_seq ?_
 refine c_region ?_
 refine o_bin rfl rfl rfl b_lss ?_
 refine l_nil ?_
 refine q_then ?_
 refine c_seq ?_
 refine c_cond rfl (fun h1 => ?_) (fun h1 => ?_)
 · -- h1T
  have h1b := h1
  try simp only [decide_eq_true_eq] at h1
  refine c_skip ?_
  refine q_then ?_
  refine c_seq ?_
  refine c_block ?_
  refine c_seq ?_
  refine c_region ?_
  refine o_index e_I_ok rfl rfl rfl Try.underlying66 (by omega) (by omega) hs fun ad10 ead10 => ?_
  obtain ⟨x10, hx10⟩ : ∃ x, (xs)[((i : Int)).toNat]? = some x := ⟨_, List.getElem?_eq_getElem (by omega)⟩
  refine o_load1 rfl rfl Try.underlying3 rfl (rd_sl0 e_I_ok ead10 hs hx10 rfl) ?_
  refine o_assign rfl rfl ?_
  refine l_nil ?_
  refine q_then ?_
  refine c_seq ?_
  refine c_region ?_
  refine o_move rfl rfl ?_
  refine o_move rfl rfl ?_
  refine o_bin rfl rfl rfl b_neq ?_
  refine l_nil ?_
  refine q_then ?_
  refine c_cond rfl (fun h2 => ?_) (fun h2 => ?_)
  · -- h2T
   have h2b := h2
   try simp only [Bool.not_eq_true', decide_eq_false_iff_not, Int.not_lt, Int.not_le] at h2
   refine c_seq ?_
   refine c_region ?_
   refine o_move rfl rfl ?_
   refine o_assign rfl rfl ?_
   refine l_nil ?_
   refine q_then ?_
   refine c_ret ?_
   refine q_block_ret ?_
   refine q_pass_ret ?_
   refine q_pass_ret ?_
   refine q_block_ret ?_
   refine q_pass_ret ?_
   exact f_ret (r_one rfl rfl) (⟨by rw [hor, orI_at hx10 (by assumption)], rfl⟩) (fun w S => S)
  · -- h2F
   have h2b := h2
   try simp only [Bool.not_eq_false', decide_eq_true_eq] at h2
   refine c_skip ?_
   refine q_block ?_
   refine q_then ?_
   refine c_region ?_
   refine o_bin rfl rfl rfl (b_add (wrap_i64 (by omega) (by omega))) ?_
   refine o_move rfl rfl ?_
   refine l_nil ?_
   exact q_round (i + 1) (by exact ⟨by omega, by rw [hor]; exact orI_on (by have e0 : x10 = 0 := (by omega); rw [← e0]; exact hx10)⟩) (by (try dsimp only); omega) ⟨(by first | rfl | exact vint (by omega)), (by first | rfl | exact vint (by omega)), (by first | rfl | exact vint (by omega)), (by first | rfl | exact vint (by omega)), trivial⟩ (fun w S => S)
 · -- h1F
  have h1b := h1
  try simp only [decide_eq_false_iff_not, Int.not_lt, Int.not_le] at h1
  refine c_exit ?_
  refine q_pass_exit ?_
  refine q_pass_exit ?_
  refine q_hit ?_
  refine q_then ?_
  refine c_seq ?_
  refine c_region ?_
  refine o_move rfl rfl ?_
  refine o_assign rfl rfl ?_
  refine l_nil ?_
  refine q_then ?_
  refine c_ret ?_
  exact f_ret (r_one rfl rfl) (⟨by rw [hor, List.drop_of_length_le (by omega)]; rfl, rfl⟩) (fun w S => S)
set_option maxHeartbeats 2000000 in
theorem compare_ {W : World} {F : List Res} {x y : Tag} : CS Try.prog 33 #[.agg #[.int .i64 x.f_Id_Node, .int .u64 x.f_Id_Epoch, .int .u64 x.f_Id_Seq, .int .i64 x.f_Try], .agg #[.int .i64 y.f_Id_Node, .int .u64 y.f_Id_Epoch, .int .u64 y.f_Id_Seq, .int .i64 y.f_Try]] W (F) (fun r L' => r = .int .i64 (cmpT x y) ∧ F = L') := by
 refine f_door (l0 := [(0, .agg #[.int .i64 x.f_Id_Node, .int .u64 x.f_Id_Epoch, .int .u64 x.f_Id_Seq, .int .i64 x.f_Try]), (1, .agg #[.int .i64 y.f_Id_Node, .int .u64 y.f_Id_Epoch, .int .u64 y.f_Id_Seq, .int .i64 y.f_Try])]) Try.func33 Try.ntmps33 rfl rfl rfl ?_
 refine c_seq ?_
 refine c_region ?_
 refine o_box rfl rfl fun b2 => ?_
 refine o_box rfl rfl fun b3 => ?_
 refine o_assign rfl rfl ?_
 refine l_nil ?_
 refine q_then ?_
 refine c_seq ?_
 refine c_held [blk b3 (.cells #[.int .i64 y.f_Id_Node, .int .u64 y.f_Id_Epoch, .int .u64 y.f_Id_Seq, .int .i64 y.f_Try] 32 (0, 0)), blk b2 (.cells #[.int .i64 x.f_Id_Node, .int .u64 x.f_Id_Epoch, .int .u64 x.f_Id_Seq, .int .i64 x.f_Try] 32 (0, 0))] (by kernel_rfl) rfl ?_
 refine h_take 0 rfl rfl (by kernel_rfl) (by kernel_rfl) (by kernel_rfl) (fun L0 => v_fieldAddr (q := ⟨b2, 0, none⟩) rfl rfl Try.underlying32 rfl ti30 rfl) ?_
 refine h_take 1 rfl rfl (by kernel_rfl) (by kernel_rfl) (by kernel_rfl) (fun L0 => v_fieldAddr (q := ⟨b2, 0, none⟩) rfl rfl Try.underlying30 rfl ti3 rfl) ?_
 refine h_take 2 rfl rfl (by kernel_rfl) (by kernel_rfl) (by kernel_rfl) (fun L0 => v_load1 rfl rfl Try.underlying3 rfl (rd_mem 1 rfl rfl)) ?_
 refine h_take 3 rfl rfl (by kernel_rfl) (by kernel_rfl) (by kernel_rfl) (fun L0 => v_fieldAddr (q := ⟨b3, 0, none⟩) rfl rfl Try.underlying32 rfl ti30 rfl) ?_
 refine h_take 4 rfl rfl (by kernel_rfl) (by kernel_rfl) (by kernel_rfl) (fun L0 => v_fieldAddr (q := ⟨b3, 0, none⟩) rfl rfl Try.underlying30 rfl ti3 rfl) ?_
 refine h_take 5 rfl rfl (by kernel_rfl) (by kernel_rfl) (by kernel_rfl) (fun L0 => v_load1 rfl rfl Try.underlying3 rfl (rd_mem 0 rfl rfl)) ?_
 refine h_take 7 rfl rfl (by kernel_rfl) (by kernel_rfl) (by kernel_rfl) (fun L0 => v_fieldAddr (q := ⟨b2, 0, none⟩) rfl rfl Try.underlying32 rfl ti30 rfl) ?_
 refine h_take 8 rfl rfl (by kernel_rfl) (by kernel_rfl) (by kernel_rfl) (fun L0 => v_fieldAddr (q := ⟨b2, 1, none⟩) rfl rfl Try.underlying30 rfl ti28 rfl) ?_
 refine h_take 9 rfl rfl (by kernel_rfl) (by kernel_rfl) (by kernel_rfl) (fun L0 => v_load1 rfl rfl Try.underlying28 rfl (rd_mem 1 rfl rfl)) ?_
 refine h_take 10 rfl rfl (by kernel_rfl) (by kernel_rfl) (by kernel_rfl) (fun L0 => v_fieldAddr (q := ⟨b3, 0, none⟩) rfl rfl Try.underlying32 rfl ti30 rfl) ?_
 refine h_take 11 rfl rfl (by kernel_rfl) (by kernel_rfl) (by kernel_rfl) (fun L0 => v_fieldAddr (q := ⟨b3, 1, none⟩) rfl rfl Try.underlying30 rfl ti28 rfl) ?_
 refine h_take 12 rfl rfl (by kernel_rfl) (by kernel_rfl) (by kernel_rfl) (fun L0 => v_load1 rfl rfl Try.underlying28 rfl (rd_mem 0 rfl rfl)) ?_
 refine h_take 14 rfl rfl (by kernel_rfl) (by kernel_rfl) (by kernel_rfl) (fun L0 => v_fieldAddr (q := ⟨b2, 0, none⟩) rfl rfl Try.underlying32 rfl ti30 rfl) ?_
 refine h_take 15 rfl rfl (by kernel_rfl) (by kernel_rfl) (by kernel_rfl) (fun L0 => v_fieldAddr (q := ⟨b2, 2, none⟩) rfl rfl Try.underlying30 rfl ti28 rfl) ?_
 refine h_take 16 rfl rfl (by kernel_rfl) (by kernel_rfl) (by kernel_rfl) (fun L0 => v_load1 rfl rfl Try.underlying28 rfl (rd_mem 1 rfl rfl)) ?_
 refine h_take 17 rfl rfl (by kernel_rfl) (by kernel_rfl) (by kernel_rfl) (fun L0 => v_fieldAddr (q := ⟨b3, 0, none⟩) rfl rfl Try.underlying32 rfl ti30 rfl) ?_
 refine h_take 18 rfl rfl (by kernel_rfl) (by kernel_rfl) (by kernel_rfl) (fun L0 => v_fieldAddr (q := ⟨b3, 2, none⟩) rfl rfl Try.underlying30 rfl ti28 rfl) ?_
 refine h_take 19 rfl rfl (by kernel_rfl) (by kernel_rfl) (by kernel_rfl) (fun L0 => v_load1 rfl rfl Try.underlying28 rfl (rd_mem 0 rfl rfl)) ?_
 refine h_take 21 rfl rfl (by kernel_rfl) (by kernel_rfl) (by kernel_rfl) (fun L0 => v_fieldAddr (q := ⟨b2, 3, none⟩) rfl rfl Try.underlying32 rfl ti3 rfl) ?_
 refine h_take 22 rfl rfl (by kernel_rfl) (by kernel_rfl) (by kernel_rfl) (fun L0 => v_load1 rfl rfl Try.underlying3 rfl (rd_mem 1 rfl rfl)) ?_
 refine h_take 23 rfl rfl (by kernel_rfl) (by kernel_rfl) (by kernel_rfl) (fun L0 => v_fieldAddr (q := ⟨b3, 3, none⟩) rfl rfl Try.underlying32 rfl ti3 rfl) ?_
 refine h_take 24 rfl rfl (by kernel_rfl) (by kernel_rfl) (by kernel_rfl) (fun L0 => v_load1 rfl rfl Try.underlying3 rfl (rd_mem 0 rfl rfl)) ?_
 refine h_one 6 rfl (by kernel_rfl) ?_
 refine o_call rfl cal41 rfl (cmp_i64 (x := x.f_Id_Node) (y := y.f_Id_Node)) ?_
 rintro _ _ ⟨rfl, rfl⟩
 refine l_nil ?_
 refine h_next ?_
 refine h_one 13 rfl (by kernel_rfl) ?_
 refine o_call rfl cal42 rfl (cmp_u64 (x := x.f_Id_Epoch) (y := y.f_Id_Epoch)) ?_
 rintro _ _ ⟨rfl, rfl⟩
 refine l_nil ?_
 refine h_next ?_
 refine h_one 20 rfl (by kernel_rfl) ?_
 refine o_call rfl cal42 rfl (cmp_u64 (x := x.f_Id_Seq) (y := y.f_Id_Seq)) ?_
 rintro _ _ ⟨rfl, rfl⟩
 refine l_nil ?_
 refine h_next ?_
 refine h_one 25 rfl (by kernel_rfl) ?_
 refine o_call rfl cal41 rfl (cmp_i64 (x := x.f_Try) (y := y.f_Try)) ?_
 rintro _ _ ⟨rfl, rfl⟩
 refine l_nil ?_
 refine h_next ?_
 refine h_one 26 rfl (by kernel_rfl) ?_
 refine o_lit e_I_ok rfl Try.underlying66 rfl rfl rfl (lit_ok rfl) [cmpI x.f_Id_Node y.f_Id_Node, cmpI x.f_Id_Epoch y.f_Id_Epoch, cmpI x.f_Id_Seq y.f_Id_Seq, cmpI x.f_Try y.f_Try] rfl rfl fun a31 => ?_
 refine l_nil ?_
 refine q_conv (fun w S => S.perm p2) ?_
 refine q_conv (fun w S => S.perm p2) ?_
 refine h_next ?_
 refine h_more [row e_I.T e_I.sz a31 ([cmpI x.f_Id_Node y.f_Id_Node, cmpI x.f_Id_Epoch y.f_Id_Epoch, cmpI x.f_Id_Seq y.f_Id_Seq, cmpI x.f_Try y.f_Try]).length 4 (flat e_I [cmpI x.f_Id_Node y.f_Id_Node, cmpI x.f_Id_Epoch y.f_Id_Epoch, cmpI x.f_Id_Seq y.f_Id_Seq, cmpI x.f_Try y.f_Try])] rfl ?_
 refine h_one 27 rfl (by kernel_rfl) ?_
 refine o_call rfl cal40 rfl (or_ (rds_own e_I_ok 2 rfl) (by simp)) ?_
 rintro _ _ ⟨rfl, rfl⟩
 refine l_nil ?_
 refine h_next ?_
 refine h_take 28 rfl rfl (by kernel_rfl) (by kernel_rfl) (by kernel_rfl) (fun L0 => v_assign rfl rfl) ?_
 refine h_done (by kernel_rfl) ?_
 refine q_then ?_
 refine c_ret ?_
 refine q_conv (fun w S => S.tail) ?_
 refine q_conv (fun w S => S.tail) ?_
 refine q_conv (fun w S => S.tail) ?_
 exact f_ret (r_one rfl rfl) (⟨rfl, rfl⟩) (fun w S => S)
end
section
set_option linter.unusedVariables false
set_option linter.unusedSimpArgs false
open Go.RowKit Classical
open Go.Sort (flatK HoldsK size_flatK)
section
variable {P : Program} {W w : World} {L : List Res} {α : Type}
/-- The world behind a run that has left the heap's old part as9 it was. -/
theorem grow_of {w w' : World} (S : Sat w w' []) : ∃ q os', w' = Go.Sort.grow (w.drewN q) os' := by
  refine ⟨w'.drawn - w.drawn, w'.heap.extract w.heap.size w'.heap.size, ?_⟩
  have hb := S.below
  have hd := S.dr
  have hh : w'.heap = w.heap ++ w'.heap.extract w.heap.size w'.heap.size := by
    apply Array.ext_getElem?
    intro i
    by_cases hi : i < w.heap.size
    · rw [Array.getElem?_append_left hi]; exact hb.block i hi
    · rw [Array.getElem?_append_right (by omega), Array.getElem?_extract]
      have hs := hb.size
      by_cases h2 : i < w'.heap.size
      · rw [if_pos (by omega)]
        congr 1; omega
      · rw [if_neg (by omega), Array.getElem?_eq_none (by omega)]
  obtain ⟨h1, h2, h3, h4, h5⟩ := w'
  simp only [Go.Sort.grow, World.drewN]
  congr 1
  · exact hb.tape
  · show h3 = w.drawn + (h3 - w.drawn)
    have : w.drawn ≤ h3 := hd
    omega
  · exact hb.os
  · exact hb.output
end
section
variable {P : Program} {W w : World} {L : List Res} {α : Type} [Inhabited α]
theorem flatK_flat {e : Enc α} {k : Nat} (hk : ∀ x, (e.cells x).length = k) (hk0 : 0 < k) (xs : List α) : (flatK e.cells k xs.toArray).toList = flat e xs := by
  have h : (flatK e.cells k xs.toArray).toList = (List.range (xs.length * k)).map fun t => (e.cells (xs[t / k]!))[t % k]! := by
    simp [flatK]
  rw [h]
  clear h
  induction xs with
  | nil => simp [flat]
  | cons x xs ih =>
    have e1 : (x :: xs).length * k = k + xs.length * k := by rw [List.length_cons, Nat.add_mul, Nat.one_mul, Nat.add_comm]
    rw [e1, List.range_add, List.map_append, List.map_map]
    have e2 : flat e (x :: xs) = e.cells x ++ flat e xs := by simp [flat]
    rw [e2]
    congr 1
    · apply List.ext_getElem?
      intro i
      rw [List.getElem?_map]
      by_cases hi : i < k
      · rw [List.getElem?_range hi]
        simp only [Option.map_some, Nat.div_eq_of_lt hi, Nat.mod_eq_of_lt hi]
        rw [List.getElem?_eq_getElem (by rw [hk]; exact hi)]
        simp [getElem!_pos, hk, hi]
      · rw [List.getElem?_eq_none (by simpa using hi), List.getElem?_eq_none (by rw [hk]; omega)]; rfl
    · rw [← ih]
      refine List.map_congr_left fun t _ => ?_
      simp only [Function.comp, Nat.add_mod_left]
      rw [Nat.add_div_left _ hk0]
      simp
theorem sat_holdsK {e : Enc α} {k c g : Nat} (hk : ∀ x, (e.cells x).length = k) (hk0 : 0 < k) {ys : List α} (S : Sat W w (row e.T k (some ⟨g, 0, none⟩) ys.length c (flat e ys) :: L)) : HoldsK e.cells k w g 0 ys.toArray := fun j hj => by
  have hf := flatK_flat hk hk0 ys
  have hj' : j < (flat e ys).length := by rw [← hf, Array.length_toList]; exact hj
  refine ⟨?_, by rw [Nat.zero_add]; exact S.own_frozen j⟩
  rw [Nat.zero_add]
  refine S.own_cell j _ ?_
  rw [← hf, Array.getElem?_toList, getElem!_pos _ j hj, Array.getElem?_eq_getElem hj]; rfl
theorem Sat.sortRowK {T k c n g q : Nat} {F : Array Value} {cs : List Value} {os : Array Obj} (S : Sat W w (row T k (some ⟨g, 0, none⟩) n c cs :: L)) (hn : F.size = n * k) :
    Sat W (Go.Sort.grow (Go.Sort.putRow id (Go.Sort.ahead w q) g 0 F) os) (row T k (some ⟨g, 0, none⟩) n c F.toList :: L) := by
  obtain ⟨hl, ⟨h, _⟩ | ⟨g', cur, he, h2, h3, h4, h5, S'⟩⟩ := S.own_cases
  · cases h
  · cases he
    have hg := (Array.getElem?_eq_some_iff.1 S'.read.2).1
    have S1 : Sat W (Go.Sort.putRow id (Go.Sort.ahead w q) g 0 F) (blk g (.cells (Go.Sort.putCells id 0 F cur) T (0, 0)) :: L) :=
      S'.turn rfl rfl rfl (by simp [Go.Sort.putRow, Go.Sort.mapBlock, Go.Sort.ahead]) (by
        simp only [Go.Sort.putRow, Go.Sort.mapBlock, Go.Sort.ahead, Array.getElem?_modify, if_true]
        rw [S'.read.2]; rfl) (fun j hj => by
        simp only [Go.Sort.putRow, Go.Sort.mapBlock, Go.Sort.ahead, Array.getElem?_modify]
        rw [if_neg (Ne.symm hj)]) (by show w.drawn ≤ w.drawn + _; omega)
    have S2 := S1.more (w' := Go.Sort.grow (Go.Sort.putRow id (Go.Sort.ahead w q) g 0 F) os) ⟨rfl, rfl, rfl, by simp [Go.Sort.grow], fun k hk => Go.Sort.heap_grow_old _ _ hk⟩
    refine S2.own_mk h2 h3 (by simpa [Go.Sort.putCells] using h4) ?_
    have hle : n * k ≤ c * k := Nat.mul_le_mul_right _ h2
    have hsz : n * k ≤ cur.size := by omega
    apply List.ext_getElem?
    intro i
    rw [List.getElem?_take]
    by_cases hi : i < n * k
    · rw [if_pos hi]
      simp only [Go.Sort.putCells, Array.getElem?_toList, Array.getElem?_mapIdx]
      rw [Array.getElem?_eq_getElem (by omega : i < cur.size)]
      simp only [Option.map_some]
      rw [if_pos ⟨by omega, by omega⟩, Nat.sub_zero, getElem!_pos F i (by omega), Array.getElem?_eq_getElem (by omega)]
      rfl
    · rw [if_neg hi, Array.getElem?_toList, Array.getElem?_eq_none (by omega)]
/-- slices.SortFunc on an owned row. -/
theorem cs_sortF {f g : FuncId} {e : Enc α} {k : Nat} {cf : α → α → Int} (hz : e.sz = k) (hk : ∀ x, (e.cells x).length = k) (hk0 : 0 < k)
    (h : ∀ (blk off cap : Nat) (d : Array α) (w : World), HoldsK e.cells k w blk off d → blk < w.heap.size → d.size < 4611686018427387904 →
      Calls P f #[.slice (some ⟨blk, off, none⟩) d.size cap, .func (.func g) #[] #[]] w fun x w' => x = .returned (.tuple #[]) ∧ ∃ d' n os, Go.Sort.PermIn 0 d.size d d' ∧ Go.Sort.SortedIn (ltOf cf) 0 d.size d' ∧ w' = sortWorldK e.cells k w blk off n d' os)
    (h0 : ∀ (p : Option Addr) (cap : Nat) (w : World), Calls P f #[.slice p 0 cap, .func (.func g) #[] #[]] w fun x w' => x = .returned (.tuple #[]) ∧ w' = w)
    {a : Option Addr} {c : Nat} {xs : List α} (hl : xs.length < 4611686018427387904) :
    CS P f #[.slice a xs.length c, .func (.func g) #[] #[]] W (row e.T e.sz a xs.length c (flat e xs) :: L) fun v L' => ∃ ys, ys.Perm xs ∧ ys.Pairwise (fun a b => ltOf cf b a = false) ∧ v = .tuple #[] ∧ L' = row e.T e.sz a ys.length c (flat e ys) :: L := fun w S => by
  rw [hz] at S ⊢
  rcases S.row_where with rfl | ⟨g, rfl⟩
  · obtain ⟨hn, rfl⟩ := S.row_nil
    have hx : xs = [] := List.eq_nil_of_length_eq_zero hn
    subst hx
    refine (h0 none 0 w).mono ?_
    rintro e' w' ⟨rfl, rfl⟩
    exact ⟨_, _, rfl, ⟨[], List.Perm.refl _, List.Pairwise.nil, rfl, rfl⟩, S⟩
  · have h1 := h g 0 c xs.toArray w (sat_holdsK hk hk0 S) S.row_lt (by simpa using hl)
    rw [List.size_toArray] at h1
    refine h1.mono ?_
    rintro e' w' ⟨rfl, d', n, os, hp, hs, rfl⟩
    have hsz : d'.size = xs.length := by simpa using hp.1
    have hp2 : d'.toList.Perm xs := by
      have h3 := hp.2.2
      rw [Array.extract_eq_self_of_le (by omega), Array.extract_eq_self_of_le (by simp)] at h3
      simpa using h3
    refine ⟨_, _, rfl, ⟨d'.toList, hp2, ?_, rfl, rfl⟩, ?_⟩
    · rw [List.pairwise_iff_getElem]
      intro i j hi hj hij
      have := hs i j (Nat.zero_le _) hij (by rw [Array.length_toList] at hj; omega)
      rw [Array.length_toList] at hi hj
      rw [getElem!_pos d' j hj, getElem!_pos d' i hi] at this
      simpa using this
    · have S3 := S.sortRowK (q := n) (os := os) (F := flatK e.cells k d') (by rw [size_flatK, hsz])
      have hf := flatK_flat hk hk0 d'.toList
      rw [Array.toArray_toList] at hf
      rw [hf] at S3
      rw [Array.length_toList, hsz]
      exact S3
end
end
section
set_option linter.unusedVariables false
open Go.Shelf Go.RowKit
def layTag_ren : Go.Shelf.Ren := ⟨fun | 6 => 38 | 15 => 44 | 14 => 46 | 28 => 58 | 29 => 59 | 20 => 60 | 21 => 61 | 22 => 62 | 23 => 63 | 24 => 64 | 25 => 65 | 26 => 66 | 27 => 67 | 46 => 73 | 47 => 69 | 48 => 70 | 49 => 74 | 50 => 75 | 57 => 77 | n => n, fun | 22 => 54 | 24 => 32 | 25 => 73 | 3 => 3 | 39 => 87 | 0 => 0 | 53 => 102 | 55 => 28 | 4 => 4 | 46 => 94 | 45 => 93 | 50 => 99 | 5 => 5 | 9 => 9 | 66 => 109 | 70 => 113 | 76 => 117 | 77 => 118 | n => n, fun | n => n⟩
theorem layTag : Go.Proofs.SlLaysF0.n6 Try.prog layTag_ren := {
  mixed := by kernel_rfl
  f6 := ⟨Try.f38.name, by decide, Try.func38.trans (congrArg some (by kernel_rfl))⟩
  f14 := ⟨Try.f46.name, by decide, Try.func46.trans (congrArg some (by kernel_rfl))⟩
  f15 := Try.func44.trans (congrArg some (by kernel_rfl))
  f20 := ⟨Try.f60.name, by decide, Try.func60.trans (congrArg some (by kernel_rfl))⟩
  f21 := ⟨Try.f61.name, by decide, Try.func61.trans (congrArg some (by kernel_rfl))⟩
  f22 := ⟨Try.f62.name, by decide, Try.func62.trans (congrArg some (by kernel_rfl))⟩
  f23 := ⟨Try.f63.name, by decide, Try.func63.trans (congrArg some (by kernel_rfl))⟩
  f24 := ⟨Try.f64.name, by decide, Try.func64.trans (congrArg some (by kernel_rfl))⟩
  f25 := ⟨Try.f65.name, by decide, Try.func65.trans (congrArg some (by kernel_rfl))⟩
  f26 := ⟨Try.f66.name, by decide, Try.func66.trans (congrArg some (by kernel_rfl))⟩
  f27 := ⟨Try.f67.name, by decide, Try.func67.trans (congrArg some (by kernel_rfl))⟩
  f28 := Try.func58.trans (congrArg some (by kernel_rfl))
  f29 := Try.func59.trans (congrArg some (by kernel_rfl))
  f46 := ⟨Try.f73.name, by decide, Try.func73.trans (congrArg some (by kernel_rfl))⟩
  f47 := Try.func69.trans (congrArg some (by kernel_rfl))
  f48 := Try.func70.trans (congrArg some (by kernel_rfl))
  f49 := ⟨Try.f74.name, by decide, Try.func74.trans (congrArg some (by kernel_rfl))⟩
  f50 := ⟨Try.f75.name, by decide, Try.func75.trans (congrArg some (by kernel_rfl))⟩
  f57 := ⟨Try.f77.name, by decide, Try.func77.trans (congrArg some (by kernel_rfl))⟩
  t0 := Try.underlying0
  a0 := Try.isAgg0
  z0 := Try.sizeOf0
  v0 := Try.zeroValue0
  t3 := Try.underlying3
  a3 := Try.isAgg3
  z3 := Try.sizeOf3
  v3 := Try.zeroValue3
  t4 := Try.underlying4
  a4 := Try.isAgg4
  z4 := Try.sizeOf4
  v4 := Try.zeroValue4
  t5 := Try.underlying5
  a5 := Try.isAgg5
  z5 := Try.sizeOf5
  v5 := Try.zeroValue5
  t9 := Try.underlying9
  a9 := Try.isAgg9
  z9 := Try.sizeOf9
  v9 := Try.zeroValue9
  t22 := Try.underlying54
  a22 := Try.isAgg54
  z22 := Try.sizeOf54
  v22 := Try.zeroValue54
  t25 := Try.underlying73
  a25 := Try.isAgg73
  z25 := Try.sizeOf73
  v25 := Try.zeroValue73
  t39 := Try.underlying87
  a39 := Try.isAgg87
  z39 := Try.sizeOf87
  v39 := Try.zeroValue87
  t45 := Try.underlying93
  a45 := Try.isAgg93
  z45 := Try.sizeOf93
  v45 := Try.zeroValue93
  t46 := Try.underlying94
  a46 := Try.isAgg94
  z46 := Try.sizeOf94
  v46 := Try.zeroValue94
  t50 := Try.underlying99
  a50 := Try.isAgg99
  z50 := Try.sizeOf99
  v50 := Try.zeroValue99
  t53 := Try.underlying102
  a53 := Try.isAgg102
  z53 := Try.sizeOf102
  v53 := Try.zeroValue102
  t55 := Try.underlying28
  a55 := Try.isAgg28
  z55 := Try.sizeOf28
  v55 := Try.zeroValue28
  t66 := Try.underlying109
  a66 := Try.isAgg109
  z66 := Try.sizeOf109
  v66 := Try.zeroValue109
  t70 := Try.underlying113
  a70 := Try.isAgg113
  z70 := Try.sizeOf113
  v70 := Try.zeroValue113
  t76 := Try.underlying117
  a76 := Try.isAgg117
  z76 := Try.sizeOf117
  v76 := Try.zeroValue117
  t77 := Try.underlying118
  a77 := Try.isAgg118
  z77 := Try.sizeOf118
  v77 := Try.zeroValue118 }
end
section
set_option linter.unusedVariables false
set_option linter.unusedSimpArgs false
set_option maxRecDepth 10000
open Go.RowKit Classical
theorem cmpLays (blk off size : Nat) (w : World) : CmpLays Try.prog 33 #[] e_Tag.cells 4 cmpT blk off size w := fun m os dk _ x y => by
  have h := compare_ (W := sortWorldK e_Tag.cells 4 w blk off m dk os) (F := []) (x := x) (y := y) _ (Sat.start _)
  refine h.mono ?_
  rintro e w' ⟨v, L', rfl, ⟨rfl, rfl⟩, S⟩
  exact ⟨rfl, grow_of S⟩
theorem sortT {W : World} {L : List Res} {a : Option Addr} {c : Nat} {xs : List Tag} (hl : xs.length < 4611686018427387904) :
    CS Try.prog 38 #[.slice a xs.length c, .func (.func 33) #[] #[]] W (row e_Tag.T e_Tag.sz a xs.length c (flat e_Tag xs) :: L) fun v L' => ∃ ys, ys.Perm xs ∧ ys.Pairwise (fun a b => Go.Proofs.ltOf cmpT b a = false) ∧ v = .tuple #[] ∧ L' = row e_Tag.T e_Tag.sz a ys.length c (flat e_Tag ys) :: L :=
  cs_sortF (k := 4) rfl (fun _ => rfl) (by decide) (fun blk off cap d w hH hb hd => AnyQ.slices_SortFunc layTag 4 (fun w => run_isAgg Try.underlying32 w) (fun w => run_sizeOf' ti32 w) e_Tag.cells (fun _ => rfl) (fun x v hv => by simp at hv; rcases hv with rfl | rfl | rfl | rfl <;> rfl) cmpT tlt_swo 33 #[] blk off cap d w (enters_of Try.func33 (by kernel_rfl) rfl) (cmpLays blk off d.size w) hH hb hd) (fun p cap w => AnyF.slices_SortFunc_none layTag p cap _ w) hl
theorem sortedT_ {W : World} {F : List Res} {b m : Nat} {D : List (Tag × Int)} (hD : D.length ≤ 1000000) : CS Try.prog 31 #[.func (.func 39) #[] #[.pointer (some ⟨b, 0, none⟩)], .func (.func 33) #[] #[]] W (mapR kvTag vvInt m D :: blk b (.cells #[.map (some m)] 62 (0, 0)) :: F) (fun r L' => ∃ (a' : Option Addr) (c' : Nat) (ys : List Tag), ys.Perm (D.map Prod.fst) ∧ ys.Pairwise (fun a b => Go.Proofs.ltOf cmpT b a = false) ∧ r = .slice a' ys.length c' ∧ L' = row e_Tag.T e_Tag.sz a' ys.length c' (flat e_Tag ys) :: mapR kvTag vvInt m D :: F) := by
 refine f_door (l0 := [(0, .func (.func 39) #[] #[.pointer (some ⟨b, 0, none⟩)]), (1, .func (.func 33) #[] #[])]) Try.func31 Try.ntmps31 rfl rfl rfl ?_
 refine c_seq ?_
 refine c_region ?_
 refine o_assign rfl rfl ?_
 refine l_nil ?_
 refine q_then ?_
 refine c_seq ?_
 refine c_region ?_
 refine o_move rfl rfl ?_
 refine l_f1 ?_
 refine l_f1 ?_
 refine o_call rfl cal37 rfl (collectT_ (by omega)) ?_
 rintro _ _ ⟨a7, c7, ps7, hdn7, rfl, rfl⟩
 refine o_assign rfl rfl ?_
 refine l_nil ?_
 refine q_then ?_
 refine c_seq ?_
 refine c_region ?_
 refine o_move rfl rfl ?_
 refine o_move rfl rfl ?_
 refine o_call rfl cal38 rfl (sortT (a := a7) (c := c7) (xs := ps7) (by have h9 := (dnK_perm hdn7).length_eq; simp only [List.length_map] at h9; omega)) ?_
 rintro _ _ ⟨ys10, hp10, hs10, rfl, rfl⟩
 have hl10 := hp10.length_eq
 refine l_eq (t := 7) (v' := .slice a7 (ys10).length c7) rfl (by rw [hl10]) ?_
 refine l_eq (t := 5) (v' := .slice a7 (ys10).length c7) rfl (by rw [hl10]) ?_
 refine l_eq (t := 8) (v' := .slice a7 (ys10).length c7) rfl (by rw [hl10]) ?_
 refine l_nil ?_
 refine q_then ?_
 refine c_seq ?_
 refine c_region ?_
 refine o_move rfl rfl ?_
 refine o_assign rfl rfl ?_
 refine l_nil ?_
 refine q_then ?_
 refine c_ret ?_
 exact f_ret (r_one rfl rfl) (⟨a7, c7, ys10, hp10.trans (dnK_perm hdn7), hs10, rfl, rfl⟩) (fun w S => S)
theorem ftags_ {W : World} {F : List Res} {k : Nat} {s : FS} (hD : s.seen.length ≤ 1000000) : CS Try.prog 22 #[.pointer (some ⟨k, 0, none⟩)] W (FltR k s :: F) (fun r L' => ∃ (a' : Option Addr) (c' : Nat) (ys : List Tag), ys.Perm (s.seen.map Prod.fst) ∧ ys.Pairwise (fun a b => Go.Proofs.ltOf cmpT b a = false) ∧ r = .slice a' ys.length c' ∧ L' = row e_Tag.T e_Tag.sz a' ys.length c' (flat e_Tag ys) :: FltR k s :: F) := by
 refine f_door (l0 := [(0, .pointer (some ⟨k, 0, none⟩))]) Try.func22 Try.ntmps22 rfl rfl rfl ?_
 refine c_seq ?_
 refine c_region ?_
 refine o_assign rfl rfl ?_
 refine l_nil ?_
 refine q_then ?_
 refine c_seq ?_
 refine c_region ?_
 refine o_move rfl rfl ?_
 refine o_nil rfl rfl ?_
 refine l_obj ?_
 rintro m_1 ok_1
 refine l_conv (L' := blk k (.cells #[.int .i64 s.region, .int .i64 s.last, .map (some m_1)] 64 (0, 0)) :: mapR kvTag vvInt m_1 s.seen :: _) (fun w S => S) ?_
 refine o_fieldAddr (q := ⟨k, 2, none⟩) rfl rfl Try.underlying64 rfl ti62 rfl ?_
 refine o_load1 rfl rfl Try.underlying62 rfl (rd_mem 0 rfl rfl) ?_
 refine o_call rfl cal32 rfl (mkeys_) ?_
 rintro _ _ ⟨b7, rfl, rfl⟩
 refine l_f2 ?_
 refine o_call rfl cal31 rfl (sortedT_ (by omega)) ?_
 rintro _ _ ⟨a8, c8, ys8, hp8, hs8, rfl, rfl⟩
 refine o_assign rfl rfl ?_
 refine l_nil ?_
 refine q_then ?_
 refine c_ret ?_
 refine q_conv (fun w S => S.perm p1) ?_
 refine q_conv (fun w S => S.perm p2) ?_
 refine q_conv (L' := FltR k s :: _) (fun w S => Sat.obj_mk m_1 ok_1 S) ?_
 refine q_conv (fun w S => S.perm p1) ?_
 exact f_ret (r_one rfl rfl) (⟨a8, c8, ys8, hp8, hs8, rfl, rfl⟩) (fun w S => S)
end
section
set_option linter.unusedVariables false
set_option linter.unusedSimpArgs false
open Go.RowKit Classical
abbrev keysD (D : List (Tag × Int)) : List Tag := D.map Prod.fst
theorem mget_no {D : List (Tag × Int)} {k : Tag} : mget D k = none ↔ k ∉ keysD D := by
  induction D with
  | nil => simp [mget_nil]
  | cons p D ih =>
    obtain ⟨j, b⟩ := p
    rw [mget_cons]
    by_cases e : j = k
    · simp [e]
    · rw [if_neg e, ih]
      simp only [keysD, List.map_cons, List.mem_cons, not_or]
      exact ⟨fun h => ⟨fun h1 => e h1.symm, h⟩, fun h => h.2⟩
theorem mget_in {D : List (Tag × Int)} {k : Tag} {b : Int} (h : mget D k = some b) : (k, b) ∈ D := by
  unfold mget at h
  cases hm : mat D k with
  | none => rw [hm] at h; cases h
  | some p =>
    obtain ⟨i, c⟩ := p
    rw [hm] at h
    simp only [Option.map_some, Option.some.injEq] at h
    subst h
    exact List.mem_of_getElem? (mat_some hm)
theorem mset_keys (D : List (Tag × Int)) (k : Tag) (b : Int) : keysD (mset D k b) = if k ∈ keysD D then keysD D else keysD D ++ [k] := by
  unfold mset
  cases hm : mat D k with
  | none =>
    have h1 : k ∉ keysD D := mget_no.1 (by unfold mget; rw [hm]; rfl)
    rw [if_neg h1]; simp [keysD]
  | some p =>
    obtain ⟨i, c⟩ := p
    have hx := mat_some hm
    obtain ⟨hi, e⟩ := List.getElem?_eq_some_iff.1 hx
    have h1 : k ∈ keysD D := List.mem_map.2 ⟨_, List.mem_of_getElem? hx, rfl⟩
    rw [if_pos h1]
    simp only [keysD, List.map_set]
    apply List.ext_getElem?
    intro j
    rw [List.getElem?_set]
    by_cases hj : i = j
    · subst hj
      rw [if_pos rfl, if_pos (by simpa using hi), List.getElem?_map, hx]; rfl
    · rw [if_neg hj]
theorem mset_mem {D : List (Tag × Int)} {k : Tag} {b : Int} {p : Tag × Int} (h : p ∈ mset D k b) : p = (k, b) ∨ p ∈ D := by
  unfold mset at h
  split at h
  · rcases List.mem_or_eq_of_mem_set h with h | h
    · exact .inr h
    · exact .inl h
  · rcases List.mem_append.1 h with h | h
    · exact .inr h
    · exact .inl (List.mem_singleton.1 h)
/-- The map of a filter: no key twice, each counted from 1 to N times. -/
structure Fm (D : List (Tag × Int)) (N : Nat) : Prop where
  nod : (keysD D).Nodup
  cn : ∀ p ∈ D, 1 ≤ p.2 ∧ p.2 ≤ (N : Int)
theorem fm_0 (N : Nat) : Fm [] N := ⟨List.nodup_nil, fun p hp => by cases hp⟩
theorem Fm.mono {D : List (Tag × Int)} {N M : Nat} (h : Fm D N) (hn : N ≤ M) : Fm D M := ⟨h.nod, fun p hp => by have := h.cn p hp; omega⟩
theorem nod_snoc {xs : List Tag} {k : Tag} (h : xs.Nodup) (hk : k ∉ xs) : (xs ++ [k]).Nodup := List.nodup_append.2 ⟨h, by simp, fun a ha b hb => by rw [List.mem_singleton.1 hb]; rintro rfl; exact hk ha⟩
theorem Fm.set {D : List (Tag × Int)} {N M : Nat} (h : Fm D N) (hn : N ≤ M) (k : Tag) {b : Int} (h1 : 1 ≤ b) (h2 : b ≤ (M : Int)) : Fm (mset D k b) M := by
  refine ⟨?_, fun p hp => ?_⟩
  · rw [mset_keys]
    by_cases hk : k ∈ keysD D
    · rw [if_pos hk]; exact h.nod
    · rw [if_neg hk]; exact nod_snoc h.nod hk
  · rcases mset_mem hp with rfl | hp
    · exact ⟨h1, h2⟩
    · have := h.cn p hp; omega
theorem Fm.pos {D : List (Tag × Int)} {N : Nat} (h : Fm D N) (t : Tag) : (0 < cnt D t ↔ t ∈ keysD D) ∧ 0 ≤ cnt D t ∧ cnt D t ≤ (N : Int) := by
  unfold cnt
  cases hm : mget D t with
  | none =>
    have := mget_no.1 hm
    simp only [Option.getD_none]
    exact ⟨⟨fun h => by omega, fun h => absurd h this⟩, by omega, by omega⟩
  | some b =>
    have h1 := h.cn _ (mget_in hm)
    simp only at h1
    have h2 : t ∈ keysD D := List.mem_map.2 ⟨_, mget_in hm, rfl⟩
    simp only [Option.getD_some]
    exact ⟨⟨fun _ => h2, fun _ => by omega⟩, by omega, by omega⟩
theorem Fm.first {s : FS} {N : Nat} (h : Fm s.seen N) (hn : N ≤ 1000000) (t : Tag) : Fm (s.first t).2.seen (N + 1) ∧ (s.first t).1 = decide (t ∉ keysD s.seen) ∧ keysD (s.first t).2.seen = (if t ∈ keysD s.seen then keysD s.seen else keysD s.seen ++ [t]) := by
  obtain ⟨h1, h2, h3⟩ := h.pos t
  have hw : IntKind.i64.wrap (cnt s.seen t + 1) = cnt s.seen t + 1 := wrap_i64 (by omega) (by omega)
  refine ⟨?_, ?_, ?_⟩
  · rw [first_2, hw]; exact h.set (by omega) t (by omega) (by omega)
  · rw [first_1, hw, decide_eq_decide]
    constructor
    · intro h4 h5; have := h1.2 h5; omega
    · intro h4
      have : ¬ 0 < cnt s.seen t := fun h5 => h4 (h1.1 h5)
      omega
  · rw [first_2]; exact mset_keys _ _ _
theorem Fm.item {s : FS} {N : Nat} (h : Fm s.seen N) (hn : N ≤ 1000000) (x : Item) : Fm (s.item x).2.seen (N + 1) ∧ (s.item x).2.region = s.region ∧ ((s.item x).1 = true ∧ x.f_Kind = 1 → (s.item x).2.seen.length = s.seen.length + 1) ∧ (¬ ((s.item x).1 = true ∧ x.f_Kind = 1) → (s.item x).2.seen.length = s.seen.length) := by
  unfold FS.item
  by_cases h1 : s.region ∈ homes x.ord
  · rw [if_neg (fun h9 => h9 h1)]
    by_cases h2 : x.f_Kind = 1 ∧ single x.ord
    · rw [if_pos h2]
      obtain ⟨e1, e2, e3⟩ := h.first hn x.ord.tag
      have e4 := congrArg List.length e3
      simp only [keysD, List.length_map] at e4
      refine ⟨e1, rfl, fun h3 => ?_, fun h3 => ?_⟩
      · have h4 : x.ord.tag ∉ keysD s.seen := by have := h3.1; rw [e2] at this; simpa using this
        rw [e4, if_neg h4]; simp
      · have h4 : x.ord.tag ∈ keysD s.seen := Classical.byContradiction fun h5 => h3 ⟨by rw [e2]; exact decide_eq_true h5, h2.1⟩
        rw [e4, if_pos h4]; simp
    · rw [if_neg h2]
      by_cases h3 : x.f_Kind = 2 ∧ ¬ single x.ord ∧ s.last < x.f_Index
      · rw [if_pos h3]
        exact ⟨h.mono (by omega), rfl, fun h4 => by omega, fun _ => rfl⟩
      · rw [if_neg h3]
        exact ⟨h.mono (by omega), rfl, fun h4 => (by cases h4.1), fun _ => rfl⟩
  · rw [if_pos h1]
    exact ⟨h.mono (by omega), rfl, fun h4 => (by cases h4.1), fun _ => rfl⟩
structure SameF (s q : FS) : Prop where
  region : s.region = q.region
  last : s.last = q.last
  keys : ∀ t, t ∈ keysD s.seen ↔ t ∈ keysD q.seen
theorem SameF.first {s q : FS} {N M : Nat} (h : SameF s q) (hs : Fm s.seen N) (hn : N ≤ 1000000) (hq : Fm q.seen M) (hm : M ≤ 1000000) (t : Tag) : (s.first t).1 = (q.first t).1 ∧ SameF (s.first t).2 (q.first t).2 := by
  obtain ⟨_, e1, k1⟩ := hs.first hn t
  obtain ⟨_, e2, k2⟩ := hq.first hm t
  have hk := h.keys t
  refine ⟨by rw [e1, e2, decide_eq_decide, hk], h.region, h.last, fun u => ?_⟩
  rw [k1, k2]
  have hu := h.keys u
  by_cases ht : t ∈ keysD s.seen
  · rw [if_pos ht, if_pos (hk.1 ht)]; exact hu
  · rw [if_neg ht, if_neg (fun h9 => ht (hk.2 h9)), List.mem_append, List.mem_append, hu]
theorem SameF.item {s q : FS} {N M : Nat} (h : SameF s q) (hs : Fm s.seen N) (hn : N ≤ 1000000) (hq : Fm q.seen M) (hm : M ≤ 1000000) (x : Item) : (s.item x).1 = (q.item x).1 ∧ SameF (s.item x).2 (q.item x).2 := by
  unfold FS.item
  rw [← h.region, ← h.last]
  by_cases h1 : s.region ∈ homes x.ord
  · have hh : ¬ ¬ s.region ∈ homes x.ord := fun h9 => h9 h1
    rw [if_neg hh, if_neg hh]
    by_cases h2 : x.f_Kind = 1 ∧ single x.ord
    · rw [if_pos h2, if_pos h2]; exact h.first hs hn hq hm _
    · rw [if_neg h2, if_neg h2]
      by_cases h3 : x.f_Kind = 2 ∧ ¬ single x.ord ∧ s.last < x.f_Index
      · rw [if_pos h3, if_pos h3]; exact ⟨rfl, rfl, rfl, h.keys⟩
      · rw [if_neg h3, if_neg h3]; exact ⟨rfl, h⟩
  · rw [if_pos h1, if_pos h1]; exact ⟨rfl, h⟩
theorem SameF.len {s q : FS} {N M : Nat} (h : SameF s q) (hs : Fm s.seen N) (hq : Fm q.seen M) : s.seen.length = q.seen.length := by
  have := ((List.perm_ext_iff_of_nodup hs.nod hq.nod).2 h.keys).length_eq
  simpa [keysD] using this
theorem SameF.has {s q : FS} {N M : Nat} (h : SameF s q) (hs : Fm s.seen N) (hq : Fm q.seen M) (t : Tag) : (0 < cnt s.seen t ↔ 0 < cnt q.seen t) := by rw [(hs.pos t).1, (hq.pos t).1]; exact h.keys t
def restD (ts : List Tag) : List (Tag × Int) := ts.foldl (fun D t => mset D t 1) []
theorem restD_snoc (ts : List Tag) (t : Tag) : restD (ts ++ [t]) = mset (restD ts) t 1 := by simp [restD, List.foldl_append]
theorem restD_on {ts : List Tag} {i : Nat} {x : Tag} (hx : ts[((i : Int)).toNat]? = some x) : restD (ts.take (i + 1)) = mset (restD (ts.take i)) x 1 := by
  have hx' : ts[i]? = some x := hx
  rw [List.take_add_one, hx', ← restD_snoc]; rfl
theorem restD_fm (n : Nat) : ∀ ts : List Tag, ts.length ≤ n → Fm (restD ts) 1 ∧ ∀ t, t ∈ keysD (restD ts) ↔ t ∈ ts := by
  induction n with
  | zero => intro ts h; rw [List.eq_nil_of_length_eq_zero (by omega : ts.length = 0)]; exact ⟨fm_0 1, fun t => by simp [restD]⟩
  | succ n ih =>
    intro ts h
    by_cases h0 : ts = []
    · subst h0; exact ⟨fm_0 1, fun t => by simp [restD]⟩
    · obtain ⟨ys, y, rfl⟩ : ∃ ys y, ts = ys ++ [y] := ⟨ts.dropLast, ts.getLast h0, (List.dropLast_concat_getLast h0).symm⟩
      rw [List.length_append] at h
      simp only [List.length_cons, List.length_nil] at h
      obtain ⟨h1, h2⟩ := ih ys (by omega)
      rw [restD_snoc]
      refine ⟨h1.set (by omega) y (by omega) (by omega), fun t => ?_⟩
      rw [mset_keys]
      by_cases hy : y ∈ keysD (restD ys)
      · rw [if_pos hy, h2, List.mem_append, List.mem_singleton]
        constructor
        · exact .inl
        · rintro (h3 | rfl)
          · exact h3
          · exact (h2 _).1 hy
      · rw [if_neg hy, List.mem_append, List.mem_append, h2]
theorem same_rest {s : FS} {N : Nat} {ys : List Tag} (hs : Fm s.seen N) (hp : ys.Perm (keysD s.seen)) : SameF s ⟨s.region, s.last, restD (ys ++ ys)⟩ ∧ Fm (restD (ys ++ ys)) 1 := by
  obtain ⟨h1, h2⟩ := restD_fm _ (ys ++ ys) (Nat.le_refl _)
  refine ⟨⟨rfl, rfl, fun t => ?_⟩, h1⟩
  show _ ↔ t ∈ keysD (restD (ys ++ ys))
  rw [h2, List.mem_append, hp.mem_iff]
  simp
theorem tags_rise {D : List (Tag × Int)} {ys : List Tag} (hn : (keysD D).Nodup) (hp : ys.Perm (keysD D)) (hs : ys.Pairwise fun a b => Go.Proofs.ltOf cmpT b a = false) {j : Nat} {a b : Tag} (h0 : 0 < j) (ha : ys[((j : Int) - 1).toNat]? = some a) (hb : ys[((j : Int)).toNat]? = some b) : tlt a b := by
  have hb' : ys[j]? = some b := hb
  rw [show ((j : Int) - 1).toNat = j - 1 by omega] at ha
  obtain ⟨i1, e1⟩ := List.getElem?_eq_some_iff.1 ha
  obtain ⟨i2, e2⟩ := List.getElem?_eq_some_iff.1 hb'
  have hn2 : ys.Nodup := hp.nodup_iff.2 hn
  have h1 := List.pairwise_iff_getElem.1 hs (j - 1) j i1 i2 (by omega)
  have h2 := List.pairwise_iff_getElem.1 hn2 (j - 1) j i1 i2 (by omega)
  rw [e1, e2] at h1 h2
  exact tlt_tri h2 ((ltF _ _).1 h1)
end
section
set_option linter.unusedVariables false
set_option linter.unusedSimpArgs false
set_option maxRecDepth 10000
open Go.RowKit Classical
theorem less_ {W : World} {F : List Res} {x y : Tag} : CS Try.prog 23 #[.agg #[.int .i64 x.f_Id_Node, .int .u64 x.f_Id_Epoch, .int .u64 x.f_Id_Seq, .int .i64 x.f_Try], .agg #[.int .i64 y.f_Id_Node, .int .u64 y.f_Id_Epoch, .int .u64 y.f_Id_Seq, .int .i64 y.f_Try]] W (F) (fun r L' => r = .bool (decide (tlt x y)) ∧ F = L') := by
 refine f_door (l0 := [(0, .agg #[.int .i64 x.f_Id_Node, .int .u64 x.f_Id_Epoch, .int .u64 x.f_Id_Seq, .int .i64 x.f_Try]), (1, .agg #[.int .i64 y.f_Id_Node, .int .u64 y.f_Id_Epoch, .int .u64 y.f_Id_Seq, .int .i64 y.f_Try])]) Try.func23 Try.ntmps23 rfl rfl rfl ?_
 refine c_seq ?_
 refine c_region ?_
 refine o_box rfl rfl fun b2 => ?_
 refine o_box rfl rfl fun b3 => ?_
 refine o_assign rfl rfl ?_
 refine l_nil ?_
 refine q_then ?_
 refine c_seq ?_
 refine c_seq ?_
 refine c_region ?_
 refine o_fieldAddr (q := ⟨b2, 0, none⟩) rfl rfl Try.underlying32 rfl ti30 rfl ?_
 refine o_fieldAddr (q := ⟨b2, 0, none⟩) rfl rfl Try.underlying30 rfl ti3 rfl ?_
 refine o_load1 rfl rfl Try.underlying3 rfl (rd_mem 1 rfl rfl) ?_
 refine o_fieldAddr (q := ⟨b3, 0, none⟩) rfl rfl Try.underlying32 rfl ti30 rfl ?_
 refine o_fieldAddr (q := ⟨b3, 0, none⟩) rfl rfl Try.underlying30 rfl ti3 rfl ?_
 refine o_load1 rfl rfl Try.underlying3 rfl (rd_mem 0 rfl rfl) ?_
 refine o_bin rfl rfl rfl b_neq ?_
 refine l_nil ?_
 refine q_then ?_
 refine c_cond rfl (fun h1 => ?_) (fun h1 => ?_)
 · -- h1T
  have h1b := h1
  try simp only [Bool.not_eq_true', decide_eq_false_iff_not, Int.not_lt, Int.not_le] at h1
  refine c_seq ?_
  refine c_region ?_
  refine o_fieldAddr (q := ⟨b2, 0, none⟩) rfl rfl Try.underlying32 rfl ti30 rfl ?_
  refine o_fieldAddr (q := ⟨b2, 0, none⟩) rfl rfl Try.underlying30 rfl ti3 rfl ?_
  refine o_load1 rfl rfl Try.underlying3 rfl (rd_mem 1 rfl rfl) ?_
  refine o_fieldAddr (q := ⟨b3, 0, none⟩) rfl rfl Try.underlying32 rfl ti30 rfl ?_
  refine o_fieldAddr (q := ⟨b3, 0, none⟩) rfl rfl Try.underlying30 rfl ti3 rfl ?_
  refine o_load1 rfl rfl Try.underlying3 rfl (rd_mem 0 rfl rfl) ?_
  refine o_bin rfl rfl rfl b_lss ?_
  refine o_assign rfl rfl ?_
  refine l_nil ?_
  refine q_then ?_
  refine c_ret ?_
  refine q_pass_ret ?_
  refine q_conv (fun w S => S.tail) ?_
  refine q_conv (fun w S => S.tail) ?_
  exact f_ret (r_one rfl rfl) (⟨by first | exact bdec' (by unfold tlt; omega) | (congr 1; unfold tlt; grind), rfl⟩) (fun w S => S)
 · -- h1F
  have h1b := h1
  try simp only [Bool.not_eq_false', decide_eq_true_eq] at h1
  refine c_skip ?_
  refine q_then ?_
  refine c_seq ?_
  refine c_seq ?_
  refine c_region ?_
  refine o_fieldAddr (q := ⟨b2, 0, none⟩) rfl rfl Try.underlying32 rfl ti30 rfl ?_
  refine o_fieldAddr (q := ⟨b2, 1, none⟩) rfl rfl Try.underlying30 rfl ti28 rfl ?_
  refine o_load1 rfl rfl Try.underlying28 rfl (rd_mem 1 rfl rfl) ?_
  refine o_fieldAddr (q := ⟨b3, 0, none⟩) rfl rfl Try.underlying32 rfl ti30 rfl ?_
  refine o_fieldAddr (q := ⟨b3, 1, none⟩) rfl rfl Try.underlying30 rfl ti28 rfl ?_
  refine o_load1 rfl rfl Try.underlying28 rfl (rd_mem 0 rfl rfl) ?_
  refine o_bin rfl rfl rfl b_neq ?_
  refine l_nil ?_
  refine q_then ?_
  refine c_cond rfl (fun h2 => ?_) (fun h2 => ?_)
  · -- h2T
   have h2b := h2
   try simp only [Bool.not_eq_true', decide_eq_false_iff_not, Int.not_lt, Int.not_le] at h2
   refine c_seq ?_
   refine c_region ?_
   refine o_fieldAddr (q := ⟨b2, 0, none⟩) rfl rfl Try.underlying32 rfl ti30 rfl ?_
   refine o_fieldAddr (q := ⟨b2, 1, none⟩) rfl rfl Try.underlying30 rfl ti28 rfl ?_
   refine o_load1 rfl rfl Try.underlying28 rfl (rd_mem 1 rfl rfl) ?_
   refine o_fieldAddr (q := ⟨b3, 0, none⟩) rfl rfl Try.underlying32 rfl ti30 rfl ?_
   refine o_fieldAddr (q := ⟨b3, 1, none⟩) rfl rfl Try.underlying30 rfl ti28 rfl ?_
   refine o_load1 rfl rfl Try.underlying28 rfl (rd_mem 0 rfl rfl) ?_
   refine o_bin rfl rfl rfl b_lss ?_
   refine o_assign rfl rfl ?_
   refine l_nil ?_
   refine q_then ?_
   refine c_ret ?_
   refine q_pass_ret ?_
   refine q_conv (fun w S => S.tail) ?_
   refine q_conv (fun w S => S.tail) ?_
   exact f_ret (r_one rfl rfl) (⟨by first | exact bdec' (by unfold tlt; omega) | (congr 1; unfold tlt; grind), rfl⟩) (fun w S => S)
  · -- h2F
   have h2b := h2
   try simp only [Bool.not_eq_false', decide_eq_true_eq] at h2
   refine c_skip ?_
   refine q_then ?_
   refine c_seq ?_
   refine c_seq ?_
   refine c_region ?_
   refine o_fieldAddr (q := ⟨b2, 0, none⟩) rfl rfl Try.underlying32 rfl ti30 rfl ?_
   refine o_fieldAddr (q := ⟨b2, 2, none⟩) rfl rfl Try.underlying30 rfl ti28 rfl ?_
   refine o_load1 rfl rfl Try.underlying28 rfl (rd_mem 1 rfl rfl) ?_
   refine o_fieldAddr (q := ⟨b3, 0, none⟩) rfl rfl Try.underlying32 rfl ti30 rfl ?_
   refine o_fieldAddr (q := ⟨b3, 2, none⟩) rfl rfl Try.underlying30 rfl ti28 rfl ?_
   refine o_load1 rfl rfl Try.underlying28 rfl (rd_mem 0 rfl rfl) ?_
   refine o_bin rfl rfl rfl b_neq ?_
   refine l_nil ?_
   refine q_then ?_
   refine c_cond rfl (fun h3 => ?_) (fun h3 => ?_)
   · -- h3T
    have h3b := h3
    try simp only [Bool.not_eq_true', decide_eq_false_iff_not, Int.not_lt, Int.not_le] at h3
    refine c_seq ?_
    refine c_region ?_
    refine o_fieldAddr (q := ⟨b2, 0, none⟩) rfl rfl Try.underlying32 rfl ti30 rfl ?_
    refine o_fieldAddr (q := ⟨b2, 2, none⟩) rfl rfl Try.underlying30 rfl ti28 rfl ?_
    refine o_load1 rfl rfl Try.underlying28 rfl (rd_mem 1 rfl rfl) ?_
    refine o_fieldAddr (q := ⟨b3, 0, none⟩) rfl rfl Try.underlying32 rfl ti30 rfl ?_
    refine o_fieldAddr (q := ⟨b3, 2, none⟩) rfl rfl Try.underlying30 rfl ti28 rfl ?_
    refine o_load1 rfl rfl Try.underlying28 rfl (rd_mem 0 rfl rfl) ?_
    refine o_bin rfl rfl rfl b_lss ?_
    refine o_assign rfl rfl ?_
    refine l_nil ?_
    refine q_then ?_
    refine c_ret ?_
    refine q_pass_ret ?_
    refine q_conv (fun w S => S.tail) ?_
    refine q_conv (fun w S => S.tail) ?_
    exact f_ret (r_one rfl rfl) (⟨by first | exact bdec' (by unfold tlt; omega) | (congr 1; unfold tlt; grind), rfl⟩) (fun w S => S)
   · -- h3F
    have h3b := h3
    try simp only [Bool.not_eq_false', decide_eq_true_eq] at h3
    refine c_skip ?_
    refine q_then ?_
    refine c_seq ?_
    refine c_region ?_
    refine o_fieldAddr (q := ⟨b2, 3, none⟩) rfl rfl Try.underlying32 rfl ti3 rfl ?_
    refine o_load1 rfl rfl Try.underlying3 rfl (rd_mem 1 rfl rfl) ?_
    refine o_fieldAddr (q := ⟨b3, 3, none⟩) rfl rfl Try.underlying32 rfl ti3 rfl ?_
    refine o_load1 rfl rfl Try.underlying3 rfl (rd_mem 0 rfl rfl) ?_
    refine o_bin rfl rfl rfl b_lss ?_
    refine o_assign rfl rfl ?_
    refine l_nil ?_
    refine q_then ?_
    refine c_ret ?_
    refine q_conv (fun w S => S.tail) ?_
    refine q_conv (fun w S => S.tail) ?_
    exact f_ret (r_one rfl rfl) (⟨by first | exact bdec' (by unfold tlt; omega) | (congr 1; unfold tlt; grind), rfl⟩) (fun w S => S)
set_option maxHeartbeats 1000000 in
theorem frestore_ {W : World} {F : List Res} {g l : Int} {ts : List Tag} {a : Option Addr} {c : Nat} (hs : RdS W F e_Tag a ts) (hn : ts.length ≤ 1000000) : CS Try.prog 24 #[.int .i64 g, .int .i64 l, .slice a ts.length c] W (F) (fun r L' => ∃ b : Nat, r = .pointer (some ⟨b, 0, none⟩) ∧ L' = FltR b ⟨g, l, restD ts⟩ :: F) := by
 refine f_door (l0 := [(0, .int .i64 g), (1, .int .i64 l), (2, .slice a ts.length c)]) Try.func24 Try.ntmps24 rfl rfl rfl ?_
 refine c_seq ?_
 refine c_region ?_
 refine o_assign rfl rfl ?_
 refine l_nil ?_
 refine q_then ?_
 refine c_seq ?_
 refine c_region ?_
 refine o_move rfl rfl ?_
 refine o_call rfl cal10 rfl (region_ (g := g)) ?_
 rintro _ _ ⟨b11, rfl, rfl⟩
 refine o_assign rfl rfl ?_
 refine l_nil ?_
 refine q_then ?_
 refine c_seq ?_
 refine c_region ?_
 refine o_move rfl rfl ?_
 refine o_move rfl rfl ?_
 refine o_nil rfl rfl ?_
 refine l_obj ?_
 rintro m_1 ok_1
 refine l_conv (L' := blk b11 (.cells #[.int .i64 ((⟨g, -1, []⟩ : FS).region), .int .i64 ((⟨g, -1, []⟩ : FS).last), .map (some m_1)] 64 (0, 0)) :: mapR kvTag vvInt m_1 ((⟨g, -1, []⟩ : FS).seen) :: _) (fun w S => S) ?_
 refine o_fieldAddr (q := ⟨b11, 1, none⟩) rfl rfl Try.underlying64 rfl ti3 rfl ?_
 refine o_store1 rfl rfl rfl ti3 rfl rfl ?_
 refine l_nil ?_
 refine q_then ?_
 refine c_seq ?_
 refine c_seq ?_
 refine c_region ?_
 refine o_move rfl rfl ?_
 refine o_len rfl rfl Try.underlying54 ?_
 refine o_move rfl rfl ?_
 refine l_nil ?_
 refine q_then ?_
 refine c_block ?_
 refine c_loop (α := Nat) (fun z => [(7, .pointer (some ⟨b11, 0, none⟩)), (16, .slice a (ts).length c), (17, .int .i64 ((ts).length : Int)), (18, .int .i64 (z : Int))]) (fun z => blk b11 (.cells #[.int .i64 ((⟨g, -1, []⟩ : FS).region), .int .i64 l, .map (some m_1)] 64 (0, 0)) :: mapR kvTag vvInt m_1 (restD (ts.take z)) :: F) (fun z => z ≤ ts.length) (fun z => ts.length - z) (0) (by exact Nat.zero_le _) ⟨(by first | rfl | exact vint (by omega)), (by first | rfl | exact vint (by omega)), (by first | rfl | exact vint (by omega)), (by first | rfl | exact vint (by omega)), trivial⟩ (fun w S => S) ?_
 rintro i hi
 try dsimp only at *
 refine c_seq ?_
 refine c_region ?_
 refine o_bin rfl rfl rfl b_lss ?_
 refine l_nil ?_
 refine q_then ?_
 refine c_seq ?_
 refine c_cond rfl (fun h1 => ?_) (fun h1 => ?_)
 · -- h1T
  have h1b := h1
  try simp only [decide_eq_true_eq] at h1
  refine c_skip ?_
  refine q_then ?_
  refine c_seq ?_
  refine c_block ?_
  refine c_seq ?_
  refine c_region ?_
  refine o_index e_Tag_ok rfl rfl rfl Try.underlying54 (by omega) (by omega) (rds_c (rds_c hs)) fun ad20 ead20 => ?_
  obtain ⟨x20, hx20⟩ : ∃ x, (ts)[((i : Int)).toNat]? = some x := ⟨_, List.getElem?_eq_getElem (by omega)⟩
  refine o_loadn (vs := e_Tag.cells x20) rfl rfl Try.underlying32 rfl ti32 (rdn_sl e_Tag_ok ead20 (rds_c (rds_c hs)) hx20) ?_
  refine o_alloc rfl ti32 fun b9 => ?_
  refine o_storen rfl rfl ti32 rfl rfl rfl rfl ?_
  refine l_nil ?_
  refine q_then ?_
  refine c_conv (fun w S => S.perm p1) ?_
  refine c_conv (fun w S => S.perm p1) ?_
  refine c_conv (fun w S => S.perm p2) ?_
  refine c_heldF [mapR kvTag vvInt m_1 (restD (ts.take i))] (blk b9 (.cells #[.int .i64 x20.f_Id_Node, .int .u64 x20.f_Id_Epoch, .int .u64 x20.f_Id_Seq, .int .i64 x20.f_Try] 32 (0, 0)) :: blk b11 (.cells #[.int .i64 ((⟨g, -1, []⟩ : FS).region), .int .i64 l, .map (some m_1)] 64 (0, 0)) :: F) (by kernel_rfl) ?_
  refine h_take 0 rfl rfl (by kernel_rfl) (by kernel_rfl) (by kernel_rfl) (fun L0 => v_move rfl rfl) ?_
  refine h_take 1 rfl rfl (by kernel_rfl) (by kernel_rfl) (by kernel_rfl) (fun L0 => v_nil rfl rfl) ?_
  refine h_take 2 rfl rfl (by kernel_rfl) (by kernel_rfl) (by kernel_rfl) (fun L0 => v_fieldAddr (q := ⟨b11, 2, none⟩) rfl rfl Try.underlying64 rfl ti62 rfl) ?_
  refine h_take 3 rfl rfl (by kernel_rfl) (by kernel_rfl) (by kernel_rfl) (fun L0 => v_load1 rfl rfl Try.underlying62 rfl (rd_mem 1 rfl rfl)) ?_
  refine h_take 4 rfl rfl (by kernel_rfl) (by kernel_rfl) (by kernel_rfl) (fun L0 => v_loadn (vs := [_, _, _, _]) rfl rfl Try.underlying32 rfl ti32 (rdn_lit 0 rfl rfl)) ?_
  refine h_one 5 rfl (by kernel_rfl) ?_
  refine l_conv (L' := mapR kvTag vvInt m_1 (restD (ts.take i)) :: blk b9 (.cells #[.int .i64 x20.f_Id_Node, .int .u64 x20.f_Id_Epoch, .int .u64 x20.f_Id_Seq, .int .i64 x20.f_Try] 32 (0, 0)) :: blk b11 (.cells #[.int .i64 ((⟨g, -1, []⟩ : FS).region), .int .i64 l, .map (some m_1)] 64 (0, 0)) :: F) (fun w S => S.perm List.perm_append_comm) ?_
  refine o_mapUpdate (q := x20) (b := 1) koTag rfl rfl rfl Try.underlying62 ?_
  refine l_nil ?_
  refine q_conv (L' := (blk b9 (.cells #[.int .i64 x20.f_Id_Node, .int .u64 x20.f_Id_Epoch, .int .u64 x20.f_Id_Seq, .int .i64 x20.f_Try] 32 (0, 0)) :: blk b11 (.cells #[.int .i64 ((⟨g, -1, []⟩ : FS).region), .int .i64 l, .map (some m_1)] 64 (0, 0)) :: F) ++ [mapR kvTag vvInt m_1 (mset (restD (ts.take i)) x20 1)]) (fun w S => S.perm (List.perm_append_comm (l₁ := [mapR kvTag vvInt m_1 (mset (restD (ts.take i)) x20 1)]) (l₂ := blk b9 (.cells #[.int .i64 x20.f_Id_Node, .int .u64 x20.f_Id_Epoch, .int .u64 x20.f_Id_Seq, .int .i64 x20.f_Try] 32 (0, 0)) :: blk b11 (.cells #[.int .i64 ((⟨g, -1, []⟩ : FS).region), .int .i64 l, .map (some m_1)] 64 (0, 0)) :: F))) ?_
  refine h_next ?_
  refine h_done (by kernel_rfl) ?_
  refine q_conv (L' := mapR kvTag vvInt m_1 (mset (restD (ts.take i)) x20 1) :: blk b9 (.cells #[.int .i64 x20.f_Id_Node, .int .u64 x20.f_Id_Epoch, .int .u64 x20.f_Id_Seq, .int .i64 x20.f_Try] 32 (0, 0)) :: blk b11 (.cells #[.int .i64 ((⟨g, -1, []⟩ : FS).region), .int .i64 l, .map (some m_1)] 64 (0, 0)) :: F) (fun w S => S.perm List.perm_append_comm) ?_
  refine q_block ?_
  refine q_then ?_
  refine c_region ?_
  refine o_bin rfl rfl rfl (b_add (wrap_i64 (by omega) (by omega))) ?_
  refine o_move rfl rfl ?_
  refine l_nil ?_
  refine q_conv (fun w S => (S.perm p1).tail) ?_
  refine q_conv (fun w S => S.perm p1) ?_
  exact q_round (i + 1) (by omega) (by (try dsimp only); omega) ⟨(by first | rfl | exact vint (by omega)), (by first | rfl | exact vint (by omega)), (by first | rfl | exact vint (by omega)), (by first | rfl | exact vint (by omega)), trivial⟩ (fun w S => by rw [restD_on hx20]; exact S)
 · -- h1F
  have h1b := h1
  try simp only [decide_eq_false_iff_not, Int.not_lt, Int.not_le] at h1
  refine c_exit ?_
  refine q_pass_exit ?_
  refine q_pass_exit ?_
  refine q_hit ?_
  refine q_then ?_
  refine c_seq ?_
  refine c_region ?_
  refine o_move rfl rfl ?_
  refine o_assign rfl rfl ?_
  refine l_nil ?_
  refine q_then ?_
  refine c_ret ?_
  refine q_conv (L' := FltR b11 (⟨(⟨g, -1, []⟩ : FS).region, l, (restD (ts.take i))⟩ : FS) :: _) (fun w S => Sat.obj_mk m_1 trivial S) ?_
  exact f_ret (r_one rfl rfl) (⟨b11, rfl, by rw [List.take_of_length_le (by omega)]⟩) (fun w S => S)
end
section
set_option linter.unusedVariables false
set_option linter.unusedSimpArgs false
set_option maxRecDepth 10000
open Go.RowKit Classical
set_option maxHeartbeats 8000000 in
theorem restores_ {W : World} {F : List Res} {g : Int} {log : List Item} {a : Option Addr} {c : Nat} (hs : RdS W F e_Item a log) (ho : ∀ x ∈ log, OrdR W F x.ord) (hn : log.length ≤ c ∧ c ≤ 9223372036854775807) {more : List Item} {a2 : Option Addr} {c2 : Nat} (hs2 : RdS W F e_Item a2 more) (ho2 : ∀ x ∈ more, OrdR W F x.ord) (hn2 : more.length ≤ c2 ∧ c2 ≤ 9223372036854775807) : CS Try.prog 7 #[.int .i64 g, .slice a log.length c, .slice a2 more.length c2] W (F) (fun r L' => r = .bool true ∧ F = L') := by
 refine f_door (l0 := [(0, .int .i64 g), (1, .slice a log.length c), (2, .slice a2 more.length c2)]) Try.func7 Try.ntmps7 rfl rfl rfl ?_
 refine c_seq ?_
 refine c_region ?_
 refine o_assign rfl rfl ?_
 refine l_nil ?_
 refine q_then ?_
 refine c_seq ?_
 refine c_seq ?_
 refine c_region ?_
 refine o_call rfl cal8 rfl (speaks_) ?_
 rintro _ _ ⟨rfl, rfl⟩
 refine o_not rfl rfl ?_
 refine l_nil ?_
 refine q_then ?_
 refine c_false rfl ?_
 refine c_skip ?_
 refine q_then ?_
 refine c_seq ?_
 refine c_seq ?_
 refine c_region ?_
 refine o_move rfl rfl ?_
 refine o_call rfl cal9 rfl (great_ hs (fun x hx => (ho x hx)) (by omega)) ?_
 rintro _ _ ⟨g20, hg20, rfl, rfl⟩
 refine o_move rfl rfl ?_
 refine l_split (t := 21) rfl (fun h1 => ?_) (fun h1 => ?_)
 · -- h1T
  have h1b := h1
  try simp only [decide_eq_true_eq, decide_eq_false_iff_not, Bool.not_eq_eq_eq_not, Bool.not_true, Bool.not_false, Bool.not_eq_true', Bool.not_eq_false', Int.not_lt, Int.not_le, Bool.or_eq_true, Bool.and_eq_true] at h1
  refine o_no rfl rfl rfl rfl ?_
  refine o_no rfl rfl rfl rfl ?_
  refine o_pick_true rfl rfl rfl ?_
  refine o_move rfl rfl ?_
  refine o_no rfl rfl rfl rfl ?_
  refine o_no rfl rfl rfl rfl ?_
  refine o_pick_true rfl rfl rfl ?_
  refine o_move rfl rfl ?_
  refine o_no rfl rfl rfl rfl ?_
  refine o_no rfl rfl rfl rfl ?_
  refine o_pick_true rfl rfl rfl ?_
  refine l_nil ?_
  refine q_then ?_
  refine c_true rfl ?_
  refine c_seq ?_
  refine c_region ?_
  refine o_assign rfl rfl ?_
  refine l_nil ?_
  refine q_then ?_
  refine c_ret ?_
  refine q_pass_ret ?_
  exact f_ret (r_one rfl rfl) (⟨rfl, rfl⟩) (fun w S => S)
 · -- h1F
  have h1b := h1
  try simp only [decide_eq_true_eq, decide_eq_false_iff_not, Bool.not_eq_eq_eq_not, Bool.not_true, Bool.not_false, Bool.not_eq_true', Bool.not_eq_false', Int.not_lt, Int.not_le, Bool.or_eq_true, Bool.and_eq_true] at h1
  refine o_yes rfl rfl rfl ?_
  refine o_move rfl rfl ?_
  refine o_yes rfl rfl rfl ?_
  refine o_call rfl cal9 rfl (great_ hs2 (fun x hx => (ho2 x hx)) (by omega)) ?_
  rintro _ _ ⟨g23, hg23, rfl, rfl⟩
  refine o_pick_false rfl rfl rfl ?_
  refine o_move rfl rfl ?_
  refine l_split (t := 25) rfl (fun h2 => ?_) (fun h2 => ?_)
  · -- h2T
   have h2b := h2
   try simp only [decide_eq_true_eq, decide_eq_false_iff_not, Bool.not_eq_eq_eq_not, Bool.not_true, Bool.not_false, Bool.not_eq_true', Bool.not_eq_false', Int.not_lt, Int.not_le, Bool.or_eq_true, Bool.and_eq_true] at h2
   refine o_no rfl rfl rfl rfl ?_
   refine o_no rfl rfl rfl rfl ?_
   refine o_pick_true rfl rfl rfl ?_
   refine o_move rfl rfl ?_
   refine o_no rfl rfl rfl rfl ?_
   refine o_no rfl rfl rfl rfl ?_
   refine o_pick_true rfl rfl rfl ?_
   refine l_nil ?_
   refine q_then ?_
   refine c_true rfl ?_
   refine c_seq ?_
   refine c_region ?_
   refine o_assign rfl rfl ?_
   refine l_nil ?_
   refine q_then ?_
   refine c_ret ?_
   refine q_pass_ret ?_
   exact f_ret (r_one rfl rfl) (⟨rfl, rfl⟩) (fun w S => S)
  · -- h2F
   have h2b := h2
   try simp only [decide_eq_true_eq, decide_eq_false_iff_not, Bool.not_eq_eq_eq_not, Bool.not_true, Bool.not_false, Bool.not_eq_true', Bool.not_eq_false', Int.not_lt, Int.not_le, Bool.or_eq_true, Bool.and_eq_true] at h2
   refine o_yes rfl rfl rfl ?_
   refine o_move rfl rfl ?_
   refine o_yes rfl rfl rfl ?_
   refine o_bin rfl rfl rfl b_lss ?_
   refine o_pick_false rfl rfl rfl ?_
   refine o_move rfl rfl ?_
   refine l_split (t := 29) rfl (fun h3 => ?_) (fun h3 => ?_)
   · -- h3T
    have h3b := h3
    try simp only [decide_eq_true_eq] at h3
    refine o_no rfl rfl rfl rfl ?_
    refine o_no rfl rfl rfl rfl ?_
    refine o_pick_true rfl rfl rfl ?_
    refine l_nil ?_
    refine q_then ?_
    refine c_true rfl ?_
    refine c_seq ?_
    refine c_region ?_
    refine o_assign rfl rfl ?_
    refine l_nil ?_
    refine q_then ?_
    refine c_ret ?_
    refine q_pass_ret ?_
    exact f_ret (r_one rfl rfl) (⟨rfl, rfl⟩) (fun w S => S)
   · -- h3F
    have h3b := h3
    try simp only [decide_eq_false_iff_not, Int.not_lt, Int.not_le] at h3
    refine o_yes rfl rfl rfl ?_
    refine o_move rfl rfl ?_
    refine o_yes rfl rfl rfl ?_
    refine o_bin rfl rfl rfl b_gtr ?_
    refine o_pick_false rfl rfl rfl ?_
    refine l_nil ?_
    refine q_then ?_
    refine c_cond rfl (fun h4 => ?_) (fun h4 => ?_)
    · -- h4T
     have h4b := h4
     try simp only [decide_eq_true_eq] at h4
     refine c_seq ?_
     refine c_region ?_
     refine o_assign rfl rfl ?_
     refine l_nil ?_
     refine q_then ?_
     refine c_ret ?_
     refine q_pass_ret ?_
     exact f_ret (r_one rfl rfl) (⟨rfl, rfl⟩) (fun w S => S)
    · -- h4F
     have h4b := h4
     try simp only [decide_eq_false_iff_not, Int.not_lt, Int.not_le] at h4
     refine c_skip ?_
     refine q_then ?_
     refine c_seq ?_
     have hsm := hg20 (by assumption)
     have hl40 := hsm.1
     have hmk : ∀ x ∈ log, x.ord.f_Marks.xs.length ≤ 1000000 := fun x hx => by have := (hsm.2 x hx).m; omega
     have hsm2 := hg23 (by assumption)
     have hl402 := hsm2.1
     have hmk2 : ∀ x ∈ more, x.ord.f_Marks.xs.length ≤ 1000000 := fun x hx => by have := (hsm2.2 x hx).m; omega
     refine c_region ?_
     refine o_move rfl rfl ?_
     refine o_call rfl cal10 rfl (region_ (g := g)) ?_
     rintro _ _ ⟨b34, rfl, rfl⟩
     refine o_assign rfl rfl ?_
     refine l_nil ?_
     refine q_then ?_
     refine c_seq ?_
     refine c_seq ?_
     refine c_region ?_
     refine o_move rfl rfl ?_
     refine o_bin rfl rfl rfl (b_peq Try.underlying25 _) ?_
     refine l_nil ?_
     refine q_then ?_
     refine c_false rfl ?_
     refine c_skip ?_
     refine q_then ?_
     refine c_seq ?_
     refine c_region ?_
     refine o_assign rfl rfl ?_
     refine l_nil ?_
     refine q_then ?_
     refine c_seq ?_
     refine c_seq ?_
     refine c_region ?_
     refine o_move rfl rfl ?_
     refine o_len rfl rfl Try.underlying22 ?_
     refine o_move rfl rfl ?_
     refine l_nil ?_
     refine q_then ?_
     refine c_block ?_
     refine c_loop (α := Nat × FS × Int) (fun z => [(0, .int .i64 g), (2, .slice a2 (more).length c2), (7, .pointer (some ⟨b34, 0, none⟩)), (8, .int .i64 z.2.2), (37, .slice a (log).length c), (38, .int .i64 ((log).length : Int)), (39, .int .i64 (z.1 : Int))]) (fun z => FltR b34 z.2.1 :: F) (fun z => z.1 ≤ log.length ∧ z.2.1.region = g ∧ Fm z.2.1.seen z.1 ∧ (z.2.1.seen.length ≤ z.1 ∧ z.2.2 = (z.2.1.seen.length : Int))) (fun z => log.length - z.1) (0, ⟨g, -1, []⟩, 0) (by exact ⟨Nat.zero_le _, rfl, fm_0 0, Nat.le_refl _, rfl⟩) ⟨(by first | rfl | exact vint (by omega)), (by first | rfl | exact vint (by omega)), (by first | rfl | exact vint (by omega)), (by first | rfl | exact vint (by omega)), (by first | rfl | exact vint (by omega)), (by first | rfl | exact vint (by omega)), (by first | rfl | exact vint (by omega)), trivial⟩ (fun w S => S) ?_
     rintro ⟨i, s, hd⟩ ⟨hi, hreg, hF, hln, hhd⟩
     try dsimp only at *
     refine c_seq ?_
     refine c_region ?_
     refine o_bin rfl rfl rfl b_lss ?_
     refine l_nil ?_
     refine q_then ?_
     refine c_seq ?_
     refine c_cond rfl (fun h5 => ?_) (fun h5 => ?_)
     · -- h5T
      have h5b := h5
      try simp only [decide_eq_true_eq] at h5
      refine c_skip ?_
      refine q_then ?_
      refine c_seq ?_
      refine c_block ?_
      refine c_seq ?_
      refine c_region ?_
      refine o_index e_Item_ok rfl rfl rfl Try.underlying22 (by omega) (by omega) (rds_c hs) fun ad41 ead41 => ?_
      obtain ⟨x41, hx41⟩ : ∃ x, (log)[((i : Int)).toNat]? = some x := ⟨_, List.getElem?_eq_getElem (by omega)⟩
      refine o_loadn (vs := e_Item.cells x41) rfl rfl Try.underlying41 rfl ti41 (rdn_sl e_Item_ok ead41 (rds_c hs) hx41) ?_
      refine o_alloc rfl ti41 fun b10 => ?_
      refine o_storen rfl rfl ti41 rfl rfl rfl rfl ?_
      refine l_nil ?_
      refine q_then ?_
      refine c_seq ?_
      have hfi := hF.item (by omega) x41
      refine c_region ?_
      refine o_move rfl rfl ?_
      refine o_loadn (vs := [_, _, _, _, _, _, _, _, _, _, _, _]) rfl rfl Try.underlying41 rfl ti41 (rdn_lit 0 rfl rfl) ?_
      refine l_f1 ?_
      refine o_call rfl cal11 rfl (fitem_ (x := x41) (OrdR.c (ho x41 (List.mem_of_getElem? hx41))) (hmk x41 (List.mem_of_getElem? hx41))) ?_
      rintro _ _ ⟨rfl, rfl⟩
      refine o_move rfl rfl ?_
      refine l_split (t := 46) rfl (fun h6 => ?_) (fun h6 => ?_)
      · -- h6T
       have h6b := h6
       try simp only [decide_eq_true_eq, decide_eq_false_iff_not, Bool.not_eq_eq_eq_not, Bool.not_true, Bool.not_false, Bool.not_eq_true', Bool.not_eq_false', Int.not_lt, Int.not_le, Bool.or_eq_true, Bool.and_eq_true] at h6
       refine o_yes rfl rfl rfl ?_
       refine o_fieldAddr (q := ⟨b10, 0, none⟩) rfl rfl Try.underlying41 rfl ti3 rfl ?_
       refine o_yes rfl rfl rfl ?_
       refine o_load1 rfl rfl Try.underlying3 rfl (rd_mem 1 rfl rfl) ?_
       refine o_yes rfl rfl rfl ?_
       refine o_bin rfl rfl rfl b_eql ?_
       refine o_pick_true rfl rfl rfl ?_
       refine l_nil ?_
       refine q_then ?_
       refine c_cond rfl (fun h7 => ?_) (fun h7 => ?_)
       · -- h7T
        have h7b := h7
        try simp only [decide_eq_true_eq] at h7
        refine c_region ?_
        refine o_move rfl rfl ?_
        refine o_bin rfl rfl rfl (b_add (wrap_i64 (by omega) (by omega))) ?_
        refine o_assign rfl rfl ?_
        refine l_nil ?_
        refine q_block ?_
        refine q_then ?_
        refine c_region ?_
        refine o_bin rfl rfl rfl (b_add (wrap_i64 (by omega) (by omega))) ?_
        refine o_move rfl rfl ?_
        refine l_nil ?_
        refine q_conv (fun w S => (S.perm p1).tail) ?_
        exact q_round (i + 1, (s.item x41).2, hd + 1) (by exact ⟨by omega, hfi.2.1.trans hreg, hfi.1, (by (try dsimp only); rcases Classical.em ((s.item x41).1 = true ∧ x41.f_Kind = 1) with q9 | q9; (have h7 := hfi.2.2.1 q9; omega); (have h7 := hfi.2.2.2 q9; omega)), (by (try dsimp only); rcases Classical.em ((s.item x41).1 = true ∧ x41.f_Kind = 1) with q9 | q9; (have h7 := hfi.2.2.1 q9; first | omega | (exfalso; simp_all)); (have h7 := hfi.2.2.2 q9; first | omega | (exfalso; apply q9; refine ⟨?_, ?_⟩ <;> first | assumption | simp_all)))⟩) (by (try dsimp only); omega) ⟨(by first | rfl | exact vint (by omega)), (by first | rfl | exact vint (by omega)), (by first | rfl | exact vint (by omega)), (by first | rfl | exact vint (by omega)), (by first | rfl | exact vint (by omega)), (by first | rfl | exact vint (by omega)), (by first | rfl | exact vint (by omega)), trivial⟩ (fun w S => S)
       · -- h7F
        have h7b := h7
        try simp only [decide_eq_false_iff_not, Int.not_lt, Int.not_le] at h7
        refine c_skip ?_
        refine q_block ?_
        refine q_then ?_
        refine c_region ?_
        refine o_bin rfl rfl rfl (b_add (wrap_i64 (by omega) (by omega))) ?_
        refine o_move rfl rfl ?_
        refine l_nil ?_
        refine q_conv (fun w S => (S.perm p1).tail) ?_
        exact q_round (i + 1, (s.item x41).2, hd) (by exact ⟨by omega, hfi.2.1.trans hreg, hfi.1, (by (try dsimp only); rcases Classical.em ((s.item x41).1 = true ∧ x41.f_Kind = 1) with q9 | q9; (have h7 := hfi.2.2.1 q9; omega); (have h7 := hfi.2.2.2 q9; omega)), (by (try dsimp only); rcases Classical.em ((s.item x41).1 = true ∧ x41.f_Kind = 1) with q9 | q9; (have h7 := hfi.2.2.1 q9; first | omega | (exfalso; simp_all)); (have h7 := hfi.2.2.2 q9; first | omega | (exfalso; apply q9; refine ⟨?_, ?_⟩ <;> first | assumption | simp_all)))⟩) (by (try dsimp only); omega) ⟨(by first | rfl | exact vint (by omega)), (by first | rfl | exact vint (by omega)), (by first | rfl | exact vint (by omega)), (by first | rfl | exact vint (by omega)), (by first | rfl | exact vint (by omega)), (by first | rfl | exact vint (by omega)), (by first | rfl | exact vint (by omega)), trivial⟩ (fun w S => S)
      · -- h6F
       have h6b := h6
       try simp only [decide_eq_true_eq, decide_eq_false_iff_not, Bool.not_eq_eq_eq_not, Bool.not_true, Bool.not_false, Bool.not_eq_true', Bool.not_eq_false', Int.not_lt, Int.not_le, Bool.or_eq_true, Bool.and_eq_true] at h6
       refine o_no rfl rfl rfl rfl ?_
       refine o_no rfl rfl rfl rfl ?_
       refine o_no rfl rfl rfl rfl ?_
       refine o_pick_false rfl rfl rfl ?_
       refine l_nil ?_
       refine q_then ?_
       refine c_false rfl ?_
       refine c_skip ?_
       refine q_block ?_
       refine q_then ?_
       refine c_region ?_
       refine o_bin rfl rfl rfl (b_add (wrap_i64 (by omega) (by omega))) ?_
       refine o_move rfl rfl ?_
       refine l_nil ?_
       refine q_conv (fun w S => (S.perm p1).tail) ?_
       exact q_round (i + 1, (s.item x41).2, hd) (by exact ⟨by omega, hfi.2.1.trans hreg, hfi.1, (by (try dsimp only); rcases Classical.em ((s.item x41).1 = true ∧ x41.f_Kind = 1) with q9 | q9; (have h7 := hfi.2.2.1 q9; omega); (have h7 := hfi.2.2.2 q9; omega)), (by (try dsimp only); rcases Classical.em ((s.item x41).1 = true ∧ x41.f_Kind = 1) with q9 | q9; (have h7 := hfi.2.2.1 q9; first | omega | (exfalso; simp_all)); (have h7 := hfi.2.2.2 q9; first | omega | (exfalso; apply q9; refine ⟨?_, ?_⟩ <;> first | assumption | simp_all)))⟩) (by (try dsimp only); omega) ⟨(by first | rfl | exact vint (by omega)), (by first | rfl | exact vint (by omega)), (by first | rfl | exact vint (by omega)), (by first | rfl | exact vint (by omega)), (by first | rfl | exact vint (by omega)), (by first | rfl | exact vint (by omega)), (by first | rfl | exact vint (by omega)), trivial⟩ (fun w S => S)
     · -- h5F
      have h5b := h5
      try simp only [decide_eq_false_iff_not, Int.not_lt, Int.not_le] at h5
      refine c_exit ?_
      refine q_pass_exit ?_
      refine q_pass_exit ?_
      refine q_hit ?_
      refine q_then ?_
      refine c_seq ?_
      refine c_region ?_
      refine o_move rfl rfl ?_
      refine o_call rfl cal22 rfl (ftags_ (by omega)) ?_
      rintro _ _ ⟨a55, c55, ys55, hp55, hs55, rfl, rfl⟩
      have hyl := hp55.length_eq
      rw [List.length_map] at hyl
      refine o_assign rfl rfl ?_
      refine l_nil ?_
      refine q_then ?_
      refine c_seq ?_
      refine c_seq ?_
      refine c_region ?_
      refine o_move rfl rfl ?_
      refine o_len rfl rfl Try.underlying54 ?_
      refine o_move rfl rfl ?_
      refine l_nil ?_
      refine q_then ?_
      refine c_block ?_
      refine c_loop (α := Nat) (fun z => [(0, .int .i64 g), (2, .slice a2 (more).length c2), (7, .pointer (some ⟨b34, 0, none⟩)), (8, .int .i64 hd), (11, .slice a55 (ys55).length c55), (56, .slice a55 (ys55).length c55), (57, .int .i64 ((ys55).length : Int)), (58, .int .i64 (z : Int))]) (fun z => row e_Tag.T e_Tag.sz a55 (ys55).length c55 (flat e_Tag ys55) :: FltR b34 s :: F) (fun z => z ≤ ys55.length) (fun z => ys55.length - z) (0) (by exact Nat.zero_le _) ⟨(by first | rfl | exact vint (by omega)), (by first | rfl | exact vint (by omega)), (by first | rfl | exact vint (by omega)), (by first | rfl | exact vint (by omega)), (by first | rfl | exact vint (by omega)), (by first | rfl | exact vint (by omega)), (by first | rfl | exact vint (by omega)), (by first | rfl | exact vint (by omega)), trivial⟩ (fun w S => S) ?_
      rintro j hj
      try dsimp only at *
      refine c_seq ?_
      refine c_region ?_
      refine o_bin rfl rfl rfl b_lss ?_
      refine l_nil ?_
      refine q_then ?_
      refine c_seq ?_
      refine c_cond rfl (fun h8 => ?_) (fun h8 => ?_)
      · -- h8T
       have h8b := h8
       try simp only [decide_eq_true_eq] at h8
       refine c_skip ?_
       refine q_then ?_
       refine c_seq ?_
       refine c_block ?_
       refine c_seq ?_
       refine c_region ?_
       refine o_move rfl rfl ?_
       refine o_index e_Tag_ok rfl rfl rfl Try.underlying54 (by omega) (by omega) (rds_own e_Tag_ok 0 rfl) fun ad61 ead61 => ?_
       obtain ⟨x61, hx61⟩ : ∃ x, (ys55)[((j : Int)).toNat]? = some x := ⟨_, List.getElem?_eq_getElem (by omega)⟩
       refine o_loadn (vs := e_Tag.cells x61) rfl rfl Try.underlying32 rfl ti32 (rdn_sl e_Tag_ok ead61 (rds_own e_Tag_ok 0 rfl) hx61) ?_
       refine o_alloc rfl ti32 fun b13 => ?_
       refine o_assign rfl rfl ?_
       refine o_storen rfl rfl ti32 rfl rfl rfl rfl ?_
       refine l_nil ?_
       refine q_then ?_
       refine c_seq ?_
       have hpos := (hF.pos x61).1.2 (hp55.mem_iff.1 (List.mem_of_getElem? hx61))
       refine c_fact (p := ∃ ad, a55 = some ad) (rds_some (e := e_Tag) (xs := ys55) (rds_own e_Tag_ok 1 rfl) (by intro h0; have h00 := congrArg List.length h0; simp only [List.length_nil] at h00; omega)) ?_
       rintro ⟨adt, eadt⟩
       refine c_heldF [] (blk b13 (.cells #[.int .i64 x61.f_Id_Node, .int .u64 x61.f_Id_Epoch, .int .u64 x61.f_Id_Seq, .int .i64 x61.f_Try] 32 (0, 0)) :: row e_Tag.T e_Tag.sz a55 (ys55).length c55 (flat e_Tag ys55) :: FltR b34 s :: F) (by kernel_rfl) ?_
       refine h_take 0 rfl rfl (by kernel_rfl) (by kernel_rfl) (by kernel_rfl) (fun L0 => v_move rfl rfl) ?_
       refine h_take 1 rfl rfl (by kernel_rfl) (by kernel_rfl) (by kernel_rfl) (fun L0 => v_loadn (vs := [_, _, _, _]) rfl rfl Try.underlying32 rfl ti32 (rdn_lit 0 rfl rfl)) ?_
       refine h_one 2 rfl (by kernel_rfl) ?_
       refine l_conv (L' := blk b13 (.cells #[.int .i64 x61.f_Id_Node, .int .u64 x61.f_Id_Epoch, .int .u64 x61.f_Id_Seq, .int .i64 x61.f_Try] 32 (0, 0)) :: row e_Tag.T e_Tag.sz a55 (ys55).length c55 (flat e_Tag ys55) :: FltR b34 s :: F) (fun w S => S.perm List.perm_append_comm) ?_
       refine l_f2 ?_
       refine o_call rfl cal14 rfl (fhas_ (tg := x61)) ?_
       rintro _ _ ⟨rfl, rfl⟩
       refine l_nil ?_
       refine q_conv (fun w S => S.perm p2) ?_
       refine q_conv (fun w S => S.perm p2) ?_
       refine q_conv (L' := (blk b13 (.cells #[.int .i64 x61.f_Id_Node, .int .u64 x61.f_Id_Epoch, .int .u64 x61.f_Id_Seq, .int .i64 x61.f_Try] 32 (0, 0)) :: row e_Tag.T e_Tag.sz a55 (ys55).length c55 (flat e_Tag ys55) :: FltR b34 s :: F) ++ []) (fun w S => S.perm (List.perm_append_comm (l₁ := []) (l₂ := blk b13 (.cells #[.int .i64 x61.f_Id_Node, .int .u64 x61.f_Id_Epoch, .int .u64 x61.f_Id_Seq, .int .i64 x61.f_Try] 32 (0, 0)) :: row e_Tag.T e_Tag.sz a55 (ys55).length c55 (flat e_Tag ys55) :: FltR b34 s :: F))) ?_
       refine h_next ?_
       refine h_eq (t := 65) (v' := .bool true) rfl (show _ = Value.bool true from by rw [decide_eq_true hpos]) ?_
       refine h_take 3 rfl rfl (by kernel_rfl) (by kernel_rfl) (by kernel_rfl) (fun L0 => v_not rfl rfl) ?_
       refine h_take 4 rfl rfl (by kernel_rfl) (by kernel_rfl) (by kernel_rfl) (fun L0 => v_move rfl rfl) ?_
       refine h_take_yes 5 rfl rfl rfl rfl rfl (by kernel_rfl) (by kernel_rfl) (by kernel_rfl) (fun L0 => v_move rfl rfl) ?_
       refine h_take_yes 6 rfl rfl rfl rfl rfl (by kernel_rfl) (by kernel_rfl) (by kernel_rfl) (fun L0 => v_bin rfl rfl rfl b_gtr) ?_
       refine h_take_yes 7 rfl rfl rfl rfl rfl (by kernel_rfl) (by kernel_rfl) (by kernel_rfl) (fun L0 => v_move rfl rfl) ?_
       refine h_split (t := 70) rfl (fun h9 => ?_) (fun h9 => ?_)
       · -- h9T
        have h9b := h9
        try simp only [decide_eq_true_eq] at h9
        refine h_take_yes 8 rfl rfl rfl rfl rfl (by kernel_rfl) (by kernel_rfl) (by kernel_rfl) (fun L0 => v_move rfl rfl) ?_
        refine h_take_yes 9 rfl rfl rfl rfl rfl (by kernel_rfl) (by kernel_rfl) (by kernel_rfl) (fun L0 => v_move rfl rfl) ?_
        refine h_take_yes 10 rfl rfl rfl rfl rfl (by kernel_rfl) (by kernel_rfl) (by kernel_rfl) (fun L0 => v_bin rfl rfl rfl (b_sub (wrap_i64 (by omega) (by omega)))) ?_
        refine h_take_yes 11 rfl rfl rfl rfl rfl (by kernel_rfl) (by kernel_rfl) (by kernel_rfl) (fun L0 => v_indexK e_Tag_ok eadt rfl rfl rfl Try.underlying54 (by omega) (by omega)) ?_
        obtain ⟨x74, hx74⟩ : ∃ x, (ys55)[((j : Int) - 1).toNat]? = some x := ⟨_, List.getElem?_eq_getElem (by omega)⟩
        refine h_take_yes 12 rfl rfl rfl rfl rfl (by kernel_rfl) (by kernel_rfl) (by kernel_rfl) (fun L0 => v_loadn (vs := e_Tag.cells x74) rfl rfl Try.underlying32 rfl ti32 (rdn_sl e_Tag_ok eadt (rds_own e_Tag_ok 1 rfl) hx74)) ?_
        refine h_take_yes 13 rfl rfl rfl rfl rfl (by kernel_rfl) (by kernel_rfl) (by kernel_rfl) (fun L0 => v_loadn (vs := [_, _, _, _]) rfl rfl Try.underlying32 rfl ti32 (rdn_lit 0 rfl rfl)) ?_
        refine h_one 14 rfl (by kernel_rfl) ?_
        refine l_conv (L' := blk b13 (.cells #[.int .i64 x61.f_Id_Node, .int .u64 x61.f_Id_Epoch, .int .u64 x61.f_Id_Seq, .int .i64 x61.f_Try] 32 (0, 0)) :: row e_Tag.T e_Tag.sz a55 (ys55).length c55 (flat e_Tag ys55) :: FltR b34 s :: F) (fun w S => S.perm List.perm_append_comm) ?_
        refine o_yes rfl rfl rfl ?_
        refine o_call rfl cal23 rfl (less_ (x := x74) (y := x61)) ?_
        rintro _ _ ⟨rfl, rfl⟩
        refine l_nil ?_
        refine q_conv (L' := (blk b13 (.cells #[.int .i64 x61.f_Id_Node, .int .u64 x61.f_Id_Epoch, .int .u64 x61.f_Id_Seq, .int .i64 x61.f_Try] 32 (0, 0)) :: row e_Tag.T e_Tag.sz a55 (ys55).length c55 (flat e_Tag ys55) :: FltR b34 s :: F) ++ []) (fun w S => S.perm (List.perm_append_comm (l₁ := []) (l₂ := blk b13 (.cells #[.int .i64 x61.f_Id_Node, .int .u64 x61.f_Id_Epoch, .int .u64 x61.f_Id_Seq, .int .i64 x61.f_Try] 32 (0, 0)) :: row e_Tag.T e_Tag.sz a55 (ys55).length c55 (flat e_Tag ys55) :: FltR b34 s :: F))) ?_
        refine h_next ?_
        refine h_eq (t := 77) (v' := .bool true) rfl (show _ = Value.bool true from by rw [decide_eq_true (tags_rise hF.nod hp55 hs55 (by omega) hx74 hx61)]) ?_
        refine h_take_yes 15 rfl rfl rfl rfl rfl (by kernel_rfl) (by kernel_rfl) (by kernel_rfl) (fun L0 => v_not rfl rfl) ?_
        refine h_take_yes 16 rfl rfl rfl rfl rfl (by kernel_rfl) (by kernel_rfl) (by kernel_rfl) (fun L0 => v_pick_true rfl rfl rfl) ?_
        refine h_take 17 rfl rfl (by kernel_rfl) (by kernel_rfl) (by kernel_rfl) (fun L0 => v_pick_false rfl rfl rfl) ?_
        refine h_done (by kernel_rfl) ?_
        refine q_conv (L' := blk b13 (.cells #[.int .i64 x61.f_Id_Node, .int .u64 x61.f_Id_Epoch, .int .u64 x61.f_Id_Seq, .int .i64 x61.f_Try] 32 (0, 0)) :: row e_Tag.T e_Tag.sz a55 (ys55).length c55 (flat e_Tag ys55) :: FltR b34 s :: F) (fun w S => S.perm List.perm_append_comm) ?_
        refine q_then ?_
        refine c_false rfl ?_
        refine c_skip ?_
        refine q_block ?_
        refine q_then ?_
        refine c_region ?_
        refine o_bin rfl rfl rfl (b_add (wrap_i64 (by omega) (by omega))) ?_
        refine o_move rfl rfl ?_
        refine l_nil ?_
        refine q_conv (fun w S => S.tail) ?_
        exact q_round (j + 1) (by omega) (by (try dsimp only); omega) ⟨(by first | rfl | exact vint (by omega)), (by first | rfl | exact vint (by omega)), (by first | rfl | exact vint (by omega)), (by first | rfl | exact vint (by omega)), (by first | rfl | exact vint (by omega)), (by first | rfl | exact vint (by omega)), (by first | rfl | exact vint (by omega)), (by first | rfl | exact vint (by omega)), trivial⟩ (fun w S => S)
       · -- h9F
        have h9b := h9
        try simp only [decide_eq_false_iff_not, Int.not_lt, Int.not_le] at h9
        refine h_take_no 8 rfl rfl rfl rfl rfl (by kernel_rfl) (by kernel_rfl) (by kernel_rfl) ?_
        refine h_take_no 9 rfl rfl rfl rfl rfl (by kernel_rfl) (by kernel_rfl) (by kernel_rfl) ?_
        refine h_take_no 10 rfl rfl rfl rfl rfl (by kernel_rfl) (by kernel_rfl) (by kernel_rfl) ?_
        refine h_take_no 11 rfl rfl rfl rfl rfl (by kernel_rfl) (by kernel_rfl) (by kernel_rfl) ?_
        refine h_take_no 12 rfl rfl rfl rfl rfl (by kernel_rfl) (by kernel_rfl) (by kernel_rfl) ?_
        refine h_take_no 13 rfl rfl rfl rfl rfl (by kernel_rfl) (by kernel_rfl) (by kernel_rfl) ?_
        refine h_take_no 14 rfl rfl rfl rfl rfl (by kernel_rfl) (by kernel_rfl) (by kernel_rfl) ?_
        refine h_take_no 15 rfl rfl rfl rfl rfl (by kernel_rfl) (by kernel_rfl) (by kernel_rfl) ?_
        refine h_take_yes 16 rfl rfl rfl rfl rfl (by kernel_rfl) (by kernel_rfl) (by kernel_rfl) (fun L0 => v_pick_false rfl rfl rfl) ?_
        refine h_take 17 rfl rfl (by kernel_rfl) (by kernel_rfl) (by kernel_rfl) (fun L0 => v_pick_false rfl rfl rfl) ?_
        refine h_done (by kernel_rfl) ?_
        refine q_conv (L' := blk b13 (.cells #[.int .i64 x61.f_Id_Node, .int .u64 x61.f_Id_Epoch, .int .u64 x61.f_Id_Seq, .int .i64 x61.f_Try] 32 (0, 0)) :: row e_Tag.T e_Tag.sz a55 (ys55).length c55 (flat e_Tag ys55) :: FltR b34 s :: F) (fun w S => S.perm List.perm_append_comm) ?_
        refine q_then ?_
        refine c_false rfl ?_
        refine c_skip ?_
        refine q_block ?_
        refine q_then ?_
        refine c_region ?_
        refine o_bin rfl rfl rfl (b_add (wrap_i64 (by omega) (by omega))) ?_
        refine o_move rfl rfl ?_
        refine l_nil ?_
        refine q_conv (fun w S => S.tail) ?_
        exact q_round (j + 1) (by omega) (by (try dsimp only); omega) ⟨(by first | rfl | exact vint (by omega)), (by first | rfl | exact vint (by omega)), (by first | rfl | exact vint (by omega)), (by first | rfl | exact vint (by omega)), (by first | rfl | exact vint (by omega)), (by first | rfl | exact vint (by omega)), (by first | rfl | exact vint (by omega)), (by first | rfl | exact vint (by omega)), trivial⟩ (fun w S => S)
      · -- h8F
       have h8b := h8
       try simp only [decide_eq_false_iff_not, Int.not_lt, Int.not_le] at h8
       refine c_exit ?_
       refine q_pass_exit ?_
       refine q_pass_exit ?_
       refine q_hit ?_
       refine q_then ?_
       refine c_seq ?_
       refine c_region ?_
       refine o_move rfl rfl ?_
       refine o_move rfl rfl ?_
       refine l_f1 ?_
       refine o_call rfl cal12 rfl (flast_) ?_
       rintro _ _ ⟨rfl, rfl⟩
       refine o_lit e_Tag_ok rfl Try.underlying54 rfl rfl rfl (lit_ok rfl) ([] : List Tag) rfl rfl fun a85 => ?_
       refine o_move rfl rfl ?_
       refine o_append e_Tag_ok rfl rfl rfl Try.underlying54 (rds_own e_Tag_ok 2 rfl) (by show (_ + _) * _ ≤ _; simp only [List.length_append, List.length_nil]; omega) (by simp only [List.length_append, List.length_nil]; omega) fun a87 c87 => ?_
       refine o_move rfl rfl ?_
       refine o_append e_Tag_ok rfl rfl rfl Try.underlying54 (rds_own e_Tag_ok 2 rfl) (by show (_ + _) * _ ≤ _; simp only [List.length_append, List.length_nil]; omega) (by simp only [List.length_append, List.length_nil]; omega) fun a89 c89 => ?_
       refine o_call rfl cal24 rfl (frestore_ (g := g) (l := s.last) (rds_own e_Tag_ok 0 rfl) (by simp only [List.length_append, List.length_nil]; omega)) ?_
       rintro _ _ ⟨b90, rfl, rfl⟩
       refine o_assign rfl rfl ?_
       refine l_nil ?_
       refine q_then ?_
       refine c_seq ?_
       refine c_seq ?_
       have hsr := same_rest hF hp55
       rw [hreg] at hsr
       refine c_region ?_
       refine o_move rfl rfl ?_
       refine o_bin rfl rfl rfl (b_peq Try.underlying25 _) ?_
       refine o_move rfl rfl ?_
       refine o_yes rfl rfl rfl ?_
       refine o_move rfl rfl ?_
       refine o_yes rfl rfl rfl ?_
       refine o_len rfl rfl Try.underlying54 ?_
       refine o_yes rfl rfl rfl ?_
       refine o_move rfl rfl ?_
       refine o_yes rfl rfl rfl ?_
       refine o_bin rfl rfl rfl b_neq ?_
       refine l_eq (t := 97) (v' := .bool false) rfl (show _ = Value.bool false from by rw [decide_eq_true (by omega)]; rfl) ?_
       refine o_pick_false rfl rfl rfl ?_
       refine l_nil ?_
       refine q_then ?_
       refine c_false rfl ?_
       refine c_skip ?_
       refine q_then ?_
       refine c_seq ?_
       refine c_seq ?_
       refine c_region ?_
       refine o_move rfl rfl ?_
       refine o_len rfl rfl Try.underlying22 ?_
       refine o_move rfl rfl ?_
       refine l_nil ?_
       refine q_then ?_
       refine c_block ?_
       refine c_loop (α := Nat × FS × FS) (fun z => [(7, .pointer (some ⟨b34, 0, none⟩)), (14, .pointer (some ⟨b90, 0, none⟩)), (99, .slice a2 (more).length c2), (100, .int .i64 ((more).length : Int)), (101, .int .i64 (z.1 : Int))]) (fun z => FltR b90 z.2.2 :: row e_Tag.T e_Tag.sz a89 (([] : List Tag) ++ ys55 ++ ys55).length c89 (flat e_Tag (([] : List Tag) ++ ys55 ++ ys55)) :: FltR b34 z.2.1 :: row e_Tag.T e_Tag.sz a55 (ys55).length c55 (flat e_Tag ys55) :: F) (fun z => z.1 ≤ more.length ∧ SameF z.2.1 z.2.2 ∧ Fm z.2.1.seen (i + z.1) ∧ Fm z.2.2.seen (1 + z.1) ∧ z.2.1.seen.length ≤ i + z.1) (fun z => more.length - z.1) (0, s, _) (by exact ⟨Nat.zero_le _, hsr.1, hF, hsr.2, hln⟩) ⟨(by first | rfl | exact vint (by omega)), (by first | rfl | exact vint (by omega)), (by first | rfl | exact vint (by omega)), (by first | rfl | exact vint (by omega)), (by first | rfl | exact vint (by omega)), trivial⟩ (fun w S => S) ?_
       rintro ⟨k, s, q⟩ ⟨hk, hS, hF, hQ, hln⟩
       try dsimp only at *
       refine c_seq ?_
       refine c_region ?_
       refine o_bin rfl rfl rfl b_lss ?_
       refine l_nil ?_
       refine q_then ?_
       refine c_seq ?_
       refine c_cond rfl (fun h10 => ?_) (fun h10 => ?_)
       · -- h10T
        have h10b := h10
        try simp only [decide_eq_true_eq] at h10
        refine c_skip ?_
        refine q_then ?_
        refine c_seq ?_
        refine c_block ?_
        refine c_seq ?_
        refine c_region ?_
        refine o_index e_Item_ok rfl rfl rfl Try.underlying22 (by omega) (by omega) (rds_c (rds_c (rds_c (rds_c hs2)))) fun ad103 ead103 => ?_
        obtain ⟨x103, hx103⟩ : ∃ x, (more)[((k : Int)).toNat]? = some x := ⟨_, List.getElem?_eq_getElem (by omega)⟩
        refine o_loadn (vs := e_Item.cells x103) rfl rfl Try.underlying41 rfl ti41 (rdn_sl e_Item_ok ead103 (rds_c (rds_c (rds_c (rds_c hs2)))) hx103) ?_
        refine o_alloc rfl ti41 fun b16 => ?_
        refine o_storen rfl rfl ti41 rfl rfl rfl rfl ?_
        refine l_nil ?_
        refine q_then ?_
        refine c_seq ?_
        refine c_conv (fun w S => S.perm p3) ?_
        refine c_obj ?_
        rintro m_1 ok_1
        refine c_conv (L' := blk b34 (.cells #[.int .i64 s.region, .int .i64 s.last, .map (some m_1)] 64 (0, 0)) :: mapR kvTag vvInt m_1 s.seen :: _) (fun w S => S) ?_
        refine c_conv (fun w S => S.perm p3) ?_
        refine c_obj ?_
        rintro m_2 ok_2
        refine c_conv (L' := blk b90 (.cells #[.int .i64 q.region, .int .i64 q.last, .map (some m_2)] 64 (0, 0)) :: mapR kvTag vvInt m_2 q.seen :: _) (fun w S => S) ?_
        have hst := hS.item hF (by omega) hQ (by omega) x103
        have hfi := hF.item (by omega) x103
        have hqi := hQ.item (by omega) x103
        refine c_conv (fun w S => S.perm p3) ?_
        refine c_conv (fun w S => S.perm p3) ?_
        refine c_conv (fun w S => S.perm p3) ?_
        refine c_conv (fun w S => S.perm p3) ?_
        refine c_conv (fun w S => S.perm p6) ?_
        refine c_conv (fun w S => S.perm p6) ?_
        refine c_conv (fun w S => S.perm p6) ?_
        refine c_conv (fun w S => S.perm p2) ?_
        refine c_conv (fun w S => S.perm p2) ?_
        refine c_conv (fun w S => S.perm p2) ?_
        refine c_conv (fun w S => S.perm p6) ?_
        refine c_conv (fun w S => S.perm p6) ?_
        refine c_conv (fun w S => S.perm p6) ?_
        refine c_conv (fun w S => S.perm p6) ?_
        refine c_heldF [blk b90 (.cells #[.int .i64 q.region, .int .i64 q.last, .map (some m_2)] 64 (0, 0)), mapR kvTag vvInt m_2 q.seen, blk b34 (.cells #[.int .i64 s.region, .int .i64 s.last, .map (some m_1)] 64 (0, 0)), mapR kvTag vvInt m_1 s.seen] (blk b16 (.cells #[.int .i64 x103.f_Kind, .int .i64 x103.f_Index, .int .i64 x103.ord.f_Tag_Id_Node, .int .u64 x103.ord.f_Tag_Id_Epoch, .int .u64 x103.ord.f_Tag_Id_Seq, .int .i64 x103.ord.f_Tag_Try, .int .i64 x103.ord.f_Txn_Kind, .slice x103.ord.f_Txn_Reads.a (x103.ord.f_Txn_Reads.xs).length x103.ord.f_Txn_Reads.c, .slice x103.ord.f_Txn_Writes.a (x103.ord.f_Txn_Writes.xs).length x103.ord.f_Txn_Writes.c, .slice x103.ord.f_Txn_Ops.a (x103.ord.f_Txn_Ops.xs).length x103.ord.f_Txn_Ops.c, .int .i64 x103.ord.f_Txn_To, .slice x103.ord.f_Marks.a (x103.ord.f_Marks.xs).length x103.ord.f_Marks.c] 41 (0, 0)) :: row e_Tag.T e_Tag.sz a89 (([] : List Tag) ++ ys55 ++ ys55).length c89 (flat e_Tag (([] : List Tag) ++ ys55 ++ ys55)) :: row e_Tag.T e_Tag.sz a55 (ys55).length c55 (flat e_Tag ys55) :: F) (by kernel_rfl) ?_
        refine h_take 0 rfl rfl (by kernel_rfl) (by kernel_rfl) (by kernel_rfl) (fun L0 => v_move rfl rfl) ?_
        refine h_take 1 rfl rfl (by kernel_rfl) (by kernel_rfl) (by kernel_rfl) (fun L0 => v_loadn (vs := [_, _, _, _, _, _, _, _, _, _, _, _]) rfl rfl Try.underlying41 rfl ti41 (rdn_lit 0 rfl rfl)) ?_
        refine h_take 3 rfl rfl (by kernel_rfl) (by kernel_rfl) (by kernel_rfl) (fun L0 => v_move rfl rfl) ?_
        refine h_take 4 rfl rfl (by kernel_rfl) (by kernel_rfl) (by kernel_rfl) (fun L0 => v_loadn (vs := [_, _, _, _, _, _, _, _, _, _, _, _]) rfl rfl Try.underlying41 rfl ti41 (rdn_lit 0 rfl rfl)) ?_
        refine h_one 2 rfl (by kernel_rfl) ?_
        refine l_conv (L' := blk b90 (.cells #[.int .i64 q.region, .int .i64 q.last, .map (some m_2)] 64 (0, 0)) :: mapR kvTag vvInt m_2 q.seen :: blk b34 (.cells #[.int .i64 s.region, .int .i64 s.last, .map (some m_1)] 64 (0, 0)) :: mapR kvTag vvInt m_1 s.seen :: blk b16 (.cells #[.int .i64 x103.f_Kind, .int .i64 x103.f_Index, .int .i64 x103.ord.f_Tag_Id_Node, .int .u64 x103.ord.f_Tag_Id_Epoch, .int .u64 x103.ord.f_Tag_Id_Seq, .int .i64 x103.ord.f_Tag_Try, .int .i64 x103.ord.f_Txn_Kind, .slice x103.ord.f_Txn_Reads.a (x103.ord.f_Txn_Reads.xs).length x103.ord.f_Txn_Reads.c, .slice x103.ord.f_Txn_Writes.a (x103.ord.f_Txn_Writes.xs).length x103.ord.f_Txn_Writes.c, .slice x103.ord.f_Txn_Ops.a (x103.ord.f_Txn_Ops.xs).length x103.ord.f_Txn_Ops.c, .int .i64 x103.ord.f_Txn_To, .slice x103.ord.f_Marks.a (x103.ord.f_Marks.xs).length x103.ord.f_Marks.c] 41 (0, 0)) :: row e_Tag.T e_Tag.sz a89 (([] : List Tag) ++ ys55 ++ ys55).length c89 (flat e_Tag (([] : List Tag) ++ ys55 ++ ys55)) :: row e_Tag.T e_Tag.sz a55 (ys55).length c55 (flat e_Tag ys55) :: F) (fun w S => S.perm List.perm_append_comm) ?_
        refine l_conv (fun w S => S.perm p6) ?_
        refine l_conv (fun w S => S.perm p6) ?_
        refine l_conv (fun w S => S.perm p6) ?_
        refine l_conv (fun w S => S.perm p4) ?_
        refine l_conv (fun w S => S.perm p4) ?_
        refine l_conv (fun w S => S.perm p6) ?_
        refine l_conv (fun w S => S.perm p6) ?_
        refine l_conv (L' := FltR b34 s :: _) (fun w S => Sat.obj_mk m_1 ok_1 S) ?_
        refine o_call rfl cal11 rfl (fitem_ (x := x103) (OrdR.c (OrdR.c (OrdR.c (OrdR.c (OrdR.c (ho2 x103 (List.mem_of_getElem? hx103))))))) (hmk2 x103 (List.mem_of_getElem? hx103))) ?_
        rintro _ _ ⟨rfl, rfl⟩
        refine l_nil ?_
        refine q_conv (L' := (blk b16 (.cells #[.int .i64 x103.f_Kind, .int .i64 x103.f_Index, .int .i64 x103.ord.f_Tag_Id_Node, .int .u64 x103.ord.f_Tag_Id_Epoch, .int .u64 x103.ord.f_Tag_Id_Seq, .int .i64 x103.ord.f_Tag_Try, .int .i64 x103.ord.f_Txn_Kind, .slice x103.ord.f_Txn_Reads.a (x103.ord.f_Txn_Reads.xs).length x103.ord.f_Txn_Reads.c, .slice x103.ord.f_Txn_Writes.a (x103.ord.f_Txn_Writes.xs).length x103.ord.f_Txn_Writes.c, .slice x103.ord.f_Txn_Ops.a (x103.ord.f_Txn_Ops.xs).length x103.ord.f_Txn_Ops.c, .int .i64 x103.ord.f_Txn_To, .slice x103.ord.f_Marks.a (x103.ord.f_Marks.xs).length x103.ord.f_Marks.c] 41 (0, 0)) :: row e_Tag.T e_Tag.sz a89 (([] : List Tag) ++ ys55 ++ ys55).length c89 (flat e_Tag (([] : List Tag) ++ ys55 ++ ys55)) :: row e_Tag.T e_Tag.sz a55 (ys55).length c55 (flat e_Tag ys55) :: F) ++ [FltR b34 ((s.item x103).2), blk b90 (.cells #[.int .i64 q.region, .int .i64 q.last, .map (some m_2)] 64 (0, 0)), mapR kvTag vvInt m_2 q.seen]) (fun w S => S.perm (List.perm_append_comm (l₁ := [FltR b34 ((s.item x103).2), blk b90 (.cells #[.int .i64 q.region, .int .i64 q.last, .map (some m_2)] 64 (0, 0)), mapR kvTag vvInt m_2 q.seen]) (l₂ := blk b16 (.cells #[.int .i64 x103.f_Kind, .int .i64 x103.f_Index, .int .i64 x103.ord.f_Tag_Id_Node, .int .u64 x103.ord.f_Tag_Id_Epoch, .int .u64 x103.ord.f_Tag_Id_Seq, .int .i64 x103.ord.f_Tag_Try, .int .i64 x103.ord.f_Txn_Kind, .slice x103.ord.f_Txn_Reads.a (x103.ord.f_Txn_Reads.xs).length x103.ord.f_Txn_Reads.c, .slice x103.ord.f_Txn_Writes.a (x103.ord.f_Txn_Writes.xs).length x103.ord.f_Txn_Writes.c, .slice x103.ord.f_Txn_Ops.a (x103.ord.f_Txn_Ops.xs).length x103.ord.f_Txn_Ops.c, .int .i64 x103.ord.f_Txn_To, .slice x103.ord.f_Marks.a (x103.ord.f_Marks.xs).length x103.ord.f_Marks.c] 41 (0, 0)) :: row e_Tag.T e_Tag.sz a89 (([] : List Tag) ++ ys55 ++ ys55).length c89 (flat e_Tag (([] : List Tag) ++ ys55 ++ ys55)) :: row e_Tag.T e_Tag.sz a55 (ys55).length c55 (flat e_Tag ys55) :: F))) ?_
        refine h_next ?_
        refine h_one 5 rfl (by kernel_rfl) ?_
        refine l_conv (L' := FltR b34 ((s.item x103).2) :: blk b90 (.cells #[.int .i64 q.region, .int .i64 q.last, .map (some m_2)] 64 (0, 0)) :: mapR kvTag vvInt m_2 q.seen :: blk b16 (.cells #[.int .i64 x103.f_Kind, .int .i64 x103.f_Index, .int .i64 x103.ord.f_Tag_Id_Node, .int .u64 x103.ord.f_Tag_Id_Epoch, .int .u64 x103.ord.f_Tag_Id_Seq, .int .i64 x103.ord.f_Tag_Try, .int .i64 x103.ord.f_Txn_Kind, .slice x103.ord.f_Txn_Reads.a (x103.ord.f_Txn_Reads.xs).length x103.ord.f_Txn_Reads.c, .slice x103.ord.f_Txn_Writes.a (x103.ord.f_Txn_Writes.xs).length x103.ord.f_Txn_Writes.c, .slice x103.ord.f_Txn_Ops.a (x103.ord.f_Txn_Ops.xs).length x103.ord.f_Txn_Ops.c, .int .i64 x103.ord.f_Txn_To, .slice x103.ord.f_Marks.a (x103.ord.f_Marks.xs).length x103.ord.f_Marks.c] 41 (0, 0)) :: row e_Tag.T e_Tag.sz a89 (([] : List Tag) ++ ys55 ++ ys55).length c89 (flat e_Tag (([] : List Tag) ++ ys55 ++ ys55)) :: row e_Tag.T e_Tag.sz a55 (ys55).length c55 (flat e_Tag ys55) :: F) (fun w S => S.perm List.perm_append_comm) ?_
        refine l_conv (fun w S => S.perm p5) ?_
        refine l_conv (fun w S => S.perm p5) ?_
        refine l_conv (fun w S => S.perm p5) ?_
        refine l_conv (fun w S => S.perm p3) ?_
        refine l_conv (fun w S => S.perm p5) ?_
        refine l_conv (fun w S => S.perm p5) ?_
        refine l_conv (L' := FltR b90 q :: _) (fun w S => Sat.obj_mk m_2 ok_2 S) ?_
        refine o_call rfl cal11 rfl (fitem_ (x := x103) (OrdR.c (OrdR.c (OrdR.c (OrdR.c (ho2 x103 (List.mem_of_getElem? hx103)))))) (hmk2 x103 (List.mem_of_getElem? hx103))) ?_
        rintro _ _ ⟨rfl, rfl⟩
        refine l_nil ?_
        refine q_conv (L' := (blk b16 (.cells #[.int .i64 x103.f_Kind, .int .i64 x103.f_Index, .int .i64 x103.ord.f_Tag_Id_Node, .int .u64 x103.ord.f_Tag_Id_Epoch, .int .u64 x103.ord.f_Tag_Id_Seq, .int .i64 x103.ord.f_Tag_Try, .int .i64 x103.ord.f_Txn_Kind, .slice x103.ord.f_Txn_Reads.a (x103.ord.f_Txn_Reads.xs).length x103.ord.f_Txn_Reads.c, .slice x103.ord.f_Txn_Writes.a (x103.ord.f_Txn_Writes.xs).length x103.ord.f_Txn_Writes.c, .slice x103.ord.f_Txn_Ops.a (x103.ord.f_Txn_Ops.xs).length x103.ord.f_Txn_Ops.c, .int .i64 x103.ord.f_Txn_To, .slice x103.ord.f_Marks.a (x103.ord.f_Marks.xs).length x103.ord.f_Marks.c] 41 (0, 0)) :: row e_Tag.T e_Tag.sz a89 (([] : List Tag) ++ ys55 ++ ys55).length c89 (flat e_Tag (([] : List Tag) ++ ys55 ++ ys55)) :: row e_Tag.T e_Tag.sz a55 (ys55).length c55 (flat e_Tag ys55) :: F) ++ [FltR b90 ((q.item x103).2), FltR b34 ((s.item x103).2)]) (fun w S => S.perm (List.perm_append_comm (l₁ := [FltR b90 ((q.item x103).2), FltR b34 ((s.item x103).2)]) (l₂ := blk b16 (.cells #[.int .i64 x103.f_Kind, .int .i64 x103.f_Index, .int .i64 x103.ord.f_Tag_Id_Node, .int .u64 x103.ord.f_Tag_Id_Epoch, .int .u64 x103.ord.f_Tag_Id_Seq, .int .i64 x103.ord.f_Tag_Try, .int .i64 x103.ord.f_Txn_Kind, .slice x103.ord.f_Txn_Reads.a (x103.ord.f_Txn_Reads.xs).length x103.ord.f_Txn_Reads.c, .slice x103.ord.f_Txn_Writes.a (x103.ord.f_Txn_Writes.xs).length x103.ord.f_Txn_Writes.c, .slice x103.ord.f_Txn_Ops.a (x103.ord.f_Txn_Ops.xs).length x103.ord.f_Txn_Ops.c, .int .i64 x103.ord.f_Txn_To, .slice x103.ord.f_Marks.a (x103.ord.f_Marks.xs).length x103.ord.f_Marks.c] 41 (0, 0)) :: row e_Tag.T e_Tag.sz a89 (([] : List Tag) ++ ys55 ++ ys55).length c89 (flat e_Tag (([] : List Tag) ++ ys55 ++ ys55)) :: row e_Tag.T e_Tag.sz a55 (ys55).length c55 (flat e_Tag ys55) :: F))) ?_
        refine h_next ?_
        refine h_take 6 rfl rfl (by kernel_rfl) (by kernel_rfl) (by kernel_rfl) (fun L0 => v_bin rfl rfl rfl (b_bne Try.underlying4 _ _)) ?_
        refine h_eq (t := 111) (v' := .bool false) rfl (show _ = Value.bool false from by rw [hst.1]; simp) ?_
        refine h_take 7 rfl rfl (by kernel_rfl) (by kernel_rfl) (by kernel_rfl) (fun L0 => v_move rfl rfl) ?_
        refine h_take_yes 8 rfl rfl rfl rfl rfl (by kernel_rfl) (by kernel_rfl) (by kernel_rfl) (fun L0 => v_move rfl rfl) ?_
        refine h_take_yes 10 rfl rfl rfl rfl rfl (by kernel_rfl) (by kernel_rfl) (by kernel_rfl) (fun L0 => v_move rfl rfl) ?_
        refine h_one 9 rfl (by kernel_rfl) ?_
        refine l_conv (L' := FltR b90 ((q.item x103).2) :: FltR b34 ((s.item x103).2) :: blk b16 (.cells #[.int .i64 x103.f_Kind, .int .i64 x103.f_Index, .int .i64 x103.ord.f_Tag_Id_Node, .int .u64 x103.ord.f_Tag_Id_Epoch, .int .u64 x103.ord.f_Tag_Id_Seq, .int .i64 x103.ord.f_Tag_Try, .int .i64 x103.ord.f_Txn_Kind, .slice x103.ord.f_Txn_Reads.a (x103.ord.f_Txn_Reads.xs).length x103.ord.f_Txn_Reads.c, .slice x103.ord.f_Txn_Writes.a (x103.ord.f_Txn_Writes.xs).length x103.ord.f_Txn_Writes.c, .slice x103.ord.f_Txn_Ops.a (x103.ord.f_Txn_Ops.xs).length x103.ord.f_Txn_Ops.c, .int .i64 x103.ord.f_Txn_To, .slice x103.ord.f_Marks.a (x103.ord.f_Marks.xs).length x103.ord.f_Marks.c] 41 (0, 0)) :: row e_Tag.T e_Tag.sz a89 (([] : List Tag) ++ ys55 ++ ys55).length c89 (flat e_Tag (([] : List Tag) ++ ys55 ++ ys55)) :: row e_Tag.T e_Tag.sz a55 (ys55).length c55 (flat e_Tag ys55) :: F) (fun w S => S.perm List.perm_append_comm) ?_
        refine o_yes rfl rfl rfl ?_
        refine l_f1 ?_
        refine o_call rfl cal12 rfl (flast_) ?_
        rintro _ _ ⟨rfl, rfl⟩
        refine l_nil ?_
        refine q_conv (L' := (blk b16 (.cells #[.int .i64 x103.f_Kind, .int .i64 x103.f_Index, .int .i64 x103.ord.f_Tag_Id_Node, .int .u64 x103.ord.f_Tag_Id_Epoch, .int .u64 x103.ord.f_Tag_Id_Seq, .int .i64 x103.ord.f_Tag_Try, .int .i64 x103.ord.f_Txn_Kind, .slice x103.ord.f_Txn_Reads.a (x103.ord.f_Txn_Reads.xs).length x103.ord.f_Txn_Reads.c, .slice x103.ord.f_Txn_Writes.a (x103.ord.f_Txn_Writes.xs).length x103.ord.f_Txn_Writes.c, .slice x103.ord.f_Txn_Ops.a (x103.ord.f_Txn_Ops.xs).length x103.ord.f_Txn_Ops.c, .int .i64 x103.ord.f_Txn_To, .slice x103.ord.f_Marks.a (x103.ord.f_Marks.xs).length x103.ord.f_Marks.c] 41 (0, 0)) :: row e_Tag.T e_Tag.sz a89 (([] : List Tag) ++ ys55 ++ ys55).length c89 (flat e_Tag (([] : List Tag) ++ ys55 ++ ys55)) :: row e_Tag.T e_Tag.sz a55 (ys55).length c55 (flat e_Tag ys55) :: F) ++ [FltR b34 ((s.item x103).2), FltR b90 ((q.item x103).2)]) (fun w S => S.perm (List.perm_append_comm (l₁ := [FltR b34 ((s.item x103).2), FltR b90 ((q.item x103).2)]) (l₂ := blk b16 (.cells #[.int .i64 x103.f_Kind, .int .i64 x103.f_Index, .int .i64 x103.ord.f_Tag_Id_Node, .int .u64 x103.ord.f_Tag_Id_Epoch, .int .u64 x103.ord.f_Tag_Id_Seq, .int .i64 x103.ord.f_Tag_Try, .int .i64 x103.ord.f_Txn_Kind, .slice x103.ord.f_Txn_Reads.a (x103.ord.f_Txn_Reads.xs).length x103.ord.f_Txn_Reads.c, .slice x103.ord.f_Txn_Writes.a (x103.ord.f_Txn_Writes.xs).length x103.ord.f_Txn_Writes.c, .slice x103.ord.f_Txn_Ops.a (x103.ord.f_Txn_Ops.xs).length x103.ord.f_Txn_Ops.c, .int .i64 x103.ord.f_Txn_To, .slice x103.ord.f_Marks.a (x103.ord.f_Marks.xs).length x103.ord.f_Marks.c] 41 (0, 0)) :: row e_Tag.T e_Tag.sz a89 (([] : List Tag) ++ ys55 ++ ys55).length c89 (flat e_Tag (([] : List Tag) ++ ys55 ++ ys55)) :: row e_Tag.T e_Tag.sz a55 (ys55).length c55 (flat e_Tag ys55) :: F))) ?_
        refine h_next ?_
        refine h_one 11 rfl (by kernel_rfl) ?_
        refine l_conv (L' := FltR b34 ((s.item x103).2) :: FltR b90 ((q.item x103).2) :: blk b16 (.cells #[.int .i64 x103.f_Kind, .int .i64 x103.f_Index, .int .i64 x103.ord.f_Tag_Id_Node, .int .u64 x103.ord.f_Tag_Id_Epoch, .int .u64 x103.ord.f_Tag_Id_Seq, .int .i64 x103.ord.f_Tag_Try, .int .i64 x103.ord.f_Txn_Kind, .slice x103.ord.f_Txn_Reads.a (x103.ord.f_Txn_Reads.xs).length x103.ord.f_Txn_Reads.c, .slice x103.ord.f_Txn_Writes.a (x103.ord.f_Txn_Writes.xs).length x103.ord.f_Txn_Writes.c, .slice x103.ord.f_Txn_Ops.a (x103.ord.f_Txn_Ops.xs).length x103.ord.f_Txn_Ops.c, .int .i64 x103.ord.f_Txn_To, .slice x103.ord.f_Marks.a (x103.ord.f_Marks.xs).length x103.ord.f_Marks.c] 41 (0, 0)) :: row e_Tag.T e_Tag.sz a89 (([] : List Tag) ++ ys55 ++ ys55).length c89 (flat e_Tag (([] : List Tag) ++ ys55 ++ ys55)) :: row e_Tag.T e_Tag.sz a55 (ys55).length c55 (flat e_Tag ys55) :: F) (fun w S => S.perm List.perm_append_comm) ?_
        refine o_yes rfl rfl rfl ?_
        refine l_f1 ?_
        refine o_call rfl cal12 rfl (flast_) ?_
        rintro _ _ ⟨rfl, rfl⟩
        refine l_nil ?_
        refine q_conv (L' := (blk b16 (.cells #[.int .i64 x103.f_Kind, .int .i64 x103.f_Index, .int .i64 x103.ord.f_Tag_Id_Node, .int .u64 x103.ord.f_Tag_Id_Epoch, .int .u64 x103.ord.f_Tag_Id_Seq, .int .i64 x103.ord.f_Tag_Try, .int .i64 x103.ord.f_Txn_Kind, .slice x103.ord.f_Txn_Reads.a (x103.ord.f_Txn_Reads.xs).length x103.ord.f_Txn_Reads.c, .slice x103.ord.f_Txn_Writes.a (x103.ord.f_Txn_Writes.xs).length x103.ord.f_Txn_Writes.c, .slice x103.ord.f_Txn_Ops.a (x103.ord.f_Txn_Ops.xs).length x103.ord.f_Txn_Ops.c, .int .i64 x103.ord.f_Txn_To, .slice x103.ord.f_Marks.a (x103.ord.f_Marks.xs).length x103.ord.f_Marks.c] 41 (0, 0)) :: row e_Tag.T e_Tag.sz a89 (([] : List Tag) ++ ys55 ++ ys55).length c89 (flat e_Tag (([] : List Tag) ++ ys55 ++ ys55)) :: row e_Tag.T e_Tag.sz a55 (ys55).length c55 (flat e_Tag ys55) :: F) ++ [FltR b90 ((q.item x103).2), FltR b34 ((s.item x103).2)]) (fun w S => S.perm (List.perm_append_comm (l₁ := [FltR b90 ((q.item x103).2), FltR b34 ((s.item x103).2)]) (l₂ := blk b16 (.cells #[.int .i64 x103.f_Kind, .int .i64 x103.f_Index, .int .i64 x103.ord.f_Tag_Id_Node, .int .u64 x103.ord.f_Tag_Id_Epoch, .int .u64 x103.ord.f_Tag_Id_Seq, .int .i64 x103.ord.f_Tag_Try, .int .i64 x103.ord.f_Txn_Kind, .slice x103.ord.f_Txn_Reads.a (x103.ord.f_Txn_Reads.xs).length x103.ord.f_Txn_Reads.c, .slice x103.ord.f_Txn_Writes.a (x103.ord.f_Txn_Writes.xs).length x103.ord.f_Txn_Writes.c, .slice x103.ord.f_Txn_Ops.a (x103.ord.f_Txn_Ops.xs).length x103.ord.f_Txn_Ops.c, .int .i64 x103.ord.f_Txn_To, .slice x103.ord.f_Marks.a (x103.ord.f_Marks.xs).length x103.ord.f_Marks.c] 41 (0, 0)) :: row e_Tag.T e_Tag.sz a89 (([] : List Tag) ++ ys55 ++ ys55).length c89 (flat e_Tag (([] : List Tag) ++ ys55 ++ ys55)) :: row e_Tag.T e_Tag.sz a55 (ys55).length c55 (flat e_Tag ys55) :: F))) ?_
        refine h_next ?_
        refine h_take_yes 12 rfl rfl rfl rfl rfl (by kernel_rfl) (by kernel_rfl) (by kernel_rfl) (fun L0 => v_bin rfl rfl rfl b_neq) ?_
        refine h_eq (t := 117) (v' := .bool false) rfl (show _ = Value.bool false from by rw [hst.2.last]; simp) ?_
        refine h_take 13 rfl rfl (by kernel_rfl) (by kernel_rfl) (by kernel_rfl) (fun L0 => v_pick_false rfl rfl rfl) ?_
        refine h_take 14 rfl rfl (by kernel_rfl) (by kernel_rfl) (by kernel_rfl) (fun L0 => v_move rfl rfl) ?_
        refine h_take_yes 15 rfl rfl rfl rfl rfl (by kernel_rfl) (by kernel_rfl) (by kernel_rfl) (fun L0 => v_move rfl rfl) ?_
        refine h_take_yes 16 rfl rfl rfl rfl rfl (by kernel_rfl) (by kernel_rfl) (by kernel_rfl) (fun L0 => v_fieldAddr (q := ⟨b16, 2, none⟩) rfl rfl Try.underlying41 rfl ti39 rfl) ?_
        refine h_take_yes 17 rfl rfl rfl rfl rfl (by kernel_rfl) (by kernel_rfl) (by kernel_rfl) (fun L0 => v_fieldAddr (q := ⟨b16, 2, none⟩) rfl rfl Try.underlying39 rfl ti32 rfl) ?_
        refine h_take_yes 18 rfl rfl rfl rfl rfl (by kernel_rfl) (by kernel_rfl) (by kernel_rfl) (fun L0 => v_loadn (vs := [_, _, _, _]) rfl rfl Try.underlying32 rfl ti32 (rdn_lit 0 rfl rfl)) ?_
        refine h_take_yes 20 rfl rfl rfl rfl rfl (by kernel_rfl) (by kernel_rfl) (by kernel_rfl) (fun L0 => v_move rfl rfl) ?_
        refine h_take_yes 21 rfl rfl rfl rfl rfl (by kernel_rfl) (by kernel_rfl) (by kernel_rfl) (fun L0 => v_fieldAddr (q := ⟨b16, 2, none⟩) rfl rfl Try.underlying41 rfl ti39 rfl) ?_
        refine h_take_yes 22 rfl rfl rfl rfl rfl (by kernel_rfl) (by kernel_rfl) (by kernel_rfl) (fun L0 => v_fieldAddr (q := ⟨b16, 2, none⟩) rfl rfl Try.underlying39 rfl ti32 rfl) ?_
        refine h_take_yes 23 rfl rfl rfl rfl rfl (by kernel_rfl) (by kernel_rfl) (by kernel_rfl) (fun L0 => v_loadn (vs := [_, _, _, _]) rfl rfl Try.underlying32 rfl ti32 (rdn_lit 0 rfl rfl)) ?_
        refine h_one 19 rfl (by kernel_rfl) ?_
        refine l_conv (L' := FltR b90 ((q.item x103).2) :: FltR b34 ((s.item x103).2) :: blk b16 (.cells #[.int .i64 x103.f_Kind, .int .i64 x103.f_Index, .int .i64 x103.ord.f_Tag_Id_Node, .int .u64 x103.ord.f_Tag_Id_Epoch, .int .u64 x103.ord.f_Tag_Id_Seq, .int .i64 x103.ord.f_Tag_Try, .int .i64 x103.ord.f_Txn_Kind, .slice x103.ord.f_Txn_Reads.a (x103.ord.f_Txn_Reads.xs).length x103.ord.f_Txn_Reads.c, .slice x103.ord.f_Txn_Writes.a (x103.ord.f_Txn_Writes.xs).length x103.ord.f_Txn_Writes.c, .slice x103.ord.f_Txn_Ops.a (x103.ord.f_Txn_Ops.xs).length x103.ord.f_Txn_Ops.c, .int .i64 x103.ord.f_Txn_To, .slice x103.ord.f_Marks.a (x103.ord.f_Marks.xs).length x103.ord.f_Marks.c] 41 (0, 0)) :: row e_Tag.T e_Tag.sz a89 (([] : List Tag) ++ ys55 ++ ys55).length c89 (flat e_Tag (([] : List Tag) ++ ys55 ++ ys55)) :: row e_Tag.T e_Tag.sz a55 (ys55).length c55 (flat e_Tag ys55) :: F) (fun w S => S.perm List.perm_append_comm) ?_
        refine o_yes rfl rfl rfl ?_
        refine l_f1 ?_
        refine o_call rfl cal14 rfl (fhas_ (tg := x103.ord.tag)) ?_
        rintro _ _ ⟨rfl, rfl⟩
        refine l_nil ?_
        refine q_conv (L' := (blk b16 (.cells #[.int .i64 x103.f_Kind, .int .i64 x103.f_Index, .int .i64 x103.ord.f_Tag_Id_Node, .int .u64 x103.ord.f_Tag_Id_Epoch, .int .u64 x103.ord.f_Tag_Id_Seq, .int .i64 x103.ord.f_Tag_Try, .int .i64 x103.ord.f_Txn_Kind, .slice x103.ord.f_Txn_Reads.a (x103.ord.f_Txn_Reads.xs).length x103.ord.f_Txn_Reads.c, .slice x103.ord.f_Txn_Writes.a (x103.ord.f_Txn_Writes.xs).length x103.ord.f_Txn_Writes.c, .slice x103.ord.f_Txn_Ops.a (x103.ord.f_Txn_Ops.xs).length x103.ord.f_Txn_Ops.c, .int .i64 x103.ord.f_Txn_To, .slice x103.ord.f_Marks.a (x103.ord.f_Marks.xs).length x103.ord.f_Marks.c] 41 (0, 0)) :: row e_Tag.T e_Tag.sz a89 (([] : List Tag) ++ ys55 ++ ys55).length c89 (flat e_Tag (([] : List Tag) ++ ys55 ++ ys55)) :: row e_Tag.T e_Tag.sz a55 (ys55).length c55 (flat e_Tag ys55) :: F) ++ [FltR b34 ((s.item x103).2), FltR b90 ((q.item x103).2)]) (fun w S => S.perm (List.perm_append_comm (l₁ := [FltR b34 ((s.item x103).2), FltR b90 ((q.item x103).2)]) (l₂ := blk b16 (.cells #[.int .i64 x103.f_Kind, .int .i64 x103.f_Index, .int .i64 x103.ord.f_Tag_Id_Node, .int .u64 x103.ord.f_Tag_Id_Epoch, .int .u64 x103.ord.f_Tag_Id_Seq, .int .i64 x103.ord.f_Tag_Try, .int .i64 x103.ord.f_Txn_Kind, .slice x103.ord.f_Txn_Reads.a (x103.ord.f_Txn_Reads.xs).length x103.ord.f_Txn_Reads.c, .slice x103.ord.f_Txn_Writes.a (x103.ord.f_Txn_Writes.xs).length x103.ord.f_Txn_Writes.c, .slice x103.ord.f_Txn_Ops.a (x103.ord.f_Txn_Ops.xs).length x103.ord.f_Txn_Ops.c, .int .i64 x103.ord.f_Txn_To, .slice x103.ord.f_Marks.a (x103.ord.f_Marks.xs).length x103.ord.f_Marks.c] 41 (0, 0)) :: row e_Tag.T e_Tag.sz a89 (([] : List Tag) ++ ys55 ++ ys55).length c89 (flat e_Tag (([] : List Tag) ++ ys55 ++ ys55)) :: row e_Tag.T e_Tag.sz a55 (ys55).length c55 (flat e_Tag ys55) :: F))) ?_
        refine h_next ?_
        refine h_one 24 rfl (by kernel_rfl) ?_
        refine l_conv (L' := FltR b34 ((s.item x103).2) :: FltR b90 ((q.item x103).2) :: blk b16 (.cells #[.int .i64 x103.f_Kind, .int .i64 x103.f_Index, .int .i64 x103.ord.f_Tag_Id_Node, .int .u64 x103.ord.f_Tag_Id_Epoch, .int .u64 x103.ord.f_Tag_Id_Seq, .int .i64 x103.ord.f_Tag_Try, .int .i64 x103.ord.f_Txn_Kind, .slice x103.ord.f_Txn_Reads.a (x103.ord.f_Txn_Reads.xs).length x103.ord.f_Txn_Reads.c, .slice x103.ord.f_Txn_Writes.a (x103.ord.f_Txn_Writes.xs).length x103.ord.f_Txn_Writes.c, .slice x103.ord.f_Txn_Ops.a (x103.ord.f_Txn_Ops.xs).length x103.ord.f_Txn_Ops.c, .int .i64 x103.ord.f_Txn_To, .slice x103.ord.f_Marks.a (x103.ord.f_Marks.xs).length x103.ord.f_Marks.c] 41 (0, 0)) :: row e_Tag.T e_Tag.sz a89 (([] : List Tag) ++ ys55 ++ ys55).length c89 (flat e_Tag (([] : List Tag) ++ ys55 ++ ys55)) :: row e_Tag.T e_Tag.sz a55 (ys55).length c55 (flat e_Tag ys55) :: F) (fun w S => S.perm List.perm_append_comm) ?_
        refine o_yes rfl rfl rfl ?_
        refine l_f1 ?_
        refine o_call rfl cal14 rfl (fhas_ (tg := x103.ord.tag)) ?_
        rintro _ _ ⟨rfl, rfl⟩
        refine l_nil ?_
        refine q_conv (L' := (blk b16 (.cells #[.int .i64 x103.f_Kind, .int .i64 x103.f_Index, .int .i64 x103.ord.f_Tag_Id_Node, .int .u64 x103.ord.f_Tag_Id_Epoch, .int .u64 x103.ord.f_Tag_Id_Seq, .int .i64 x103.ord.f_Tag_Try, .int .i64 x103.ord.f_Txn_Kind, .slice x103.ord.f_Txn_Reads.a (x103.ord.f_Txn_Reads.xs).length x103.ord.f_Txn_Reads.c, .slice x103.ord.f_Txn_Writes.a (x103.ord.f_Txn_Writes.xs).length x103.ord.f_Txn_Writes.c, .slice x103.ord.f_Txn_Ops.a (x103.ord.f_Txn_Ops.xs).length x103.ord.f_Txn_Ops.c, .int .i64 x103.ord.f_Txn_To, .slice x103.ord.f_Marks.a (x103.ord.f_Marks.xs).length x103.ord.f_Marks.c] 41 (0, 0)) :: row e_Tag.T e_Tag.sz a89 (([] : List Tag) ++ ys55 ++ ys55).length c89 (flat e_Tag (([] : List Tag) ++ ys55 ++ ys55)) :: row e_Tag.T e_Tag.sz a55 (ys55).length c55 (flat e_Tag ys55) :: F) ++ [FltR b90 ((q.item x103).2), FltR b34 ((s.item x103).2)]) (fun w S => S.perm (List.perm_append_comm (l₁ := [FltR b90 ((q.item x103).2), FltR b34 ((s.item x103).2)]) (l₂ := blk b16 (.cells #[.int .i64 x103.f_Kind, .int .i64 x103.f_Index, .int .i64 x103.ord.f_Tag_Id_Node, .int .u64 x103.ord.f_Tag_Id_Epoch, .int .u64 x103.ord.f_Tag_Id_Seq, .int .i64 x103.ord.f_Tag_Try, .int .i64 x103.ord.f_Txn_Kind, .slice x103.ord.f_Txn_Reads.a (x103.ord.f_Txn_Reads.xs).length x103.ord.f_Txn_Reads.c, .slice x103.ord.f_Txn_Writes.a (x103.ord.f_Txn_Writes.xs).length x103.ord.f_Txn_Writes.c, .slice x103.ord.f_Txn_Ops.a (x103.ord.f_Txn_Ops.xs).length x103.ord.f_Txn_Ops.c, .int .i64 x103.ord.f_Txn_To, .slice x103.ord.f_Marks.a (x103.ord.f_Marks.xs).length x103.ord.f_Marks.c] 41 (0, 0)) :: row e_Tag.T e_Tag.sz a89 (([] : List Tag) ++ ys55 ++ ys55).length c89 (flat e_Tag (([] : List Tag) ++ ys55 ++ ys55)) :: row e_Tag.T e_Tag.sz a55 (ys55).length c55 (flat e_Tag ys55) :: F))) ?_
        refine h_next ?_
        refine h_take_yes 25 rfl rfl rfl rfl rfl (by kernel_rfl) (by kernel_rfl) (by kernel_rfl) (fun L0 => v_bin rfl rfl rfl (b_bne Try.underlying4 _ _)) ?_
        refine h_eq (t := 130) (v' := .bool false) rfl (show _ = Value.bool false from by rw [show ∀ {p q : Prop} {i : Decidable p} {j : Decidable q}, (p ↔ q) → (@decide p i == @decide q j) = true from fun h => by simp [h]]; rfl; exact hst.2.has hfi.1 hqi.1 _) ?_
        refine h_take 26 rfl rfl (by kernel_rfl) (by kernel_rfl) (by kernel_rfl) (fun L0 => v_pick_false rfl rfl rfl) ?_
        refine h_done (by kernel_rfl) ?_
        refine q_conv (L' := FltR b90 ((q.item x103).2) :: FltR b34 ((s.item x103).2) :: blk b16 (.cells #[.int .i64 x103.f_Kind, .int .i64 x103.f_Index, .int .i64 x103.ord.f_Tag_Id_Node, .int .u64 x103.ord.f_Tag_Id_Epoch, .int .u64 x103.ord.f_Tag_Id_Seq, .int .i64 x103.ord.f_Tag_Try, .int .i64 x103.ord.f_Txn_Kind, .slice x103.ord.f_Txn_Reads.a (x103.ord.f_Txn_Reads.xs).length x103.ord.f_Txn_Reads.c, .slice x103.ord.f_Txn_Writes.a (x103.ord.f_Txn_Writes.xs).length x103.ord.f_Txn_Writes.c, .slice x103.ord.f_Txn_Ops.a (x103.ord.f_Txn_Ops.xs).length x103.ord.f_Txn_Ops.c, .int .i64 x103.ord.f_Txn_To, .slice x103.ord.f_Marks.a (x103.ord.f_Marks.xs).length x103.ord.f_Marks.c] 41 (0, 0)) :: row e_Tag.T e_Tag.sz a89 (([] : List Tag) ++ ys55 ++ ys55).length c89 (flat e_Tag (([] : List Tag) ++ ys55 ++ ys55)) :: row e_Tag.T e_Tag.sz a55 (ys55).length c55 (flat e_Tag ys55) :: F) (fun w S => S.perm List.perm_append_comm) ?_
        refine q_then ?_
        refine c_false rfl ?_
        refine c_skip ?_
        refine q_block ?_
        refine q_then ?_
        refine c_region ?_
        refine o_bin rfl rfl rfl (b_add (wrap_i64 (by omega) (by omega))) ?_
        refine o_move rfl rfl ?_
        refine l_nil ?_
        refine q_conv (fun w S => (S.perm p2).tail) ?_
        refine q_conv (fun w S => S.perm p3) ?_
        refine q_conv (fun w S => S.perm p2) ?_
        refine q_conv (fun w S => S.perm p3) ?_
        refine q_conv (fun w S => S.perm p3) ?_
        exact q_round (k + 1, (s.item x103).2, (q.item x103).2) (by exact ⟨by omega, hst.2, hfi.1, hqi.1, (by (try dsimp only); rcases Classical.em ((s.item x103).1 = true ∧ x103.f_Kind = 1) with q9 | q9; (have h7 := hfi.2.2.1 q9; omega); (have h7 := hfi.2.2.2 q9; omega))⟩) (by (try dsimp only); omega) ⟨(by first | rfl | exact vint (by omega)), (by first | rfl | exact vint (by omega)), (by first | rfl | exact vint (by omega)), (by first | rfl | exact vint (by omega)), (by first | rfl | exact vint (by omega)), trivial⟩ (fun w S => S)
       · -- h10F
        have h10b := h10
        try simp only [decide_eq_false_iff_not, Int.not_lt, Int.not_le] at h10
        refine c_exit ?_
        refine q_pass_exit ?_
        refine q_pass_exit ?_
        refine q_hit ?_
        refine q_then ?_
        refine c_seq ?_
        have hle := hS.len hF hQ
        refine c_region ?_
        refine o_move rfl rfl ?_
        refine l_f2 ?_
        refine o_call rfl cal22 rfl (ftags_ (by omega)) ?_
        rintro _ _ ⟨a134, c134, ys134, hp134, hs134, rfl, rfl⟩
        refine o_len rfl rfl Try.underlying54 ?_
        refine o_move rfl rfl ?_
        refine l_f2 ?_
        refine o_call rfl cal22 rfl (ftags_ (by omega)) ?_
        rintro _ _ ⟨a137, c137, ys137, hp137, hs137, rfl, rfl⟩
        refine o_len rfl rfl Try.underlying54 ?_
        refine o_bin rfl rfl rfl b_eql ?_
        refine l_eq (t := 139) (v' := .bool true) rfl (show _ = Value.bool true from by rw [decide_eq_true (by have h7 := hp134.length_eq; have h8 := hp137.length_eq; rw [List.length_map] at h7 h8; omega)]) ?_
        refine o_assign rfl rfl ?_
        refine l_nil ?_
        refine q_then ?_
        refine c_ret ?_
        refine q_conv (fun w S => S.tail) ?_
        refine q_conv (fun w S => S.tail) ?_
        refine q_conv (fun w S => S.tail) ?_
        refine q_conv (fun w S => S.tail) ?_
        refine q_conv (fun w S => S.tail) ?_
        refine q_conv (fun w S => S.tail) ?_
        exact f_ret (r_one rfl rfl) (⟨rfl, rfl⟩) (fun w S => S)
end
end Go.Proofs.Ytjoigmbapnjhhaa
