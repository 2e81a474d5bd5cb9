/- Texts of the proof: RW9, R9r, SameIt, OGreat, ItemsL. -/
import Derived.Test.YtlblipkcbmcfkaaGreatPiF
namespace Go.Proofs.YtlblipkcbmcfkaaGreat
section
set_option linter.unusedVariables false
set_option linter.unusedSimpArgs false
set_option maxRecDepth 10000
open Go.RowKit Classical
theorem rightItem_ {W : World} {F : List Res} {x : Item} (T_x : OrdR W F x.ord) (hu : 0 ≤ x.ord.f_Tag_Id_Epoch ∧ 0 ≤ x.ord.f_Tag_Id_Seq) (hb : x.ord.f_Txn_Reads.xs.length + x.ord.f_Txn_Writes.xs.length ≤ 1000000) (hm : x.ord.f_Marks.xs.length ≤ 1000000) : CS Tryz.prog 34 #[.agg #[.int .i64 x.f_Kind, .int .i64 x.f_Index, .int .i64 x.ord.f_Tag_Id_Node, .int .u64 x.ord.f_Tag_Id_Epoch, .int .u64 x.ord.f_Tag_Id_Seq, .int .i64 x.ord.f_Tag_Try, .int .i64 x.ord.f_Txn_Kind, .slice x.ord.f_Txn_Reads.a (x.ord.f_Txn_Reads.xs).length x.ord.f_Txn_Reads.c, .slice x.ord.f_Txn_Writes.a (x.ord.f_Txn_Writes.xs).length x.ord.f_Txn_Writes.c, .slice x.ord.f_Txn_Ops.a (x.ord.f_Txn_Ops.xs).length x.ord.f_Txn_Ops.c, .int .i64 x.ord.f_Txn_To, .slice x.ord.f_Marks.a (x.ord.f_Marks.xs).length x.ord.f_Marks.c]] W (F) (fun r L' => r = .bool (decide (ItOk x ∧ OrdOk x.ord 3)) ∧ F = L') := by
 refine f_door (l0 := [(0, .agg #[.int .i64 x.f_Kind, .int .i64 x.f_Index, .int .i64 x.ord.f_Tag_Id_Node, .int .u64 x.ord.f_Tag_Id_Epoch, .int .u64 x.ord.f_Tag_Id_Seq, .int .i64 x.ord.f_Tag_Try, .int .i64 x.ord.f_Txn_Kind, .slice x.ord.f_Txn_Reads.a (x.ord.f_Txn_Reads.xs).length x.ord.f_Txn_Reads.c, .slice x.ord.f_Txn_Writes.a (x.ord.f_Txn_Writes.xs).length x.ord.f_Txn_Writes.c, .slice x.ord.f_Txn_Ops.a (x.ord.f_Txn_Ops.xs).length x.ord.f_Txn_Ops.c, .int .i64 x.ord.f_Txn_To, .slice x.ord.f_Marks.a (x.ord.f_Marks.xs).length x.ord.f_Marks.c])]) Tryz.func34 Tryz.ntmps34 rfl rfl rfl ?_
 refine c_seq ?_
 refine c_region ?_
 refine o_box rfl rfl fun b1 => ?_
 refine o_assign rfl rfl ?_
 refine l_nil ?_
 refine q_then ?_
 refine c_seq ?_
 refine c_seq ?_
 refine c_region ?_
 refine o_fieldAddr (q := ⟨b1, 2, none⟩) rfl rfl Tryz.underlying50 rfl ti33 rfl ?_
 refine o_loadn (vs := [_, _, _, _, _, _, _, _, _, _]) rfl rfl Tryz.underlying33 rfl ti33 (rdn_lit 0 rfl rfl) ?_
 refine o_call rfl cal25 rfl (roright_ (o := x.ord) (g := 3) (OrdR.c T_x) hu hb hm) ?_
 rintro _ _ ⟨rfl, rfl⟩
 refine o_not rfl rfl ?_
 refine l_nil ?_
 refine q_then ?_
 refine c_cond rfl (fun h1 => ?_) (fun h1 => ?_)
 · -- h1T
  have h1b := h1
  try simp only [Bool.not_eq_true', decide_eq_false_iff_not, Int.not_lt, Int.not_le] at h1
  refine c_seq ?_
  refine c_region ?_
  refine o_assign rfl rfl ?_
  refine l_nil ?_
  refine q_then ?_
  refine c_ret ?_
  refine q_pass_ret ?_
  refine q_conv (fun w S => S.tail) ?_
  exact f_ret (r_one rfl rfl) (⟨vfalse' (fun h9 => by have h8 := h9.2; simp_all), rfl⟩) (fun w S => S)
 · -- h1F
  have h1b := h1
  try simp only [Bool.not_eq_false', decide_eq_true_eq] at h1
  refine c_skip ?_
  refine q_then ?_
  refine c_seq ?_
  refine c_region ?_
  refine o_fieldAddr (q := ⟨b1, 0, none⟩) rfl rfl Tryz.underlying50 rfl ti3 rfl ?_
  refine o_load1 rfl rfl Tryz.underlying3 rfl (rd_mem 0 rfl rfl) ?_
  refine o_bin rfl rfl rfl b_eql ?_
  refine o_move rfl rfl ?_
  refine l_split (t := 10) rfl (fun h2 => ?_) (fun h2 => ?_)
  · -- h2T
   have h2b := h2
   try simp only [decide_eq_true_eq] at h2
   refine o_yes rfl rfl rfl ?_
   refine o_fieldAddr (q := ⟨b1, 1, none⟩) rfl rfl Tryz.underlying50 rfl ti3 rfl ?_
   refine o_yes rfl rfl rfl ?_
   refine o_load1 rfl rfl Tryz.underlying3 rfl (rd_mem 0 rfl rfl) ?_
   refine o_yes rfl rfl rfl ?_
   refine o_bin rfl rfl rfl b_eql ?_
   refine o_pick_true rfl rfl rfl ?_
   refine o_move rfl rfl ?_
   refine l_split (t := 15) rfl (fun h3 => ?_) (fun h3 => ?_)
   · -- h3T
    have h3b := h3
    try simp only [decide_eq_true_eq] at h3
    refine o_no rfl rfl rfl rfl ?_
    refine o_no rfl rfl rfl rfl ?_
    refine o_no rfl rfl rfl rfl ?_
    refine o_no rfl rfl rfl rfl ?_
    refine o_no rfl rfl rfl rfl ?_
    refine o_no rfl rfl rfl rfl ?_
    refine o_no rfl rfl rfl rfl ?_
    refine o_no rfl rfl rfl rfl ?_
    refine o_no rfl rfl rfl rfl ?_
    refine o_no rfl rfl rfl rfl ?_
    refine o_no rfl rfl rfl rfl ?_
    refine o_no rfl rfl rfl rfl ?_
    refine o_no rfl rfl rfl rfl ?_
    refine o_pick_true rfl rfl rfl ?_
    refine o_assign rfl rfl ?_
    refine l_nil ?_
    refine q_then ?_
    refine c_ret ?_
    refine q_conv (fun w S => S.tail) ?_
    exact f_ret (r_one rfl rfl) (⟨by have hok : OrdOk x.ord 3 := (by simpa using h1b); first | exact vtrue' ⟨by unfold ItOk; grind, hok⟩ | exact vfalse' (fun h9 => by have h8 := h9.1; unfold ItOk at h8; grind) | exact bdec' (by unfold ItOk; grind), rfl⟩) (fun w S => S)
   · -- h3F
    have h3b := h3
    try simp only [decide_eq_false_iff_not, Int.not_lt, Int.not_le] at h3
    refine o_yes rfl rfl rfl ?_
    refine o_fieldAddr (q := ⟨b1, 0, none⟩) rfl rfl Tryz.underlying50 rfl ti3 rfl ?_
    refine o_yes rfl rfl rfl ?_
    refine o_load1 rfl rfl Tryz.underlying3 rfl (rd_mem 0 rfl rfl) ?_
    refine o_yes rfl rfl rfl ?_
    refine o_bin rfl rfl rfl b_eql ?_
    refine o_yes rfl rfl rfl ?_
    refine o_move rfl rfl ?_
    refine l_split (t := 19) rfl (fun h4 => ?_) (fun h4 => ?_)
    · -- h4T
     have h4b := h4
     try simp only [decide_eq_true_eq] at h4
     refine o_yes rfl rfl rfl ?_
     refine o_fieldAddr (q := ⟨b1, 1, none⟩) rfl rfl Tryz.underlying50 rfl ti3 rfl ?_
     refine o_yes rfl rfl rfl ?_
     refine o_load1 rfl rfl Tryz.underlying3 rfl (rd_mem 0 rfl rfl) ?_
     refine o_yes rfl rfl rfl ?_
     refine o_bin rfl rfl rfl b_geq ?_
     refine o_yes rfl rfl rfl ?_
     refine o_pick_true rfl rfl rfl ?_
     refine o_yes rfl rfl rfl ?_
     refine o_move rfl rfl ?_
     refine l_split (t := 24) rfl (fun h5 => ?_) (fun h5 => ?_)
     · -- h5T
      have h5b := h5
      try simp only [decide_eq_true_eq] at h5
      refine o_yes rfl rfl rfl ?_
      refine o_fieldAddr (q := ⟨b1, 1, none⟩) rfl rfl Tryz.underlying50 rfl ti3 rfl ?_
      refine o_yes rfl rfl rfl ?_
      refine o_load1 rfl rfl Tryz.underlying3 rfl (rd_mem 0 rfl rfl) ?_
      refine o_yes rfl rfl rfl ?_
      refine o_bin rfl rfl rfl b_lss ?_
      refine o_yes rfl rfl rfl ?_
      refine o_pick_true rfl rfl rfl ?_
      refine o_pick_false rfl rfl rfl ?_
      refine o_assign rfl rfl ?_
      refine l_nil ?_
      refine q_then ?_
      refine c_ret ?_
      refine q_conv (fun w S => S.tail) ?_
      exact f_ret (r_one rfl rfl) (⟨by have hok : OrdOk x.ord 3 := (by simpa using h1b); first | exact vtrue' ⟨by unfold ItOk; grind, hok⟩ | exact vfalse' (fun h9 => by have h8 := h9.1; unfold ItOk at h8; grind) | exact bdec' (by unfold ItOk; grind), rfl⟩) (fun w S => S)
     · -- h5F
      have h5b := h5
      try simp only [decide_eq_false_iff_not, Int.not_lt, Int.not_le] at h5
      refine o_no rfl rfl rfl rfl ?_
      refine o_no rfl rfl rfl rfl ?_
      refine o_no rfl rfl rfl rfl ?_
      refine o_yes rfl rfl rfl ?_
      refine o_pick_false rfl rfl rfl ?_
      refine o_pick_false rfl rfl rfl ?_
      refine o_assign rfl rfl ?_
      refine l_nil ?_
      refine q_then ?_
      refine c_ret ?_
      refine q_conv (fun w S => S.tail) ?_
      exact f_ret (r_one rfl rfl) (⟨by have hok : OrdOk x.ord 3 := (by simpa using h1b); first | exact vtrue' ⟨by unfold ItOk; grind, hok⟩ | exact vfalse' (fun h9 => by have h8 := h9.1; unfold ItOk at h8; grind) | exact bdec' (by unfold ItOk; grind), rfl⟩) (fun w S => S)
    · -- h4F
     have h4b := h4
     try simp only [decide_eq_false_iff_not, Int.not_lt, Int.not_le] at h4
     refine o_no rfl rfl rfl rfl ?_
     refine o_no rfl rfl rfl rfl ?_
     refine o_no rfl rfl rfl rfl ?_
     refine o_yes rfl rfl rfl ?_
     refine o_pick_false rfl rfl rfl ?_
     refine o_yes rfl rfl rfl ?_
     refine o_move rfl rfl ?_
     refine o_no rfl rfl rfl rfl ?_
     refine o_no rfl rfl rfl rfl ?_
     refine o_no rfl rfl rfl rfl ?_
     refine o_yes rfl rfl rfl ?_
     refine o_pick_false rfl rfl rfl ?_
     refine o_pick_false rfl rfl rfl ?_
     refine o_assign rfl rfl ?_
     refine l_nil ?_
     refine q_then ?_
     refine c_ret ?_
     refine q_conv (fun w S => S.tail) ?_
     exact f_ret (r_one rfl rfl) (⟨by have hok : OrdOk x.ord 3 := (by simpa using h1b); first | exact vtrue' ⟨by unfold ItOk; grind, hok⟩ | exact vfalse' (fun h9 => by have h8 := h9.1; unfold ItOk at h8; grind) | exact bdec' (by unfold ItOk; grind), rfl⟩) (fun w S => S)
  · -- h2F
   have h2b := h2
   try simp only [decide_eq_false_iff_not, Int.not_lt, Int.not_le] at h2
   refine o_no rfl rfl rfl rfl ?_
   refine o_no rfl rfl rfl rfl ?_
   refine o_no rfl rfl rfl rfl ?_
   refine o_pick_false rfl rfl rfl ?_
   refine o_move rfl rfl ?_
   refine o_yes rfl rfl rfl ?_
   refine o_fieldAddr (q := ⟨b1, 0, none⟩) rfl rfl Tryz.underlying50 rfl ti3 rfl ?_
   refine o_yes rfl rfl rfl ?_
   refine o_load1 rfl rfl Tryz.underlying3 rfl (rd_mem 0 rfl rfl) ?_
   refine o_yes rfl rfl rfl ?_
   refine o_bin rfl rfl rfl b_eql ?_
   refine o_yes rfl rfl rfl ?_
   refine o_move rfl rfl ?_
   refine l_split (t := 19) rfl (fun h6 => ?_) (fun h6 => ?_)
   · -- h6T
    have h6b := h6
    try simp only [decide_eq_true_eq] at h6
    refine o_yes rfl rfl rfl ?_
    refine o_fieldAddr (q := ⟨b1, 1, none⟩) rfl rfl Tryz.underlying50 rfl ti3 rfl ?_
    refine o_yes rfl rfl rfl ?_
    refine o_load1 rfl rfl Tryz.underlying3 rfl (rd_mem 0 rfl rfl) ?_
    refine o_yes rfl rfl rfl ?_
    refine o_bin rfl rfl rfl b_geq ?_
    refine o_yes rfl rfl rfl ?_
    refine o_pick_true rfl rfl rfl ?_
    refine o_yes rfl rfl rfl ?_
    refine o_move rfl rfl ?_
    refine l_split (t := 24) rfl (fun h7 => ?_) (fun h7 => ?_)
    · -- h7T
     have h7b := h7
     try simp only [decide_eq_true_eq] at h7
     refine o_yes rfl rfl rfl ?_
     refine o_fieldAddr (q := ⟨b1, 1, none⟩) rfl rfl Tryz.underlying50 rfl ti3 rfl ?_
     refine o_yes rfl rfl rfl ?_
     refine o_load1 rfl rfl Tryz.underlying3 rfl (rd_mem 0 rfl rfl) ?_
     refine o_yes rfl rfl rfl ?_
     refine o_bin rfl rfl rfl b_lss ?_
     refine o_yes rfl rfl rfl ?_
     refine o_pick_true rfl rfl rfl ?_
     refine o_pick_false rfl rfl rfl ?_
     refine o_assign rfl rfl ?_
     refine l_nil ?_
     refine q_then ?_
     refine c_ret ?_
     refine q_conv (fun w S => S.tail) ?_
     exact f_ret (r_one rfl rfl) (⟨by have hok : OrdOk x.ord 3 := (by simpa using h1b); first | exact vtrue' ⟨by unfold ItOk; grind, hok⟩ | exact vfalse' (fun h9 => by have h8 := h9.1; unfold ItOk at h8; grind) | exact bdec' (by unfold ItOk; grind), rfl⟩) (fun w S => S)
    · -- h7F
     have h7b := h7
     try simp only [decide_eq_false_iff_not, Int.not_lt, Int.not_le] at h7
     refine o_no rfl rfl rfl rfl ?_
     refine o_no rfl rfl rfl rfl ?_
     refine o_no rfl rfl rfl rfl ?_
     refine o_yes rfl rfl rfl ?_
     refine o_pick_false rfl rfl rfl ?_
     refine o_pick_false rfl rfl rfl ?_
     refine o_assign rfl rfl ?_
     refine l_nil ?_
     refine q_then ?_
     refine c_ret ?_
     refine q_conv (fun w S => S.tail) ?_
     exact f_ret (r_one rfl rfl) (⟨by have hok : OrdOk x.ord 3 := (by simpa using h1b); first | exact vtrue' ⟨by unfold ItOk; grind, hok⟩ | exact vfalse' (fun h9 => by have h8 := h9.1; unfold ItOk at h8; grind) | exact bdec' (by unfold ItOk; grind), rfl⟩) (fun w S => S)
   · -- h6F
    have h6b := h6
    try simp only [decide_eq_false_iff_not, Int.not_lt, Int.not_le] at h6
    refine o_no rfl rfl rfl rfl ?_
    refine o_no rfl rfl rfl rfl ?_
    refine o_no rfl rfl rfl rfl ?_
    refine o_yes rfl rfl rfl ?_
    refine o_pick_false rfl rfl rfl ?_
    refine o_yes rfl rfl rfl ?_
    refine o_move rfl rfl ?_
    refine o_no rfl rfl rfl rfl ?_
    refine o_no rfl rfl rfl rfl ?_
    refine o_no rfl rfl rfl rfl ?_
    refine o_yes rfl rfl rfl ?_
    refine o_pick_false rfl rfl rfl ?_
    refine o_pick_false rfl rfl rfl ?_
    refine o_assign rfl rfl ?_
    refine l_nil ?_
    refine q_then ?_
    refine c_ret ?_
    refine q_conv (fun w S => S.tail) ?_
    exact f_ret (r_one rfl rfl) (⟨by have hok : OrdOk x.ord 3 := (by simpa using h1b); first | exact vtrue' ⟨by unfold ItOk; grind, hok⟩ | exact vfalse' (fun h9 => by have h8 := h9.1; unfold ItOk at h8; grind) | exact bdec' (by unfold ItOk; grind), rfl⟩) (fun w S => S)
set_option maxHeartbeats 2000000 in
theorem rWriteI_ {W : World} {F : List Res} {x : Item} (T_x : OrdR W F x.ord) (sm : OSmall x.ord) (wf : OWf x.ord) : CS Tryz.prog 14 #[.agg #[.int .i64 x.f_Kind, .int .i64 x.f_Index, .int .i64 x.ord.f_Tag_Id_Node, .int .u64 x.ord.f_Tag_Id_Epoch, .int .u64 x.ord.f_Tag_Id_Seq, .int .i64 x.ord.f_Tag_Try, .int .i64 x.ord.f_Txn_Kind, .slice x.ord.f_Txn_Reads.a (x.ord.f_Txn_Reads.xs).length x.ord.f_Txn_Reads.c, .slice x.ord.f_Txn_Writes.a (x.ord.f_Txn_Writes.xs).length x.ord.f_Txn_Writes.c, .slice x.ord.f_Txn_Ops.a (x.ord.f_Txn_Ops.xs).length x.ord.f_Txn_Ops.c, .int .i64 x.ord.f_Txn_To, .slice x.ord.f_Marks.a (x.ord.f_Marks.xs).length x.ord.f_Marks.c]] W (F) (fun r L' => ∃ (out : List UInt8) (a2 : Option Addr) (c2 : Nat), out = wrI x ∧ r = .tuple #[.slice a2 out.length c2, .int .i64 (chkI x)] ∧ L' = row e8.T e8.sz a2 (out).length c2 (flat e8 out) :: F) := by
 refine f_door (l0 := [(0, .agg #[.int .i64 x.f_Kind, .int .i64 x.f_Index, .int .i64 x.ord.f_Tag_Id_Node, .int .u64 x.ord.f_Tag_Id_Epoch, .int .u64 x.ord.f_Tag_Id_Seq, .int .i64 x.ord.f_Tag_Try, .int .i64 x.ord.f_Txn_Kind, .slice x.ord.f_Txn_Reads.a (x.ord.f_Txn_Reads.xs).length x.ord.f_Txn_Reads.c, .slice x.ord.f_Txn_Writes.a (x.ord.f_Txn_Writes.xs).length x.ord.f_Txn_Writes.c, .slice x.ord.f_Txn_Ops.a (x.ord.f_Txn_Ops.xs).length x.ord.f_Txn_Ops.c, .int .i64 x.ord.f_Txn_To, .slice x.ord.f_Marks.a (x.ord.f_Marks.xs).length x.ord.f_Marks.c])]) Tryz.func14 Tryz.ntmps14 rfl rfl rfl ?_
 refine c_seq ?_
 refine c_region ?_
 refine o_box rfl rfl fun b1 => ?_
 refine o_assign rfl rfl ?_
 refine o_assign rfl rfl ?_
 refine l_nil ?_
 refine q_then ?_
 refine c_seq ?_
 refine c_seq ?_
 refine c_region ?_
 refine o_loadn (vs := [_, _, _, _, _, _, _, _, _, _, _, _]) rfl rfl Tryz.underlying50 rfl ti50 (rdn_lit 0 rfl rfl) ?_
 refine o_call rfl cal34 rfl (rightItem_ (x := x) (OrdR.c T_x) ⟨wf.ep.1, wf.sq.1⟩ (okb_of sm) (by have := sm.m; omega)) ?_
 rintro _ _ ⟨rfl, rfl⟩
 refine o_not rfl rfl ?_
 refine l_nil ?_
 refine q_then ?_
 refine c_cond rfl (fun h1 => ?_) (fun h1 => ?_)
 · -- h1T
  have h1b := h1
  try simp only [decide_eq_true_eq, decide_eq_false_iff_not, Bool.not_eq_eq_eq_not, Bool.not_true, Bool.not_false, Bool.not_eq_true', Bool.not_eq_false', Int.not_lt, Int.not_le, Bool.or_eq_true, Bool.and_eq_true] at h1
  have hno : ¬ (ItOk x ∧ OrdOk x.ord 3) := fun h9 => by rw [decide_eq_true h9] at h1b; cases h1b
  refine c_seq ?_
  refine c_region ?_
  refine o_lit e8_ok rfl Tryz.underlying34 rfl rfl rfl (lit_ok rfl) ([] : List UInt8) rfl rfl fun a7 => ?_
  refine o_assign rfl rfl ?_
  refine o_assign rfl rfl ?_
  refine l_nil ?_
  refine q_then ?_
  refine c_ret ?_
  refine q_pass_ret ?_
  refine q_conv (fun w S => (S.perm p1).tail) ?_
  exact f_ret (r_two rfl rfl rfl) (⟨[], a7, 0, by rw [wrI, if_neg hno], by rw [show chkI x = 1 from if_neg hno], rfl⟩) (fun w S => S)
 · -- h1F
  have h1b := h1
  try simp only [decide_eq_true_eq, decide_eq_false_iff_not, Bool.not_eq_eq_eq_not, Bool.not_true, Bool.not_false, Bool.not_eq_true', Bool.not_eq_false', Int.not_lt, Int.not_le, Bool.or_eq_true, Bool.and_eq_true] at h1
  have hok : ItOk x ∧ OrdOk x.ord 3 := by simpa using h1b
  have hh := it_hd hok.1
  have g1 := hh x.f_Kind (by simp)
  have g2 := hh x.f_Index (by simp)
  have l1 := nl_len0 g1.2
  have l2 := nl_len0 g2.2
  have hbl := ordB_len hok.2 wf sm
  refine c_skip ?_
  refine q_then ?_
  refine c_seq ?_
  refine c_heldF [] (blk b1 (.cells #[.int .i64 x.f_Kind, .int .i64 x.f_Index, .int .i64 x.ord.f_Tag_Id_Node, .int .u64 x.ord.f_Tag_Id_Epoch, .int .u64 x.ord.f_Tag_Id_Seq, .int .i64 x.ord.f_Tag_Try, .int .i64 x.ord.f_Txn_Kind, .slice x.ord.f_Txn_Reads.a (x.ord.f_Txn_Reads.xs).length x.ord.f_Txn_Reads.c, .slice x.ord.f_Txn_Writes.a (x.ord.f_Txn_Writes.xs).length x.ord.f_Txn_Writes.c, .slice x.ord.f_Txn_Ops.a (x.ord.f_Txn_Ops.xs).length x.ord.f_Txn_Ops.c, .int .i64 x.ord.f_Txn_To, .slice x.ord.f_Marks.a (x.ord.f_Marks.xs).length x.ord.f_Marks.c] 50 (0, 0)) :: F) (by kernel_rfl) ?_
  refine h_take 0 rfl rfl (by kernel_rfl) (by kernel_rfl) (by kernel_rfl) (fun L0 => v_fieldAddr (q := ⟨b1, 0, none⟩) rfl rfl Tryz.underlying50 rfl ti3 rfl) ?_
  refine h_take 1 rfl rfl (by kernel_rfl) (by kernel_rfl) (by kernel_rfl) (fun L0 => v_load1 rfl rfl Tryz.underlying3 rfl (rd_mem 0 rfl rfl)) ?_
  refine h_take 2 rfl rfl (by kernel_rfl) (by kernel_rfl) (by kernel_rfl) (fun L0 => v_int rfl rfl Tryz.underlying3 Tryz.underlying22 (wu64 (by omega) (by omega))) ?_
  refine h_take 4 rfl rfl (by kernel_rfl) (by kernel_rfl) (by kernel_rfl) (fun L0 => v_fieldAddr (q := ⟨b1, 1, none⟩) rfl rfl Tryz.underlying50 rfl ti3 rfl) ?_
  refine h_take 5 rfl rfl (by kernel_rfl) (by kernel_rfl) (by kernel_rfl) (fun L0 => v_load1 rfl rfl Tryz.underlying3 rfl (rd_mem 0 rfl rfl)) ?_
  refine h_take 6 rfl rfl (by kernel_rfl) (by kernel_rfl) (by kernel_rfl) (fun L0 => v_int rfl rfl Tryz.underlying3 Tryz.underlying22 (wu64 (by omega) (by omega))) ?_
  refine h_take 9 rfl rfl (by kernel_rfl) (by kernel_rfl) (by kernel_rfl) (fun L0 => v_fieldAddr (q := ⟨b1, 2, none⟩) rfl rfl Tryz.underlying50 rfl ti33 rfl) ?_
  refine h_take 10 rfl rfl (by kernel_rfl) (by kernel_rfl) (by kernel_rfl) (fun L0 => v_loadn (vs := [_, _, _, _, _, _, _, _, _, _]) rfl rfl Tryz.underlying33 rfl ti33 (rdn_lit 0 rfl rfl)) ?_
  refine h_one 3 rfl (by kernel_rfl) ?_
  refine l_conv (L' := blk b1 (.cells #[.int .i64 x.f_Kind, .int .i64 x.f_Index, .int .i64 x.ord.f_Tag_Id_Node, .int .u64 x.ord.f_Tag_Id_Epoch, .int .u64 x.ord.f_Tag_Id_Seq, .int .i64 x.ord.f_Tag_Try, .int .i64 x.ord.f_Txn_Kind, .slice x.ord.f_Txn_Reads.a (x.ord.f_Txn_Reads.xs).length x.ord.f_Txn_Reads.c, .slice x.ord.f_Txn_Writes.a (x.ord.f_Txn_Writes.xs).length x.ord.f_Txn_Writes.c, .slice x.ord.f_Txn_Ops.a (x.ord.f_Txn_Ops.xs).length x.ord.f_Txn_Ops.c, .int .i64 x.ord.f_Txn_To, .slice x.ord.f_Marks.a (x.ord.f_Marks.xs).length x.ord.f_Marks.c] 50 (0, 0)) :: F) (fun w S => S.perm List.perm_append_comm) ?_
  refine o_call rfl cal35 rfl (rNum (v := x.f_Kind.toNat) (by omega)) ?_
  rintro _ _ ⟨a11, c11, rfl, rfl⟩
  refine l_nil ?_
  refine q_conv (L' := (blk b1 (.cells #[.int .i64 x.f_Kind, .int .i64 x.f_Index, .int .i64 x.ord.f_Tag_Id_Node, .int .u64 x.ord.f_Tag_Id_Epoch, .int .u64 x.ord.f_Tag_Id_Seq, .int .i64 x.ord.f_Tag_Try, .int .i64 x.ord.f_Txn_Kind, .slice x.ord.f_Txn_Reads.a (x.ord.f_Txn_Reads.xs).length x.ord.f_Txn_Reads.c, .slice x.ord.f_Txn_Writes.a (x.ord.f_Txn_Writes.xs).length x.ord.f_Txn_Writes.c, .slice x.ord.f_Txn_Ops.a (x.ord.f_Txn_Ops.xs).length x.ord.f_Txn_Ops.c, .int .i64 x.ord.f_Txn_To, .slice x.ord.f_Marks.a (x.ord.f_Marks.xs).length x.ord.f_Marks.c] 50 (0, 0)) :: F) ++ [row e8.T e8.sz a11 ((numB x.f_Kind.toNat)).length c11 (flat e8 (numB x.f_Kind.toNat))]) (fun w S => S.perm (List.perm_append_comm (l₁ := [row e8.T e8.sz a11 ((numB x.f_Kind.toNat)).length c11 (flat e8 (numB x.f_Kind.toNat))]) (l₂ := blk b1 (.cells #[.int .i64 x.f_Kind, .int .i64 x.f_Index, .int .i64 x.ord.f_Tag_Id_Node, .int .u64 x.ord.f_Tag_Id_Epoch, .int .u64 x.ord.f_Tag_Id_Seq, .int .i64 x.ord.f_Tag_Try, .int .i64 x.ord.f_Txn_Kind, .slice x.ord.f_Txn_Reads.a (x.ord.f_Txn_Reads.xs).length x.ord.f_Txn_Reads.c, .slice x.ord.f_Txn_Writes.a (x.ord.f_Txn_Writes.xs).length x.ord.f_Txn_Writes.c, .slice x.ord.f_Txn_Ops.a (x.ord.f_Txn_Ops.xs).length x.ord.f_Txn_Ops.c, .int .i64 x.ord.f_Txn_To, .slice x.ord.f_Marks.a (x.ord.f_Marks.xs).length x.ord.f_Marks.c] 50 (0, 0)) :: F))) ?_
  refine h_next ?_
  refine h_one 7 rfl (by kernel_rfl) ?_
  refine l_conv (L' := row e8.T e8.sz a11 ((numB x.f_Kind.toNat)).length c11 (flat e8 (numB x.f_Kind.toNat)) :: blk b1 (.cells #[.int .i64 x.f_Kind, .int .i64 x.f_Index, .int .i64 x.ord.f_Tag_Id_Node, .int .u64 x.ord.f_Tag_Id_Epoch, .int .u64 x.ord.f_Tag_Id_Seq, .int .i64 x.ord.f_Tag_Try, .int .i64 x.ord.f_Txn_Kind, .slice x.ord.f_Txn_Reads.a (x.ord.f_Txn_Reads.xs).length x.ord.f_Txn_Reads.c, .slice x.ord.f_Txn_Writes.a (x.ord.f_Txn_Writes.xs).length x.ord.f_Txn_Writes.c, .slice x.ord.f_Txn_Ops.a (x.ord.f_Txn_Ops.xs).length x.ord.f_Txn_Ops.c, .int .i64 x.ord.f_Txn_To, .slice x.ord.f_Marks.a (x.ord.f_Marks.xs).length x.ord.f_Marks.c] 50 (0, 0)) :: F) (fun w S => S.perm List.perm_append_comm) ?_
  refine o_call rfl cal35 rfl (rNum (v := x.f_Index.toNat) (by omega)) ?_
  rintro _ _ ⟨a15, c15, rfl, rfl⟩
  refine l_nil ?_
  refine q_conv (L' := (blk b1 (.cells #[.int .i64 x.f_Kind, .int .i64 x.f_Index, .int .i64 x.ord.f_Tag_Id_Node, .int .u64 x.ord.f_Tag_Id_Epoch, .int .u64 x.ord.f_Tag_Id_Seq, .int .i64 x.ord.f_Tag_Try, .int .i64 x.ord.f_Txn_Kind, .slice x.ord.f_Txn_Reads.a (x.ord.f_Txn_Reads.xs).length x.ord.f_Txn_Reads.c, .slice x.ord.f_Txn_Writes.a (x.ord.f_Txn_Writes.xs).length x.ord.f_Txn_Writes.c, .slice x.ord.f_Txn_Ops.a (x.ord.f_Txn_Ops.xs).length x.ord.f_Txn_Ops.c, .int .i64 x.ord.f_Txn_To, .slice x.ord.f_Marks.a (x.ord.f_Marks.xs).length x.ord.f_Marks.c] 50 (0, 0)) :: F) ++ [row e8.T e8.sz a15 ((numB x.f_Index.toNat)).length c15 (flat e8 (numB x.f_Index.toNat)), row e8.T e8.sz a11 ((numB x.f_Kind.toNat)).length c11 (flat e8 (numB x.f_Kind.toNat))]) (fun w S => S.perm (List.perm_append_comm (l₁ := [row e8.T e8.sz a15 ((numB x.f_Index.toNat)).length c15 (flat e8 (numB x.f_Index.toNat)), row e8.T e8.sz a11 ((numB x.f_Kind.toNat)).length c11 (flat e8 (numB x.f_Kind.toNat))]) (l₂ := blk b1 (.cells #[.int .i64 x.f_Kind, .int .i64 x.f_Index, .int .i64 x.ord.f_Tag_Id_Node, .int .u64 x.ord.f_Tag_Id_Epoch, .int .u64 x.ord.f_Tag_Id_Seq, .int .i64 x.ord.f_Tag_Try, .int .i64 x.ord.f_Txn_Kind, .slice x.ord.f_Txn_Reads.a (x.ord.f_Txn_Reads.xs).length x.ord.f_Txn_Reads.c, .slice x.ord.f_Txn_Writes.a (x.ord.f_Txn_Writes.xs).length x.ord.f_Txn_Writes.c, .slice x.ord.f_Txn_Ops.a (x.ord.f_Txn_Ops.xs).length x.ord.f_Txn_Ops.c, .int .i64 x.ord.f_Txn_To, .slice x.ord.f_Marks.a (x.ord.f_Marks.xs).length x.ord.f_Marks.c] 50 (0, 0)) :: F))) ?_
  refine h_next ?_
  refine h_one 8 rfl (by kernel_rfl) ?_
  refine l_conv (L' := row e8.T e8.sz a15 ((numB x.f_Index.toNat)).length c15 (flat e8 (numB x.f_Index.toNat)) :: row e8.T e8.sz a11 ((numB x.f_Kind.toNat)).length c11 (flat e8 (numB x.f_Kind.toNat)) :: blk b1 (.cells #[.int .i64 x.f_Kind, .int .i64 x.f_Index, .int .i64 x.ord.f_Tag_Id_Node, .int .u64 x.ord.f_Tag_Id_Epoch, .int .u64 x.ord.f_Tag_Id_Seq, .int .i64 x.ord.f_Tag_Try, .int .i64 x.ord.f_Txn_Kind, .slice x.ord.f_Txn_Reads.a (x.ord.f_Txn_Reads.xs).length x.ord.f_Txn_Reads.c, .slice x.ord.f_Txn_Writes.a (x.ord.f_Txn_Writes.xs).length x.ord.f_Txn_Writes.c, .slice x.ord.f_Txn_Ops.a (x.ord.f_Txn_Ops.xs).length x.ord.f_Txn_Ops.c, .int .i64 x.ord.f_Txn_To, .slice x.ord.f_Marks.a (x.ord.f_Marks.xs).length x.ord.f_Marks.c] 50 (0, 0)) :: F) (fun w S => S.perm List.perm_append_comm) ?_
  refine l_f1 ?_
  refine o_append e8_ok rfl rfl rfl Tryz.underlying34 (rds_own e8_ok 1 rfl) (by show (_ + _) * _ ≤ _; (try simp only [List.length_append, List.length_nil]); omega) (by (try simp only [List.length_append, List.length_nil]); omega) fun a16 c16 => ?_
  refine l_f1 ?_
  refine l_drop ?_
  refine l_nil ?_
  refine q_conv (L' := (blk b1 (.cells #[.int .i64 x.f_Kind, .int .i64 x.f_Index, .int .i64 x.ord.f_Tag_Id_Node, .int .u64 x.ord.f_Tag_Id_Epoch, .int .u64 x.ord.f_Tag_Id_Seq, .int .i64 x.ord.f_Tag_Try, .int .i64 x.ord.f_Txn_Kind, .slice x.ord.f_Txn_Reads.a (x.ord.f_Txn_Reads.xs).length x.ord.f_Txn_Reads.c, .slice x.ord.f_Txn_Writes.a (x.ord.f_Txn_Writes.xs).length x.ord.f_Txn_Writes.c, .slice x.ord.f_Txn_Ops.a (x.ord.f_Txn_Ops.xs).length x.ord.f_Txn_Ops.c, .int .i64 x.ord.f_Txn_To, .slice x.ord.f_Marks.a (x.ord.f_Marks.xs).length x.ord.f_Marks.c] 50 (0, 0)) :: F) ++ [row e8.T e8.sz a16 ((numB x.f_Kind.toNat) ++ (numB x.f_Index.toNat)).length c16 (flat e8 ((numB x.f_Kind.toNat) ++ (numB x.f_Index.toNat)))]) (fun w S => S.perm (List.perm_append_comm (l₁ := [row e8.T e8.sz a16 ((numB x.f_Kind.toNat) ++ (numB x.f_Index.toNat)).length c16 (flat e8 ((numB x.f_Kind.toNat) ++ (numB x.f_Index.toNat)))]) (l₂ := blk b1 (.cells #[.int .i64 x.f_Kind, .int .i64 x.f_Index, .int .i64 x.ord.f_Tag_Id_Node, .int .u64 x.ord.f_Tag_Id_Epoch, .int .u64 x.ord.f_Tag_Id_Seq, .int .i64 x.ord.f_Tag_Try, .int .i64 x.ord.f_Txn_Kind, .slice x.ord.f_Txn_Reads.a (x.ord.f_Txn_Reads.xs).length x.ord.f_Txn_Reads.c, .slice x.ord.f_Txn_Writes.a (x.ord.f_Txn_Writes.xs).length x.ord.f_Txn_Writes.c, .slice x.ord.f_Txn_Ops.a (x.ord.f_Txn_Ops.xs).length x.ord.f_Txn_Ops.c, .int .i64 x.ord.f_Txn_To, .slice x.ord.f_Marks.a (x.ord.f_Marks.xs).length x.ord.f_Marks.c] 50 (0, 0)) :: F))) ?_
  refine h_next ?_
  refine h_one 11 rfl (by kernel_rfl) ?_
  refine l_conv (L' := row e8.T e8.sz a16 ((numB x.f_Kind.toNat) ++ (numB x.f_Index.toNat)).length c16 (flat e8 ((numB x.f_Kind.toNat) ++ (numB x.f_Index.toNat))) :: blk b1 (.cells #[.int .i64 x.f_Kind, .int .i64 x.f_Index, .int .i64 x.ord.f_Tag_Id_Node, .int .u64 x.ord.f_Tag_Id_Epoch, .int .u64 x.ord.f_Tag_Id_Seq, .int .i64 x.ord.f_Tag_Try, .int .i64 x.ord.f_Txn_Kind, .slice x.ord.f_Txn_Reads.a (x.ord.f_Txn_Reads.xs).length x.ord.f_Txn_Reads.c, .slice x.ord.f_Txn_Writes.a (x.ord.f_Txn_Writes.xs).length x.ord.f_Txn_Writes.c, .slice x.ord.f_Txn_Ops.a (x.ord.f_Txn_Ops.xs).length x.ord.f_Txn_Ops.c, .int .i64 x.ord.f_Txn_To, .slice x.ord.f_Marks.a (x.ord.f_Marks.xs).length x.ord.f_Marks.c] 50 (0, 0)) :: F) (fun w S => S.perm List.perm_append_comm) ?_
  refine o_call rfl cal26 rfl (rbytes_ (o := x.ord) (OrdR.c (OrdR.c T_x)) hok.2 wf sm) ?_
  rintro _ _ ⟨a19, c19, rfl, rfl⟩
  refine l_nil ?_
  refine q_conv (L' := (blk b1 (.cells #[.int .i64 x.f_Kind, .int .i64 x.f_Index, .int .i64 x.ord.f_Tag_Id_Node, .int .u64 x.ord.f_Tag_Id_Epoch, .int .u64 x.ord.f_Tag_Id_Seq, .int .i64 x.ord.f_Tag_Try, .int .i64 x.ord.f_Txn_Kind, .slice x.ord.f_Txn_Reads.a (x.ord.f_Txn_Reads.xs).length x.ord.f_Txn_Reads.c, .slice x.ord.f_Txn_Writes.a (x.ord.f_Txn_Writes.xs).length x.ord.f_Txn_Writes.c, .slice x.ord.f_Txn_Ops.a (x.ord.f_Txn_Ops.xs).length x.ord.f_Txn_Ops.c, .int .i64 x.ord.f_Txn_To, .slice x.ord.f_Marks.a (x.ord.f_Marks.xs).length x.ord.f_Marks.c] 50 (0, 0)) :: F) ++ [row e8.T e8.sz a19 ((ordB x.ord)).length c19 (flat e8 (ordB x.ord)), row e8.T e8.sz a16 ((numB x.f_Kind.toNat) ++ (numB x.f_Index.toNat)).length c16 (flat e8 ((numB x.f_Kind.toNat) ++ (numB x.f_Index.toNat)))]) (fun w S => S.perm (List.perm_append_comm (l₁ := [row e8.T e8.sz a19 ((ordB x.ord)).length c19 (flat e8 (ordB x.ord)), row e8.T e8.sz a16 ((numB x.f_Kind.toNat) ++ (numB x.f_Index.toNat)).length c16 (flat e8 ((numB x.f_Kind.toNat) ++ (numB x.f_Index.toNat)))]) (l₂ := blk b1 (.cells #[.int .i64 x.f_Kind, .int .i64 x.f_Index, .int .i64 x.ord.f_Tag_Id_Node, .int .u64 x.ord.f_Tag_Id_Epoch, .int .u64 x.ord.f_Tag_Id_Seq, .int .i64 x.ord.f_Tag_Try, .int .i64 x.ord.f_Txn_Kind, .slice x.ord.f_Txn_Reads.a (x.ord.f_Txn_Reads.xs).length x.ord.f_Txn_Reads.c, .slice x.ord.f_Txn_Writes.a (x.ord.f_Txn_Writes.xs).length x.ord.f_Txn_Writes.c, .slice x.ord.f_Txn_Ops.a (x.ord.f_Txn_Ops.xs).length x.ord.f_Txn_Ops.c, .int .i64 x.ord.f_Txn_To, .slice x.ord.f_Marks.a (x.ord.f_Marks.xs).length x.ord.f_Marks.c] 50 (0, 0)) :: F))) ?_
  refine h_next ?_
  refine h_one 12 rfl (by kernel_rfl) ?_
  refine l_conv (L' := row e8.T e8.sz a19 ((ordB x.ord)).length c19 (flat e8 (ordB x.ord)) :: row e8.T e8.sz a16 ((numB x.f_Kind.toNat) ++ (numB x.f_Index.toNat)).length c16 (flat e8 ((numB x.f_Kind.toNat) ++ (numB x.f_Index.toNat))) :: blk b1 (.cells #[.int .i64 x.f_Kind, .int .i64 x.f_Index, .int .i64 x.ord.f_Tag_Id_Node, .int .u64 x.ord.f_Tag_Id_Epoch, .int .u64 x.ord.f_Tag_Id_Seq, .int .i64 x.ord.f_Tag_Try, .int .i64 x.ord.f_Txn_Kind, .slice x.ord.f_Txn_Reads.a (x.ord.f_Txn_Reads.xs).length x.ord.f_Txn_Reads.c, .slice x.ord.f_Txn_Writes.a (x.ord.f_Txn_Writes.xs).length x.ord.f_Txn_Writes.c, .slice x.ord.f_Txn_Ops.a (x.ord.f_Txn_Ops.xs).length x.ord.f_Txn_Ops.c, .int .i64 x.ord.f_Txn_To, .slice x.ord.f_Marks.a (x.ord.f_Marks.xs).length x.ord.f_Marks.c] 50 (0, 0)) :: F) (fun w S => S.perm List.perm_append_comm) ?_
  refine l_f1 ?_
  refine o_append e8_ok rfl rfl rfl Tryz.underlying34 (rds_own e8_ok 1 rfl) (by show (_ + _) * _ ≤ _; (try simp only [List.length_append, List.length_nil]); omega) (by (try simp only [List.length_append, List.length_nil]); omega) fun a20 c20 => ?_
  refine l_f1 ?_
  refine l_drop ?_
  refine l_nil ?_
  refine q_conv (L' := (blk b1 (.cells #[.int .i64 x.f_Kind, .int .i64 x.f_Index, .int .i64 x.ord.f_Tag_Id_Node, .int .u64 x.ord.f_Tag_Id_Epoch, .int .u64 x.ord.f_Tag_Id_Seq, .int .i64 x.ord.f_Tag_Try, .int .i64 x.ord.f_Txn_Kind, .slice x.ord.f_Txn_Reads.a (x.ord.f_Txn_Reads.xs).length x.ord.f_Txn_Reads.c, .slice x.ord.f_Txn_Writes.a (x.ord.f_Txn_Writes.xs).length x.ord.f_Txn_Writes.c, .slice x.ord.f_Txn_Ops.a (x.ord.f_Txn_Ops.xs).length x.ord.f_Txn_Ops.c, .int .i64 x.ord.f_Txn_To, .slice x.ord.f_Marks.a (x.ord.f_Marks.xs).length x.ord.f_Marks.c] 50 (0, 0)) :: F) ++ [row e8.T e8.sz a20 ((numB x.f_Kind.toNat) ++ (numB x.f_Index.toNat) ++ (ordB x.ord)).length c20 (flat e8 ((numB x.f_Kind.toNat) ++ (numB x.f_Index.toNat) ++ (ordB x.ord)))]) (fun w S => S.perm (List.perm_append_comm (l₁ := [row e8.T e8.sz a20 ((numB x.f_Kind.toNat) ++ (numB x.f_Index.toNat) ++ (ordB x.ord)).length c20 (flat e8 ((numB x.f_Kind.toNat) ++ (numB x.f_Index.toNat) ++ (ordB x.ord)))]) (l₂ := blk b1 (.cells #[.int .i64 x.f_Kind, .int .i64 x.f_Index, .int .i64 x.ord.f_Tag_Id_Node, .int .u64 x.ord.f_Tag_Id_Epoch, .int .u64 x.ord.f_Tag_Id_Seq, .int .i64 x.ord.f_Tag_Try, .int .i64 x.ord.f_Txn_Kind, .slice x.ord.f_Txn_Reads.a (x.ord.f_Txn_Reads.xs).length x.ord.f_Txn_Reads.c, .slice x.ord.f_Txn_Writes.a (x.ord.f_Txn_Writes.xs).length x.ord.f_Txn_Writes.c, .slice x.ord.f_Txn_Ops.a (x.ord.f_Txn_Ops.xs).length x.ord.f_Txn_Ops.c, .int .i64 x.ord.f_Txn_To, .slice x.ord.f_Marks.a (x.ord.f_Marks.xs).length x.ord.f_Marks.c] 50 (0, 0)) :: F))) ?_
  refine h_next ?_
  refine h_take 13 rfl rfl (by kernel_rfl) (by kernel_rfl) (by kernel_rfl) (fun L0 => v_assign rfl rfl) ?_
  refine h_take 14 rfl rfl (by kernel_rfl) (by kernel_rfl) (by kernel_rfl) (fun L0 => v_assign rfl rfl) ?_
  refine h_done (by kernel_rfl) ?_
  refine q_conv (L' := row e8.T e8.sz a20 ((numB x.f_Kind.toNat) ++ (numB x.f_Index.toNat) ++ (ordB x.ord)).length c20 (flat e8 ((numB x.f_Kind.toNat) ++ (numB x.f_Index.toNat) ++ (ordB x.ord))) :: blk b1 (.cells #[.int .i64 x.f_Kind, .int .i64 x.f_Index, .int .i64 x.ord.f_Tag_Id_Node, .int .u64 x.ord.f_Tag_Id_Epoch, .int .u64 x.ord.f_Tag_Id_Seq, .int .i64 x.ord.f_Tag_Try, .int .i64 x.ord.f_Txn_Kind, .slice x.ord.f_Txn_Reads.a (x.ord.f_Txn_Reads.xs).length x.ord.f_Txn_Reads.c, .slice x.ord.f_Txn_Writes.a (x.ord.f_Txn_Writes.xs).length x.ord.f_Txn_Writes.c, .slice x.ord.f_Txn_Ops.a (x.ord.f_Txn_Ops.xs).length x.ord.f_Txn_Ops.c, .int .i64 x.ord.f_Txn_To, .slice x.ord.f_Marks.a (x.ord.f_Marks.xs).length x.ord.f_Marks.c] 50 (0, 0)) :: F) (fun w S => S.perm List.perm_append_comm) ?_
  refine q_then ?_
  refine c_ret ?_
  refine q_conv (fun w S => (S.perm p1).tail) ?_
  exact f_ret (r_two rfl rfl rfl) (⟨itemB x, a20, c20, by rw [wrI, if_pos hok], by rw [show chkI x = 0 from if_pos hok]; simp only [itemB, numsB, nB, List.flatMap_cons, List.flatMap_nil, List.append_nil], by simp only [itemB, numsB, nB, List.flatMap_cons, List.flatMap_nil, List.append_nil]⟩) (fun w S => S)
end
section
set_option linter.unusedVariables false
set_option linter.unusedSimpArgs false
set_option maxRecDepth 10000
open Go.RowKit Classical
theorem endR_nil {t : List UInt8} (h : (endR t : Int) = 0) : t = [] := by
  unfold endR at h
  split at h
  · cases h
  · exact List.eq_nil_of_length_eq_zero (by omega)
theorem rd9_item {x : Item} {bs y1 y2 : List UInt8} {b0 b1 b2 : Bool} (g : GoodI x bs) (h0 : b0 = false) (d1 : y1 = bs.drop (numR 0 0 bs).2.2) (d2 : y2 = y1.drop (numR 0 0 y1).2.2) (e1 : b1 = fewB b0 bs) (e2 : b2 = fewB b1 y1) : fewR bs = x.f_Kind ∧ fewR y1 = x.f_Index ∧ b2 = false ∧ GoodO x.ord y2 := by
  have hi := g.it
  unfold ItOk at hi
  have e : bs = nB x.f_Kind ++ (nB x.f_Index ++ ordB x.ord) := by
    rw [g.eq]
    unfold itemB numsB
    simp only [List.flatMap_cons, List.flatMap_nil, List.append_nil, List.append_assoc]
  obtain ⟨f1, c1, g1⟩ := few_there (bd := b0) (by omega) (by omega) e
  obtain ⟨f2, c2, g2⟩ := few_there (bd := b1) (by omega) (by omega) (d1.trans g1)
  exact ⟨f1, f2, by rw [e2, c2, e1, c1, h0], g.ok, g.wf, d2.trans g2⟩
theorem rd9_itemB {bs y1 y2 : List UInt8} {b0 b1 b2 : Bool} (h : b2 = false) (d1 : y1 = bs.drop (numR 0 0 bs).2.2) (d2 : y2 = y1.drop (numR 0 0 y1).2.2) (e1 : b1 = fewB b0 bs) (e2 : b2 = fewB b1 y1) : bs = numsB [fewR bs, fewR y1] ++ y2 := by
  obtain ⟨k1, q2, _, _⟩ := few_back (e2.symm.trans h)
  obtain ⟨k0, q1, _, _⟩ := few_back (e1.symm.trans k1)
  rw [← d2] at q2; rw [← d1] at q1
  have r1 := q1.trans (congrArg (nB (fewR bs) ++ ·) q2)
  refine r1.trans ?_
  unfold numsB
  simp only [List.flatMap_cons, List.flatMap_nil, List.append_nil, List.append_assoc]
set_option maxHeartbeats 2000000 in
theorem rReadI_ {W : World} {F : List Res} {bs : List UInt8} {a : Option Addr} {c : Nat} (hs : SlR W e8 a bs) (hn : bs.length ≤ 70000000000000) (hcc : bs.length ≤ c) : CS Tryz.prog 16 #[.slice a bs.length c] W (F) (fun r L' => ∃ (q : Item) (n : Int), RdResI bs q n ∧ OrdLen q.ord ∧ r = .tuple #[.agg (e_Item.cells q).toArray, .int .i64 n] ∧ L' = ordM q.ord :: F) := by
 refine f_door (l0 := [(0, .slice a bs.length c)]) Tryz.func16 Tryz.ntmps16 rfl rfl rfl ?_
 refine c_seq ?_
 refine c_region ?_
 refine o_alloc rfl ti50 fun b2 => ?_
 refine o_assign rfl rfl ?_
 refine l_nil ?_
 refine q_then ?_
 refine c_seq ?_
 refine c_region ?_
 refine o_move rfl rfl ?_
 refine o_build rfl sp81 ti81 rfl ((fill_cons (cells' := [.slice a (bs).length c, .int .i64 0]) rfl rfl rfl rfl fill_nil)) ?_
 refine o_build rfl sp83 ti83 rfl ((fill_cons (cells' := [.slice a (bs).length c, .int .i64 0, .bool false]) rfl rfl rfl rfl fill_nil)) ?_
 refine o_box rfl rfl fun b9 => ?_
 refine o_assign rfl rfl ?_
 refine l_nil ?_
 refine q_then ?_
 refine c_seq ?_
 obtain ⟨iS, hiS⟩ : ∃ i : Nat, i = 0 := ⟨0, rfl⟩
 obtain ⟨bdS, hbdS⟩ : ∃ b : Bool, b = false := ⟨_, rfl⟩
 obtain ⟨ysS, hysS⟩ : ∃ y : List UInt8, y = bs := ⟨_, rfl⟩
 have heS : E9 bs iS ysS := by rw [hiS, hysS]; exact ⟨rfl, Nat.zero_le _⟩
 refine c_conv (L' := blk b9 (.cells #[.slice a (bs).length c, .int .i64 (iS : Int), .bool bdS] 83 (0, 0)) :: _) (fun w S => by rw [hiS, hbdS]; exact S) ?_
 refine c_region ?_
 refine o_move rfl rfl ?_
 refine o_call rfl cal37 rfl (few9_x hs heS hn hcc) ?_
 rintro _ _ ⟨ys11, i11, bd11, he11, dr11, hb11, rfl, rfl⟩
 refine o_build rfl sp50 ti50 rfl ((fill_cons (cells' := [.int .i64 (fewR ysS), .int .i64 0, .int .i64 0, .int .u64 0, .int .u64 0, .int .i64 0, .int .i64 0, .slice none 0 0, .slice none 0 0, .slice none 0 0, .int .i64 0, .slice none 0 0]) rfl rfl rfl rfl fill_nil)) ?_
 refine o_alloc rfl ti50 fun b5 => ?_
 refine o_storen rfl rfl ti50 rfl rfl rfl rfl ?_
 refine l_nil ?_
 refine q_then ?_
 refine c_seq ?_
 refine c_region ?_
 refine o_move rfl rfl ?_
 refine l_f1 ?_
 refine o_call rfl cal37 rfl (few9_x hs he11 hn hcc) ?_
 rintro _ _ ⟨ys14, i14, bd14, he14, dr14, hb14, rfl, rfl⟩
 refine o_fieldAddr (q := ⟨b5, 1, none⟩) rfl rfl Tryz.underlying50 rfl ti3 rfl ?_
 refine l_f1 ?_
 refine o_store1 rfl rfl rfl ti3 rfl rfl ?_
 refine l_nil ?_
 refine q_then ?_
 refine c_seq ?_
 refine c_region ?_
 refine o_move rfl rfl ?_
 refine l_f1 ?_
 refine o_call rfl cal30 rfl (order9_ hs he14 hn hcc) ?_
 rintro _ _ ⟨q17, ys17, i17, bd17, wf17, L_q17, bn17, he17, hrd17, rfl, rfl⟩
 refine o_fieldAddr (q := ⟨b5, 2, none⟩) rfl rfl Tryz.underlying50 rfl ti33 rfl ?_
 refine l_f2 ?_
 refine o_storen rfl rfl ti33 rfl rfl rfl rfl ?_
 refine l_nil ?_
 refine q_then ?_
 refine c_seq ?_
 refine c_seq ?_
 have hsI : ∀ x, GoodI x bs → bd17 = false ∧ ys17 = [] ∧ GoodI (⟨fewR ysS, fewR ys11, q17.f_Tag_Id_Node, q17.f_Tag_Id_Epoch, q17.f_Tag_Id_Seq, q17.f_Tag_Try, q17.f_Txn_Kind, q17.f_Txn_Reads, q17.f_Txn_Writes, q17.f_Txn_Ops, q17.f_Txn_To, q17.f_Marks⟩ : Item) bs := fun x g => by rw [← hysS] at g; obtain ⟨k1, k2, k3, k4⟩ := rd9_item g hbdS dr11 dr14 hb11 hb14; obtain ⟨m1, m2, m3⟩ := hrd17.there k3 _ k4; rw [hysS] at g; exact ⟨m1, m3, GoodI.same k1 k2 m2 wf17 g⟩
 refine c_region ?_
 refine o_move rfl rfl ?_
 refine o_nil rfl rfl ?_
 refine o_fieldAddr (q := ⟨b9, 2, none⟩) rfl rfl Tryz.underlying83 rfl ti4 rfl ?_
 refine o_load1 rfl rfl Tryz.underlying4 rfl (rd_mem 2 rfl rfl) ?_
 refine o_move rfl rfl ?_
 refine l_split (t := 23) rfl (fun h1 => ?_) (fun h1 => ?_)
 · -- h1T
  have h1b := h1
  try simp only [decide_eq_true_eq, decide_eq_false_iff_not, Bool.not_eq_eq_eq_not, Bool.not_true, Bool.not_false, Bool.not_eq_true', Bool.not_eq_false', Int.not_lt, Int.not_le, Bool.or_eq_true, Bool.and_eq_true] at h1
  refine o_no rfl rfl rfl rfl ?_
  refine o_no rfl rfl rfl rfl ?_
  refine o_no rfl rfl rfl rfl ?_
  refine o_no rfl rfl rfl rfl ?_
  refine o_no rfl rfl rfl rfl ?_
  refine o_pick_true rfl rfl rfl ?_
  refine o_move rfl rfl ?_
  refine o_no rfl rfl rfl rfl ?_
  refine o_no rfl rfl rfl rfl ?_
  refine o_no rfl rfl rfl rfl ?_
  refine o_pick_true rfl rfl rfl ?_
  refine l_nil ?_
  refine q_then ?_
  refine c_true rfl ?_
  refine c_seq ?_
  have hno : ∀ x, ¬ GoodI x bs := fun x g => by obtain ⟨k1, k3, k2⟩ := hsI x g; have k4 : ItOk (⟨fewR ysS, fewR ys11, q17.f_Tag_Id_Node, q17.f_Tag_Id_Epoch, q17.f_Tag_Id_Seq, q17.f_Tag_Try, q17.f_Txn_Kind, q17.f_Txn_Reads, q17.f_Txn_Writes, q17.f_Txn_Ops, q17.f_Txn_To, q17.f_Marks⟩ : Item) ∧ OrdOk q17 3 := ⟨k2.it, k2.ok⟩; have k5 : (endR ys17 : Int) = 0 := (by rw [k3]; rfl); simp_all
  refine c_conv (L' := ordM zOrd :: _) (fun w S => zOrd_mem S) ?_
  refine c_region ?_
  refine o_build rfl sp50 ti50 rfl rfl ?_
  refine l_f4 ?_
  refine o_storen rfl rfl ti50 rfl rfl rfl rfl ?_
  refine o_assign rfl rfl ?_
  refine l_nil ?_
  refine q_then ?_
  refine c_ret ?_
  refine q_pass_ret ?_
  refine f_retq (.inl rfl) (rs_2 rfl (rs_celln (vs := [.int .i64 0, .int .i64 0, .int .i64 0, .int .u64 0, .int .u64 0, .int .i64 0, .int .i64 0, .slice none 0 0, .slice none 0 0, .slice none 0 0, .int .i64 0, .slice none 0 0]) rfl Tryz.underlying50 rfl ti50 (rdn_lit 0 rfl rfl)) (rs_tmp rfl)) (fun w S => ?_)
  replace S := S.tail
  replace S := (S.perm p1).tail
  replace S := (S.perm p1).tail
  replace S := (S.perm p1).tail
  exact ⟨_, ⟨(⟨0, 0, 0, 0, 0, 0, 0, ⟨none, [], 0⟩, ⟨none, [], 0⟩, ⟨none, [], 0⟩, 0, ⟨none, [], 0⟩⟩ : Item), 31, .inr ⟨rfl, rfl, hno⟩, zOrd_len, rfl, rfl⟩, (fun w S => S) w S⟩
 · -- h1F
  have h1b := h1
  try simp only [decide_eq_true_eq, decide_eq_false_iff_not, Bool.not_eq_eq_eq_not, Bool.not_true, Bool.not_false, Bool.not_eq_true', Bool.not_eq_false', Int.not_lt, Int.not_le, Bool.or_eq_true, Bool.and_eq_true] at h1
  refine o_yes rfl rfl rfl ?_
  refine o_move rfl rfl ?_
  refine o_yes rfl rfl rfl ?_
  refine o_nil rfl rfl ?_
  refine o_yes rfl rfl rfl ?_
  refine o_fieldAddr (q := ⟨b9, 0, none⟩) rfl rfl Tryz.underlying83 rfl ti81 rfl ?_
  refine o_yes rfl rfl rfl ?_
  refine l_f2 ?_
  refine o_call rfl cal31 rfl (rEyeEnd (bd := bd17) hs he17.1 he17.2 hn hcc) ?_
  rintro _ _ ⟨rfl, rfl⟩
  refine o_yes rfl rfl rfl ?_
  refine o_bin rfl rfl rfl b_neq ?_
  refine o_pick_false rfl rfl rfl ?_
  refine o_move rfl rfl ?_
  refine l_split (t := 30) rfl (fun h2 => ?_) (fun h2 => ?_)
  · -- h2T
   have h2b := h2
   try simp only [Bool.not_eq_true', decide_eq_false_iff_not, Int.not_lt, Int.not_le] at h2
   refine o_no rfl rfl rfl rfl ?_
   refine o_no rfl rfl rfl rfl ?_
   refine o_no rfl rfl rfl rfl ?_
   refine o_pick_true rfl rfl rfl ?_
   refine l_nil ?_
   refine q_then ?_
   refine c_true rfl ?_
   refine c_seq ?_
   have hno : ∀ x, ¬ GoodI x bs := fun x g => by obtain ⟨k1, k3, k2⟩ := hsI x g; have k4 : ItOk (⟨fewR ysS, fewR ys11, q17.f_Tag_Id_Node, q17.f_Tag_Id_Epoch, q17.f_Tag_Id_Seq, q17.f_Tag_Try, q17.f_Txn_Kind, q17.f_Txn_Reads, q17.f_Txn_Writes, q17.f_Txn_Ops, q17.f_Txn_To, q17.f_Marks⟩ : Item) ∧ OrdOk q17 3 := ⟨k2.it, k2.ok⟩; have k5 : (endR ys17 : Int) = 0 := (by rw [k3]; rfl); simp_all
   refine c_conv (L' := ordM zOrd :: _) (fun w S => zOrd_mem S) ?_
   refine c_region ?_
   refine o_build rfl sp50 ti50 rfl rfl ?_
   refine l_f4 ?_
   refine o_storen rfl rfl ti50 rfl rfl rfl rfl ?_
   refine o_assign rfl rfl ?_
   refine l_nil ?_
   refine q_then ?_
   refine c_ret ?_
   refine q_pass_ret ?_
   refine f_retq (.inl rfl) (rs_2 rfl (rs_celln (vs := [.int .i64 0, .int .i64 0, .int .i64 0, .int .u64 0, .int .u64 0, .int .i64 0, .int .i64 0, .slice none 0 0, .slice none 0 0, .slice none 0 0, .int .i64 0, .slice none 0 0]) rfl Tryz.underlying50 rfl ti50 (rdn_lit 0 rfl rfl)) (rs_tmp rfl)) (fun w S => ?_)
   replace S := S.tail
   replace S := (S.perm p1).tail
   replace S := (S.perm p1).tail
   replace S := (S.perm p1).tail
   exact ⟨_, ⟨(⟨0, 0, 0, 0, 0, 0, 0, ⟨none, [], 0⟩, ⟨none, [], 0⟩, ⟨none, [], 0⟩, 0, ⟨none, [], 0⟩⟩ : Item), 31, .inr ⟨rfl, rfl, hno⟩, zOrd_len, rfl, rfl⟩, (fun w S => S) w S⟩
  · -- h2F
   have h2b := h2
   try simp only [Bool.not_eq_false', decide_eq_true_eq] at h2
   refine o_yes rfl rfl rfl ?_
   refine o_loadn (vs := [_, _, _, _, _, _, _, _, _, _, _, _]) rfl rfl Tryz.underlying50 rfl ti50 (rdn_lit 1 rfl rfl) ?_
   refine o_yes rfl rfl rfl ?_
   refine o_call rfl cal34 rfl (rightItem_ (x := (⟨fewR ysS, fewR ys11, q17.f_Tag_Id_Node, q17.f_Tag_Id_Epoch, q17.f_Tag_Id_Seq, q17.f_Tag_Try, q17.f_Txn_Kind, q17.f_Txn_Reads, q17.f_Txn_Writes, q17.f_Txn_Ops, q17.f_Txn_To, q17.f_Marks⟩ : Item)) (ordM_R L_q17 2 rfl) ⟨wf17.ep.1, wf17.sq.1⟩ (by show q17.f_Txn_Reads.xs.length + q17.f_Txn_Writes.xs.length ≤ _; omega) (by show q17.f_Marks.xs.length ≤ _; omega)) ?_
   rintro _ _ ⟨rfl, rfl⟩
   refine o_yes rfl rfl rfl ?_
   refine o_not rfl rfl ?_
   refine o_pick_false rfl rfl rfl ?_
   refine l_nil ?_
   refine q_then ?_
   refine c_cond rfl (fun h3 => ?_) (fun h3 => ?_)
   · -- h3T
    have h3b := h3
    try simp only [decide_eq_true_eq, decide_eq_false_iff_not, Bool.not_eq_eq_eq_not, Bool.not_true, Bool.not_false, Bool.not_eq_true', Bool.not_eq_false', Int.not_lt, Int.not_le, Bool.or_eq_true, Bool.and_eq_true] at h3
    refine c_seq ?_
    have hno : ∀ x, ¬ GoodI x bs := fun x g => by obtain ⟨k1, k3, k2⟩ := hsI x g; have k4 : ItOk (⟨fewR ysS, fewR ys11, q17.f_Tag_Id_Node, q17.f_Tag_Id_Epoch, q17.f_Tag_Id_Seq, q17.f_Tag_Try, q17.f_Txn_Kind, q17.f_Txn_Reads, q17.f_Txn_Writes, q17.f_Txn_Ops, q17.f_Txn_To, q17.f_Marks⟩ : Item) ∧ OrdOk q17 3 := ⟨k2.it, k2.ok⟩; have k5 : (endR ys17 : Int) = 0 := (by rw [k3]; rfl); simp_all
    refine c_conv (L' := ordM zOrd :: _) (fun w S => zOrd_mem S) ?_
    refine c_region ?_
    refine o_build rfl sp50 ti50 rfl rfl ?_
    refine l_f4 ?_
    refine o_storen rfl rfl ti50 rfl rfl rfl rfl ?_
    refine o_assign rfl rfl ?_
    refine l_nil ?_
    refine q_then ?_
    refine c_ret ?_
    refine q_pass_ret ?_
    refine f_retq (.inl rfl) (rs_2 rfl (rs_celln (vs := [.int .i64 0, .int .i64 0, .int .i64 0, .int .u64 0, .int .u64 0, .int .i64 0, .int .i64 0, .slice none 0 0, .slice none 0 0, .slice none 0 0, .int .i64 0, .slice none 0 0]) rfl Tryz.underlying50 rfl ti50 (rdn_lit 0 rfl rfl)) (rs_tmp rfl)) (fun w S => ?_)
    replace S := S.tail
    replace S := (S.perm p1).tail
    replace S := (S.perm p1).tail
    replace S := (S.perm p1).tail
    exact ⟨_, ⟨(⟨0, 0, 0, 0, 0, 0, 0, ⟨none, [], 0⟩, ⟨none, [], 0⟩, ⟨none, [], 0⟩, 0, ⟨none, [], 0⟩⟩ : Item), 31, .inr ⟨rfl, rfl, hno⟩, zOrd_len, rfl, rfl⟩, (fun w S => S) w S⟩
   · -- h3F
    have h3b := h3
    try simp only [decide_eq_true_eq, decide_eq_false_iff_not, Bool.not_eq_eq_eq_not, Bool.not_true, Bool.not_false, Bool.not_eq_true', Bool.not_eq_false', Int.not_lt, Int.not_le, Bool.or_eq_true, Bool.and_eq_true] at h3
    refine c_skip ?_
    refine q_then ?_
    refine c_seq ?_
    have hbd17 : bd17 = false := by first | assumption | simp_all
    have hend := endR_nil (t := ys17) (by first | assumption | omega | simp_all)
    have hok : ItOk (⟨fewR ysS, fewR ys11, q17.f_Tag_Id_Node, q17.f_Tag_Id_Epoch, q17.f_Tag_Id_Seq, q17.f_Tag_Try, q17.f_Txn_Kind, q17.f_Txn_Reads, q17.f_Txn_Writes, q17.f_Txn_Ops, q17.f_Txn_To, q17.f_Marks⟩ : Item) ∧ OrdOk q17 3 := by first | assumption | simp_all
    have hg : GoodI (⟨fewR ysS, fewR ys11, q17.f_Tag_Id_Node, q17.f_Tag_Id_Epoch, q17.f_Tag_Id_Seq, q17.f_Tag_Try, q17.f_Txn_Kind, q17.f_Txn_Reads, q17.f_Txn_Writes, q17.f_Txn_Ops, q17.f_Txn_To, q17.f_Marks⟩ : Item) bs := ⟨hok.1, hok.2, wf17, by obtain ⟨h8, h9⟩ := hrd17.back hbd17; have h7 := rd9_itemB h8 dr11 dr14 hb11 hb14; rw [h9, hend, List.append_nil] at h7; rw [← hysS]; exact h7⟩
    refine c_region ?_
    refine o_loadn (vs := [_, _, _, _, _, _, _, _, _, _, _, _]) rfl rfl Tryz.underlying50 rfl ti50 (rdn_lit 1 rfl rfl) ?_
    refine l_f3 ?_
    refine o_storen rfl rfl ti50 rfl rfl rfl rfl ?_
    refine o_assign rfl rfl ?_
    refine l_nil ?_
    refine q_then ?_
    refine c_ret ?_
    refine f_retq (.inl rfl) (rs_2 rfl (rs_celln (vs := [.int .i64 (fewR ysS), .int .i64 (fewR ys11), .int .i64 q17.f_Tag_Id_Node, .int .u64 q17.f_Tag_Id_Epoch, .int .u64 q17.f_Tag_Id_Seq, .int .i64 q17.f_Tag_Try, .int .i64 q17.f_Txn_Kind, .slice q17.f_Txn_Reads.a (q17.f_Txn_Reads.xs).length q17.f_Txn_Reads.c, .slice q17.f_Txn_Writes.a (q17.f_Txn_Writes.xs).length q17.f_Txn_Writes.c, .slice q17.f_Txn_Ops.a (q17.f_Txn_Ops.xs).length q17.f_Txn_Ops.c, .int .i64 q17.f_Txn_To, .slice q17.f_Marks.a (q17.f_Marks.xs).length q17.f_Marks.c]) rfl Tryz.underlying50 rfl ti50 (rdn_lit 0 rfl rfl)) (rs_tmp rfl)) (fun w S => ?_)
    replace S := S.tail
    replace S := S.tail
    replace S := S.tail
    exact ⟨_, ⟨(⟨fewR ysS, fewR ys11, q17.f_Tag_Id_Node, q17.f_Tag_Id_Epoch, q17.f_Tag_Id_Seq, q17.f_Tag_Try, q17.f_Txn_Kind, q17.f_Txn_Reads, q17.f_Txn_Writes, q17.f_Txn_Ops, q17.f_Txn_To, q17.f_Marks⟩ : Item), 0, .inl ⟨rfl, hg⟩, L_q17, rfl, rfl⟩, (fun w S => S) w S⟩
end
section
set_option linter.unusedVariables false
set_option linter.unusedSimpArgs false
set_option maxRecDepth 10000
open Go.RowKit Classical
def SameI (x y : Item) : Prop := x.f_Kind = y.f_Kind ∧ x.f_Index = y.f_Index ∧ SameO x.ord y.ord
theorem sameItem_ {W : World} {F : List Res} {x y : Item} (T_x : OrdR W F x.ord) (T_y : OrdR W F y.ord) : CS Tryz.prog 17 #[.agg #[.int .i64 x.f_Kind, .int .i64 x.f_Index, .int .i64 x.ord.f_Tag_Id_Node, .int .u64 x.ord.f_Tag_Id_Epoch, .int .u64 x.ord.f_Tag_Id_Seq, .int .i64 x.ord.f_Tag_Try, .int .i64 x.ord.f_Txn_Kind, .slice x.ord.f_Txn_Reads.a (x.ord.f_Txn_Reads.xs).length x.ord.f_Txn_Reads.c, .slice x.ord.f_Txn_Writes.a (x.ord.f_Txn_Writes.xs).length x.ord.f_Txn_Writes.c, .slice x.ord.f_Txn_Ops.a (x.ord.f_Txn_Ops.xs).length x.ord.f_Txn_Ops.c, .int .i64 x.ord.f_Txn_To, .slice x.ord.f_Marks.a (x.ord.f_Marks.xs).length x.ord.f_Marks.c], .agg #[.int .i64 y.f_Kind, .int .i64 y.f_Index, .int .i64 y.ord.f_Tag_Id_Node, .int .u64 y.ord.f_Tag_Id_Epoch, .int .u64 y.ord.f_Tag_Id_Seq, .int .i64 y.ord.f_Tag_Try, .int .i64 y.ord.f_Txn_Kind, .slice y.ord.f_Txn_Reads.a (y.ord.f_Txn_Reads.xs).length y.ord.f_Txn_Reads.c, .slice y.ord.f_Txn_Writes.a (y.ord.f_Txn_Writes.xs).length y.ord.f_Txn_Writes.c, .slice y.ord.f_Txn_Ops.a (y.ord.f_Txn_Ops.xs).length y.ord.f_Txn_Ops.c, .int .i64 y.ord.f_Txn_To, .slice y.ord.f_Marks.a (y.ord.f_Marks.xs).length y.ord.f_Marks.c]] W (F) (fun r L' => r = .bool (decide (SameI x y)) ∧ F = L') := by
 refine f_door (l0 := [(0, .agg #[.int .i64 x.f_Kind, .int .i64 x.f_Index, .int .i64 x.ord.f_Tag_Id_Node, .int .u64 x.ord.f_Tag_Id_Epoch, .int .u64 x.ord.f_Tag_Id_Seq, .int .i64 x.ord.f_Tag_Try, .int .i64 x.ord.f_Txn_Kind, .slice x.ord.f_Txn_Reads.a (x.ord.f_Txn_Reads.xs).length x.ord.f_Txn_Reads.c, .slice x.ord.f_Txn_Writes.a (x.ord.f_Txn_Writes.xs).length x.ord.f_Txn_Writes.c, .slice x.ord.f_Txn_Ops.a (x.ord.f_Txn_Ops.xs).length x.ord.f_Txn_Ops.c, .int .i64 x.ord.f_Txn_To, .slice x.ord.f_Marks.a (x.ord.f_Marks.xs).length x.ord.f_Marks.c]), (1, .agg #[.int .i64 y.f_Kind, .int .i64 y.f_Index, .int .i64 y.ord.f_Tag_Id_Node, .int .u64 y.ord.f_Tag_Id_Epoch, .int .u64 y.ord.f_Tag_Id_Seq, .int .i64 y.ord.f_Tag_Try, .int .i64 y.ord.f_Txn_Kind, .slice y.ord.f_Txn_Reads.a (y.ord.f_Txn_Reads.xs).length y.ord.f_Txn_Reads.c, .slice y.ord.f_Txn_Writes.a (y.ord.f_Txn_Writes.xs).length y.ord.f_Txn_Writes.c, .slice y.ord.f_Txn_Ops.a (y.ord.f_Txn_Ops.xs).length y.ord.f_Txn_Ops.c, .int .i64 y.ord.f_Txn_To, .slice y.ord.f_Marks.a (y.ord.f_Marks.xs).length y.ord.f_Marks.c])]) Tryz.func17 Tryz.ntmps17 rfl rfl rfl ?_
 refine c_seq ?_
 refine c_region ?_
 refine o_box rfl rfl fun b2 => ?_
 refine o_box rfl rfl fun b3 => ?_
 refine o_assign rfl rfl ?_
 refine l_nil ?_
 refine q_then ?_
 refine c_seq ?_
 refine c_region ?_
 refine o_fieldAddr (q := ⟨b2, 0, none⟩) rfl rfl Tryz.underlying50 rfl ti3 rfl ?_
 refine o_load1 rfl rfl Tryz.underlying3 rfl (rd_mem 1 rfl rfl) ?_
 refine o_fieldAddr (q := ⟨b3, 0, none⟩) rfl rfl Tryz.underlying50 rfl ti3 rfl ?_
 refine o_load1 rfl rfl Tryz.underlying3 rfl (rd_mem 0 rfl rfl) ?_
 refine o_bin rfl rfl rfl b_eql ?_
 refine o_move rfl rfl ?_
 refine l_split (t := 10) rfl (fun h1 => ?_) (fun h1 => ?_)
 · -- h1T
  have h1b := h1
  try simp only [decide_eq_true_eq] at h1
  refine o_yes rfl rfl rfl ?_
  refine o_fieldAddr (q := ⟨b2, 1, none⟩) rfl rfl Tryz.underlying50 rfl ti3 rfl ?_
  refine o_yes rfl rfl rfl ?_
  refine o_load1 rfl rfl Tryz.underlying3 rfl (rd_mem 1 rfl rfl) ?_
  refine o_yes rfl rfl rfl ?_
  refine o_fieldAddr (q := ⟨b3, 1, none⟩) rfl rfl Tryz.underlying50 rfl ti3 rfl ?_
  refine o_yes rfl rfl rfl ?_
  refine o_load1 rfl rfl Tryz.underlying3 rfl (rd_mem 0 rfl rfl) ?_
  refine o_yes rfl rfl rfl ?_
  refine o_bin rfl rfl rfl b_eql ?_
  refine o_pick_true rfl rfl rfl ?_
  refine o_move rfl rfl ?_
  refine l_split (t := 17) rfl (fun h2 => ?_) (fun h2 => ?_)
  · -- h2T
   have h2b := h2
   try simp only [decide_eq_true_eq] at h2
   refine o_yes rfl rfl rfl ?_
   refine o_fieldAddr (q := ⟨b2, 2, none⟩) rfl rfl Tryz.underlying50 rfl ti33 rfl ?_
   refine o_yes rfl rfl rfl ?_
   refine o_loadn (vs := [_, _, _, _, _, _, _, _, _, _]) rfl rfl Tryz.underlying33 rfl ti33 (rdn_lit 1 rfl rfl) ?_
   refine o_yes rfl rfl rfl ?_
   refine o_fieldAddr (q := ⟨b3, 2, none⟩) rfl rfl Tryz.underlying50 rfl ti33 rfl ?_
   refine o_yes rfl rfl rfl ?_
   refine o_loadn (vs := [_, _, _, _, _, _, _, _, _, _]) rfl rfl Tryz.underlying33 rfl ti33 (rdn_lit 0 rfl rfl) ?_
   refine o_yes rfl rfl rfl ?_
   refine o_call rfl cal12 rfl (same9_ (a := x.ord) (b := y.ord) (OrdR.c (OrdR.c T_x)) (OrdR.c (OrdR.c T_y))) ?_
   rintro _ _ ⟨rfl, rfl⟩
   refine o_pick_true rfl rfl rfl ?_
   refine o_assign rfl rfl ?_
   refine l_nil ?_
   refine q_then ?_
   refine c_ret ?_
   refine q_conv (fun w S => S.tail) ?_
   refine q_conv (fun w S => S.tail) ?_
   exact f_ret (r_one rfl rfl) (⟨by first | exact vtrue' (by unfold SameI; grind) | exact vfalse' (by unfold SameI; grind) | exact bdec' (by unfold SameI; grind), rfl⟩) (fun w S => S)
  · -- h2F
   have h2b := h2
   try simp only [decide_eq_false_iff_not, Int.not_lt, Int.not_le] at h2
   refine o_no rfl rfl rfl rfl ?_
   refine o_no rfl rfl rfl rfl ?_
   refine o_no rfl rfl rfl rfl ?_
   refine o_no rfl rfl rfl rfl ?_
   refine o_no rfl rfl rfl rfl ?_
   refine o_pick_false rfl rfl rfl ?_
   refine o_assign rfl rfl ?_
   refine l_nil ?_
   refine q_then ?_
   refine c_ret ?_
   refine q_conv (fun w S => S.tail) ?_
   refine q_conv (fun w S => S.tail) ?_
   exact f_ret (r_one rfl rfl) (⟨by first | exact vtrue' (by unfold SameI; grind) | exact vfalse' (by unfold SameI; grind) | exact bdec' (by unfold SameI; grind), rfl⟩) (fun w S => S)
 · -- h1F
  have h1b := h1
  try simp only [decide_eq_false_iff_not, Int.not_lt, Int.not_le] at h1
  refine o_no rfl rfl rfl rfl ?_
  refine o_no rfl rfl rfl rfl ?_
  refine o_no rfl rfl rfl rfl ?_
  refine o_no rfl rfl rfl rfl ?_
  refine o_no rfl rfl rfl rfl ?_
  refine o_pick_false rfl rfl rfl ?_
  refine o_move rfl rfl ?_
  refine o_no rfl rfl rfl rfl ?_
  refine o_no rfl rfl rfl rfl ?_
  refine o_no rfl rfl rfl rfl ?_
  refine o_no rfl rfl rfl rfl ?_
  refine o_no rfl rfl rfl rfl ?_
  refine o_pick_false rfl rfl rfl ?_
  refine o_assign rfl rfl ?_
  refine l_nil ?_
  refine q_then ?_
  refine c_ret ?_
  refine q_conv (fun w S => S.tail) ?_
  refine q_conv (fun w S => S.tail) ?_
  exact f_ret (r_one rfl rfl) (⟨by first | exact vtrue' (by unfold SameI; grind) | exact vfalse' (by unfold SameI; grind) | exact bdec' (by unfold SameI; grind), rfl⟩) (fun w S => S)
end
section
set_option linter.unusedVariables false
set_option linter.unusedSimpArgs false
set_option maxRecDepth 10000
open Go.RowKit Classical
theorem rgreatT_ {W : World} {F : List Res} {o : Order} (T_o : OrdR W F o) : CS Tryz.prog 20 #[.agg #[.int .i64 o.f_Txn_Kind, .slice o.f_Txn_Reads.a (o.f_Txn_Reads.xs).length o.f_Txn_Reads.c, .slice o.f_Txn_Writes.a (o.f_Txn_Writes.xs).length o.f_Txn_Writes.c, .slice o.f_Txn_Ops.a (o.f_Txn_Ops.xs).length o.f_Txn_Ops.c, .int .i64 o.f_Txn_To]] W (F) (fun r L' => ∃ g : Bool, (g = false → o.f_Txn_Reads.xs.length ≤ 40 ∧ o.f_Txn_Writes.xs.length ≤ 40 ∧ o.f_Txn_Ops.xs.length ≤ 60 ∧ (∀ x ∈ o.f_Txn_Reads.xs, x.size ≤ 200) ∧ (∀ x ∈ o.f_Txn_Writes.xs, x.size ≤ 200) ∧ ∀ x ∈ o.f_Txn_Ops.xs, x.f_Key.size ≤ 200 ∧ x.f_Value.xs.length ≤ 200) ∧ r = .bool g ∧ F = L') := by
 have hlr := T_o.lr
 have hlw := T_o.lw
 have hlo := T_o.lo
 refine f_door (l0 := [(0, .agg #[.int .i64 o.f_Txn_Kind, .slice o.f_Txn_Reads.a (o.f_Txn_Reads.xs).length o.f_Txn_Reads.c, .slice o.f_Txn_Writes.a (o.f_Txn_Writes.xs).length o.f_Txn_Writes.c, .slice o.f_Txn_Ops.a (o.f_Txn_Ops.xs).length o.f_Txn_Ops.c, .int .i64 o.f_Txn_To])]) Tryz.func20 Tryz.ntmps20 rfl rfl rfl ?_
 refine c_seq ?_
 refine c_region ?_
 refine o_box rfl rfl fun b1 => ?_
 refine o_assign rfl rfl ?_
 refine l_nil ?_
 refine q_then ?_
 refine c_seq ?_
 refine c_seq ?_
 refine c_region ?_
 refine o_fieldAddr (q := ⟨b1, 1, none⟩) rfl rfl Tryz.underlying30 rfl ti27 rfl ?_
 refine o_load1 rfl rfl Tryz.underlying27 rfl (rd_mem 0 rfl rfl) ?_
 refine o_len rfl rfl Tryz.underlying27 ?_
 refine o_bin rfl rfl rfl b_gtr ?_
 refine o_move rfl rfl ?_
 refine l_split (t := 10) rfl (fun h1 => ?_) (fun h1 => ?_)
 · -- h1T
  have h1b := h1
  try simp only [decide_eq_true_eq] at h1
  refine o_no rfl rfl rfl rfl ?_
  refine o_no rfl rfl rfl rfl ?_
  refine o_no rfl rfl rfl rfl ?_
  refine o_no rfl rfl rfl rfl ?_
  refine o_pick_true rfl rfl rfl ?_
  refine o_move rfl rfl ?_
  refine o_no rfl rfl rfl rfl ?_
  refine o_no rfl rfl rfl rfl ?_
  refine o_no rfl rfl rfl rfl ?_
  refine o_no rfl rfl rfl rfl ?_
  refine o_pick_true rfl rfl rfl ?_
  refine l_nil ?_
  refine q_then ?_
  refine c_true rfl ?_
  refine c_seq ?_
  refine c_region ?_
  refine o_assign rfl rfl ?_
  refine l_nil ?_
  refine q_then ?_
  refine c_ret ?_
  refine q_pass_ret ?_
  refine q_conv (fun w S => S.tail) ?_
  exact f_ret (r_one rfl rfl) (⟨true, fun h9 => absurd h9 (by decide), rfl, rfl⟩) (fun w S => S)
 · -- h1F
  have h1b := h1
  try simp only [decide_eq_false_iff_not, Int.not_lt, Int.not_le] at h1
  refine o_yes rfl rfl rfl ?_
  refine o_fieldAddr (q := ⟨b1, 2, none⟩) rfl rfl Tryz.underlying30 rfl ti27 rfl ?_
  refine o_yes rfl rfl rfl ?_
  refine o_load1 rfl rfl Tryz.underlying27 rfl (rd_mem 0 rfl rfl) ?_
  refine o_yes rfl rfl rfl ?_
  refine o_len rfl rfl Tryz.underlying27 ?_
  refine o_yes rfl rfl rfl ?_
  refine o_bin rfl rfl rfl b_gtr ?_
  refine o_pick_false rfl rfl rfl ?_
  refine o_move rfl rfl ?_
  refine l_split (t := 16) rfl (fun h2 => ?_) (fun h2 => ?_)
  · -- h2T
   have h2b := h2
   try simp only [decide_eq_true_eq] at h2
   refine o_no rfl rfl rfl rfl ?_
   refine o_no rfl rfl rfl rfl ?_
   refine o_no rfl rfl rfl rfl ?_
   refine o_no rfl rfl rfl rfl ?_
   refine o_pick_true rfl rfl rfl ?_
   refine l_nil ?_
   refine q_then ?_
   refine c_true rfl ?_
   refine c_seq ?_
   refine c_region ?_
   refine o_assign rfl rfl ?_
   refine l_nil ?_
   refine q_then ?_
   refine c_ret ?_
   refine q_pass_ret ?_
   refine q_conv (fun w S => S.tail) ?_
   exact f_ret (r_one rfl rfl) (⟨true, fun h9 => absurd h9 (by decide), rfl, rfl⟩) (fun w S => S)
  · -- h2F
   have h2b := h2
   try simp only [decide_eq_false_iff_not, Int.not_lt, Int.not_le] at h2
   refine o_yes rfl rfl rfl ?_
   refine o_fieldAddr (q := ⟨b1, 3, none⟩) rfl rfl Tryz.underlying30 rfl ti28 rfl ?_
   refine o_yes rfl rfl rfl ?_
   refine o_load1 rfl rfl Tryz.underlying28 rfl (rd_mem 0 rfl rfl) ?_
   refine o_yes rfl rfl rfl ?_
   refine o_len rfl rfl Tryz.underlying28 ?_
   refine o_yes rfl rfl rfl ?_
   refine o_bin rfl rfl rfl b_gtr ?_
   refine o_pick_false rfl rfl rfl ?_
   refine l_nil ?_
   refine q_then ?_
   refine c_cond rfl (fun h3 => ?_) (fun h3 => ?_)
   · -- h3T
    have h3b := h3
    try simp only [decide_eq_true_eq] at h3
    refine c_seq ?_
    refine c_region ?_
    refine o_assign rfl rfl ?_
    refine l_nil ?_
    refine q_then ?_
    refine c_ret ?_
    refine q_pass_ret ?_
    refine q_conv (fun w S => S.tail) ?_
    exact f_ret (r_one rfl rfl) (⟨true, fun h9 => absurd h9 (by decide), rfl, rfl⟩) (fun w S => S)
   · -- h3F
    have h3b := h3
    try simp only [decide_eq_false_iff_not, Int.not_lt, Int.not_le] at h3
    refine c_skip ?_
    refine q_then ?_
    refine c_seq ?_
    refine c_seq ?_
    refine c_region ?_
    refine o_assign rfl rfl ?_
    refine l_nil ?_
    refine q_then ?_
    refine c_block ?_
    refine c_loop (α := Nat) (fun z => [(1, .pointer (some ⟨b1, 0, none⟩)), (3, .int .i64 (z : Int))]) (fun z => blk b1 (.cells #[.int .i64 o.f_Txn_Kind, .slice o.f_Txn_Reads.a (o.f_Txn_Reads.xs).length o.f_Txn_Reads.c, .slice o.f_Txn_Writes.a (o.f_Txn_Writes.xs).length o.f_Txn_Writes.c, .slice o.f_Txn_Ops.a (o.f_Txn_Ops.xs).length o.f_Txn_Ops.c, .int .i64 o.f_Txn_To] 30 (0, 0)) :: F) (fun z => z ≤ o.f_Txn_Reads.xs.length ∧ UpTo (fun x : ByteArray => x.size ≤ 200) o.f_Txn_Reads.xs z) (fun z => o.f_Txn_Reads.xs.length - z) (0) (by exact ⟨Nat.zero_le _, upTo_0⟩) ⟨(by first | rfl | exact vint (by omega)), (by first | rfl | exact vint (by omega)), trivial⟩ (fun w S => S) ?_
    rintro i1 ⟨hi1, ht1⟩
    try dsimp only at *
    refine c_seq ?_
    refine c_seq ?_
    refine c_region ?_
    refine o_move rfl rfl ?_
    refine o_fieldAddr (q := ⟨b1, 1, none⟩) rfl rfl Tryz.underlying30 rfl ti27 rfl ?_
    refine o_load1 rfl rfl Tryz.underlying27 rfl (rd_mem 0 rfl rfl) ?_
    refine o_len rfl rfl Tryz.underlying27 ?_
    refine o_bin rfl rfl rfl b_lss ?_
    refine l_nil ?_
    refine q_then ?_
    refine c_cond rfl (fun h4 => ?_) (fun h4 => ?_)
    · -- h4T
     have h4b := h4
     try simp only [decide_eq_true_eq] at h4
     refine c_skip ?_
     refine q_then ?_
     refine c_seq ?_
     refine c_block ?_
     refine c_seq ?_
     refine c_region ?_
     refine o_fieldAddr (q := ⟨b1, 1, none⟩) rfl rfl Tryz.underlying30 rfl ti27 rfl ?_
     refine o_load1 rfl rfl Tryz.underlying27 rfl (rd_mem 0 rfl rfl) ?_
     refine o_move rfl rfl ?_
     refine o_index e_S_ok rfl rfl rfl Tryz.underlying27 (by omega) (by omega) (OrdR.c T_o).rr fun ad32 ead32 => ?_
     obtain ⟨x32, hx32⟩ : ∃ x, (o.f_Txn_Reads.xs)[((i1 : Int)).toNat]? = some x := ⟨_, List.getElem?_eq_getElem (by omega)⟩
     refine o_load1 rfl rfl Tryz.underlying9 rfl (rd_sl0 e_S_ok ead32 (OrdR.c T_o).rr hx32 rfl) ?_
     refine o_lenStr rfl rfl Tryz.underlying9 ?_
     refine o_bin rfl rfl rfl b_gtr ?_
     refine l_nil ?_
     refine q_then ?_
     refine c_cond rfl (fun h5 => ?_) (fun h5 => ?_)
     · -- h5T
      have h5b := h5
      try simp only [decide_eq_true_eq] at h5
      refine c_seq ?_
      refine c_region ?_
      refine o_assign rfl rfl ?_
      refine l_nil ?_
      refine q_then ?_
      refine c_ret ?_
      refine q_block_ret ?_
      refine q_pass_ret ?_
      refine q_pass_ret ?_
      refine q_block_ret ?_
      refine q_pass_ret ?_
      refine q_conv (fun w S => S.tail) ?_
      exact f_ret (r_one rfl rfl) (⟨true, fun h9 => absurd h9 (by decide), rfl, rfl⟩) (fun w S => S)
     · -- h5F
      have h5b := h5
      try simp only [decide_eq_false_iff_not, Int.not_lt, Int.not_le] at h5
      refine c_skip ?_
      refine q_block ?_
      refine q_then ?_
      refine c_region ?_
      refine o_move rfl rfl ?_
      refine o_bin rfl rfl rfl (b_add (wrap_i64 (by omega) (by omega))) ?_
      refine o_assign rfl rfl ?_
      refine l_nil ?_
      exact q_round (i1 + 1) (by exact ⟨by omega, upTo_on ht1 hx32 (by show x32.size ≤ 200; omega)⟩) (by (try dsimp only); omega) ⟨(by first | rfl | exact vint (by omega)), (by first | rfl | exact vint (by omega)), trivial⟩ (fun w S => S)
    · -- h4F
     have h4b := h4
     try simp only [decide_eq_false_iff_not, Int.not_lt, Int.not_le] at h4
     refine c_exit ?_
     refine q_pass_exit ?_
     refine q_pass_exit ?_
     refine q_hit ?_
     refine q_then ?_
     refine c_seq ?_
     refine c_seq ?_
     refine c_region ?_
     refine o_assign rfl rfl ?_
     refine l_nil ?_
     refine q_then ?_
     refine c_block ?_
     refine c_loop (α := Nat) (fun z => [(1, .pointer (some ⟨b1, 0, none⟩)), (4, .int .i64 (z : Int))]) (fun z => blk b1 (.cells #[.int .i64 o.f_Txn_Kind, .slice o.f_Txn_Reads.a (o.f_Txn_Reads.xs).length o.f_Txn_Reads.c, .slice o.f_Txn_Writes.a (o.f_Txn_Writes.xs).length o.f_Txn_Writes.c, .slice o.f_Txn_Ops.a (o.f_Txn_Ops.xs).length o.f_Txn_Ops.c, .int .i64 o.f_Txn_To] 30 (0, 0)) :: F) (fun z => z ≤ o.f_Txn_Writes.xs.length ∧ UpTo (fun x : ByteArray => x.size ≤ 200) o.f_Txn_Writes.xs z) (fun z => o.f_Txn_Writes.xs.length - z) (0) (by exact ⟨Nat.zero_le _, upTo_0⟩) ⟨(by first | rfl | exact vint (by omega)), (by first | rfl | exact vint (by omega)), trivial⟩ (fun w S => S) ?_
     rintro i2 ⟨hi2, ht2⟩
     try dsimp only at *
     refine c_seq ?_
     refine c_seq ?_
     refine c_region ?_
     refine o_move rfl rfl ?_
     refine o_fieldAddr (q := ⟨b1, 2, none⟩) rfl rfl Tryz.underlying30 rfl ti27 rfl ?_
     refine o_load1 rfl rfl Tryz.underlying27 rfl (rd_mem 0 rfl rfl) ?_
     refine o_len rfl rfl Tryz.underlying27 ?_
     refine o_bin rfl rfl rfl b_lss ?_
     refine l_nil ?_
     refine q_then ?_
     refine c_cond rfl (fun h6 => ?_) (fun h6 => ?_)
     · -- h6T
      have h6b := h6
      try simp only [decide_eq_true_eq] at h6
      refine c_skip ?_
      refine q_then ?_
      refine c_seq ?_
      refine c_block ?_
      refine c_seq ?_
      refine c_region ?_
      refine o_fieldAddr (q := ⟨b1, 2, none⟩) rfl rfl Tryz.underlying30 rfl ti27 rfl ?_
      refine o_load1 rfl rfl Tryz.underlying27 rfl (rd_mem 0 rfl rfl) ?_
      refine o_move rfl rfl ?_
      refine o_index e_S_ok rfl rfl rfl Tryz.underlying27 (by omega) (by omega) (OrdR.c T_o).rw fun ad46 ead46 => ?_
      obtain ⟨x46, hx46⟩ : ∃ x, (o.f_Txn_Writes.xs)[((i2 : Int)).toNat]? = some x := ⟨_, List.getElem?_eq_getElem (by omega)⟩
      refine o_load1 rfl rfl Tryz.underlying9 rfl (rd_sl0 e_S_ok ead46 (OrdR.c T_o).rw hx46 rfl) ?_
      refine o_lenStr rfl rfl Tryz.underlying9 ?_
      refine o_bin rfl rfl rfl b_gtr ?_
      refine l_nil ?_
      refine q_then ?_
      refine c_cond rfl (fun h7 => ?_) (fun h7 => ?_)
      · -- h7T
       have h7b := h7
       try simp only [decide_eq_true_eq] at h7
       refine c_seq ?_
       refine c_region ?_
       refine o_assign rfl rfl ?_
       refine l_nil ?_
       refine q_then ?_
       refine c_ret ?_
       refine q_block_ret ?_
       refine q_pass_ret ?_
       refine q_pass_ret ?_
       refine q_block_ret ?_
       refine q_pass_ret ?_
       refine q_conv (fun w S => S.tail) ?_
       exact f_ret (r_one rfl rfl) (⟨true, fun h9 => absurd h9 (by decide), rfl, rfl⟩) (fun w S => S)
      · -- h7F
       have h7b := h7
       try simp only [decide_eq_false_iff_not, Int.not_lt, Int.not_le] at h7
       refine c_skip ?_
       refine q_block ?_
       refine q_then ?_
       refine c_region ?_
       refine o_move rfl rfl ?_
       refine o_bin rfl rfl rfl (b_add (wrap_i64 (by omega) (by omega))) ?_
       refine o_assign rfl rfl ?_
       refine l_nil ?_
       exact q_round (i2 + 1) (by exact ⟨by omega, upTo_on ht2 hx46 (by show x46.size ≤ 200; omega)⟩) (by (try dsimp only); omega) ⟨(by first | rfl | exact vint (by omega)), (by first | rfl | exact vint (by omega)), trivial⟩ (fun w S => S)
     · -- h6F
      have h6b := h6
      try simp only [decide_eq_false_iff_not, Int.not_lt, Int.not_le] at h6
      refine c_exit ?_
      refine q_pass_exit ?_
      refine q_pass_exit ?_
      refine q_hit ?_
      refine q_then ?_
      refine c_seq ?_
      refine c_seq ?_
      refine c_region ?_
      refine o_assign rfl rfl ?_
      refine l_nil ?_
      refine q_then ?_
      refine c_block ?_
      refine c_loop (α := Nat) (fun z => [(1, .pointer (some ⟨b1, 0, none⟩)), (5, .int .i64 (z : Int))]) (fun z => blk b1 (.cells #[.int .i64 o.f_Txn_Kind, .slice o.f_Txn_Reads.a (o.f_Txn_Reads.xs).length o.f_Txn_Reads.c, .slice o.f_Txn_Writes.a (o.f_Txn_Writes.xs).length o.f_Txn_Writes.c, .slice o.f_Txn_Ops.a (o.f_Txn_Ops.xs).length o.f_Txn_Ops.c, .int .i64 o.f_Txn_To] 30 (0, 0)) :: F) (fun z => z ≤ o.f_Txn_Ops.xs.length ∧ UpTo (fun x : Op => x.f_Key.size ≤ 200 ∧ x.f_Value.xs.length ≤ 200) o.f_Txn_Ops.xs z) (fun z => o.f_Txn_Ops.xs.length - z) (0) (by exact ⟨Nat.zero_le _, upTo_0⟩) ⟨(by first | rfl | exact vint (by omega)), (by first | rfl | exact vint (by omega)), trivial⟩ (fun w S => S) ?_
      rintro i3 ⟨hi3, ht3⟩
      try dsimp only at *
      refine c_seq ?_
      refine c_seq ?_
      refine c_region ?_
      refine o_move rfl rfl ?_
      refine o_fieldAddr (q := ⟨b1, 3, none⟩) rfl rfl Tryz.underlying30 rfl ti28 rfl ?_
      refine o_load1 rfl rfl Tryz.underlying28 rfl (rd_mem 0 rfl rfl) ?_
      refine o_len rfl rfl Tryz.underlying28 ?_
      refine o_bin rfl rfl rfl b_lss ?_
      refine l_nil ?_
      refine q_then ?_
      refine c_cond rfl (fun h8 => ?_) (fun h8 => ?_)
      · -- h8T
       have h8b := h8
       try simp only [decide_eq_true_eq] at h8
       refine c_skip ?_
       refine q_then ?_
       refine c_seq ?_
       refine c_block ?_
       refine c_seq ?_
       refine c_region ?_
       refine o_fieldAddr (q := ⟨b1, 3, none⟩) rfl rfl Tryz.underlying30 rfl ti28 rfl ?_
       refine o_load1 rfl rfl Tryz.underlying28 rfl (rd_mem 0 rfl rfl) ?_
       refine o_move rfl rfl ?_
       refine o_index e_Op_ok rfl rfl rfl Tryz.underlying28 (by omega) (by omega) (OrdR.c T_o).ro fun ad60 ead60 => ?_
       obtain ⟨x60, hx60⟩ : ∃ x, (o.f_Txn_Ops.xs)[((i3 : Int)).toNat]? = some x := ⟨_, List.getElem?_eq_getElem (by omega)⟩
       refine o_fieldAddr rfl rfl Tryz.underlying92 rfl ti9 (Addr.add_add' _ _ _) ?_
       refine o_load1 rfl rfl Tryz.underlying9 rfl (rd_sl e_Op_ok ead60 (OrdR.c T_o).ro hx60 rfl) ?_
       refine o_lenStr rfl rfl Tryz.underlying9 ?_
       refine o_bin rfl rfl rfl b_gtr ?_
       refine o_move rfl rfl ?_
       refine l_split (t := 65) rfl (fun h9 => ?_) (fun h9 => ?_)
       · -- h9T
        have h9b := h9
        try simp only [decide_eq_true_eq] at h9
        refine o_no rfl rfl rfl rfl ?_
        refine o_no rfl rfl rfl rfl ?_
        refine o_no rfl rfl rfl rfl ?_
        refine o_no rfl rfl rfl rfl ?_
        refine o_no rfl rfl rfl rfl ?_
        refine o_no rfl rfl rfl rfl ?_
        refine o_no rfl rfl rfl rfl ?_
        refine o_no rfl rfl rfl rfl ?_
        refine o_pick_true rfl rfl rfl ?_
        refine l_nil ?_
        refine q_then ?_
        refine c_true rfl ?_
        refine c_seq ?_
        refine c_region ?_
        refine o_assign rfl rfl ?_
        refine l_nil ?_
        refine q_then ?_
        refine c_ret ?_
        refine q_block_ret ?_
        refine q_pass_ret ?_
        refine q_pass_ret ?_
        refine q_block_ret ?_
        refine q_pass_ret ?_
        refine q_conv (fun w S => S.tail) ?_
        exact f_ret (r_one rfl rfl) (⟨true, fun h9 => absurd h9 (by decide), rfl, rfl⟩) (fun w S => S)
       · -- h9F
        have h9b := h9
        try simp only [decide_eq_false_iff_not, Int.not_lt, Int.not_le] at h9
        refine o_yes rfl rfl rfl ?_
        refine o_fieldAddr (q := ⟨b1, 3, none⟩) rfl rfl Tryz.underlying30 rfl ti28 rfl ?_
        refine o_yes rfl rfl rfl ?_
        refine o_load1 rfl rfl Tryz.underlying28 rfl (rd_mem 0 rfl rfl) ?_
        refine o_yes rfl rfl rfl ?_
        refine o_move rfl rfl ?_
        refine o_yes rfl rfl rfl ?_
        refine o_indexK e_Op_ok ead60 rfl rfl rfl Tryz.underlying28 (by omega) (by omega) ?_
        obtain ⟨x69, hx69⟩ : ∃ x, (o.f_Txn_Ops.xs)[((i3 : Int)).toNat]? = some x := ⟨_, List.getElem?_eq_getElem (by omega)⟩
        have e69 : x69 = x60 := by rw [hx60] at hx69; exact (Option.some.inj hx69).symm
        have e69' : x69.f_Value.xs.length = x60.f_Value.xs.length := by rw [e69]
        refine o_yes rfl rfl rfl ?_
        refine o_fieldAddr rfl rfl Tryz.underlying92 rfl ti34 (Addr.add_add' _ _ _) ?_
        refine o_yes rfl rfl rfl ?_
        refine o_load1 rfl rfl Tryz.underlying34 rfl (rd_sl e_Op_ok ead60 (OrdR.c T_o).ro hx69 rfl) ?_
        refine o_yes rfl rfl rfl ?_
        refine o_len rfl rfl Tryz.underlying34 ?_
        refine o_yes rfl rfl rfl ?_
        refine o_bin rfl rfl rfl b_gtr ?_
        refine o_pick_false rfl rfl rfl ?_
        refine l_nil ?_
        refine q_then ?_
        refine c_cond rfl (fun h10 => ?_) (fun h10 => ?_)
        · -- h10T
         have h10b := h10
         try simp only [decide_eq_true_eq] at h10
         refine c_seq ?_
         refine c_region ?_
         refine o_assign rfl rfl ?_
         refine l_nil ?_
         refine q_then ?_
         refine c_ret ?_
         refine q_block_ret ?_
         refine q_pass_ret ?_
         refine q_pass_ret ?_
         refine q_block_ret ?_
         refine q_pass_ret ?_
         refine q_conv (fun w S => S.tail) ?_
         exact f_ret (r_one rfl rfl) (⟨true, fun h9 => absurd h9 (by decide), rfl, rfl⟩) (fun w S => S)
        · -- h10F
         have h10b := h10
         try simp only [decide_eq_false_iff_not, Int.not_lt, Int.not_le] at h10
         refine c_skip ?_
         refine q_block ?_
         refine q_then ?_
         refine c_region ?_
         refine o_move rfl rfl ?_
         refine o_bin rfl rfl rfl (b_add (wrap_i64 (by omega) (by omega))) ?_
         refine o_assign rfl rfl ?_
         refine l_nil ?_
         exact q_round (i3 + 1) (by exact ⟨by omega, upTo_on ht3 hx60 ⟨by omega, by omega⟩⟩) (by (try dsimp only); omega) ⟨(by first | rfl | exact vint (by omega)), (by first | rfl | exact vint (by omega)), trivial⟩ (fun w S => S)
      · -- h8F
       have h8b := h8
       try simp only [decide_eq_false_iff_not, Int.not_lt, Int.not_le] at h8
       refine c_exit ?_
       refine q_pass_exit ?_
       refine q_pass_exit ?_
       refine q_hit ?_
       refine q_then ?_
       refine c_seq ?_
       refine c_region ?_
       refine o_assign rfl rfl ?_
       refine l_nil ?_
       refine q_then ?_
       refine c_ret ?_
       refine q_conv (fun w S => S.tail) ?_
       exact f_ret (r_one rfl rfl) (⟨false, fun _ => ⟨by omega, by omega, by omega, upTo_all ht1 (by omega), upTo_all ht2 (by omega), upTo_all ht3 (by omega)⟩, rfl, rfl⟩) (fun w S => S)
theorem rgreat_ {W : World} {F : List Res} {o : Order} (T_o : OrdR W F o) : CS Tryz.prog 6 #[.agg #[.int .i64 o.f_Tag_Id_Node, .int .u64 o.f_Tag_Id_Epoch, .int .u64 o.f_Tag_Id_Seq, .int .i64 o.f_Tag_Try, .int .i64 o.f_Txn_Kind, .slice o.f_Txn_Reads.a (o.f_Txn_Reads.xs).length o.f_Txn_Reads.c, .slice o.f_Txn_Writes.a (o.f_Txn_Writes.xs).length o.f_Txn_Writes.c, .slice o.f_Txn_Ops.a (o.f_Txn_Ops.xs).length o.f_Txn_Ops.c, .int .i64 o.f_Txn_To, .slice o.f_Marks.a (o.f_Marks.xs).length o.f_Marks.c]] W (F) (fun r L' => ∃ g : Bool, (g = false → OSmall o) ∧ r = .bool g ∧ F = L') := by
 have hlm := T_o.lm
 refine f_door (l0 := [(0, .agg #[.int .i64 o.f_Tag_Id_Node, .int .u64 o.f_Tag_Id_Epoch, .int .u64 o.f_Tag_Id_Seq, .int .i64 o.f_Tag_Try, .int .i64 o.f_Txn_Kind, .slice o.f_Txn_Reads.a (o.f_Txn_Reads.xs).length o.f_Txn_Reads.c, .slice o.f_Txn_Writes.a (o.f_Txn_Writes.xs).length o.f_Txn_Writes.c, .slice o.f_Txn_Ops.a (o.f_Txn_Ops.xs).length o.f_Txn_Ops.c, .int .i64 o.f_Txn_To, .slice o.f_Marks.a (o.f_Marks.xs).length o.f_Marks.c])]) Tryz.func6 Tryz.ntmps6 rfl rfl rfl ?_
 refine c_seq ?_
 refine c_region ?_
 refine o_box rfl rfl fun b1 => ?_
 refine o_assign rfl rfl ?_
 refine l_nil ?_
 refine q_then ?_
 refine c_seq ?_
 refine c_seq ?_
 refine c_region ?_
 refine o_fieldAddr (q := ⟨b1, 4, none⟩) rfl rfl Tryz.underlying33 rfl ti30 rfl ?_
 refine o_loadn (vs := [_, _, _, _, _]) rfl rfl Tryz.underlying30 rfl ti30 (rdn_lit 0 rfl rfl) ?_
 refine o_call rfl cal20 rfl (rgreatT_ (o := o) (OrdR.c T_o)) ?_
 rintro _ _ ⟨g6, hg6, rfl, rfl⟩
 refine o_move rfl rfl ?_
 refine l_split (t := 7) rfl (fun h1 => ?_) (fun h1 => ?_)
 · -- h1T
  have h1b := h1
  try simp only [decide_eq_true_eq, decide_eq_false_iff_not, Bool.not_eq_eq_eq_not, Bool.not_true, Bool.not_false, Bool.not_eq_true', Bool.not_eq_false', Int.not_lt, Int.not_le, Bool.or_eq_true, Bool.and_eq_true] at h1
  refine o_no rfl rfl rfl rfl ?_
  refine o_no rfl rfl rfl rfl ?_
  refine o_no rfl rfl rfl rfl ?_
  refine o_no rfl rfl rfl rfl ?_
  refine o_pick_true rfl rfl rfl ?_
  refine l_nil ?_
  refine q_then ?_
  refine c_true rfl ?_
  refine c_seq ?_
  refine c_region ?_
  refine o_assign rfl rfl ?_
  refine l_nil ?_
  refine q_then ?_
  refine c_ret ?_
  refine q_pass_ret ?_
  refine q_conv (fun w S => S.tail) ?_
  exact f_ret (r_one rfl rfl) (⟨true, fun h9 => absurd h9 (by decide), rfl, rfl⟩) (fun w S => S)
 · -- h1F
  have h1b := h1
  try simp only [decide_eq_true_eq, decide_eq_false_iff_not, Bool.not_eq_eq_eq_not, Bool.not_true, Bool.not_false, Bool.not_eq_true', Bool.not_eq_false', Int.not_lt, Int.not_le, Bool.or_eq_true, Bool.and_eq_true] at h1
  refine o_yes rfl rfl rfl ?_
  refine o_fieldAddr (q := ⟨b1, 9, none⟩) rfl rfl Tryz.underlying33 rfl ti31 rfl ?_
  refine o_yes rfl rfl rfl ?_
  refine o_load1 rfl rfl Tryz.underlying31 rfl (rd_mem 0 rfl rfl) ?_
  refine o_yes rfl rfl rfl ?_
  refine o_len rfl rfl Tryz.underlying31 ?_
  refine o_yes rfl rfl rfl ?_
  refine o_bin rfl rfl rfl b_gtr ?_
  refine o_pick_false rfl rfl rfl ?_
  refine l_nil ?_
  refine q_then ?_
  refine c_cond rfl (fun h2 => ?_) (fun h2 => ?_)
  · -- h2T
   have h2b := h2
   try simp only [decide_eq_true_eq] at h2
   refine c_seq ?_
   refine c_region ?_
   refine o_assign rfl rfl ?_
   refine l_nil ?_
   refine q_then ?_
   refine c_ret ?_
   refine q_pass_ret ?_
   refine q_conv (fun w S => S.tail) ?_
   exact f_ret (r_one rfl rfl) (⟨true, fun h9 => absurd h9 (by decide), rfl, rfl⟩) (fun w S => S)
  · -- h2F
   have h2b := h2
   try simp only [decide_eq_false_iff_not, Int.not_lt, Int.not_le] at h2
   refine c_skip ?_
   refine q_then ?_
   refine c_seq ?_
   refine c_seq ?_
   refine c_region ?_
   refine o_assign rfl rfl ?_
   refine l_nil ?_
   refine q_then ?_
   refine c_block ?_
   refine c_loop (α := Nat) (fun z => [(1, .pointer (some ⟨b1, 0, none⟩)), (3, .int .i64 (z : Int))]) (fun z => blk b1 (.cells #[.int .i64 o.f_Tag_Id_Node, .int .u64 o.f_Tag_Id_Epoch, .int .u64 o.f_Tag_Id_Seq, .int .i64 o.f_Tag_Try, .int .i64 o.f_Txn_Kind, .slice o.f_Txn_Reads.a (o.f_Txn_Reads.xs).length o.f_Txn_Reads.c, .slice o.f_Txn_Writes.a (o.f_Txn_Writes.xs).length o.f_Txn_Writes.c, .slice o.f_Txn_Ops.a (o.f_Txn_Ops.xs).length o.f_Txn_Ops.c, .int .i64 o.f_Txn_To, .slice o.f_Marks.a (o.f_Marks.xs).length o.f_Marks.c] 33 (0, 0)) :: F) (fun z => z ≤ o.f_Marks.xs.length ∧ UpTo (fun x : Mark => x.f_Key.size ≤ 200) o.f_Marks.xs z) (fun z => o.f_Marks.xs.length - z) (0) (by exact ⟨Nat.zero_le _, upTo_0⟩) ⟨(by first | rfl | exact vint (by omega)), (by first | rfl | exact vint (by omega)), trivial⟩ (fun w S => S) ?_
   rintro i1 ⟨hi1, ht1⟩
   try dsimp only at *
   refine c_seq ?_
   refine c_seq ?_
   refine c_region ?_
   refine o_move rfl rfl ?_
   refine o_fieldAddr (q := ⟨b1, 9, none⟩) rfl rfl Tryz.underlying33 rfl ti31 rfl ?_
   refine o_load1 rfl rfl Tryz.underlying31 rfl (rd_mem 0 rfl rfl) ?_
   refine o_len rfl rfl Tryz.underlying31 ?_
   refine o_bin rfl rfl rfl b_lss ?_
   refine l_nil ?_
   refine q_then ?_
   refine c_cond rfl (fun h3 => ?_) (fun h3 => ?_)
   · -- h3T
    have h3b := h3
    try simp only [decide_eq_true_eq] at h3
    refine c_skip ?_
    refine q_then ?_
    refine c_seq ?_
    refine c_block ?_
    refine c_seq ?_
    refine c_region ?_
    refine o_fieldAddr (q := ⟨b1, 9, none⟩) rfl rfl Tryz.underlying33 rfl ti31 rfl ?_
    refine o_load1 rfl rfl Tryz.underlying31 rfl (rd_mem 0 rfl rfl) ?_
    refine o_move rfl rfl ?_
    refine o_index e_Mark_ok rfl rfl rfl Tryz.underlying31 (by omega) (by omega) (OrdR.c T_o).rm fun ad23 ead23 => ?_
    obtain ⟨x23, hx23⟩ : ∃ x, (o.f_Marks.xs)[((i1 : Int)).toNat]? = some x := ⟨_, List.getElem?_eq_getElem (by omega)⟩
    refine o_fieldAddr rfl rfl Tryz.underlying60 rfl ti9 (Addr.add_add' _ _ _) ?_
    refine o_load1 rfl rfl Tryz.underlying9 rfl (rd_sl e_Mark_ok ead23 (OrdR.c T_o).rm hx23 rfl) ?_
    refine o_lenStr rfl rfl Tryz.underlying9 ?_
    refine o_bin rfl rfl rfl b_gtr ?_
    refine l_nil ?_
    refine q_then ?_
    refine c_cond rfl (fun h4 => ?_) (fun h4 => ?_)
    · -- h4T
     have h4b := h4
     try simp only [decide_eq_true_eq] at h4
     refine c_seq ?_
     refine c_region ?_
     refine o_assign rfl rfl ?_
     refine l_nil ?_
     refine q_then ?_
     refine c_ret ?_
     refine q_block_ret ?_
     refine q_pass_ret ?_
     refine q_pass_ret ?_
     refine q_block_ret ?_
     refine q_pass_ret ?_
     refine q_conv (fun w S => S.tail) ?_
     exact f_ret (r_one rfl rfl) (⟨true, fun h9 => absurd h9 (by decide), rfl, rfl⟩) (fun w S => S)
    · -- h4F
     have h4b := h4
     try simp only [decide_eq_false_iff_not, Int.not_lt, Int.not_le] at h4
     refine c_skip ?_
     refine q_block ?_
     refine q_then ?_
     refine c_region ?_
     refine o_move rfl rfl ?_
     refine o_bin rfl rfl rfl (b_add (wrap_i64 (by omega) (by omega))) ?_
     refine o_assign rfl rfl ?_
     refine l_nil ?_
     exact q_round (i1 + 1) (by exact ⟨by omega, upTo_on ht1 hx23 (by show x23.f_Key.size ≤ 200; omega)⟩) (by (try dsimp only); omega) ⟨(by first | rfl | exact vint (by omega)), (by first | rfl | exact vint (by omega)), trivial⟩ (fun w S => S)
   · -- h3F
    have h3b := h3
    try simp only [decide_eq_false_iff_not, Int.not_lt, Int.not_le] at h3
    refine c_exit ?_
    refine q_pass_exit ?_
    refine q_pass_exit ?_
    refine q_hit ?_
    refine q_then ?_
    refine c_seq ?_
    refine c_region ?_
    refine o_assign rfl rfl ?_
    refine l_nil ?_
    refine q_then ?_
    refine c_ret ?_
    refine q_conv (fun w S => S.tail) ?_
    exact f_ret (r_one rfl rfl) (⟨false, fun _ => (by obtain ⟨q1, q2, q3, q4, q5, q6⟩ := hg6 (by assumption); exact ⟨q1, q2, q3, by omega, q4, q5, upTo_all ht1 (by omega), q6⟩), rfl, rfl⟩) (fun w S => S)
end
section
set_option linter.unusedVariables false
set_option linter.unusedSimpArgs false
set_option maxRecDepth 10000
open Go.RowKit Classical
theorem owf_mk {W : World} {o : Order} (h1 : (Lit.int .u64 o.f_Tag_Id_Epoch).wf = true) (h2 : (Lit.int .u64 o.f_Tag_Id_Seq).wf = true) (h3 : ∀ x ∈ o.f_Txn_Ops.xs, G_Op W x) (h4 : ∀ x ∈ o.f_Marks.xs, G_Mark W x) : OWf o where
  ep := by obtain ⟨m, e, _⟩ := wf_u64 h1; omega
  sq := by obtain ⟨m, e, _⟩ := wf_u64 h2; omega
  mc := fun m hm => by obtain ⟨m, e, _⟩ := wf_u64 (h4 m hm).2.2; omega
  op := fun x hx => by have := wf_i64 (h3 x hx).2.2.2; omega
theorem owfI {W : World} {x : Item} (g : G_Item W x) : OWf x.ord := owf_mk g.2.2.2.1 g.2.2.2.2.1 g.2.2.2.2.2.2.2.2.2.1.all g.2.2.2.2.2.2.2.2.2.2.2.all
theorem itemB_iff {a b : Item} (ia : ItOk a) (ib : ItOk b) (ha : OrdOk a.ord 3) (hb : OrdOk b.ord 3) (wa : OWf a.ord) (wb : OWf b.ord) : itemB a = itemB b ↔ SameI a b := by
  constructor
  · intro h
    unfold itemB at h
    obtain ⟨e1, h⟩ := fm_app (f := nB) (R := fun x y => x = y) (p := fun x => 0 ≤ x) (fun hx hy h => nB_app hx hy h) (xs := [a.f_Kind, a.f_Index]) (ys := [b.f_Kind, b.f_Index]) rfl (fun x hx => (it_hd ia x hx).1) (fun x hx => (it_hd ib x hx).1) h
    exact ⟨e1 0 _ _ rfl rfl, e1 1 _ _ rfl rfl, ordB_inj ha hb wa wb h⟩
  · rintro ⟨h1, h2, h3⟩
    unfold itemB
    rw [h1, h2, ordB_same h3]
theorem rdi_uniq {bs : List UInt8} {q p : Item} {n m : Int} (h : RdResI bs q n) (k : RdResI bs p m) : n = m ∧ SameI q p := by
  rcases h with ⟨h1, g⟩ | ⟨h1, h2, h3⟩
  · rcases k with ⟨k1, f⟩ | ⟨_, _, k3⟩
    · exact ⟨h1.trans k1.symm, (itemB_iff g.it f.it g.ok f.ok g.wf f.wf).1 (g.eq.symm.trans f.eq)⟩
    · exact absurd g (k3 q)
  · rcases k with ⟨_, f⟩ | ⟨k1, k2, _⟩
    · exact absurd f (h3 p)
    · exact ⟨h1.trans k1.symm, by rw [h2, k2]; exact ⟨rfl, rfl, sameO_refl _⟩⟩
theorem rdi_of {x q : Item} {bs : List UInt8} {n : Int} (hb : bs = itemB x) (it : ItOk x) (ok : OrdOk x.ord 3) (w : OWf x.ord) (h : RdResI bs q n) : n = 0 ∧ SameI q x := by
  rcases h with ⟨h1, g⟩ | ⟨_, _, h3⟩
  · exact ⟨h1, (itemB_iff g.it it g.ok ok g.wf w).1 (g.eq.symm.trans hb)⟩
  · exact absurd ⟨it, ok, w, hb⟩ (h3 x)
set_option maxHeartbeats 4000000 in
theorem itemsL_ {W : World} {F : List Res} {ms : List UInt8} {am : Option Addr} {cm : Nat} {x : Item} (T_x : OrdR W F x.ord) (w_x : OWf x.ord) (hs : SlR W e8 am ms) (hml : ms.length ≤ 9223372036854775807) (hcm : ms.length ≤ cm) : CS Tryz.prog 4 #[.agg #[.int .i64 x.f_Kind, .int .i64 x.f_Index, .int .i64 x.ord.f_Tag_Id_Node, .int .u64 x.ord.f_Tag_Id_Epoch, .int .u64 x.ord.f_Tag_Id_Seq, .int .i64 x.ord.f_Tag_Try, .int .i64 x.ord.f_Txn_Kind, .slice x.ord.f_Txn_Reads.a (x.ord.f_Txn_Reads.xs).length x.ord.f_Txn_Reads.c, .slice x.ord.f_Txn_Writes.a (x.ord.f_Txn_Writes.xs).length x.ord.f_Txn_Writes.c, .slice x.ord.f_Txn_Ops.a (x.ord.f_Txn_Ops.xs).length x.ord.f_Txn_Ops.c, .int .i64 x.ord.f_Txn_To, .slice x.ord.f_Marks.a (x.ord.f_Marks.xs).length x.ord.f_Marks.c], .slice am ms.length cm] W (F) (fun r L' => r = .bool true ∧ F = L') := by
 refine f_door (l0 := [(0, .agg #[.int .i64 x.f_Kind, .int .i64 x.f_Index, .int .i64 x.ord.f_Tag_Id_Node, .int .u64 x.ord.f_Tag_Id_Epoch, .int .u64 x.ord.f_Tag_Id_Seq, .int .i64 x.ord.f_Tag_Try, .int .i64 x.ord.f_Txn_Kind, .slice x.ord.f_Txn_Reads.a (x.ord.f_Txn_Reads.xs).length x.ord.f_Txn_Reads.c, .slice x.ord.f_Txn_Writes.a (x.ord.f_Txn_Writes.xs).length x.ord.f_Txn_Writes.c, .slice x.ord.f_Txn_Ops.a (x.ord.f_Txn_Ops.xs).length x.ord.f_Txn_Ops.c, .int .i64 x.ord.f_Txn_To, .slice x.ord.f_Marks.a (x.ord.f_Marks.xs).length x.ord.f_Marks.c]), (1, .slice am ms.length cm)]) Tryz.func4 Tryz.ntmps4 rfl rfl rfl ?_
 refine c_seq ?_
 refine c_region ?_
 refine o_box rfl rfl fun b2 => ?_
 refine o_assign rfl rfl ?_
 refine l_nil ?_
 refine q_then ?_
 refine c_seq ?_
 refine c_seq ?_
 refine c_region ?_
 refine o_call rfl cal5 rfl (speaks_) ?_
 rintro _ _ ⟨rfl, rfl⟩
 refine o_not rfl rfl ?_
 refine l_nil ?_
 refine q_then ?_
 refine c_false rfl ?_
 refine c_skip ?_
 refine q_then ?_
 refine c_seq ?_
 refine c_seq ?_
 refine c_region ?_
 refine o_fieldAddr (q := ⟨b2, 2, none⟩) rfl rfl Tryz.underlying50 rfl ti33 rfl ?_
 refine o_loadn (vs := [_, _, _, _, _, _, _, _, _, _]) rfl rfl Tryz.underlying33 rfl ti33 (rdn_lit 0 rfl rfl) ?_
 refine o_call rfl cal6 rfl (rgreat_ (o := x.ord) (OrdR.c T_x)) ?_
 rintro _ _ ⟨g19, hg19, rfl, rfl⟩
 refine o_move rfl rfl ?_
 refine l_split (t := 20) rfl (fun h1 => ?_) (fun h1 => ?_)
 · -- h1T
  have h1b := h1
  try simp only [decide_eq_true_eq, decide_eq_false_iff_not, Bool.not_eq_eq_eq_not, Bool.not_true, Bool.not_false, Bool.not_eq_true', Bool.not_eq_false', Int.not_lt, Int.not_le, Bool.or_eq_true, Bool.and_eq_true] at h1
  refine o_no rfl rfl rfl rfl ?_
  refine o_no rfl rfl rfl rfl ?_
  refine o_no rfl rfl rfl rfl ?_
  refine o_pick_true rfl rfl rfl ?_
  refine l_nil ?_
  refine q_then ?_
  refine c_true rfl ?_
  refine c_seq ?_
  refine c_region ?_
  refine o_assign rfl rfl ?_
  refine l_nil ?_
  refine q_then ?_
  refine c_ret ?_
  refine q_pass_ret ?_
  refine q_conv (fun w S => S.tail) ?_
  exact f_ret (r_one rfl rfl) (⟨rfl, rfl⟩) (fun w S => S)
 · -- h1F
  have h1b := h1
  try simp only [decide_eq_true_eq, decide_eq_false_iff_not, Bool.not_eq_eq_eq_not, Bool.not_true, Bool.not_false, Bool.not_eq_true', Bool.not_eq_false', Int.not_lt, Int.not_le, Bool.or_eq_true, Bool.and_eq_true] at h1
  refine o_yes rfl rfl rfl ?_
  refine o_move rfl rfl ?_
  refine o_yes rfl rfl rfl ?_
  refine o_len rfl rfl Tryz.underlying34 ?_
  refine o_yes rfl rfl rfl ?_
  refine o_bin rfl rfl rfl b_gtr ?_
  refine o_pick_false rfl rfl rfl ?_
  refine l_nil ?_
  refine q_then ?_
  refine c_cond rfl (fun h2 => ?_) (fun h2 => ?_)
  · -- h2T
   have h2b := h2
   try simp only [decide_eq_true_eq] at h2
   refine c_seq ?_
   refine c_region ?_
   refine o_assign rfl rfl ?_
   refine l_nil ?_
   refine q_then ?_
   refine c_ret ?_
   refine q_pass_ret ?_
   refine q_conv (fun w S => S.tail) ?_
   exact f_ret (r_one rfl rfl) (⟨rfl, rfl⟩) (fun w S => S)
  · -- h2F
   have h2b := h2
   try simp only [decide_eq_false_iff_not, Int.not_lt, Int.not_le] at h2
   refine c_skip ?_
   refine q_then ?_
   refine c_seq ?_
   refine c_region ?_
   refine o_loadn (vs := [_, _, _, _, _, _, _, _, _, _, _, _]) rfl rfl Tryz.underlying50 rfl ti50 (rdn_lit 0 rfl rfl) ?_
   refine o_call rfl cal13 rfl (iWrite_ (x := x) (OrdR.c T_x) (hg19 (by assumption)) w_x) ?_
   rintro _ _ ⟨out27, a27, c27, hout27, rfl, rfl⟩
   refine o_move rfl rfl ?_
   refine o_extract rfl rfl rfl ?_
   refine o_extract rfl rfl rfl ?_
   refine o_assign rfl rfl ?_
   refine o_assign rfl rfl ?_
   refine l_nil ?_
   refine q_then ?_
   refine c_seq ?_
   refine c_region ?_
   refine o_loadn (vs := [_, _, _, _, _, _, _, _, _, _, _, _]) rfl rfl Tryz.underlying50 rfl ti50 (rdn_lit 1 rfl rfl) ?_
   refine o_call rfl cal14 rfl (rWriteI_ (x := x) (OrdR.c (OrdR.c T_x)) (hg19 (by assumption)) w_x) ?_
   rintro _ _ ⟨out32, a32, c32, hout32, rfl, rfl⟩
   refine o_move rfl rfl ?_
   refine o_extract rfl rfl rfl ?_
   refine o_extract rfl rfl rfl ?_
   refine o_assign rfl rfl ?_
   refine o_assign rfl rfl ?_
   refine l_nil ?_
   refine q_then ?_
   refine c_seq ?_
   refine c_region ?_
   refine o_lit e8_ok rfl Tryz.underlying34 rfl rfl rfl (lit_ok rfl) ([] : List UInt8) rfl rfl fun a36 => ?_
   refine o_move rfl rfl ?_
   refine o_append e8_ok rfl rfl rfl Tryz.underlying34 (rds_old hs) (by show (_ + _) * _ ≤ _; (try simp only [List.length_append, List.length_nil]); omega) (by (try simp only [List.length_append, List.length_nil]); omega) fun a38 c38 => ?_
   refine o_call rfl cal15 rfl (iRead_ (rds_own e8_ok 0 rfl) (by (try simp only [List.length_append, List.length_nil]); omega)) ?_
   rintro _ _ ⟨q39, n39, hrd39, L_q39, rfl, rfl⟩
   refine o_move rfl rfl ?_
   refine o_extract rfl rfl rfl ?_
   refine o_extract rfl rfl rfl ?_
   refine o_alloc rfl ti50 fun b9 => ?_
   refine o_storen rfl rfl ti50 rfl rfl rfl rfl ?_
   refine o_assign rfl rfl ?_
   refine l_nil ?_
   refine q_then ?_
   refine c_seq ?_
   refine c_region ?_
   refine o_move rfl rfl ?_
   refine o_call rfl cal16 rfl (rReadI_ hs (by omega) hcm) ?_
   rintro _ _ ⟨q44, n44, hrd44, L_q44, rfl, rfl⟩
   refine o_move rfl rfl ?_
   refine o_extract rfl rfl rfl ?_
   refine o_extract rfl rfl rfl ?_
   refine o_alloc rfl ti50 fun b11 => ?_
   refine o_storen rfl rfl ti50 rfl rfl rfl rfl ?_
   refine o_assign rfl rfl ?_
   refine l_nil ?_
   refine q_then ?_
   refine c_seq ?_
   refine c_seq ?_
   have hu := rdi_uniq (show RdResI ms q39 n39 from hrd39) hrd44
   refine c_region ?_
   refine o_move rfl rfl ?_
   refine o_move rfl rfl ?_
   refine o_bin rfl rfl rfl b_neq ?_
   refine l_eq (t := 49) (v' := .bool false) rfl (show _ = Value.bool false from by simp) ?_
   refine o_move rfl rfl ?_
   refine o_yes rfl rfl rfl ?_
   refine o_move rfl rfl ?_
   refine o_yes rfl rfl rfl ?_
   refine o_bytesStr (e := e8) rfl rfl rfl Tryz.underlying34 Tryz.underlying5 Tryz.underlying9 (rds_own e8_ok 6 rfl) ?_
   refine o_yes rfl rfl rfl ?_
   refine o_move rfl rfl ?_
   refine o_yes rfl rfl rfl ?_
   refine o_bytesStr (e := e8) rfl rfl rfl Tryz.underlying34 Tryz.underlying5 Tryz.underlying9 (rds_own e8_ok 5 rfl) ?_
   refine o_yes rfl rfl rfl ?_
   refine o_bin rfl rfl rfl b_sneq ?_
   refine l_eq (t := 55) (v' := .bool false) rfl (show _ = Value.bool false from by rw [hout27, hout32]; simp) ?_
   refine o_pick_false rfl rfl rfl ?_
   refine o_move rfl rfl ?_
   refine o_yes rfl rfl rfl ?_
   refine o_move rfl rfl ?_
   refine o_yes rfl rfl rfl ?_
   refine o_move rfl rfl ?_
   refine o_yes rfl rfl rfl ?_
   refine o_bin rfl rfl rfl b_neq ?_
   refine l_eq (t := 60) (v' := .bool false) rfl (show _ = Value.bool false from by rw [hu.1]; simp) ?_
   refine o_pick_false rfl rfl rfl ?_
   refine o_move rfl rfl ?_
   refine o_yes rfl rfl rfl ?_
   refine o_loadn (vs := [_, _, _, _, _, _, _, _, _, _, _, _]) rfl rfl Tryz.underlying50 rfl ti50 (rdn_lit 2 rfl rfl) ?_
   refine o_yes rfl rfl rfl ?_
   refine o_loadn (vs := [_, _, _, _, _, _, _, _, _, _, _, _]) rfl rfl Tryz.underlying50 rfl ti50 (rdn_lit 0 rfl rfl) ?_
   refine o_yes rfl rfl rfl ?_
   refine o_call rfl cal17 rfl (sameItem_ (x := q39) (y := q44) (ordM_R L_q39 3 rfl) (ordM_R L_q44 1 rfl)) ?_
   rintro _ _ ⟨rfl, rfl⟩
   refine l_eq (t := 65) (v' := .bool true) rfl (show _ = Value.bool true from by rw [decide_eq_true hu.2]) ?_
   refine o_yes rfl rfl rfl ?_
   refine o_not rfl rfl ?_
   refine o_pick_false rfl rfl rfl ?_
   refine l_nil ?_
   refine q_then ?_
   refine c_false rfl ?_
   refine c_skip ?_
   refine q_then ?_
   refine c_seq ?_
   refine c_seq ?_
   refine c_region ?_
   refine o_move rfl rfl ?_
   refine o_bin rfl rfl rfl b_neq ?_
   refine l_nil ?_
   refine q_then ?_
   refine c_cond rfl (fun h3 => ?_) (fun h3 => ?_)
   · -- h3T
    have h3b := h3
    try simp only [Bool.not_eq_true', decide_eq_false_iff_not, Int.not_lt, Int.not_le] at h3
    refine c_seq ?_
    refine c_region ?_
    refine o_assign rfl rfl ?_
    refine l_nil ?_
    refine q_then ?_
    refine c_ret ?_
    refine q_pass_ret ?_
    refine q_conv (fun w S => S.tail) ?_
    refine q_conv (fun w S => S.tail) ?_
    refine q_conv (fun w S => S.tail) ?_
    refine q_conv (fun w S => S.tail) ?_
    refine q_conv (fun w S => S.tail) ?_
    refine q_conv (fun w S => S.tail) ?_
    refine q_conv (fun w S => S.tail) ?_
    refine q_conv (fun w S => S.tail) ?_
    exact f_ret (r_one rfl rfl) (⟨rfl, rfl⟩) (fun w S => S)
   · -- h3F
    have h3b := h3
    try simp only [Bool.not_eq_false', decide_eq_true_eq] at h3
    refine c_skip ?_
    refine q_then ?_
    refine c_seq ?_
    have hx0 : chkI x = 0 := by first | assumption | simp_all
    have hok := chkI_0.1 hx0
    have hbl := ordB_len hok.2 w_x (hg19 (by assumption))
    have ho27 : out27 = itemB x := by rw [hout27]; exact if_pos hok
    have hl27 : out27.length ≤ 60000 := by have h2 := numsB_len (ns := [x.f_Kind, x.f_Index]) fun y hy => (it_hd hok.1 y hy).2; have l2 : [x.f_Kind, x.f_Index].length = 2 := rfl; rw [ho27, itemB, List.length_append]; omega
    refine c_region ?_
    refine o_move rfl rfl ?_
    refine o_call rfl cal15 rfl (iRead_ (rds_own e8_ok 6 rfl) (by (try simp only [List.length_append, List.length_nil]); omega)) ?_
    rintro _ _ ⟨q72, n72, hrd72, L_q72, rfl, rfl⟩
    refine o_move rfl rfl ?_
    refine o_extract rfl rfl rfl ?_
    refine o_extract rfl rfl rfl ?_
    refine o_alloc rfl ti50 fun b13 => ?_
    refine o_storen rfl rfl ti50 rfl rfl rfl rfl ?_
    refine o_assign rfl rfl ?_
    refine l_nil ?_
    refine q_then ?_
    refine c_seq ?_
    have hb := rdi_of ho27 hok.1 hok.2 w_x hrd72
    refine c_region ?_
    refine o_move rfl rfl ?_
    refine o_bin rfl rfl rfl b_eql ?_
    refine l_eq (t := 76) (v' := .bool true) rfl (show _ = Value.bool true from by rw [hb.1]; rfl) ?_
    refine o_move rfl rfl ?_
    refine o_yes rfl rfl rfl ?_
    refine o_loadn (vs := [_, _, _, _, _, _, _, _, _, _, _, _]) rfl rfl Tryz.underlying50 rfl ti50 (rdn_lit 0 rfl rfl) ?_
    refine o_yes rfl rfl rfl ?_
    refine o_loadn (vs := [_, _, _, _, _, _, _, _, _, _, _, _]) rfl rfl Tryz.underlying50 rfl ti50 (rdn_lit 9 rfl rfl) ?_
    refine o_yes rfl rfl rfl ?_
    refine o_call rfl cal17 rfl (sameItem_ (x := q72) (y := x) (ordM_R L_q72 1 rfl) (OrdR.c (OrdR.c (OrdR.c (OrdR.c (OrdR.c (OrdR.c (OrdR.c (OrdR.c (OrdR.c (OrdR.c T_x))))))))))) ?_
    rintro _ _ ⟨rfl, rfl⟩
    refine l_eq (t := 80) (v' := .bool true) rfl (show _ = Value.bool true from by rw [decide_eq_true hb.2]) ?_
    refine o_pick_true rfl rfl rfl ?_
    refine o_assign rfl rfl ?_
    refine l_nil ?_
    refine q_then ?_
    refine c_ret ?_
    refine q_conv (fun w S => S.tail) ?_
    refine q_conv (fun w S => S.tail) ?_
    refine q_conv (fun w S => S.tail) ?_
    refine q_conv (fun w S => S.tail) ?_
    refine q_conv (fun w S => S.tail) ?_
    refine q_conv (fun w S => S.tail) ?_
    refine q_conv (fun w S => S.tail) ?_
    refine q_conv (fun w S => S.tail) ?_
    refine q_conv (fun w S => S.tail) ?_
    refine q_conv (fun w S => S.tail) ?_
    exact f_ret (r_one rfl rfl) (⟨rfl, rfl⟩) (fun w S => S)
end
end Go.Proofs.YtlblipkcbmcfkaaGreat
