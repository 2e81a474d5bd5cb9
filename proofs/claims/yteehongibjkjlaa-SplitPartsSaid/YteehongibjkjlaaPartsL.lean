/- Printed by eng2.py out of 15/spec.py. -/
import Derived.Test.YteehongibjkjlaaSpeaks
import Derived.Test.YteehongibjkjlaaPartW
import Derived.Test.YteehongibjkjlaaOSame
import Derived.Test.YteehongibjkjlaaOCopyR
import Derived.Test.YteehongibjkjlaaOGreat
set_option linter.unusedVariables false
set_option linter.unusedSimpArgs false
set_option maxRecDepth 10000
namespace Go.Proofs.Yteehongibjkjlaa
open Go.RowKit Classical
set_option maxHeartbeats 2000000 in
theorem partsL_ {W : World} {F : List Res} {g : Int} {o : Order} (T_o : OrdR W F o) : CS Try.prog 4 #[.agg #[.int .i64 o.f_Tag_Id_Node, .int .u64 o.f_Tag_Id_Epoch, .int .u64 o.f_Tag_Id_Seq, .int .i64 o.f_Tag_Try, .int .i64 o.f_Txn_Kind, .slice o.f_Txn_Reads.a (o.f_Txn_Reads.xs).length o.f_Txn_Reads.c, .slice o.f_Txn_Writes.a (o.f_Txn_Writes.xs).length o.f_Txn_Writes.c, .slice o.f_Txn_Ops.a (o.f_Txn_Ops.xs).length o.f_Txn_Ops.c, .int .i64 o.f_Txn_To, .slice o.f_Marks.a (o.f_Marks.xs).length o.f_Marks.c], .int .i64 g] W (F) (fun r L' => r = .bool true ∧ F = L') := by
 refine f_door (l0 := [(0, .agg #[.int .i64 o.f_Tag_Id_Node, .int .u64 o.f_Tag_Id_Epoch, .int .u64 o.f_Tag_Id_Seq, .int .i64 o.f_Tag_Try, .int .i64 o.f_Txn_Kind, .slice o.f_Txn_Reads.a (o.f_Txn_Reads.xs).length o.f_Txn_Reads.c, .slice o.f_Txn_Writes.a (o.f_Txn_Writes.xs).length o.f_Txn_Writes.c, .slice o.f_Txn_Ops.a (o.f_Txn_Ops.xs).length o.f_Txn_Ops.c, .int .i64 o.f_Txn_To, .slice o.f_Marks.a (o.f_Marks.xs).length o.f_Marks.c]), (1, .int .i64 g)]) Try.func4 Try.ntmps4 rfl rfl rfl ?_
 refine c_seq ?_
 refine c_region ?_
 refine o_box rfl rfl fun b2 => ?_
 refine o_assign rfl rfl ?_
 refine l_nil ?_
 refine q_then ?_
 refine c_seq ?_
 refine c_seq ?_
 refine c_region ?_
 refine o_call rfl cal7 rfl (speaks_) ?_
 rintro _ _ ⟨rfl, rfl⟩
 refine o_not rfl rfl ?_
 refine l_nil ?_
 refine q_then ?_
 refine c_false rfl ?_
 refine c_skip ?_
 refine q_then ?_
 refine c_seq ?_
 refine c_seq ?_
 refine c_region ?_
 refine o_loadn (vs := [_, _, _, _, _, _, _, _, _, _]) rfl rfl Try.underlying40 rfl ti40 (rdn_lit 0 rfl rfl) ?_
 refine o_call rfl cal13 rfl (rgreat_ (o := o) (OrdR.c T_o)) ?_
 rintro _ _ ⟨g16, hg16, rfl, rfl⟩
 refine l_nil ?_
 refine q_then ?_
 refine c_cond rfl (fun h1 => ?_) (fun h1 => ?_)
 · -- h1T
  have h1b := h1
  try simp only [decide_eq_true_eq, decide_eq_false_iff_not, Bool.not_eq_eq_eq_not, Bool.not_true, Bool.not_false, Bool.not_eq_true', Bool.not_eq_false', Int.not_lt, Int.not_le, Bool.or_eq_true, Bool.and_eq_true] at h1
  refine c_seq ?_
  refine c_region ?_
  refine o_assign rfl rfl ?_
  refine l_nil ?_
  refine q_then ?_
  refine c_ret ?_
  refine q_pass_ret ?_
  refine q_conv (fun w S => S.tail) ?_
  exact f_ret (r_one rfl rfl) (⟨rfl, rfl⟩) (fun w S => S)
 · -- h1F
  have h1b := h1
  try simp only [decide_eq_true_eq, decide_eq_false_iff_not, Bool.not_eq_eq_eq_not, Bool.not_true, Bool.not_false, Bool.not_eq_true', Bool.not_eq_false', Int.not_lt, Int.not_le, Bool.or_eq_true, Bool.and_eq_true] at h1
  refine c_skip ?_
  refine q_then ?_
  refine c_seq ?_
  refine c_region ?_
  refine o_loadn (vs := [_, _, _, _, _, _, _, _, _, _]) rfl rfl Try.underlying40 rfl ti40 (rdn_lit 0 rfl rfl) ?_
  refine o_call rfl cal14 rfl (rocopy_ (o := o) (OrdR.c T_o) (hg16 (by assumption))) ?_
  rintro _ _ ⟨c18, hs_c18, rfl, rfl⟩
  have L_c18 : OrdLen c18 := OrdLen.same T_o.len hs_c18
  refine o_alloc rfl ti40 fun b5 => ?_
  refine o_storen rfl rfl ti40 rfl rfl rfl rfl ?_
  refine o_assign rfl rfl ?_
  refine l_nil ?_
  refine q_then ?_
  refine c_seq ?_
  refine c_seq ?_
  have hmo := (hg16 (by assumption)).m
  have hmc : c18.f_Marks.xs = o.f_Marks.xs := hs_c18.2.2
  have hmc2 : c18.f_Marks.xs.length = o.f_Marks.xs.length := by rw [hmc]
  refine c_region ?_
  refine o_assign rfl rfl ?_
  refine l_nil ?_
  refine q_then ?_
  refine c_block ?_
  refine c_loop (α := Nat) (fun z => [(1, .int .i64 g), (2, .pointer (some ⟨b2, 0, none⟩)), (5, .pointer (some ⟨b5, 0, none⟩)), (6, .int .i64 (cntTo c18.f_Marks.xs z : Int)), (7, .int .i64 (z : Int))]) (fun z => blk b5 (.cells #[.int .i64 c18.f_Tag_Id_Node, .int .u64 c18.f_Tag_Id_Epoch, .int .u64 c18.f_Tag_Id_Seq, .int .i64 c18.f_Tag_Try, .int .i64 c18.f_Txn_Kind, .slice c18.f_Txn_Reads.a (c18.f_Txn_Reads.xs).length c18.f_Txn_Reads.c, .slice c18.f_Txn_Writes.a (c18.f_Txn_Writes.xs).length c18.f_Txn_Writes.c, .slice c18.f_Txn_Ops.a (c18.f_Txn_Ops.xs).length c18.f_Txn_Ops.c, .int .i64 c18.f_Txn_To, .slice c18.f_Marks.a (c18.f_Marks.xs).length c18.f_Marks.c] 40 (0, 0)) :: ordM c18 :: blk b2 (.cells #[.int .i64 o.f_Tag_Id_Node, .int .u64 o.f_Tag_Id_Epoch, .int .u64 o.f_Tag_Id_Seq, .int .i64 o.f_Tag_Try, .int .i64 o.f_Txn_Kind, .slice o.f_Txn_Reads.a (o.f_Txn_Reads.xs).length o.f_Txn_Reads.c, .slice o.f_Txn_Writes.a (o.f_Txn_Writes.xs).length o.f_Txn_Writes.c, .slice o.f_Txn_Ops.a (o.f_Txn_Ops.xs).length o.f_Txn_Ops.c, .int .i64 o.f_Txn_To, .slice o.f_Marks.a (o.f_Marks.xs).length o.f_Marks.c] 40 (0, 0)) :: F) (fun z => z ≤ 3) (fun z => 3 - z) (0) (by omega) ⟨(by first | rfl | exact vint (by omega)), (by first | rfl | exact vint (by omega)), (by first | rfl | exact vint (by omega)), (by first | rfl | exact vint (by simp [cntTo])), (by first | rfl | exact vint (by omega)), trivial⟩ (fun w S => S) ?_
  rintro h hh
  try dsimp only at *
  refine c_seq ?_
  refine c_seq ?_
  refine c_region ?_
  refine o_move rfl rfl ?_
  refine o_bin rfl rfl rfl b_lss ?_
  refine l_nil ?_
  refine q_then ?_
  refine c_cond rfl (fun h2 => ?_) (fun h2 => ?_)
  · -- h2T
   have h2b := h2
   try simp only [decide_eq_true_eq] at h2
   refine c_skip ?_
   refine q_then ?_
   refine c_seq ?_
   refine c_block ?_
   have hcl := cntTo_le c18.f_Marks.xs h
   have hcl2 : cntTo c18.f_Marks.xs h ≤ 2 * c18.f_Marks.xs.length := Nat.le_trans hcl (Nat.mul_le_mul_right _ (by omega))
   refine c_region ?_
   refine o_move rfl rfl ?_
   refine o_loadn (vs := [_, _, _, _, _, _, _, _, _, _]) rfl rfl Try.underlying40 rfl ti40 (rdn_lit 0 rfl rfl) ?_
   refine o_move rfl rfl ?_
   refine o_call rfl cal15 rfl (part_ (o := c18) (g := (h : Int)) (ordM_R L_c18 1 rfl) (by omega)) ?_
   rintro _ _ ⟨a26, c26, rfl, rfl⟩
   have hpt26 := part_le (h : Int) c18.f_Marks.xs
   refine o_len rfl rfl Try.underlying38 ?_
   refine o_bin rfl rfl rfl (b_add (wrap_i64 (by omega) (by omega))) ?_
   refine o_assign rfl rfl ?_
   refine l_nil ?_
   refine q_block ?_
   refine q_then ?_
   refine c_region ?_
   refine o_move rfl rfl ?_
   refine o_bin rfl rfl rfl (b_add (wrap_i64 (by omega) (by omega))) ?_
   refine o_assign rfl rfl ?_
   refine l_nil ?_
   refine q_conv (fun w S => S.tail) ?_
   exact q_round (h + 1) (by omega) (by (try dsimp only); omega) ⟨(by first | rfl | exact vint (by omega)), (by first | rfl | exact vint (by omega)), (by first | rfl | exact vint (by omega)), (by (try dsimp only); simp only [cntTo]; exact vint (by omega)), (by first | rfl | exact vint (by omega)), trivial⟩ (fun w S => S)
  · -- h2F
   have h2b := h2
   try simp only [decide_eq_false_iff_not, Int.not_lt, Int.not_le] at h2
   refine c_exit ?_
   refine q_pass_exit ?_
   refine q_pass_exit ?_
   refine q_hit ?_
   refine q_then ?_
   refine c_seq ?_
   refine c_region ?_
   refine o_assign rfl rfl ?_
   refine l_nil ?_
   refine q_then ?_
   refine c_seq ?_
   refine c_seq ?_
   refine c_region ?_
   refine o_fieldAddr (q := ⟨b2, 9, none⟩) rfl rfl Try.underlying40 rfl ti38 rfl ?_
   refine o_load1 rfl rfl Try.underlying38 rfl (rd_mem 2 rfl rfl) ?_
   refine o_len rfl rfl Try.underlying38 ?_
   refine o_move rfl rfl ?_
   refine l_nil ?_
   refine q_then ?_
   refine c_block ?_
   refine c_loop (α := Nat × Bool) (fun z => [(1, .int .i64 g), (2, .pointer (some ⟨b2, 0, none⟩)), (5, .pointer (some ⟨b5, 0, none⟩)), (6, .int .i64 (cntTo c18.f_Marks.xs h : Int)), (8, .bool z.2), (30, .slice o.f_Marks.a (o.f_Marks.xs).length o.f_Marks.c), (31, .int .i64 ((o.f_Marks.xs).length : Int)), (32, .int .i64 (z.1 : Int))]) (fun z => blk b5 (.cells #[.int .i64 c18.f_Tag_Id_Node, .int .u64 c18.f_Tag_Id_Epoch, .int .u64 c18.f_Tag_Id_Seq, .int .i64 c18.f_Tag_Try, .int .i64 c18.f_Txn_Kind, .slice c18.f_Txn_Reads.a (c18.f_Txn_Reads.xs).length c18.f_Txn_Reads.c, .slice c18.f_Txn_Writes.a (c18.f_Txn_Writes.xs).length c18.f_Txn_Writes.c, .slice c18.f_Txn_Ops.a (c18.f_Txn_Ops.xs).length c18.f_Txn_Ops.c, .int .i64 c18.f_Txn_To, .slice c18.f_Marks.a (c18.f_Marks.xs).length c18.f_Marks.c] 40 (0, 0)) :: ordM c18 :: blk b2 (.cells #[.int .i64 o.f_Tag_Id_Node, .int .u64 o.f_Tag_Id_Epoch, .int .u64 o.f_Tag_Id_Seq, .int .i64 o.f_Tag_Try, .int .i64 o.f_Txn_Kind, .slice o.f_Txn_Reads.a (o.f_Txn_Reads.xs).length o.f_Txn_Reads.c, .slice o.f_Txn_Writes.a (o.f_Txn_Writes.xs).length o.f_Txn_Writes.c, .slice o.f_Txn_Ops.a (o.f_Txn_Ops.xs).length o.f_Txn_Ops.c, .int .i64 o.f_Txn_To, .slice o.f_Marks.a (o.f_Marks.xs).length o.f_Marks.c] 40 (0, 0)) :: F) (fun z => z.1 ≤ o.f_Marks.xs.length ∧ (z.2 = true ↔ InTo o.f_Marks.xs z.1)) (fun z => o.f_Marks.xs.length - z.1) (0, true) (by exact ⟨Nat.zero_le _, by simp [InTo]⟩) ⟨(by first | rfl | exact vint (by omega)), (by first | rfl | exact vint (by omega)), (by first | rfl | exact vint (by omega)), (by first | rfl | exact vint (by omega)), (by first | rfl | exact vint (by omega)), (by first | rfl | exact vint (by omega)), (by first | rfl | exact vint (by omega)), (by first | rfl | exact vint (by omega)), trivial⟩ (fun w S => S) ?_
   rintro ⟨i, al⟩ ⟨hi, hal⟩
   try dsimp only at *
   refine c_seq ?_
   refine c_region ?_
   refine o_bin rfl rfl rfl b_lss ?_
   refine l_nil ?_
   refine q_then ?_
   refine c_seq ?_
   refine c_cond rfl (fun h3 => ?_) (fun h3 => ?_)
   · -- h3T
    have h3b := h3
    try simp only [decide_eq_true_eq] at h3
    refine c_skip ?_
    refine q_then ?_
    refine c_seq ?_
    refine c_block ?_
    refine c_seq ?_
    refine c_region ?_
    refine o_index e_Mark_ok rfl rfl rfl Try.underlying38 (by omega) (by omega) (OrdR.c (OrdR.c (OrdR.c T_o))).rm fun ad34 ead34 => ?_
    obtain ⟨x34, hx34⟩ : ∃ x, (o.f_Marks.xs)[((i : Int)).toNat]? = some x := ⟨_, List.getElem?_eq_getElem (by omega)⟩
    refine o_loadn (vs := e_Mark.cells x34) rfl rfl Try.underlying49 rfl ti49 (rdn_sl e_Mark_ok ead34 (OrdR.c (OrdR.c (OrdR.c T_o))).rm hx34) ?_
    refine o_alloc rfl ti49 fun b10 => ?_
    refine o_storen rfl rfl ti49 rfl rfl rfl rfl ?_
    refine l_nil ?_
    refine q_then ?_
    refine c_region ?_
    refine o_move rfl rfl ?_
    refine o_move rfl rfl ?_
    refine l_split (t := 37) rfl (fun h4 => ?_) (fun h4 => ?_)
    · -- h4T
     have h4b := h4
     try simp only [decide_eq_true_eq, decide_eq_false_iff_not, Bool.not_eq_eq_eq_not, Bool.not_true, Bool.not_false, Bool.not_eq_true', Bool.not_eq_false', Int.not_lt, Int.not_le, Bool.or_eq_true, Bool.and_eq_true] at h4
     refine o_yes rfl rfl rfl ?_
     refine o_fieldAddr (q := ⟨b10, 1, none⟩) rfl rfl Try.underlying49 rfl ti3 rfl ?_
     refine o_yes rfl rfl rfl ?_
     refine o_load1 rfl rfl Try.underlying3 rfl (rd_mem 0 rfl rfl) ?_
     refine o_yes rfl rfl rfl ?_
     refine o_bin rfl rfl rfl b_geq ?_
     refine o_pick_true rfl rfl rfl ?_
     refine o_move rfl rfl ?_
     refine l_split (t := 42) rfl (fun h5 => ?_) (fun h5 => ?_)
     · -- h5T
      have h5b := h5
      try simp only [decide_eq_true_eq] at h5
      refine o_yes rfl rfl rfl ?_
      refine o_fieldAddr (q := ⟨b10, 1, none⟩) rfl rfl Try.underlying49 rfl ti3 rfl ?_
      refine o_yes rfl rfl rfl ?_
      refine o_load1 rfl rfl Try.underlying3 rfl (rd_mem 0 rfl rfl) ?_
      refine o_yes rfl rfl rfl ?_
      refine o_bin rfl rfl rfl b_lss ?_
      refine o_pick_true rfl rfl rfl ?_
      refine o_assign rfl rfl ?_
      refine l_nil ?_
      refine q_block ?_
      refine q_then ?_
      refine c_region ?_
      refine o_bin rfl rfl rfl (b_add (wrap_i64 (by omega) (by omega))) ?_
      refine o_move rfl rfl ?_
      refine l_nil ?_
      refine q_conv (fun w S => S.tail) ?_
      exact q_round (i + 1, decide (x34.f_Home < 3)) (by exact ⟨by omega, in_on hal hx34 (by first | (simp_all; done) | (simp_all; omega))⟩) (by (try dsimp only); omega) ⟨(by first | rfl | exact vint (by omega)), (by first | rfl | exact vint (by omega)), (by first | rfl | exact vint (by omega)), (by first | rfl | exact vint (by omega)), (by first | rfl | exact vint (by omega)), (by first | rfl | exact vint (by omega)), (by first | rfl | exact vint (by omega)), (by first | rfl | exact vint (by omega)), trivial⟩ (fun w S => S)
     · -- h5F
      have h5b := h5
      try simp only [decide_eq_false_iff_not, Int.not_lt, Int.not_le] at h5
      refine o_no rfl rfl rfl rfl ?_
      refine o_no rfl rfl rfl rfl ?_
      refine o_no rfl rfl rfl rfl ?_
      refine o_pick_false rfl rfl rfl ?_
      refine o_assign rfl rfl ?_
      refine l_nil ?_
      refine q_block ?_
      refine q_then ?_
      refine c_region ?_
      refine o_bin rfl rfl rfl (b_add (wrap_i64 (by omega) (by omega))) ?_
      refine o_move rfl rfl ?_
      refine l_nil ?_
      refine q_conv (fun w S => S.tail) ?_
      exact q_round (i + 1, false) (by exact ⟨by omega, in_on hal hx34 (by first | (simp_all; done) | (simp_all; omega))⟩) (by (try dsimp only); omega) ⟨(by first | rfl | exact vint (by omega)), (by first | rfl | exact vint (by omega)), (by first | rfl | exact vint (by omega)), (by first | rfl | exact vint (by omega)), (by first | rfl | exact vint (by omega)), (by first | rfl | exact vint (by omega)), (by first | rfl | exact vint (by omega)), (by first | rfl | exact vint (by omega)), trivial⟩ (fun w S => S)
    · -- h4F
     have h4b := h4
     try simp only [decide_eq_true_eq, decide_eq_false_iff_not, Bool.not_eq_eq_eq_not, Bool.not_true, Bool.not_false, Bool.not_eq_true', Bool.not_eq_false', Int.not_lt, Int.not_le, Bool.or_eq_true, Bool.and_eq_true] at h4
     refine o_no rfl rfl rfl rfl ?_
     refine o_no rfl rfl rfl rfl ?_
     refine o_no rfl rfl rfl rfl ?_
     refine o_pick_false rfl rfl rfl ?_
     refine o_move rfl rfl ?_
     refine o_no rfl rfl rfl rfl ?_
     refine o_no rfl rfl rfl rfl ?_
     refine o_no rfl rfl rfl rfl ?_
     refine o_pick_false rfl rfl rfl ?_
     refine o_assign rfl rfl ?_
     refine l_nil ?_
     refine q_block ?_
     refine q_then ?_
     refine c_region ?_
     refine o_bin rfl rfl rfl (b_add (wrap_i64 (by omega) (by omega))) ?_
     refine o_move rfl rfl ?_
     refine l_nil ?_
     refine q_conv (fun w S => S.tail) ?_
     exact q_round (i + 1, false) (by exact ⟨by omega, in_on hal hx34 (by first | (simp_all; done) | (simp_all; omega))⟩) (by (try dsimp only); omega) ⟨(by first | rfl | exact vint (by omega)), (by first | rfl | exact vint (by omega)), (by first | rfl | exact vint (by omega)), (by first | rfl | exact vint (by omega)), (by first | rfl | exact vint (by omega)), (by first | rfl | exact vint (by omega)), (by first | rfl | exact vint (by omega)), (by first | rfl | exact vint (by omega)), trivial⟩ (fun w S => S)
   · -- h3F
    have h3b := h3
    try simp only [decide_eq_false_iff_not, Int.not_lt, Int.not_le] at h3
    refine c_exit ?_
    refine q_pass_exit ?_
    refine q_pass_exit ?_
    refine q_hit ?_
    refine q_then ?_
    refine c_seq ?_
    refine c_region ?_
    refine o_loadn (vs := [_, _, _, _, _, _, _, _, _, _]) rfl rfl Try.underlying40 rfl ti40 (rdn_lit 0 rfl rfl) ?_
    refine o_move rfl rfl ?_
    refine o_call rfl cal15 rfl (part_ (o := c18) (g := g) (ordM_R L_c18 1 rfl) (by omega)) ?_
    rintro _ _ ⟨a50, c50, rfl, rfl⟩
    have hpt50 := part_le g c18.f_Marks.xs
    refine o_assign rfl rfl ?_
    refine l_nil ?_
    refine q_then ?_
    refine c_seq ?_
    refine c_seq ?_
    have hc3 : al = true → cntTo c18.f_Marks.xs h = o.f_Marks.xs.length := fun h9 => by rw [show h = 3 by omega, hmc]; have h8 := hal.1 h9; exact cnt_all (fun m hm => h8 m (by rw [List.take_of_length_le (by omega)]; exact hm))
    have hpo := part_le g o.f_Marks.xs
    refine c_region ?_
    refine o_move rfl rfl ?_
    refine o_loadn (vs := [_, _, _, _, _, _, _, _, _, _]) rfl rfl Try.underlying40 rfl ti40 (rdn_lit 3 rfl rfl) ?_
    refine o_move rfl rfl ?_
    refine o_call rfl cal17 rfl (rpart_ (o := o) (g := g) (OrdR.c (OrdR.c (OrdR.c (OrdR.c T_o)))) (by omega)) ?_
    rintro _ _ ⟨a54, c54, rfl, rfl⟩
    have hpt54 := part_le g o.f_Marks.xs
    refine o_call rfl cal16 rfl (same10_ (rds_own e_Mark_ok 1 rfl) (rds_own e_Mark_ok 0 rfl) (by omega)) ?_
    rintro _ _ ⟨rfl, rfl⟩
    refine o_not rfl rfl ?_
    refine l_eq (t := 56) (v' := .bool false) rfl (show _ = Value.bool false from by rw [decide_eq_true (by rw [hmc])]; rfl) ?_
    refine o_move rfl rfl ?_
    refine o_yes rfl rfl rfl ?_
    refine o_move rfl rfl ?_
    refine o_yes rfl rfl rfl ?_
    refine o_move rfl rfl ?_
    refine l_split (t := 59) rfl (fun h6 => ?_) (fun h6 => ?_)
    · -- h6T
     have h6b := h6
     try simp only [decide_eq_true_eq, decide_eq_false_iff_not, Bool.not_eq_eq_eq_not, Bool.not_true, Bool.not_false, Bool.not_eq_true', Bool.not_eq_false', Int.not_lt, Int.not_le, Bool.or_eq_true, Bool.and_eq_true] at h6
     refine o_yes rfl rfl rfl ?_
     refine o_move rfl rfl ?_
     refine o_yes rfl rfl rfl ?_
     refine o_fieldAddr (q := ⟨b2, 9, none⟩) rfl rfl Try.underlying40 rfl ti38 rfl ?_
     refine o_yes rfl rfl rfl ?_
     refine o_load1 rfl rfl Try.underlying38 rfl (rd_mem 4 rfl rfl) ?_
     refine o_yes rfl rfl rfl ?_
     refine o_len rfl rfl Try.underlying38 ?_
     refine o_yes rfl rfl rfl ?_
     refine o_bin rfl rfl rfl b_neq ?_
     refine l_eq (t := 64) (v' := .bool false) rfl (show _ = Value.bool false from by rw [hc3 (by assumption)]; simp) ?_
     refine o_yes rfl rfl rfl ?_
     refine o_pick_true rfl rfl rfl ?_
     refine o_pick_false rfl rfl rfl ?_
     refine l_nil ?_
     refine q_then ?_
     refine c_false rfl ?_
     refine c_skip ?_
     refine q_then ?_
     refine c_seq ?_
     refine c_seq ?_
     refine c_region ?_
     refine o_move rfl rfl ?_
     refine o_len rfl rfl Try.underlying38 ?_
     refine o_move rfl rfl ?_
     refine l_nil ?_
     refine q_then ?_
     refine c_block ?_
     refine c_loop (α := Nat × (List Mark)) (fun z => [(2, .pointer (some ⟨b2, 0, none⟩)), (5, .pointer (some ⟨b5, 0, none⟩)), (11, .slice a50 (z.2).length c50), (68, .int .i64 ((partOf g c18.f_Marks.xs).length : Int)), (69, .int .i64 (z.1 : Int))]) (fun z => row e_Mark.T e_Mark.sz a54 (partOf g o.f_Marks.xs).length c54 (flat e_Mark (partOf g o.f_Marks.xs)) :: row e_Mark.T e_Mark.sz a50 (z.2).length c50 (flat e_Mark z.2) :: blk b5 (.cells #[.int .i64 c18.f_Tag_Id_Node, .int .u64 c18.f_Tag_Id_Epoch, .int .u64 c18.f_Tag_Id_Seq, .int .i64 c18.f_Tag_Try, .int .i64 c18.f_Txn_Kind, .slice c18.f_Txn_Reads.a (c18.f_Txn_Reads.xs).length c18.f_Txn_Reads.c, .slice c18.f_Txn_Writes.a (c18.f_Txn_Writes.xs).length c18.f_Txn_Writes.c, .slice c18.f_Txn_Ops.a (c18.f_Txn_Ops.xs).length c18.f_Txn_Ops.c, .int .i64 c18.f_Txn_To, .slice c18.f_Marks.a (c18.f_Marks.xs).length c18.f_Marks.c] 40 (0, 0)) :: ordM c18 :: blk b2 (.cells #[.int .i64 o.f_Tag_Id_Node, .int .u64 o.f_Tag_Id_Epoch, .int .u64 o.f_Tag_Id_Seq, .int .i64 o.f_Tag_Try, .int .i64 o.f_Txn_Kind, .slice o.f_Txn_Reads.a (o.f_Txn_Reads.xs).length o.f_Txn_Reads.c, .slice o.f_Txn_Writes.a (o.f_Txn_Writes.xs).length o.f_Txn_Writes.c, .slice o.f_Txn_Ops.a (o.f_Txn_Ops.xs).length o.f_Txn_Ops.c, .int .i64 o.f_Txn_To, .slice o.f_Marks.a (o.f_Marks.xs).length o.f_Marks.c] 40 (0, 0)) :: F) (fun z => z.1 ≤ z.2.length ∧ z.2.length = (partOf g c18.f_Marks.xs).length) (fun z => z.2.length - z.1) (0, partOf g c18.f_Marks.xs) (by exact ⟨Nat.zero_le _, rfl⟩) ⟨(by first | rfl | exact vint (by omega)), (by first | rfl | exact vint (by omega)), (by first | rfl | exact vint (by omega)), (by first | rfl | exact vint (by omega)), (by first | rfl | exact vint (by omega)), trivial⟩ (fun w S => S) ?_
     rintro ⟨k, zs⟩ ⟨hk, hzl⟩
     try dsimp only at *
     refine c_seq ?_
     refine c_region ?_
     refine o_bin rfl rfl rfl b_lss ?_
     refine l_nil ?_
     refine q_then ?_
     refine c_seq ?_
     refine c_cond rfl (fun h7 => ?_) (fun h7 => ?_)
     · -- h7T
      have h7b := h7
      try simp only [decide_eq_true_eq] at h7
      refine c_skip ?_
      refine q_then ?_
      refine c_seq ?_
      refine c_block ?_
      refine c_seq ?_
      refine c_region ?_
      refine o_move rfl rfl ?_
      refine o_assign rfl rfl ?_
      refine l_nil ?_
      refine q_then ?_
      refine c_region ?_
      refine o_move rfl rfl ?_
      refine o_move rfl rfl ?_
      refine o_build rfl sp49 ti49 rfl rfl ?_
      refine o_index e_Mark_ok rfl rfl rfl Try.underlying38 (by omega) (by omega) (rds_own e_Mark_ok 1 rfl) fun ad75 ead75 => ?_
      obtain ⟨x75, hx75⟩ : ∃ x, (zs)[((k : Int)).toNat]? = some x := ⟨_, List.getElem?_eq_getElem (by omega)⟩
      refine l_f1 ?_
      refine o_storeRowAll e_Mark_ok ead75 rfl rfl ti49 ⟨ByteArray.empty, 0, 0⟩ rfl (by have := List.getElem?_eq_some_iff.1 hx75; exact this.1) ?_
      refine l_nil ?_
      refine q_block ?_
      refine q_then ?_
      refine c_region ?_
      refine o_bin rfl rfl rfl (b_add (wrap_i64 (by omega) (by omega))) ?_
      refine o_move rfl rfl ?_
      refine l_nil ?_
      refine q_conv (fun w S => S.perm p4) ?_
      refine q_conv (fun w S => S.perm p4) ?_
      refine q_conv (fun w S => S.perm p4) ?_
      refine q_conv (fun w S => S.perm p3) ?_
      refine q_conv (fun w S => S.perm p4) ?_
      exact q_round (k + 1, zs.set ((k : Int)).toNat ⟨ByteArray.empty, 0, 0⟩) (by exact ⟨by rw [List.length_set]; omega, by rw [List.length_set]; exact hzl⟩) (by (try dsimp only); rw [List.length_set]; omega) ⟨(by first | rfl | exact vint (by omega)), (by first | rfl | exact vint (by omega)), (by (try dsimp only); rw [List.length_set]; rfl), (by first | rfl | exact vint (by omega)), (by first | rfl | exact vint (by omega)), trivial⟩ (fun w S => S)
     · -- h7F
      have h7b := h7
      try simp only [decide_eq_false_iff_not, Int.not_lt, Int.not_le] at h7
      refine c_exit ?_
      refine q_pass_exit ?_
      refine q_pass_exit ?_
      refine q_hit ?_
      refine q_then ?_
      refine c_seq ?_
      refine c_region ?_
      refine o_loadn (vs := [_, _, _, _, _, _, _, _, _, _]) rfl rfl Try.underlying40 rfl ti40 (rdn_lit 2 rfl rfl) ?_
      refine o_loadn (vs := [_, _, _, _, _, _, _, _, _, _]) rfl rfl Try.underlying40 rfl ti40 (rdn_lit 4 rfl rfl) ?_
      refine o_call rfl cal10 rfl (same9_ (a := c18) (b := o) (ordM_R L_c18 3 rfl) (OrdR.c (OrdR.c (OrdR.c (OrdR.c (OrdR.c T_o)))))) ?_
      rintro _ _ ⟨rfl, rfl⟩
      refine l_eq (t := 79) (v' := .bool true) rfl (show _ = Value.bool true from by rw [decide_eq_true hs_c18]) ?_
      refine o_assign rfl rfl ?_
      refine l_nil ?_
      refine q_then ?_
      refine c_ret ?_
      refine q_conv (fun w S => S.tail) ?_
      refine q_conv (fun w S => S.tail) ?_
      refine q_conv (fun w S => S.tail) ?_
      refine q_conv (fun w S => S.tail) ?_
      refine q_conv (fun w S => S.tail) ?_
      exact f_ret (r_one rfl rfl) (⟨rfl, rfl⟩) (fun w S => S)
    · -- h6F
     have h6b := h6
     try simp only [decide_eq_true_eq, decide_eq_false_iff_not, Bool.not_eq_eq_eq_not, Bool.not_true, Bool.not_false, Bool.not_eq_true', Bool.not_eq_false', Int.not_lt, Int.not_le, Bool.or_eq_true, Bool.and_eq_true] at h6
     refine o_no rfl rfl rfl rfl ?_
     refine o_no rfl rfl rfl rfl ?_
     refine o_no rfl rfl rfl rfl ?_
     refine o_no rfl rfl rfl rfl ?_
     refine o_no rfl rfl rfl rfl ?_
     refine o_yes rfl rfl rfl ?_
     refine o_pick_false rfl rfl rfl ?_
     refine o_pick_false rfl rfl rfl ?_
     refine l_nil ?_
     refine q_then ?_
     refine c_false rfl ?_
     refine c_skip ?_
     refine q_then ?_
     refine c_seq ?_
     refine c_seq ?_
     refine c_region ?_
     refine o_move rfl rfl ?_
     refine o_len rfl rfl Try.underlying38 ?_
     refine o_move rfl rfl ?_
     refine l_nil ?_
     refine q_then ?_
     refine c_block ?_
     refine c_loop (α := Nat × (List Mark)) (fun z => [(2, .pointer (some ⟨b2, 0, none⟩)), (5, .pointer (some ⟨b5, 0, none⟩)), (11, .slice a50 (z.2).length c50), (68, .int .i64 ((partOf g c18.f_Marks.xs).length : Int)), (69, .int .i64 (z.1 : Int))]) (fun z => row e_Mark.T e_Mark.sz a54 (partOf g o.f_Marks.xs).length c54 (flat e_Mark (partOf g o.f_Marks.xs)) :: row e_Mark.T e_Mark.sz a50 (z.2).length c50 (flat e_Mark z.2) :: blk b5 (.cells #[.int .i64 c18.f_Tag_Id_Node, .int .u64 c18.f_Tag_Id_Epoch, .int .u64 c18.f_Tag_Id_Seq, .int .i64 c18.f_Tag_Try, .int .i64 c18.f_Txn_Kind, .slice c18.f_Txn_Reads.a (c18.f_Txn_Reads.xs).length c18.f_Txn_Reads.c, .slice c18.f_Txn_Writes.a (c18.f_Txn_Writes.xs).length c18.f_Txn_Writes.c, .slice c18.f_Txn_Ops.a (c18.f_Txn_Ops.xs).length c18.f_Txn_Ops.c, .int .i64 c18.f_Txn_To, .slice c18.f_Marks.a (c18.f_Marks.xs).length c18.f_Marks.c] 40 (0, 0)) :: ordM c18 :: blk b2 (.cells #[.int .i64 o.f_Tag_Id_Node, .int .u64 o.f_Tag_Id_Epoch, .int .u64 o.f_Tag_Id_Seq, .int .i64 o.f_Tag_Try, .int .i64 o.f_Txn_Kind, .slice o.f_Txn_Reads.a (o.f_Txn_Reads.xs).length o.f_Txn_Reads.c, .slice o.f_Txn_Writes.a (o.f_Txn_Writes.xs).length o.f_Txn_Writes.c, .slice o.f_Txn_Ops.a (o.f_Txn_Ops.xs).length o.f_Txn_Ops.c, .int .i64 o.f_Txn_To, .slice o.f_Marks.a (o.f_Marks.xs).length o.f_Marks.c] 40 (0, 0)) :: F) (fun z => z.1 ≤ z.2.length ∧ z.2.length = (partOf g c18.f_Marks.xs).length) (fun z => z.2.length - z.1) (0, partOf g c18.f_Marks.xs) (by exact ⟨Nat.zero_le _, rfl⟩) ⟨(by first | rfl | exact vint (by omega)), (by first | rfl | exact vint (by omega)), (by first | rfl | exact vint (by omega)), (by first | rfl | exact vint (by omega)), (by first | rfl | exact vint (by omega)), trivial⟩ (fun w S => S) ?_
     rintro ⟨k, zs⟩ ⟨hk, hzl⟩
     try dsimp only at *
     refine c_seq ?_
     refine c_region ?_
     refine o_bin rfl rfl rfl b_lss ?_
     refine l_nil ?_
     refine q_then ?_
     refine c_seq ?_
     refine c_cond rfl (fun h8 => ?_) (fun h8 => ?_)
     · -- h8T
      have h8b := h8
      try simp only [decide_eq_true_eq] at h8
      refine c_skip ?_
      refine q_then ?_
      refine c_seq ?_
      refine c_block ?_
      refine c_seq ?_
      refine c_region ?_
      refine o_move rfl rfl ?_
      refine o_assign rfl rfl ?_
      refine l_nil ?_
      refine q_then ?_
      refine c_region ?_
      refine o_move rfl rfl ?_
      refine o_move rfl rfl ?_
      refine o_build rfl sp49 ti49 rfl rfl ?_
      refine o_index e_Mark_ok rfl rfl rfl Try.underlying38 (by omega) (by omega) (rds_own e_Mark_ok 1 rfl) fun ad75 ead75 => ?_
      obtain ⟨x75, hx75⟩ : ∃ x, (zs)[((k : Int)).toNat]? = some x := ⟨_, List.getElem?_eq_getElem (by omega)⟩
      refine l_f1 ?_
      refine o_storeRowAll e_Mark_ok ead75 rfl rfl ti49 ⟨ByteArray.empty, 0, 0⟩ rfl (by have := List.getElem?_eq_some_iff.1 hx75; exact this.1) ?_
      refine l_nil ?_
      refine q_block ?_
      refine q_then ?_
      refine c_region ?_
      refine o_bin rfl rfl rfl (b_add (wrap_i64 (by omega) (by omega))) ?_
      refine o_move rfl rfl ?_
      refine l_nil ?_
      refine q_conv (fun w S => S.perm p4) ?_
      refine q_conv (fun w S => S.perm p4) ?_
      refine q_conv (fun w S => S.perm p4) ?_
      refine q_conv (fun w S => S.perm p3) ?_
      refine q_conv (fun w S => S.perm p4) ?_
      exact q_round (k + 1, zs.set ((k : Int)).toNat ⟨ByteArray.empty, 0, 0⟩) (by exact ⟨by rw [List.length_set]; omega, by rw [List.length_set]; exact hzl⟩) (by (try dsimp only); rw [List.length_set]; omega) ⟨(by first | rfl | exact vint (by omega)), (by first | rfl | exact vint (by omega)), (by (try dsimp only); rw [List.length_set]; rfl), (by first | rfl | exact vint (by omega)), (by first | rfl | exact vint (by omega)), trivial⟩ (fun w S => S)
     · -- h8F
      have h8b := h8
      try simp only [decide_eq_false_iff_not, Int.not_lt, Int.not_le] at h8
      refine c_exit ?_
      refine q_pass_exit ?_
      refine q_pass_exit ?_
      refine q_hit ?_
      refine q_then ?_
      refine c_seq ?_
      refine c_region ?_
      refine o_loadn (vs := [_, _, _, _, _, _, _, _, _, _]) rfl rfl Try.underlying40 rfl ti40 (rdn_lit 2 rfl rfl) ?_
      refine o_loadn (vs := [_, _, _, _, _, _, _, _, _, _]) rfl rfl Try.underlying40 rfl ti40 (rdn_lit 4 rfl rfl) ?_
      refine o_call rfl cal10 rfl (same9_ (a := c18) (b := o) (ordM_R L_c18 3 rfl) (OrdR.c (OrdR.c (OrdR.c (OrdR.c (OrdR.c T_o)))))) ?_
      rintro _ _ ⟨rfl, rfl⟩
      refine l_eq (t := 79) (v' := .bool true) rfl (show _ = Value.bool true from by rw [decide_eq_true hs_c18]) ?_
      refine o_assign rfl rfl ?_
      refine l_nil ?_
      refine q_then ?_
      refine c_ret ?_
      refine q_conv (fun w S => S.tail) ?_
      refine q_conv (fun w S => S.tail) ?_
      refine q_conv (fun w S => S.tail) ?_
      refine q_conv (fun w S => S.tail) ?_
      refine q_conv (fun w S => S.tail) ?_
      exact f_ret (r_one rfl rfl) (⟨rfl, rfl⟩) (fun w S => S)

end Go.Proofs.Yteehongibjkjlaa
