/- Printed by eng2.py out of 09a/spec.py. -/
import Derived.Test.YtlblipkcbmcfkaaCopyp
import Derived.Test.YtlblipkcbmcfkaaSame
import Derived.Test.YtlblipkcbmcfkaaIntsC
set_option linter.unusedVariables false
set_option linter.unusedSimpArgs false
set_option maxRecDepth 10000
namespace Go.Proofs.Ytlblipkcbmcfkaa
open Go.RowKit Classical
set_option maxHeartbeats 2000000 in
theorem same9_ {W : World} {F : List Res} {a b : Order} (T_a : OrdR W F a) (T_b : OrdR W F b) : CS Try.prog 16 #[.agg #[.int .i64 a.f_Tag_Id_Node, .int .u64 a.f_Tag_Id_Epoch, .int .u64 a.f_Tag_Id_Seq, .int .i64 a.f_Tag_Try, .int .i64 a.f_Txn_Kind, .slice a.f_Txn_Reads.a (a.f_Txn_Reads.xs).length a.f_Txn_Reads.c, .slice a.f_Txn_Writes.a (a.f_Txn_Writes.xs).length a.f_Txn_Writes.c, .slice a.f_Txn_Ops.a (a.f_Txn_Ops.xs).length a.f_Txn_Ops.c, .int .i64 a.f_Txn_To, .slice a.f_Marks.a (a.f_Marks.xs).length a.f_Marks.c], .agg #[.int .i64 b.f_Tag_Id_Node, .int .u64 b.f_Tag_Id_Epoch, .int .u64 b.f_Tag_Id_Seq, .int .i64 b.f_Tag_Try, .int .i64 b.f_Txn_Kind, .slice b.f_Txn_Reads.a (b.f_Txn_Reads.xs).length b.f_Txn_Reads.c, .slice b.f_Txn_Writes.a (b.f_Txn_Writes.xs).length b.f_Txn_Writes.c, .slice b.f_Txn_Ops.a (b.f_Txn_Ops.xs).length b.f_Txn_Ops.c, .int .i64 b.f_Txn_To, .slice b.f_Marks.a (b.f_Marks.xs).length b.f_Marks.c]] W (F) (fun r L' => r = .bool (decide (SameO a b)) ∧ F = L') := by
 have hla := T_a.lm
 refine f_door (l0 := [(0, .agg #[.int .i64 a.f_Tag_Id_Node, .int .u64 a.f_Tag_Id_Epoch, .int .u64 a.f_Tag_Id_Seq, .int .i64 a.f_Tag_Try, .int .i64 a.f_Txn_Kind, .slice a.f_Txn_Reads.a (a.f_Txn_Reads.xs).length a.f_Txn_Reads.c, .slice a.f_Txn_Writes.a (a.f_Txn_Writes.xs).length a.f_Txn_Writes.c, .slice a.f_Txn_Ops.a (a.f_Txn_Ops.xs).length a.f_Txn_Ops.c, .int .i64 a.f_Txn_To, .slice a.f_Marks.a (a.f_Marks.xs).length a.f_Marks.c]), (1, .agg #[.int .i64 b.f_Tag_Id_Node, .int .u64 b.f_Tag_Id_Epoch, .int .u64 b.f_Tag_Id_Seq, .int .i64 b.f_Tag_Try, .int .i64 b.f_Txn_Kind, .slice b.f_Txn_Reads.a (b.f_Txn_Reads.xs).length b.f_Txn_Reads.c, .slice b.f_Txn_Writes.a (b.f_Txn_Writes.xs).length b.f_Txn_Writes.c, .slice b.f_Txn_Ops.a (b.f_Txn_Ops.xs).length b.f_Txn_Ops.c, .int .i64 b.f_Txn_To, .slice b.f_Marks.a (b.f_Marks.xs).length b.f_Marks.c])]) Try.func16 Try.ntmps16 rfl rfl rfl ?_
 refine c_seq ?_
 refine c_region ?_
 refine o_box rfl rfl fun b2 => ?_
 refine o_box rfl rfl fun b3 => ?_
 refine o_assign rfl rfl ?_
 refine l_nil ?_
 refine q_then ?_
 refine c_seq ?_
 refine c_seq ?_
 refine c_region ?_
 refine o_fieldAddr (q := ⟨b2, 0, none⟩) rfl rfl Try.underlying33 rfl ti26 rfl ?_
 refine o_loadn (vs := [_, _, _, _]) rfl rfl Try.underlying26 rfl ti26 (rdn_lit 1 rfl rfl) ?_
 refine o_fieldAddr (q := ⟨b3, 0, none⟩) rfl rfl Try.underlying33 rfl ti26 rfl ?_
 refine o_loadn (vs := [_, _, _, _]) rfl rfl Try.underlying26 rfl ti26 (rdn_lit 0 rfl rfl) ?_
 refine o_bin rfl rfl rfl (b_neqS26 ⟨a.f_Tag_Id_Node, a.f_Tag_Id_Epoch, a.f_Tag_Id_Seq, a.f_Tag_Try⟩ ⟨b.f_Tag_Id_Node, b.f_Tag_Id_Epoch, b.f_Tag_Id_Seq, b.f_Tag_Try⟩) ?_
 refine o_move rfl rfl ?_
 refine l_split (t := 11) rfl (fun h1 => ?_) (fun h1 => ?_)
 · -- h1T
  have h1b := h1
  try simp only [Bool.not_eq_true', decide_eq_false_iff_not, Int.not_lt, Int.not_le] at h1
  refine o_no rfl rfl rfl rfl ?_
  refine o_no rfl rfl rfl rfl ?_
  refine o_no rfl rfl rfl rfl ?_
  refine o_no rfl rfl rfl rfl ?_
  refine o_no rfl rfl rfl rfl ?_
  refine o_no rfl rfl rfl rfl ?_
  refine o_pick_true rfl rfl rfl ?_
  refine o_move rfl rfl ?_
  refine o_no rfl rfl rfl rfl ?_
  refine o_no rfl rfl rfl rfl ?_
  refine o_no rfl rfl rfl rfl ?_
  refine o_no rfl rfl rfl rfl ?_
  refine o_no rfl rfl rfl rfl ?_
  refine o_no rfl rfl rfl rfl ?_
  refine o_no rfl rfl rfl rfl ?_
  refine o_pick_true rfl rfl rfl ?_
  refine l_nil ?_
  refine q_then ?_
  refine c_true rfl ?_
  refine c_seq ?_
  refine c_region ?_
  refine o_assign rfl rfl ?_
  refine l_nil ?_
  refine q_then ?_
  refine c_ret ?_
  refine q_pass_ret ?_
  refine q_conv (fun w S => S.tail) ?_
  refine q_conv (fun w S => S.tail) ?_
  exact f_ret (r_one rfl rfl) (⟨by first | exact vtrue' ⟨(by assumption), by assumption, eqAt_all heq (by omega) (by omega)⟩ | exact vfalse' (fun h9 => eqAt_not hxA hxB h6 h9.2.2) | exact vfalse' (fun h9 => by obtain ⟨q1, q2, q3⟩ := h9; simp_all) | exact vfalse' (fun h9 => by obtain ⟨q1, q2, q3⟩ := h9; rw [q3] at *; omega), rfl⟩) (fun w S => S)
 · -- h1F
  have h1b := h1
  try simp only [Bool.not_eq_false', decide_eq_true_eq] at h1
  refine o_yes rfl rfl rfl ?_
  refine o_fieldAddr (q := ⟨b2, 4, none⟩) rfl rfl Try.underlying33 rfl ti30 rfl ?_
  refine o_yes rfl rfl rfl ?_
  refine o_loadn (vs := [_, _, _, _, _]) rfl rfl Try.underlying30 rfl ti30 (rdn_lit 1 rfl rfl) ?_
  refine o_yes rfl rfl rfl ?_
  refine o_fieldAddr (q := ⟨b3, 4, none⟩) rfl rfl Try.underlying33 rfl ti30 rfl ?_
  refine o_yes rfl rfl rfl ?_
  refine o_loadn (vs := [_, _, _, _, _]) rfl rfl Try.underlying30 rfl ti30 (rdn_lit 0 rfl rfl) ?_
  refine o_yes rfl rfl rfl ?_
  refine o_call rfl cal30 rfl (same_ (a := a.txn) (b := b.txn) (OrdR.txn (OrdR.c (OrdR.c T_a))) (OrdR.txn (OrdR.c (OrdR.c T_b)))) ?_
  rintro _ _ ⟨rfl, rfl⟩
  refine o_yes rfl rfl rfl ?_
  refine o_not rfl rfl ?_
  refine o_pick_false rfl rfl rfl ?_
  refine o_move rfl rfl ?_
  refine l_split (t := 19) rfl (fun h2 => ?_) (fun h2 => ?_)
  · -- h2T
   have h2b := h2
   try simp only [Bool.not_eq_true', decide_eq_false_iff_not, Int.not_lt, Int.not_le] at h2
   refine o_no rfl rfl rfl rfl ?_
   refine o_no rfl rfl rfl rfl ?_
   refine o_no rfl rfl rfl rfl ?_
   refine o_no rfl rfl rfl rfl ?_
   refine o_no rfl rfl rfl rfl ?_
   refine o_no rfl rfl rfl rfl ?_
   refine o_no rfl rfl rfl rfl ?_
   refine o_pick_true rfl rfl rfl ?_
   refine l_nil ?_
   refine q_then ?_
   refine c_true rfl ?_
   refine c_seq ?_
   refine c_region ?_
   refine o_assign rfl rfl ?_
   refine l_nil ?_
   refine q_then ?_
   refine c_ret ?_
   refine q_pass_ret ?_
   refine q_conv (fun w S => S.tail) ?_
   refine q_conv (fun w S => S.tail) ?_
   exact f_ret (r_one rfl rfl) (⟨by first | exact vtrue' ⟨(by assumption), by assumption, eqAt_all heq (by omega) (by omega)⟩ | exact vfalse' (fun h9 => eqAt_not hxA hxB h6 h9.2.2) | exact vfalse' (fun h9 => by obtain ⟨q1, q2, q3⟩ := h9; simp_all) | exact vfalse' (fun h9 => by obtain ⟨q1, q2, q3⟩ := h9; rw [q3] at *; omega), rfl⟩) (fun w S => S)
  · -- h2F
   have h2b := h2
   try simp only [Bool.not_eq_false', decide_eq_true_eq] at h2
   refine o_yes rfl rfl rfl ?_
   refine o_fieldAddr (q := ⟨b2, 9, none⟩) rfl rfl Try.underlying33 rfl ti31 rfl ?_
   refine o_yes rfl rfl rfl ?_
   refine o_load1 rfl rfl Try.underlying31 rfl (rd_mem 1 rfl rfl) ?_
   refine o_yes rfl rfl rfl ?_
   refine o_len rfl rfl Try.underlying31 ?_
   refine o_yes rfl rfl rfl ?_
   refine o_fieldAddr (q := ⟨b3, 9, none⟩) rfl rfl Try.underlying33 rfl ti31 rfl ?_
   refine o_yes rfl rfl rfl ?_
   refine o_load1 rfl rfl Try.underlying31 rfl (rd_mem 0 rfl rfl) ?_
   refine o_yes rfl rfl rfl ?_
   refine o_len rfl rfl Try.underlying31 ?_
   refine o_yes rfl rfl rfl ?_
   refine o_bin rfl rfl rfl b_neq ?_
   refine o_pick_false rfl rfl rfl ?_
   refine l_nil ?_
   refine q_then ?_
   refine c_cond rfl (fun h3 => ?_) (fun h3 => ?_)
   · -- h3T
    have h3b := h3
    try simp only [Bool.not_eq_true', decide_eq_false_iff_not, Int.not_lt, Int.not_le] at h3
    refine c_seq ?_
    refine c_region ?_
    refine o_assign rfl rfl ?_
    refine l_nil ?_
    refine q_then ?_
    refine c_ret ?_
    refine q_pass_ret ?_
    refine q_conv (fun w S => S.tail) ?_
    refine q_conv (fun w S => S.tail) ?_
    exact f_ret (r_one rfl rfl) (⟨by first | exact vtrue' ⟨(by assumption), by assumption, eqAt_all heq (by omega) (by omega)⟩ | exact vfalse' (fun h9 => eqAt_not hxA hxB h6 h9.2.2) | exact vfalse' (fun h9 => by obtain ⟨q1, q2, q3⟩ := h9; simp_all) | exact vfalse' (fun h9 => by obtain ⟨q1, q2, q3⟩ := h9; rw [q3] at *; omega), rfl⟩) (fun w S => S)
   · -- h3F
    have h3b := h3
    try simp only [Bool.not_eq_false', decide_eq_true_eq] at h3
    refine c_skip ?_
    refine q_then ?_
    refine c_seq ?_
    refine c_seq ?_
    refine c_region ?_
    refine o_assign rfl rfl ?_
    refine l_nil ?_
    refine q_then ?_
    refine c_block ?_
    refine c_loop (α := Nat) (fun z => [(2, .pointer (some ⟨b2, 0, none⟩)), (3, .pointer (some ⟨b3, 0, none⟩)), (5, .int .i64 (z : Int))]) (fun z => blk b3 (.cells #[.int .i64 b.f_Tag_Id_Node, .int .u64 b.f_Tag_Id_Epoch, .int .u64 b.f_Tag_Id_Seq, .int .i64 b.f_Tag_Try, .int .i64 b.f_Txn_Kind, .slice b.f_Txn_Reads.a (b.f_Txn_Reads.xs).length b.f_Txn_Reads.c, .slice b.f_Txn_Writes.a (b.f_Txn_Writes.xs).length b.f_Txn_Writes.c, .slice b.f_Txn_Ops.a (b.f_Txn_Ops.xs).length b.f_Txn_Ops.c, .int .i64 b.f_Txn_To, .slice b.f_Marks.a (b.f_Marks.xs).length b.f_Marks.c] 33 (0, 0)) :: blk b2 (.cells #[.int .i64 a.f_Tag_Id_Node, .int .u64 a.f_Tag_Id_Epoch, .int .u64 a.f_Tag_Id_Seq, .int .i64 a.f_Tag_Try, .int .i64 a.f_Txn_Kind, .slice a.f_Txn_Reads.a (a.f_Txn_Reads.xs).length a.f_Txn_Reads.c, .slice a.f_Txn_Writes.a (a.f_Txn_Writes.xs).length a.f_Txn_Writes.c, .slice a.f_Txn_Ops.a (a.f_Txn_Ops.xs).length a.f_Txn_Ops.c, .int .i64 a.f_Txn_To, .slice a.f_Marks.a (a.f_Marks.xs).length a.f_Marks.c] 33 (0, 0)) :: F) (fun z => z ≤ a.f_Marks.xs.length ∧ ∀ j, j < z → a.f_Marks.xs[j]? = b.f_Marks.xs[j]?) (fun z => a.f_Marks.xs.length - z) (0) (by exact ⟨Nat.zero_le _, fun j h => absurd h (by omega)⟩) ⟨(by first | rfl | exact vint (by omega)), (by first | rfl | exact vint (by omega)), (by first | rfl | exact vint (by omega)), trivial⟩ (fun w S => S) ?_
    rintro i ⟨hi, heq⟩
    try dsimp only at *
    refine c_seq ?_
    refine c_seq ?_
    refine c_region ?_
    refine o_move rfl rfl ?_
    refine o_fieldAddr (q := ⟨b2, 9, none⟩) rfl rfl Try.underlying33 rfl ti31 rfl ?_
    refine o_load1 rfl rfl Try.underlying31 rfl (rd_mem 1 rfl rfl) ?_
    refine o_len rfl rfl Try.underlying31 ?_
    refine o_bin rfl rfl rfl b_lss ?_
    refine l_nil ?_
    refine q_then ?_
    refine c_cond rfl (fun h4 => ?_) (fun h4 => ?_)
    · -- h4T
     have h4b := h4
     try simp only [decide_eq_true_eq] at h4
     refine c_skip ?_
     refine q_then ?_
     refine c_seq ?_
     refine c_block ?_
     refine c_seq ?_
     refine c_fact (p := ∃ ad, a.f_Marks.a = some ad) (rds_some (e := e_Mark) (xs := a.f_Marks.xs) (OrdR.c (OrdR.c T_a)).rm (by intro h0; have h00 := congrArg List.length h0; simp only [List.length_nil] at h00; omega)) ?_
     rintro ⟨adx, eadx⟩
     refine c_fact (p := ∃ ad, b.f_Marks.a = some ad) (rds_some (e := e_Mark) (xs := b.f_Marks.xs) (OrdR.c (OrdR.c T_b)).rm (by intro h0; have h00 := congrArg List.length h0; simp only [List.length_nil] at h00; omega)) ?_
     rintro ⟨ady, eady⟩
     refine c_quiet (by kernel_rfl) (by kernel_rfl) ?_
     refine Qt.o_val rfl (v_fieldAddr (q := ⟨b2, 9, none⟩) rfl rfl Try.underlying33 rfl ti31 rfl) ?_
     refine Qt.o_val rfl (v_load1 rfl rfl Try.underlying31 rfl (rd_mem 1 rfl rfl)) ?_
     refine Qt.o_val rfl (v_move rfl rfl) ?_
     refine Qt.o_val rfl (v_indexK e_Mark_ok eadx rfl rfl rfl Try.underlying31 (by omega) (by omega)) ?_
     obtain ⟨x38, hx38⟩ : ∃ x, (a.f_Marks.xs)[((i : Int)).toNat]? = some x := ⟨_, List.getElem?_eq_getElem (by omega)⟩
     refine Qt.o_val rfl (v_loadn (vs := e_Mark.cells x38) rfl rfl Try.underlying51 rfl ti51 (rdn_sl e_Mark_ok eadx (OrdR.c (OrdR.c T_a)).rm hx38)) ?_
     refine Qt.o_val rfl (v_fieldAddr (q := ⟨b3, 9, none⟩) rfl rfl Try.underlying33 rfl ti31 rfl) ?_
     refine Qt.o_val rfl (v_load1 rfl rfl Try.underlying31 rfl (rd_mem 0 rfl rfl)) ?_
     refine Qt.o_val rfl (v_move rfl rfl) ?_
     refine Qt.o_val rfl (v_indexK e_Mark_ok eady rfl rfl rfl Try.underlying31 (by omega) (by omega)) ?_
     obtain ⟨x43, hx43⟩ : ∃ x, (b.f_Marks.xs)[((i : Int)).toNat]? = some x := ⟨_, List.getElem?_eq_getElem (by omega)⟩
     have hxA : a.f_Marks.xs[((i : Int)).toNat]? = some x38 := hx38
     have hxB : b.f_Marks.xs[((i : Int)).toNat]? = some x43 := hx43
     refine Qt.o_val rfl (v_loadn (vs := e_Mark.cells x43) rfl rfl Try.underlying51 rfl ti51 (rdn_sl e_Mark_ok eady (OrdR.c (OrdR.c T_b)).rm hx43)) ?_
     refine Qt.o_val rfl (v_bin rfl rfl rfl (b_neqS51 x38 x43)) ?_
     refine Qt.l_nil ?_
     refine q_then ?_
     refine c_cond rfl (fun h5 => ?_) (fun h5 => ?_)
     · -- h5T
      have h5b := h5
      try simp only [Bool.not_eq_true', decide_eq_false_iff_not, Int.not_lt, Int.not_le] at h5
      refine c_seq ?_
      refine c_region ?_
      refine o_assign rfl rfl ?_
      refine l_nil ?_
      refine q_then ?_
      refine c_ret ?_
      refine q_block_ret ?_
      refine q_pass_ret ?_
      refine q_pass_ret ?_
      refine q_block_ret ?_
      refine q_pass_ret ?_
      refine q_conv (fun w S => S.tail) ?_
      refine q_conv (fun w S => S.tail) ?_
      exact f_ret (r_one rfl rfl) (⟨by first | exact vtrue' ⟨(by assumption), by assumption, eqAt_all heq (by omega) (by omega)⟩ | exact vfalse' (fun h9 => eqAt_not hxA hxB h6 h9.2.2) | exact vfalse' (fun h9 => by obtain ⟨q1, q2, q3⟩ := h9; simp_all) | exact vfalse' (fun h9 => by obtain ⟨q1, q2, q3⟩ := h9; rw [q3] at *; omega), rfl⟩) (fun w S => S)
     · -- h5F
      have h5b := h5
      try simp only [Bool.not_eq_false', decide_eq_true_eq] at h5
      refine c_skip ?_
      refine q_block ?_
      refine q_then ?_
      refine c_region ?_
      refine o_move rfl rfl ?_
      refine o_bin rfl rfl rfl (b_add (wrap_i64 (by omega) (by omega))) ?_
      refine o_assign rfl rfl ?_
      refine l_nil ?_
      exact q_round (i + 1) (by exact ⟨by omega, eqAt_on heq hxA hxB (by assumption)⟩) (by (try dsimp only); omega) ⟨(by first | rfl | exact vint (by omega)), (by first | rfl | exact vint (by omega)), (by first | rfl | exact vint (by omega)), trivial⟩ (fun w S => S)
    · -- h4F
     have h4b := h4
     try simp only [decide_eq_false_iff_not, Int.not_lt, Int.not_le] at h4
     refine c_exit ?_
     refine q_pass_exit ?_
     refine q_pass_exit ?_
     refine q_hit ?_
     refine q_then ?_
     refine c_seq ?_
     refine c_region ?_
     refine o_assign rfl rfl ?_
     refine l_nil ?_
     refine q_then ?_
     refine c_ret ?_
     refine q_conv (fun w S => S.tail) ?_
     refine q_conv (fun w S => S.tail) ?_
     exact f_ret (r_one rfl rfl) (⟨by first | exact vtrue' ⟨(by assumption), by assumption, eqAt_all heq (by omega) (by omega)⟩ | exact vfalse' (fun h9 => eqAt_not hxA hxB h6 h9.2.2) | exact vfalse' (fun h9 => by obtain ⟨q1, q2, q3⟩ := h9; simp_all) | exact vfalse' (fun h9 => by obtain ⟨q1, q2, q3⟩ := h9; rw [q3] at *; omega), rfl⟩) (fun w S => S)

end Go.Proofs.Ytlblipkcbmcfkaa
