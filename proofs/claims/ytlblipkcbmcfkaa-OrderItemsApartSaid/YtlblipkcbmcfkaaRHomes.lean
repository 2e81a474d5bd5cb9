/- Printed by eng2.py out of 09a/spec.py. -/
import Derived.Test.YtlblipkcbmcfkaaHomes
set_option linter.unusedVariables false
set_option linter.unusedSimpArgs false
set_option maxRecDepth 10000
namespace Go.Proofs.Ytlblipkcbmcfkaa
open Go.RowKit Classical
set_option maxHeartbeats 1000000 in
theorem rhomes_ {W : World} {F : List Res} {o : Order} (T_o : OrdR W F o) (hm : o.f_Marks.xs.length ≤ 1000000) : CS Try.prog 11 #[.agg #[.int .i64 o.f_Tag_Id_Node, .int .u64 o.f_Tag_Id_Epoch, .int .u64 o.f_Tag_Id_Seq, .int .i64 o.f_Tag_Try, .int .i64 o.f_Txn_Kind, .slice o.f_Txn_Reads.a (o.f_Txn_Reads.xs).length o.f_Txn_Reads.c, .slice o.f_Txn_Writes.a (o.f_Txn_Writes.xs).length o.f_Txn_Writes.c, .slice o.f_Txn_Ops.a (o.f_Txn_Ops.xs).length o.f_Txn_Ops.c, .int .i64 o.f_Txn_To, .slice o.f_Marks.a (o.f_Marks.xs).length o.f_Marks.c]] W (F) (fun r L' => ∃ (a : Option Addr) (c : Nat), r = .slice a (homes o).length c ∧ L' = row e_I.T e_I.sz a (homes o).length c (flat e_I (homes o)) :: F) := by
 refine f_door (l0 := [(0, .agg #[.int .i64 o.f_Tag_Id_Node, .int .u64 o.f_Tag_Id_Epoch, .int .u64 o.f_Tag_Id_Seq, .int .i64 o.f_Tag_Try, .int .i64 o.f_Txn_Kind, .slice o.f_Txn_Reads.a (o.f_Txn_Reads.xs).length o.f_Txn_Reads.c, .slice o.f_Txn_Writes.a (o.f_Txn_Writes.xs).length o.f_Txn_Writes.c, .slice o.f_Txn_Ops.a (o.f_Txn_Ops.xs).length o.f_Txn_Ops.c, .int .i64 o.f_Txn_To, .slice o.f_Marks.a (o.f_Marks.xs).length o.f_Marks.c])]) Try.func11 Try.ntmps11 rfl rfl rfl ?_
 refine c_seq ?_
 refine c_region ?_
 refine o_box rfl rfl fun b1 => ?_
 refine o_assign rfl rfl ?_
 refine l_nil ?_
 refine q_then ?_
 refine c_seq ?_
 refine c_region ?_
 refine o_lit e_I_ok rfl Try.underlying37 rfl rfl rfl (lit_ok rfl) ([] : List Int) rfl rfl fun a10 => ?_
 refine o_assign rfl rfl ?_
 refine l_nil ?_
 refine q_then ?_
 refine c_seq ?_
 refine c_seq ?_
 refine c_region ?_
 refine o_assign rfl rfl ?_
 refine l_nil ?_
 refine q_then ?_
 refine c_block ?_
 refine c_loop (α := Nat × (List Int) × (Option Addr) × Nat) (fun z => [(1, .pointer (some ⟨b1, 0, none⟩)), (3, .slice z.2.2.1 (z.2.1).length z.2.2.2), (4, .int .i64 (z.1 : Int))]) (fun z => row e_I.T e_I.sz z.2.2.1 (z.2.1).length z.2.2.2 (flat e_I z.2.1) :: blk b1 (.cells #[.int .i64 o.f_Tag_Id_Node, .int .u64 o.f_Tag_Id_Epoch, .int .u64 o.f_Tag_Id_Seq, .int .i64 o.f_Tag_Try, .int .i64 o.f_Txn_Kind, .slice o.f_Txn_Reads.a (o.f_Txn_Reads.xs).length o.f_Txn_Reads.c, .slice o.f_Txn_Writes.a (o.f_Txn_Writes.xs).length o.f_Txn_Writes.c, .slice o.f_Txn_Ops.a (o.f_Txn_Ops.xs).length o.f_Txn_Ops.c, .int .i64 o.f_Txn_To, .slice o.f_Marks.a (o.f_Marks.xs).length o.f_Marks.c] 33 (0, 0)) :: F) (fun z => z.1 ≤ o.f_Marks.xs.length ∧ z.2.1 = setOf ilt ((o.f_Marks.xs.take z.1).map Mark.f_Home)) (fun z => o.f_Marks.xs.length - z.1) (0, [], a10, 0) (by exact ⟨Nat.zero_le _, rfl⟩) ⟨(by first | rfl | exact vint (by omega)), (by first | rfl | exact vint (by omega)), (by first | rfl | exact vint (by omega)), trivial⟩ (fun w S => S) ?_
 rintro ⟨i, out, a3, c3⟩ ⟨hi, ho⟩
 try dsimp only at *
 have hol : out.length ≤ i := by have h9 := setOf_le ilt_sto ((o.f_Marks.xs.take i).map Mark.f_Home); rw [List.length_map, List.length_take] at h9; rw [ho]; omega
 refine c_seq ?_
 refine c_seq ?_
 refine c_region ?_
 refine o_move rfl rfl ?_
 refine o_fieldAddr (q := ⟨b1, 9, none⟩) rfl rfl Try.underlying33 rfl ti31 rfl ?_
 refine o_load1 rfl rfl Try.underlying31 rfl (rd_mem 1 rfl rfl) ?_
 refine o_len rfl rfl Try.underlying31 ?_
 refine o_bin rfl rfl rfl b_lss ?_
 refine l_nil ?_
 refine q_then ?_
 refine c_cond rfl (fun h1 => ?_) (fun h1 => ?_)
 · -- h1T
  have h1b := h1
  try simp only [decide_eq_true_eq] at h1
  refine c_skip ?_
  refine q_then ?_
  refine c_seq ?_
  refine c_block ?_
  refine c_seq ?_
  refine c_region ?_
  refine o_fieldAddr (q := ⟨b1, 9, none⟩) rfl rfl Try.underlying33 rfl ti31 rfl ?_
  refine o_load1 rfl rfl Try.underlying31 rfl (rd_mem 1 rfl rfl) ?_
  refine o_move rfl rfl ?_
  refine o_index e_Mark_ok rfl rfl rfl Try.underlying31 (by omega) (by omega) (OrdR.c (OrdR.c T_o)).rm fun ad21 ead21 => ?_
  obtain ⟨x21, hx21⟩ : ∃ x, (o.f_Marks.xs)[((i : Int)).toNat]? = some x := ⟨_, List.getElem?_eq_getElem (by (try simp only [List.length_set]); omega)⟩
  refine o_fieldAddr rfl rfl Try.underlying51 rfl ti3 (Addr.add_add' _ _ _) ?_
  refine o_load1 rfl rfl Try.underlying3 rfl (rd_sl e_Mark_ok ead21 (OrdR.c (OrdR.c T_o)).rm hx21 rfl) ?_
  refine o_assign rfl rfl ?_
  refine o_assign rfl rfl ?_
  refine l_nil ?_
  refine q_then ?_
  refine c_seq ?_
  refine c_seq ?_
  refine c_region ?_
  refine o_assign rfl rfl ?_
  refine l_nil ?_
  refine q_then ?_
  refine c_block ?_
  refine c_loop (α := Nat × Bool) (fun z => [(1, .pointer (some ⟨b1, 0, none⟩)), (3, .slice a3 (out).length c3), (4, .int .i64 (i : Int)), (5, .int .i64 x21.f_Home), (6, .bool z.2), (7, .int .i64 (z.1 : Int))]) (fun z => row e_I.T e_I.sz a3 (out).length c3 (flat e_I out) :: blk b1 (.cells #[.int .i64 o.f_Tag_Id_Node, .int .u64 o.f_Tag_Id_Epoch, .int .u64 o.f_Tag_Id_Seq, .int .i64 o.f_Tag_Try, .int .i64 o.f_Txn_Kind, .slice o.f_Txn_Reads.a (o.f_Txn_Reads.xs).length o.f_Txn_Reads.c, .slice o.f_Txn_Writes.a (o.f_Txn_Writes.xs).length o.f_Txn_Writes.c, .slice o.f_Txn_Ops.a (o.f_Txn_Ops.xs).length o.f_Txn_Ops.c, .int .i64 o.f_Txn_To, .slice o.f_Marks.a (o.f_Marks.xs).length o.f_Marks.c] 33 (0, 0)) :: F) (fun z => z.1 ≤ out.length ∧ (z.2 = true ↔ x21.f_Home ∈ out.take z.1)) (fun z => out.length - z.1) (0, false) (by exact ⟨Nat.zero_le _, by simp⟩) ⟨(by first | rfl | exact vint (by omega)), (by first | rfl | exact vint (by omega)), (by first | rfl | exact vint (by omega)), (by first | rfl | exact vint (by omega)), (by first | rfl | exact vint (by omega)), (by first | rfl | exact vint (by omega)), trivial⟩ (fun w S => S) ?_
  rintro ⟨j, kn⟩ ⟨hj, hkn⟩
  try dsimp only at *
  refine c_seq ?_
  refine c_seq ?_
  refine c_region ?_
  refine o_move rfl rfl ?_
  refine o_move rfl rfl ?_
  refine o_len rfl rfl Try.underlying37 ?_
  refine o_bin rfl rfl rfl b_lss ?_
  refine l_nil ?_
  refine q_then ?_
  refine c_cond rfl (fun h2 => ?_) (fun h2 => ?_)
  · -- h2T
   have h2b := h2
   try simp only [decide_eq_true_eq] at h2
   refine c_skip ?_
   refine q_then ?_
   refine c_seq ?_
   refine c_block ?_
   refine c_region ?_
   refine o_move rfl rfl ?_
   refine o_move rfl rfl ?_
   refine l_split (t := 31) rfl (fun h3 => ?_) (fun h3 => ?_)
   · -- h3T
    have h3b := h3
    try simp only [decide_eq_true_eq, decide_eq_false_iff_not, Bool.not_eq_eq_eq_not, Bool.not_true, Bool.not_false, Bool.not_eq_true', Bool.not_eq_false', Int.not_lt, Int.not_le, Bool.or_eq_true, Bool.and_eq_true] at h3
    refine o_no rfl rfl rfl rfl ?_
    refine o_no rfl rfl rfl rfl ?_
    refine o_no rfl rfl rfl rfl ?_
    refine o_no rfl rfl rfl rfl ?_
    refine o_no rfl rfl rfl rfl ?_
    refine o_no rfl rfl rfl rfl ?_
    refine o_pick_true rfl rfl rfl ?_
    refine o_assign rfl rfl ?_
    refine l_nil ?_
    refine q_block ?_
    refine q_then ?_
    refine c_region ?_
    refine o_move rfl rfl ?_
    refine o_bin rfl rfl rfl (b_add (wrap_i64 (by omega) (by omega))) ?_
    refine o_assign rfl rfl ?_
    refine l_nil ?_
    exact q_round (j + 1, true) (by exact ⟨by omega, known_t hkn h3b⟩) (by (try dsimp only); omega) ⟨(by first | rfl | exact vint (by omega)), (by first | rfl | exact vint (by omega)), (by first | rfl | exact vint (by omega)), (by first | rfl | exact vint (by omega)), (by first | rfl | exact vint (by omega)), (by first | rfl | exact vint (by omega)), trivial⟩ (fun w S => S)
   · -- h3F
    have h3b := h3
    try simp only [decide_eq_true_eq, decide_eq_false_iff_not, Bool.not_eq_eq_eq_not, Bool.not_true, Bool.not_false, Bool.not_eq_true', Bool.not_eq_false', Int.not_lt, Int.not_le, Bool.or_eq_true, Bool.and_eq_true] at h3
    refine o_yes rfl rfl rfl ?_
    refine o_move rfl rfl ?_
    refine o_yes rfl rfl rfl ?_
    refine o_move rfl rfl ?_
    refine o_yes rfl rfl rfl ?_
    refine o_index e_I_ok rfl rfl rfl Try.underlying37 (by omega) (by omega) (rds_own e_I_ok 0 rfl) fun ad34 ead34 => ?_
    obtain ⟨x34, hx34⟩ : ∃ x, (out)[((j : Int)).toNat]? = some x := ⟨_, List.getElem?_eq_getElem (by (try simp only [List.length_set]); omega)⟩
    refine o_yes rfl rfl rfl ?_
    refine o_load1 rfl rfl Try.underlying3 rfl (rd_sl0 e_I_ok ead34 (rds_own e_I_ok 0 rfl) hx34 rfl) ?_
    refine o_yes rfl rfl rfl ?_
    refine o_move rfl rfl ?_
    refine o_yes rfl rfl rfl ?_
    refine o_bin rfl rfl rfl b_eql ?_
    refine o_pick_false rfl rfl rfl ?_
    refine o_assign rfl rfl ?_
    refine l_nil ?_
    refine q_block ?_
    refine q_then ?_
    refine c_region ?_
    refine o_move rfl rfl ?_
    refine o_bin rfl rfl rfl (b_add (wrap_i64 (by omega) (by omega))) ?_
    refine o_assign rfl rfl ?_
    refine l_nil ?_
    exact q_round (j + 1, decide (x34 = x21.f_Home)) (by exact ⟨by omega, known_f hkn h3b hx34⟩) (by (try dsimp only); omega) ⟨(by first | rfl | exact vint (by omega)), (by first | rfl | exact vint (by omega)), (by first | rfl | exact vint (by omega)), (by first | rfl | exact vint (by omega)), (by first | rfl | exact vint (by omega)), (by first | rfl | exact vint (by omega)), trivial⟩ (fun w S => S)
  · -- h2F
   have h2b := h2
   try simp only [decide_eq_false_iff_not, Int.not_lt, Int.not_le] at h2
   refine c_exit ?_
   refine q_pass_exit ?_
   refine q_pass_exit ?_
   refine q_hit ?_
   refine q_then ?_
   refine c_seq ?_
   refine c_seq ?_
   refine c_region ?_
   refine o_move rfl rfl ?_
   refine l_nil ?_
   refine q_then ?_
   refine c_cond rfl (fun h4 => ?_) (fun h4 => ?_)
   · -- h4T
    have h4b := h4
    try simp only [decide_eq_true_eq, decide_eq_false_iff_not, Bool.not_eq_eq_eq_not, Bool.not_true, Bool.not_false, Bool.not_eq_true', Bool.not_eq_false', Int.not_lt, Int.not_le, Bool.or_eq_true, Bool.and_eq_true] at h4
    have hkin : x21.f_Home ∈ out := by have h9 := hkn.1 h4; rw [List.take_of_length_le (by omega)] at h9; exact h9
    refine c_exit ?_
    refine q_pass_exit ?_
    refine q_hit ?_
    refine q_then ?_
    refine c_region ?_
    refine o_move rfl rfl ?_
    refine o_bin rfl rfl rfl (b_add (wrap_i64 (by omega) (by omega))) ?_
    refine o_assign rfl rfl ?_
    refine l_nil ?_
    exact q_round (i + 1, out, a3, c3) (by exact ⟨by omega, sTake_in ilt_sto ho hx21 hkin⟩) (by (try dsimp only); omega) ⟨(by first | rfl | exact vint (by omega)), (by first | rfl | exact vint (by omega)), (by first | rfl | exact vint (by omega)), trivial⟩ (fun w S => S)
   · -- h4F
    have h4b := h4
    try simp only [decide_eq_true_eq, decide_eq_false_iff_not, Bool.not_eq_eq_eq_not, Bool.not_true, Bool.not_false, Bool.not_eq_true', Bool.not_eq_false', Int.not_lt, Int.not_le, Bool.or_eq_true, Bool.and_eq_true] at h4
    have hnin : ¬ x21.f_Home ∈ out := fun h9 => by have h8 := hkn.2 (by rw [List.take_of_length_le (by omega)]; exact h9); rw [h8] at h4b; cases h4b
    refine c_skip ?_
    refine q_then ?_
    refine c_seq ?_
    refine c_region ?_
    refine o_move rfl rfl ?_
    refine o_move rfl rfl ?_
    refine o_lit e_I_ok rfl Try.underlying37 rfl rfl rfl (lit_ok rfl) [x21.f_Home] rfl rfl fun a42 => ?_
    refine l_f1 ?_
    refine o_append e_I_ok rfl rfl rfl Try.underlying37 (rds_own e_I_ok 1 rfl) (by show (_ + _) * 8 ≤ _; (try simp only [List.length_append, List.length_cons, List.length_nil]); omega) (by (try simp only [List.length_append, List.length_cons, List.length_nil]); omega) fun a43 c43 => ?_
    refine l_f1 ?_
    refine l_drop ?_
    refine o_assign rfl rfl ?_
    refine l_nil ?_
    refine q_then ?_
    refine c_seq ?_
    have hlo : (out ++ [x21.f_Home]).length = out.length + 1 := by simp
    refine c_region ?_
    refine o_move rfl rfl ?_
    refine o_len rfl rfl Try.underlying37 ?_
    refine o_bin rfl rfl rfl (b_sub (wrap_i64 (by omega) (by omega))) ?_
    refine o_assign rfl rfl ?_
    refine l_nil ?_
    refine q_then ?_
    refine c_block ?_
    refine c_loop (α := Nat × (List Int)) (fun z => [(1, .pointer (some ⟨b1, 0, none⟩)), (3, .slice a43 (z.2).length c43), (4, .int .i64 (i : Int)), (8, .int .i64 (z.1 : Int))]) (fun z => row e_I.T e_I.sz a43 (z.2).length c43 (flat e_I z.2) :: blk b1 (.cells #[.int .i64 o.f_Tag_Id_Node, .int .u64 o.f_Tag_Id_Epoch, .int .u64 o.f_Tag_Id_Seq, .int .i64 o.f_Tag_Try, .int .i64 o.f_Txn_Kind, .slice o.f_Txn_Reads.a (o.f_Txn_Reads.xs).length o.f_Txn_Reads.c, .slice o.f_Txn_Writes.a (o.f_Txn_Writes.xs).length o.f_Txn_Writes.c, .slice o.f_Txn_Ops.a (o.f_Txn_Ops.xs).length o.f_Txn_Ops.c, .int .i64 o.f_Txn_To, .slice o.f_Marks.a (o.f_Marks.xs).length o.f_Marks.c] 33 (0, 0)) :: F) (fun z => InsAt ilt out x21.f_Home z.1 z.2) (fun z => z.1) (out.length, out ++ [x21.f_Home]) (by exact insAt_0 out x21.f_Home) ⟨(by first | rfl | exact vint (by omega)), (by first | rfl | exact vint (by omega)), (by first | rfl | exact vint (by omega)), (by first | rfl | exact vint (by omega)), trivial⟩ (fun w S => S) ?_
    rintro ⟨k, cur⟩ hin
    try dsimp only at *
    have hcl := insAt_len hin
    refine c_seq ?_
    refine c_seq ?_
    refine c_fact (p := ∃ ad, a43 = some ad) (rds_some (e := e_I) (xs := cur) (rds_own e_I_ok 0 rfl) (by intro h0; have h00 := congrArg List.length h0; simp only [List.length_nil] at h00; omega)) ?_
    rintro ⟨adx, eadx⟩
    refine c_quiet (by kernel_rfl) (by kernel_rfl) ?_
    refine Qt.o_val rfl (v_move rfl rfl) ?_
    refine Qt.o_val rfl (v_bin rfl rfl rfl b_gtr) ?_
    refine Qt.o_val rfl (v_move rfl rfl) ?_
    refine Qt.l_split (t := 49) rfl (fun h5 => ?_) (fun h5 => ?_)
    · -- h5T
     have h5b := h5
     try simp only [decide_eq_true_eq] at h5
     refine Qt.o_yes rfl rfl rfl ?_
     refine Qt.o_val rfl (v_move rfl rfl) ?_
     refine Qt.o_yes rfl rfl rfl ?_
     refine Qt.o_val rfl (v_move rfl rfl) ?_
     refine Qt.o_yes rfl rfl rfl ?_
     refine Qt.o_val rfl (v_indexK e_I_ok eadx rfl rfl rfl Try.underlying37 (by omega) (by omega)) ?_
     obtain ⟨x52, hx52⟩ : ∃ x, (cur)[((k : Int)).toNat]? = some x := ⟨_, List.getElem?_eq_getElem (by (try simp only [List.length_set]); omega)⟩
     refine Qt.o_yes rfl rfl rfl ?_
     refine Qt.o_val rfl (v_load1 rfl rfl Try.underlying3 rfl (rd_sl0 e_I_ok eadx (rds_own e_I_ok 0 rfl) hx52 rfl)) ?_
     refine Qt.o_yes rfl rfl rfl ?_
     refine Qt.o_val rfl (v_move rfl rfl) ?_
     refine Qt.o_yes rfl rfl rfl ?_
     refine Qt.o_val rfl (v_move rfl rfl) ?_
     refine Qt.o_yes rfl rfl rfl ?_
     refine Qt.o_val rfl (v_bin rfl rfl rfl (b_sub (wrap_i64 (by omega) (by omega)))) ?_
     refine Qt.o_yes rfl rfl rfl ?_
     refine Qt.o_val rfl (v_indexK e_I_ok eadx rfl rfl rfl Try.underlying37 (by omega) (by omega)) ?_
     obtain ⟨x57, hx57⟩ : ∃ x, (cur)[((k : Int) - 1).toNat]? = some x := ⟨_, List.getElem?_eq_getElem (by (try simp only [List.length_set]); omega)⟩
     refine Qt.o_yes rfl rfl rfl ?_
     refine Qt.o_val rfl (v_load1 rfl rfl Try.underlying3 rfl (rd_sl0 e_I_ok eadx (rds_own e_I_ok 0 rfl) hx57 rfl)) ?_
     refine Qt.o_yes rfl rfl rfl ?_
     refine Qt.o_val rfl (v_bin rfl rfl rfl b_lss) ?_
     refine Qt.o_val rfl (v_pick_true rfl rfl rfl) ?_
     refine Qt.l_nil ?_
     refine q_then ?_
     refine c_cond rfl (fun h6 => ?_) (fun h6 => ?_)
     · -- h6T
      have h6b := h6
      try simp only [decide_eq_true_eq] at h6
      refine c_skip ?_
      refine q_then ?_
      refine c_seq ?_
      refine c_block ?_
      refine c_seq ?_
      refine c_region ?_
      refine o_move rfl rfl ?_
      refine o_move rfl rfl ?_
      refine o_indexK e_I_ok eadx rfl rfl rfl Try.underlying37 (by omega) (by omega) ?_
      obtain ⟨x65, hx65⟩ : ∃ x, (cur)[((k : Int)).toNat]? = some x := ⟨_, List.getElem?_eq_getElem (by (try simp only [List.length_set]); omega)⟩
      refine o_load1 rfl rfl Try.underlying3 rfl (rd_sl0 e_I_ok eadx (rds_own e_I_ok 0 rfl) hx65 rfl) ?_
      refine o_assign rfl rfl ?_
      refine l_nil ?_
      refine q_then ?_
      refine c_seq ?_
      refine c_region ?_
      refine o_move rfl rfl ?_
      refine o_move rfl rfl ?_
      refine o_move rfl rfl ?_
      refine o_move rfl rfl ?_
      refine o_bin rfl rfl rfl (b_sub (wrap_i64 (by omega) (by omega))) ?_
      refine o_indexK e_I_ok eadx rfl rfl rfl Try.underlying37 (by omega) (by omega) ?_
      obtain ⟨x72, hx72⟩ : ∃ x, (cur)[((k : Int) - 1).toNat]? = some x := ⟨_, List.getElem?_eq_getElem (by (try simp only [List.length_set]); omega)⟩
      have hsl : ilt x65 x72 := by rw [show x65 = x52 from by rw [hx52] at hx65; exact (Option.some.inj hx65).symm, show x72 = x57 from by rw [hx57] at hx72; exact (Option.some.inj hx72).symm]; show x52 < x57; omega
      refine o_load1 rfl rfl Try.underlying3 rfl (rd_sl0 e_I_ok eadx (rds_own e_I_ok 0 rfl) hx72 rfl) ?_
      refine o_indexK e_I_ok eadx rfl rfl rfl Try.underlying37 (by omega) (by omega) ?_
      obtain ⟨x74, hx74⟩ : ∃ x, (cur)[((k : Int)).toNat]? = some x := ⟨_, List.getElem?_eq_getElem (by (try simp only [List.length_set]); omega)⟩
      refine o_storeRow0 (x1 := x72) e_I_ok eadx rfl rfl rfl ti3 hx74 rfl ?_
      refine l_nil ?_
      refine q_then ?_
      have hcs : (cur.set ((k : Int)).toNat x72).length = cur.length := List.length_set
      refine c_region ?_
      refine o_move rfl rfl ?_
      refine o_move rfl rfl ?_
      refine o_bin rfl rfl rfl (b_sub (wrap_i64 (by omega) (by omega))) ?_
      refine o_move rfl rfl ?_
      refine o_indexK e_I_ok eadx rfl rfl rfl Try.underlying37 (by omega) (by omega) ?_
      obtain ⟨x79, hx79⟩ : ∃ x, ((cur).set ((k : Int)).toNat x72)[((k : Int) - 1).toNat]? = some x := ⟨_, List.getElem?_eq_getElem (by (try simp only [List.length_set]); omega)⟩
      refine o_storeRow0 (x1 := x65) e_I_ok eadx rfl rfl rfl ti3 hx79 rfl ?_
      refine l_nil ?_
      refine q_block ?_
      refine q_then ?_
      refine c_region ?_
      refine o_move rfl rfl ?_
      refine o_bin rfl rfl rfl (b_sub (wrap_i64 (by omega) (by omega))) ?_
      refine o_assign rfl rfl ?_
      refine l_nil ?_
      exact q_round (k - 1, (cur.set ((k : Int)).toNat x72).set ((k : Int) - 1).toNat x65) (by exact ins_step' (by omega) hin hx65 hx72 hsl) (by (try dsimp only); omega) ⟨(by first | rfl | exact vint (by omega)), (by (try dsimp only); rw [List.length_set, List.length_set]; rfl), (by first | rfl | exact vint (by omega)), (by first | rfl | exact vint (by omega)), trivial⟩ (fun w S => S)
     · -- h6F
      have h6b := h6
      try simp only [decide_eq_false_iff_not, Int.not_lt, Int.not_le] at h6
      refine c_exit ?_
      refine q_pass_exit ?_
      refine q_pass_exit ?_
      refine q_hit ?_
      refine q_block ?_
      refine q_then ?_
      refine c_region ?_
      refine o_move rfl rfl ?_
      refine o_bin rfl rfl rfl (b_add (wrap_i64 (by omega) (by omega))) ?_
      refine o_assign rfl rfl ?_
      refine l_nil ?_
      exact q_round (i + 1, cur, a43, c43) (by exact ⟨by omega, by rw [← sTake_on ilt_sto ho hx21]; exact insAt_end' ilt_sto hin (by rw [ho]; exact setOf_srt ilt_sto _) hnin (by omega) hx52 hx57 (by show ¬ x52 < x57; omega)⟩) (by (try dsimp only); omega) ⟨(by first | rfl | exact vint (by omega)), (by first | rfl | exact vint (by omega)), (by first | rfl | exact vint (by omega)), trivial⟩ (fun w S => S)
    · -- h5F
     have h5b := h5
     try simp only [decide_eq_false_iff_not, Int.not_lt, Int.not_le] at h5
     refine Qt.o_no rfl rfl rfl rfl ?_
     refine Qt.o_no rfl rfl rfl rfl ?_
     refine Qt.o_no rfl rfl rfl rfl ?_
     refine Qt.o_no rfl rfl rfl rfl ?_
     refine Qt.o_no rfl rfl rfl rfl ?_
     refine Qt.o_no rfl rfl rfl rfl ?_
     refine Qt.o_no rfl rfl rfl rfl ?_
     refine Qt.o_no rfl rfl rfl rfl ?_
     refine Qt.o_no rfl rfl rfl rfl ?_
     refine Qt.o_no rfl rfl rfl rfl ?_
     refine Qt.o_val rfl (v_pick_false rfl rfl rfl) ?_
     refine Qt.l_nil ?_
     refine q_then ?_
     refine c_false rfl ?_
     refine c_exit ?_
     refine q_pass_exit ?_
     refine q_pass_exit ?_
     refine q_hit ?_
     refine q_block ?_
     refine q_then ?_
     refine c_region ?_
     refine o_move rfl rfl ?_
     refine o_bin rfl rfl rfl (b_add (wrap_i64 (by omega) (by omega))) ?_
     refine o_assign rfl rfl ?_
     refine l_nil ?_
     exact q_round (i + 1, cur, a43, c43) (by exact ⟨by omega, by rw [← sTake_on ilt_sto ho hx21]; exact insAt_end0 ilt_sto hin (by rw [ho]; exact setOf_srt ilt_sto _) hnin (by omega)⟩) (by (try dsimp only); omega) ⟨(by first | rfl | exact vint (by omega)), (by first | rfl | exact vint (by omega)), (by first | rfl | exact vint (by omega)), trivial⟩ (fun w S => S)
 · -- h1F
  have h1b := h1
  try simp only [decide_eq_false_iff_not, Int.not_lt, Int.not_le] at h1
  refine c_exit ?_
  refine q_pass_exit ?_
  refine q_pass_exit ?_
  refine q_hit ?_
  refine q_then ?_
  refine c_seq ?_
  refine c_seq ?_
  refine c_region ?_
  refine o_move rfl rfl ?_
  refine o_len rfl rfl Try.underlying37 ?_
  refine o_bin rfl rfl rfl b_eql ?_
  refine l_nil ?_
  refine q_then ?_
  refine c_cond rfl (fun h7 => ?_) (fun h7 => ?_)
  · -- h7T
   have h7b := h7
   try simp only [decide_eq_true_eq] at h7
   have hfin : homes o = [0] := homes_e (by rw [List.take_of_length_le (by omega)] at ho; rw [← ho]; exact List.eq_nil_of_length_eq_zero (by omega))
   refine c_seq ?_
   refine c_region ?_
   refine o_lit e_I_ok rfl Try.underlying37 rfl rfl rfl (lit_ok rfl) [0] rfl rfl fun a83 => ?_
   refine o_assign rfl rfl ?_
   refine l_nil ?_
   refine q_then ?_
   refine c_ret ?_
   refine q_pass_ret ?_
   refine q_conv (fun w S => (S.perm p1).tail) ?_
   refine q_conv (fun w S => (S.perm p1).tail) ?_
   exact f_ret (r_one rfl rfl) (⟨a83, 1, by rw [hfin]; try rfl, by rw [hfin]; try rfl⟩) (fun w S => S)
  · -- h7F
   have h7b := h7
   try simp only [decide_eq_false_iff_not, Int.not_lt, Int.not_le] at h7
   have hfin : homes o = out := by rw [homes_ne (fun h9 => h7 (by rw [ho, h9]; simp [setOf])), ho, List.take_of_length_le (by omega)]
   refine c_skip ?_
   refine q_then ?_
   refine c_seq ?_
   refine c_region ?_
   refine o_move rfl rfl ?_
   refine o_assign rfl rfl ?_
   refine l_nil ?_
   refine q_then ?_
   refine c_ret ?_
   refine q_conv (fun w S => (S.perm p1).tail) ?_
   exact f_ret (r_one rfl rfl) (⟨a3, c3, by rw [hfin]; try rfl, by rw [hfin]; try rfl⟩) (fun w S => S)

theorem rsingle_ {W : World} {F : List Res} {o : Order} (T_o : OrdR W F o) (hm : o.f_Marks.xs.length ≤ 1000000) : CS Try.prog 15 #[.agg #[.int .i64 o.f_Tag_Id_Node, .int .u64 o.f_Tag_Id_Epoch, .int .u64 o.f_Tag_Id_Seq, .int .i64 o.f_Tag_Try, .int .i64 o.f_Txn_Kind, .slice o.f_Txn_Reads.a (o.f_Txn_Reads.xs).length o.f_Txn_Reads.c, .slice o.f_Txn_Writes.a (o.f_Txn_Writes.xs).length o.f_Txn_Writes.c, .slice o.f_Txn_Ops.a (o.f_Txn_Ops.xs).length o.f_Txn_Ops.c, .int .i64 o.f_Txn_To, .slice o.f_Marks.a (o.f_Marks.xs).length o.f_Marks.c]] W (F) (fun r L' => r = .bool (decide (single o)) ∧ F = L') := by
 refine f_door (l0 := [(0, .agg #[.int .i64 o.f_Tag_Id_Node, .int .u64 o.f_Tag_Id_Epoch, .int .u64 o.f_Tag_Id_Seq, .int .i64 o.f_Tag_Try, .int .i64 o.f_Txn_Kind, .slice o.f_Txn_Reads.a (o.f_Txn_Reads.xs).length o.f_Txn_Reads.c, .slice o.f_Txn_Writes.a (o.f_Txn_Writes.xs).length o.f_Txn_Writes.c, .slice o.f_Txn_Ops.a (o.f_Txn_Ops.xs).length o.f_Txn_Ops.c, .int .i64 o.f_Txn_To, .slice o.f_Marks.a (o.f_Marks.xs).length o.f_Marks.c])]) Try.func15 Try.ntmps15 rfl rfl rfl ?_
 refine c_seq ?_
 refine c_region ?_
 refine o_box rfl rfl fun b1 => ?_
 refine o_assign rfl rfl ?_
 refine l_nil ?_
 refine q_then ?_
 refine c_seq ?_
 refine c_region ?_
 refine o_fieldAddr (q := ⟨b1, 4, none⟩) rfl rfl Try.underlying33 rfl ti30 rfl ?_
 refine o_fieldAddr (q := ⟨b1, 4, none⟩) rfl rfl Try.underlying30 rfl ti3 rfl ?_
 refine o_load1 rfl rfl Try.underlying3 rfl (rd_mem 0 rfl rfl) ?_
 refine o_bin rfl rfl rfl b_eql ?_
 refine o_move rfl rfl ?_
 refine l_split (t := 7) rfl (fun h1 => ?_) (fun h1 => ?_)
 · -- h1T
  have h1b := h1
  try simp only [decide_eq_true_eq] at h1
  refine o_yes rfl rfl rfl ?_
  refine o_loadn (vs := [_, _, _, _, _, _, _, _, _, _]) rfl rfl Try.underlying33 rfl ti33 (rdn_lit 0 rfl rfl) ?_
  refine o_yes rfl rfl rfl ?_
  refine o_call rfl cal11 rfl (rhomes_ (o := o) (OrdR.c T_o) (by omega)) ?_
  rintro _ _ ⟨a9, c9, rfl, rfl⟩
  have hhl9 := homes_len o
  refine o_yes rfl rfl rfl ?_
  refine o_len rfl rfl Try.underlying37 ?_
  refine o_yes rfl rfl rfl ?_
  refine o_bin rfl rfl rfl b_eql ?_
  refine o_pick_true rfl rfl rfl ?_
  refine o_assign rfl rfl ?_
  refine l_nil ?_
  refine q_then ?_
  refine c_ret ?_
  refine q_conv (fun w S => S.tail) ?_
  refine q_conv (fun w S => S.tail) ?_
  exact f_ret (r_one rfl rfl) (⟨by first | exact vtrue' (by unfold single; grind) | exact vfalse' (by unfold single; grind) | exact bdec' (by unfold single; grind), rfl⟩) (fun w S => S)
 · -- h1F
  have h1b := h1
  try simp only [decide_eq_false_iff_not, Int.not_lt, Int.not_le] at h1
  refine o_no rfl rfl rfl rfl ?_
  refine o_no rfl rfl rfl rfl ?_
  refine o_no rfl rfl rfl rfl ?_
  refine o_no rfl rfl rfl rfl ?_
  refine o_pick_false rfl rfl rfl ?_
  refine o_assign rfl rfl ?_
  refine l_nil ?_
  refine q_then ?_
  refine c_ret ?_
  refine q_conv (fun w S => S.tail) ?_
  exact f_ret (r_one rfl rfl) (⟨by first | exact vtrue' (by unfold single; grind) | exact vfalse' (by unfold single; grind) | exact bdec' (by unfold single; grind), rfl⟩) (fun w S => S)

end Go.Proofs.Ytlblipkcbmcfkaa
