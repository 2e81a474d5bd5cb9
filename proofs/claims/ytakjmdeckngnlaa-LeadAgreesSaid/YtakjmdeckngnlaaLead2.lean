/- Printed by eng2.py out of 12/spec.py. -/
import Derived.Test.YtakjmdeckngnlaaLead1
set_option linter.unusedVariables false
set_option linter.unusedSimpArgs false
set_option maxRecDepth 10000
namespace Go.Proofs.Ytakjmdeckngnlaa
open Go.RowKit
theorem valueS {W : World} {F : List Res} {k : Nat} {ld : LdS ByteArray} : CS Try.prog 19 #[.pointer (some ⟨k, 0, none⟩)] W (LdR k ld :: F) (fun r L' => r = .tuple #[.string ((ld.value ByteArray.empty).1), .bool (ld.value ByteArray.empty).2] ∧ L' = LdR k ld :: F) := by
 refine f_door (l0 := [(0, .pointer (some ⟨k, 0, none⟩))]) Try.func19 Try.ntmps19 rfl rfl rfl ?_
 refine c_seq ?_
 refine c_region ?_
 refine o_assign rfl rfl ?_
 refine o_assign rfl rfl ?_
 refine l_nil ?_
 refine q_then ?_
 refine c_seq ?_
 refine c_seq ?_
 refine c_region ?_
 refine o_move rfl rfl ?_
 refine o_call rfl cal21 rfl (leadsS) ?_
 rintro _ _ ⟨rfl, rfl⟩
 refine o_not rfl rfl ?_
 refine o_move rfl rfl ?_
 refine l_split (t := 11) rfl (fun h1 => ?_) (fun h1 => ?_)
 · -- h1T
  have h1b := h1
  try simp only [decide_eq_true_eq, decide_eq_false_iff_not, Bool.not_eq_eq_eq_not, Bool.not_true, Bool.not_false, Bool.not_eq_true', Bool.not_eq_false', Int.not_lt, Int.not_le, Bool.or_eq_true, Bool.and_eq_true] at h1
  refine o_no rfl rfl rfl rfl ?_
  refine o_no rfl rfl rfl rfl ?_
  refine o_no rfl rfl rfl rfl ?_
  refine o_no rfl rfl rfl rfl ?_
  refine o_no rfl rfl rfl rfl ?_
  refine o_pick_true rfl rfl rfl ?_
  refine l_nil ?_
  refine q_then ?_
  refine c_true rfl ?_
  refine c_seq ?_
  refine c_region ?_
  refine o_move rfl rfl ?_
  refine o_assign rfl rfl ?_
  refine o_assign rfl rfl ?_
  refine l_nil ?_
  refine q_then ?_
  refine c_ret ?_
  refine q_pass_ret ?_
  have hv : ld.value ByteArray.empty = (ByteArray.empty, false) := by (try rw [bae]); unfold LdS.value; cases hm : mget ld.told ld.slot <;> cases ho : ld.off <;> first | (simp_all; done) | grind
  exact f_ret (r_two rfl rfl rfl) (⟨(by rw [hv] <;> rfl), rfl⟩) (fun w S => S)
 · -- h1F
  have h1b := h1
  try simp only [decide_eq_true_eq, decide_eq_false_iff_not, Bool.not_eq_eq_eq_not, Bool.not_true, Bool.not_false, Bool.not_eq_true', Bool.not_eq_false', Int.not_lt, Int.not_le, Bool.or_eq_true, Bool.and_eq_true] at h1
  refine o_yes rfl rfl rfl ?_
  refine o_move rfl rfl ?_
  refine o_yes rfl rfl rfl ?_
  refine o_nil rfl rfl ?_
  refine o_yes rfl rfl rfl ?_
  refine l_obj ?_
  rintro ⟨m1_1, m2_1, m3_1, a_1, c_1⟩ ok_1
  have s0_ok_1 := ok_1.s0
  have s1_ok_1 := ok_1.s1
  have v0_ok_1 := ok_1.v0
  have v1_ok_1 := ok_1.v1
  refine l_conv (L' := blk k (.cells #[.int .u64 ld.ballot, .int .i64 ld.voters, .int .i64 ld.slot, .map (some m1_1), .map (some m2_1), .slice a_1 (ld.off).length c_1, .map (some m3_1)] 85 (0, 0)) :: mapR kvI vvI m1_1 ld.prom :: mapR kvI vvVS m2_1 ld.told :: mapR kvI vvI m3_1 ld.tak :: row e_S.T e_S.sz a_1 (ld.off).length c_1 (flat e_S ld.off) :: _) (fun w S => S) ?_
  refine o_fieldAddr (q := ⟨k, 2, none⟩) rfl rfl Try.underlying85 rfl ti3 rfl ?_
  refine o_yes rfl rfl rfl ?_
  refine o_load1 rfl rfl Try.underlying3 rfl (rd_mem 0 rfl rfl) ?_
  refine o_yes rfl rfl rfl ?_
  refine o_bin rfl rfl rfl b_geq ?_
  refine o_pick_false rfl rfl rfl ?_
  refine l_nil ?_
  refine q_then ?_
  refine c_cond rfl (fun h2 => ?_) (fun h2 => ?_)
  · -- h2T
   have h2b := h2
   try simp only [decide_eq_true_eq] at h2
   refine c_seq ?_
   refine c_region ?_
   refine o_move rfl rfl ?_
   refine o_assign rfl rfl ?_
   refine o_assign rfl rfl ?_
   refine l_nil ?_
   refine q_then ?_
   refine c_ret ?_
   refine q_pass_ret ?_
   have hv : ld.value ByteArray.empty = (ByteArray.empty, false) := by (try rw [bae]); unfold LdS.value; cases hm : mget ld.told ld.slot <;> cases ho : ld.off <;> first | (simp_all; done) | grind
   refine q_conv (L' := LdR k ld :: _) (fun w S => Sat.obj_mk ⟨m1_1, m2_1, m3_1, a_1, c_1⟩ ok_1 S) ?_
   exact f_ret (r_two rfl rfl rfl) (⟨(by rw [hv] <;> rfl), rfl⟩) (fun w S => S)
  · -- h2F
   have h2b := h2
   try simp only [decide_eq_false_iff_not, Int.not_lt, Int.not_le] at h2
   refine c_skip ?_
   refine q_then ?_
   refine c_seq ?_
   refine c_seq ?_
   refine c_held [blk k (.cells #[.int .u64 ld.ballot, .int .i64 ld.voters, .int .i64 ld.slot, .map (some m1_1), .map (some m2_1), .slice a_1 (ld.off).length c_1, .map (some m3_1)] 85 (0, 0)), mapR kvI vvI m1_1 ld.prom, mapR kvI vvVS m2_1 ld.told, mapR kvI vvI m3_1 ld.tak, row e_S.T e_S.sz a_1 (ld.off).length c_1 (flat e_S ld.off)] (by kernel_rfl) rfl ?_
   refine h_take 0 rfl rfl (by kernel_rfl) (by kernel_rfl) (by kernel_rfl) (fun L0 => v_move rfl rfl) ?_
   refine h_take 1 rfl rfl (by kernel_rfl) (by kernel_rfl) (by kernel_rfl) (fun L0 => v_nil rfl rfl) ?_
   refine h_take 2 rfl rfl (by kernel_rfl) (by kernel_rfl) (by kernel_rfl) (fun L0 => v_fieldAddr (q := ⟨k, 4, none⟩) rfl rfl Try.underlying85 rfl ti82 rfl) ?_
   refine h_take 3 rfl rfl (by kernel_rfl) (by kernel_rfl) (by kernel_rfl) (fun L0 => v_load1 rfl rfl Try.underlying82 rfl (rd_mem 0 rfl rfl)) ?_
   refine h_take 4 rfl rfl (by kernel_rfl) (by kernel_rfl) (by kernel_rfl) (fun L0 => v_move rfl rfl) ?_
   refine h_take 5 rfl rfl (by kernel_rfl) (by kernel_rfl) (by kernel_rfl) (fun L0 => v_nil rfl rfl) ?_
   refine h_take 6 rfl rfl (by kernel_rfl) (by kernel_rfl) (by kernel_rfl) (fun L0 => v_fieldAddr (q := ⟨k, 2, none⟩) rfl rfl Try.underlying85 rfl ti3 rfl) ?_
   refine h_take 7 rfl rfl (by kernel_rfl) (by kernel_rfl) (by kernel_rfl) (fun L0 => v_load1 rfl rfl Try.underlying3 rfl (rd_mem 0 rfl rfl)) ?_
   refine h_take 8 rfl rfl (by kernel_rfl) (by kernel_rfl) (by kernel_rfl) (fun L0 => v_lookupDOk (kv := kvI) (vv := vvVS) (b0 := z0S) 2 rfl koI rfl rfl rfl Try.underlying82 ti40) ?_
   refine h_take 9 rfl rfl (by kernel_rfl) (by kernel_rfl) (by kernel_rfl) (fun L0 => v_move rfl rfl) ?_
   refine h_take 10 rfl rfl (by kernel_rfl) (by kernel_rfl) (by kernel_rfl) (fun L0 => v_extract rfl rfl rfl) ?_
   refine h_take 11 rfl rfl (by kernel_rfl) (by kernel_rfl) (by kernel_rfl) (fun L0 => v_extract rfl rfl rfl) ?_
   refine h_one 12 rfl (by kernel_rfl) ?_
   refine o_alloc rfl ti40 fun b4 => ?_
   refine l_nil ?_
   refine q_conv (fun w S => S.perm p5) ?_
   refine q_conv (fun w S => S.perm p5) ?_
   refine q_conv (fun w S => S.perm p5) ?_
   refine q_conv (fun w S => S.perm p5) ?_
   refine q_conv (fun w S => S.perm p5) ?_
   refine h_next ?_
   refine h_one 13 rfl (by kernel_rfl) ?_
   refine l_f5 ?_
   refine o_storen rfl rfl ti40 rfl rfl rfl rfl ?_
   refine l_nil ?_
   refine q_conv (fun w S => S.perm p5) ?_
   refine q_conv (fun w S => S.perm p5) ?_
   refine q_conv (fun w S => S.perm p5) ?_
   refine q_conv (fun w S => S.perm p5) ?_
   refine q_conv (fun w S => S.perm p5) ?_
   refine h_next ?_
   refine h_take 14 rfl rfl (by kernel_rfl) (by kernel_rfl) (by kernel_rfl) (fun L0 => v_assign rfl rfl) ?_
   refine h_done (by kernel_rfl) ?_
   refine q_then ?_
   refine c_seq ?_
   refine c_region ?_
   refine o_move rfl rfl ?_
   refine l_nil ?_
   refine q_then ?_
   refine c_cond rfl (fun h3 => ?_) (fun h3 => ?_)
   · -- h3T
    have h3b := h3
    try simp only [decide_eq_true_eq, decide_eq_false_iff_not, Bool.not_eq_eq_eq_not, Bool.not_true, Bool.not_false, Bool.not_eq_true', Bool.not_eq_false', Int.not_lt, Int.not_le, Bool.or_eq_true, Bool.and_eq_true] at h3
    refine c_seq ?_
    refine c_region ?_
    refine o_fieldAddr (q := ⟨b4, 2, none⟩) rfl rfl Try.underlying40 rfl ti9 rfl ?_
    refine o_load1 rfl rfl Try.underlying9 rfl (rd_mem 5 rfl rfl) ?_
    refine o_assign rfl rfl ?_
    refine o_assign rfl rfl ?_
    refine l_nil ?_
    refine q_then ?_
    refine c_ret ?_
    refine q_pass_ret ?_
    have hv : ld.value ByteArray.empty = (((mget ld.told ld.slot).getD z0S).Value, true) := by (try rw [bae]); unfold LdS.value; cases hm : mget ld.told ld.slot <;> cases ho : ld.off <;> first | (simp_all; done) | grind
    refine q_conv (L' := LdR k ld :: _) (fun w S => Sat.obj_mk ⟨m1_1, m2_1, m3_1, a_1, c_1⟩ ok_1 S) ?_
    refine q_conv (fun w S => (S.perm p1).tail) ?_
    exact f_ret (r_two rfl rfl rfl) (⟨(by rw [hv] <;> rfl), rfl⟩) (fun w S => S)
   · -- h3F
    have h3b := h3
    try simp only [decide_eq_true_eq, decide_eq_false_iff_not, Bool.not_eq_eq_eq_not, Bool.not_true, Bool.not_false, Bool.not_eq_true', Bool.not_eq_false', Int.not_lt, Int.not_le, Bool.or_eq_true, Bool.and_eq_true] at h3
    refine c_skip ?_
    refine q_then ?_
    refine c_seq ?_
    refine c_seq ?_
    refine c_region ?_
    refine o_move rfl rfl ?_
    refine o_nil rfl rfl ?_
    refine o_fieldAddr (q := ⟨k, 5, none⟩) rfl rfl Try.underlying85 rfl ti83 rfl ?_
    refine o_load1 rfl rfl Try.underlying83 rfl (rd_mem 0 rfl rfl) ?_
    refine o_len rfl rfl Try.underlying83 ?_
    refine o_move rfl rfl ?_
    refine l_nil ?_
    refine q_then ?_
    refine c_block ?_
    refine c_loop (α := Unit) (fun z => [(2, .string ByteArray.empty), (37, .slice a_1 (ld.off).length c_1), (38, .int .i64 ((ld.off).length : Int)), (39, .int .i64 (0 : Int))]) (fun z => blk k (.cells #[.int .u64 ld.ballot, .int .i64 ld.voters, .int .i64 ld.slot, .map (some m1_1), .map (some m2_1), .slice a_1 (ld.off).length c_1, .map (some m3_1)] 85 (0, 0)) :: mapR kvI vvI m1_1 ld.prom :: mapR kvI vvVS m2_1 ld.told :: mapR kvI vvI m3_1 ld.tak :: row e_S.T e_S.sz a_1 (ld.off).length c_1 (flat e_S ld.off) :: blk b4 (.cells #[.int .i64 (((mget ld.told ld.slot).getD z0S).Slot), .int .u64 (((mget ld.told ld.slot).getD z0S).Ballot), .string (((mget ld.told ld.slot).getD z0S).Value)] 40 (0, 0)) :: F) (fun z => True) (fun z => 0) () (by trivial) ⟨(by first | rfl | exact vint (by omega)), (by first | rfl | exact vint (by omega)), (by first | rfl | exact vint (by omega)), (by first | rfl | exact vint (by omega)), trivial⟩ (fun w S => S) ?_
    rintro _ hp
    try dsimp only at *
    refine c_seq ?_
    refine c_region ?_
    refine o_bin rfl rfl rfl b_lss ?_
    refine l_nil ?_
    refine q_then ?_
    refine c_seq ?_
    refine c_cond rfl (fun h4 => ?_) (fun h4 => ?_)
    · -- h4T
     have h4b := h4
     try simp only [decide_eq_true_eq] at h4
     refine c_skip ?_
     refine q_then ?_
     refine c_seq ?_
     refine c_block ?_
     refine c_seq ?_
     refine c_region ?_
     refine o_index e_S_ok rfl rfl rfl Try.underlying83 (by omega) (by omega) (rds_own e_S_ok 4 rfl) fun ad41 ead41 => ?_
     obtain ⟨x41, hx41⟩ : ∃ x, (ld.off)[((0 : Int)).toNat]? = some x := ⟨_, List.getElem?_eq_getElem (by omega)⟩
     refine o_load1 rfl rfl Try.underlying9 rfl (rd_sl0 e_S_ok ead41 (rds_own e_S_ok 4 rfl) hx41 rfl) ?_
     refine o_assign rfl rfl ?_
     refine l_nil ?_
     refine q_then ?_
     refine c_seq ?_
     refine c_region ?_
     refine o_move rfl rfl ?_
     refine o_assign rfl rfl ?_
     refine o_assign rfl rfl ?_
     refine l_nil ?_
     refine q_then ?_
     refine c_ret ?_
     refine q_block_ret ?_
     refine q_pass_ret ?_
     refine q_pass_ret ?_
     refine q_block_ret ?_
     refine q_pass_ret ?_
     have hv : ld.value ByteArray.empty = (x41, true) := by (try rw [bae]); unfold LdS.value; cases hm : mget ld.told ld.slot <;> cases ho : ld.off <;> first | (simp_all; done) | grind
     refine q_conv (L' := LdR k ld :: _) (fun w S => Sat.obj_mk ⟨m1_1, m2_1, m3_1, a_1, c_1⟩ ok_1 S) ?_
     refine q_conv (fun w S => (S.perm p1).tail) ?_
     exact f_ret (r_two rfl rfl rfl) (⟨(by rw [hv] <;> rfl), rfl⟩) (fun w S => S)
    · -- h4F
     have h4b := h4
     try simp only [decide_eq_false_iff_not, Int.not_lt, Int.not_le] at h4
     refine c_exit ?_
     refine q_pass_exit ?_
     refine q_pass_exit ?_
     refine q_hit ?_
     refine q_then ?_
     refine c_seq ?_
     refine c_region ?_
     refine o_move rfl rfl ?_
     refine o_assign rfl rfl ?_
     refine o_assign rfl rfl ?_
     refine l_nil ?_
     refine q_then ?_
     refine c_ret ?_
     have hv : ld.value ByteArray.empty = (ByteArray.empty, false) := by (try rw [bae]); unfold LdS.value; cases hm : mget ld.told ld.slot <;> cases ho : ld.off <;> first | (simp_all; done) | grind
     refine q_conv (L' := LdR k ld :: _) (fun w S => Sat.obj_mk ⟨m1_1, m2_1, m3_1, a_1, c_1⟩ ok_1 S) ?_
     refine q_conv (fun w S => (S.perm p1).tail) ?_
     exact f_ret (r_two rfl rfl rfl) (⟨(by rw [hv] <;> rfl), rfl⟩) (fun w S => S)

theorem offerS {W : World} {F : List Res} {k : Nat} {ld : LdS ByteArray} {x : ByteArray} : CS Try.prog 15 #[.pointer (some ⟨k, 0, none⟩), .string x] W (LdR k ld :: F) (fun r L' => r = .bool (ld.offer ByteArray.empty x).1 ∧ L' = LdR k (ld.offer ByteArray.empty x).2 :: F) := by
 refine f_door (l0 := [(0, .pointer (some ⟨k, 0, none⟩)), (1, .string x)]) Try.func15 Try.ntmps15 rfl rfl rfl ?_
 refine c_seq ?_
 refine c_region ?_
 refine o_assign rfl rfl ?_
 refine l_nil ?_
 refine q_then ?_
 refine c_seq ?_
 refine c_seq ?_
 refine c_region ?_
 refine o_move rfl rfl ?_
 refine o_call rfl cal19 rfl (valueS) ?_
 rintro _ _ ⟨rfl, rfl⟩
 refine o_move rfl rfl ?_
 refine o_extract rfl rfl rfl ?_
 refine o_extract rfl rfl rfl ?_
 refine o_assign rfl rfl ?_
 refine o_assign rfl rfl ?_
 refine l_nil ?_
 refine q_then ?_
 refine c_seq ?_
 refine c_region ?_
 refine o_move rfl rfl ?_
 refine o_move rfl rfl ?_
 refine l_split (t := 13) rfl (fun h1 => ?_) (fun h1 => ?_)
 · -- h1T
  have h1b := h1
  try simp only [decide_eq_true_eq, decide_eq_false_iff_not, Bool.not_eq_eq_eq_not, Bool.not_true, Bool.not_false, Bool.not_eq_true', Bool.not_eq_false', Int.not_lt, Int.not_le, Bool.or_eq_true, Bool.and_eq_true] at h1
  refine o_no rfl rfl rfl rfl ?_
  refine o_no rfl rfl rfl rfl ?_
  refine o_no rfl rfl rfl rfl ?_
  refine o_pick_true rfl rfl rfl ?_
  refine o_move rfl rfl ?_
  refine o_no rfl rfl rfl rfl ?_
  refine o_no rfl rfl rfl rfl ?_
  refine o_no rfl rfl rfl rfl ?_
  refine o_no rfl rfl rfl rfl ?_
  refine o_no rfl rfl rfl rfl ?_
  refine o_pick_true rfl rfl rfl ?_
  refine l_nil ?_
  refine q_then ?_
  refine c_true rfl ?_
  refine c_seq ?_
  refine c_region ?_
  refine o_assign rfl rfl ?_
  refine l_nil ?_
  refine q_then ?_
  refine c_ret ?_
  refine q_pass_ret ?_
  exact f_ret (r_one rfl rfl) (⟨by grind [LdS.offer], by grind [LdS.offer]⟩) (fun w S => S)
 · -- h1F
  have h1b := h1
  try simp only [decide_eq_true_eq, decide_eq_false_iff_not, Bool.not_eq_eq_eq_not, Bool.not_true, Bool.not_false, Bool.not_eq_true', Bool.not_eq_false', Int.not_lt, Int.not_le, Bool.or_eq_true, Bool.and_eq_true] at h1
  refine o_yes rfl rfl rfl ?_
  refine o_move rfl rfl ?_
  refine o_yes rfl rfl rfl ?_
  refine o_call rfl cal21 rfl (leadsS) ?_
  rintro _ _ ⟨rfl, rfl⟩
  refine o_yes rfl rfl rfl ?_
  refine o_not rfl rfl ?_
  refine o_pick_false rfl rfl rfl ?_
  refine o_move rfl rfl ?_
  refine l_split (t := 18) rfl (fun h2 => ?_) (fun h2 => ?_)
  · -- h2T
   have h2b := h2
   try simp only [decide_eq_true_eq, decide_eq_false_iff_not, Bool.not_eq_eq_eq_not, Bool.not_true, Bool.not_false, Bool.not_eq_true', Bool.not_eq_false', Int.not_lt, Int.not_le, Bool.or_eq_true, Bool.and_eq_true] at h2
   refine o_no rfl rfl rfl rfl ?_
   refine o_no rfl rfl rfl rfl ?_
   refine o_no rfl rfl rfl rfl ?_
   refine o_no rfl rfl rfl rfl ?_
   refine o_no rfl rfl rfl rfl ?_
   refine o_pick_true rfl rfl rfl ?_
   refine l_nil ?_
   refine q_then ?_
   refine c_true rfl ?_
   refine c_seq ?_
   refine c_region ?_
   refine o_assign rfl rfl ?_
   refine l_nil ?_
   refine q_then ?_
   refine c_ret ?_
   refine q_pass_ret ?_
   exact f_ret (r_one rfl rfl) (⟨by grind [LdS.offer], by grind [LdS.offer]⟩) (fun w S => S)
  · -- h2F
   have h2b := h2
   try simp only [decide_eq_true_eq, decide_eq_false_iff_not, Bool.not_eq_eq_eq_not, Bool.not_true, Bool.not_false, Bool.not_eq_true', Bool.not_eq_false', Int.not_lt, Int.not_le, Bool.or_eq_true, Bool.and_eq_true] at h2
   refine o_yes rfl rfl rfl ?_
   refine o_move rfl rfl ?_
   refine o_yes rfl rfl rfl ?_
   refine o_nil rfl rfl ?_
   refine o_yes rfl rfl rfl ?_
   refine l_obj ?_
   rintro ⟨m1_1, m2_1, m3_1, a_1, c_1⟩ ok_1
   have s0_ok_1 := ok_1.s0
   have s1_ok_1 := ok_1.s1
   have v0_ok_1 := ok_1.v0
   have v1_ok_1 := ok_1.v1
   refine l_conv (L' := blk k (.cells #[.int .u64 ld.ballot, .int .i64 ld.voters, .int .i64 ld.slot, .map (some m1_1), .map (some m2_1), .slice a_1 (ld.off).length c_1, .map (some m3_1)] 85 (0, 0)) :: mapR kvI vvI m1_1 ld.prom :: mapR kvI vvVS m2_1 ld.told :: mapR kvI vvI m3_1 ld.tak :: row e_S.T e_S.sz a_1 (ld.off).length c_1 (flat e_S ld.off) :: _) (fun w S => S) ?_
   refine o_fieldAddr (q := ⟨k, 2, none⟩) rfl rfl Try.underlying85 rfl ti3 rfl ?_
   refine o_yes rfl rfl rfl ?_
   refine o_load1 rfl rfl Try.underlying3 rfl (rd_mem 0 rfl rfl) ?_
   refine o_yes rfl rfl rfl ?_
   refine o_bin rfl rfl rfl b_geq ?_
   refine o_pick_false rfl rfl rfl ?_
   refine l_nil ?_
   refine q_then ?_
   refine c_cond rfl (fun h3 => ?_) (fun h3 => ?_)
   · -- h3T
    have h3b := h3
    try simp only [decide_eq_true_eq] at h3
    refine c_seq ?_
    refine c_region ?_
    refine o_assign rfl rfl ?_
    refine l_nil ?_
    refine q_then ?_
    refine c_ret ?_
    refine q_pass_ret ?_
    refine q_conv (L' := LdR k ld :: _) (fun w S => Sat.obj_mk ⟨m1_1, m2_1, m3_1, a_1, c_1⟩ ok_1 S) ?_
    exact f_ret (r_one rfl rfl) (⟨by grind [LdS.offer], by grind [LdS.offer]⟩) (fun w S => S)
   · -- h3F
    have h3b := h3
    try simp only [decide_eq_false_iff_not, Int.not_lt, Int.not_le] at h3
    refine c_skip ?_
    refine q_then ?_
    refine c_seq ?_
    refine c_region ?_
    refine o_move rfl rfl ?_
    refine o_move rfl rfl ?_
    refine o_lit e_S_ok rfl Try.underlying83 rfl rfl rfl (lit_ok rfl) [x] rfl rfl fun a27 => ?_
    refine o_nil rfl rfl ?_
    refine o_fieldAddr (q := ⟨k, 5, none⟩) rfl rfl Try.underlying85 rfl ti83 rfl ?_
    refine l_f1 ?_
    refine o_store1 rfl rfl rfl ti83 rfl rfl ?_
    refine l_nil ?_
    refine q_then ?_
    refine c_seq ?_
    refine c_region ?_
    refine o_assign rfl rfl ?_
    refine l_nil ?_
    refine q_then ?_
    refine c_ret ?_
    refine q_conv (fun w S => S.perm p5) ?_
    refine q_conv (fun w S => S.perm p2) ?_
    refine q_conv (fun w S => S.perm p5) ?_
    refine q_conv (fun w S => S.perm p5) ?_
    refine q_conv (fun w S => S.perm p5) ?_
    refine q_conv (fun w S => S.perm p5) ?_
    refine q_conv (L' := LdR k ⟨ld.ballot, ld.voters, ld.slot, ld.prom, ld.told, [x], ld.tak⟩ :: _) (fun w S => Sat.obj_mk ⟨m1_1, m2_1, m3_1, a27, 1⟩ (by obtain ⟨o1, o2, o3, o4⟩ := ok_1; exact ⟨by (try dsimp only); omega, by (try dsimp only); omega, by (try dsimp only); omega, by (try dsimp only); omega⟩) S) ?_
    refine q_conv (fun w S => (S.perm p1).tail) ?_
    exact f_ret (r_one rfl rfl) (⟨by grind [LdS.offer], rfl⟩) (by rw [show (ld.offer ByteArray.empty x).2 = ⟨ld.ballot, ld.voters, ld.slot, ld.prom, ld.told, [x], ld.tak⟩ from by grind [LdS.offer]]; exact fun w S => S)

theorem takenS {W : World} {F : List Res} {k : Nat} {ld : LdS ByteArray} {i sl : Int} : CS Try.prog 17 #[.pointer (some ⟨k, 0, none⟩), .int .i64 i, .int .i64 sl] W (LdR k ld :: F) (fun r L' => r = .tuple #[.string ((ld.taken ByteArray.empty i sl).1.1), .bool (ld.taken ByteArray.empty i sl).1.2] ∧ L' = LdR k (ld.taken ByteArray.empty i sl).2 :: F) := by
 refine f_door (l0 := [(0, .pointer (some ⟨k, 0, none⟩)), (1, .int .i64 i), (2, .int .i64 sl)]) Try.func17 Try.ntmps17 rfl rfl rfl ?_
 refine c_seq ?_
 refine c_region ?_
 refine o_assign rfl rfl ?_
 refine o_assign rfl rfl ?_
 refine l_nil ?_
 refine q_then ?_
 refine c_seq ?_
 refine c_region ?_
 refine o_move rfl rfl ?_
 refine o_call rfl cal19 rfl (valueS) ?_
 rintro _ _ ⟨rfl, rfl⟩
 refine o_move rfl rfl ?_
 refine o_extract rfl rfl rfl ?_
 refine o_extract rfl rfl rfl ?_
 refine o_assign rfl rfl ?_
 refine o_assign rfl rfl ?_
 refine l_nil ?_
 refine q_then ?_
 refine c_seq ?_
 refine c_seq ?_
 refine c_region ?_
 refine o_move rfl rfl ?_
 refine o_not rfl rfl ?_
 refine o_move rfl rfl ?_
 refine l_split (t := 17) rfl (fun h1 => ?_) (fun h1 => ?_)
 · -- h1T
  have h1b := h1
  try simp only [decide_eq_true_eq, decide_eq_false_iff_not, Bool.not_eq_eq_eq_not, Bool.not_true, Bool.not_false, Bool.not_eq_true', Bool.not_eq_false', Int.not_lt, Int.not_le, Bool.or_eq_true, Bool.and_eq_true] at h1
  refine o_no rfl rfl rfl rfl ?_
  refine o_no rfl rfl rfl rfl ?_
  refine o_no rfl rfl rfl rfl ?_
  refine o_no rfl rfl rfl rfl ?_
  refine o_no rfl rfl rfl rfl ?_
  refine o_no rfl rfl rfl rfl ?_
  refine o_pick_true rfl rfl rfl ?_
  refine o_move rfl rfl ?_
  refine o_no rfl rfl rfl rfl ?_
  refine o_no rfl rfl rfl rfl ?_
  refine o_no rfl rfl rfl rfl ?_
  refine o_no rfl rfl rfl rfl ?_
  refine o_pick_true rfl rfl rfl ?_
  refine l_nil ?_
  refine q_then ?_
  refine c_true rfl ?_
  refine c_seq ?_
  refine c_region ?_
  refine o_move rfl rfl ?_
  refine o_assign rfl rfl ?_
  refine o_assign rfl rfl ?_
  refine l_nil ?_
  refine q_then ?_
  refine c_ret ?_
  refine q_pass_ret ?_
  exact f_ret (r_two rfl rfl rfl) (⟨by grind [LdS.taken, LdS.voter, inc, bae], rfl⟩) (by rw [show (ld.taken ByteArray.empty i sl).2 = ld from by grind [LdS.taken, LdS.voter, inc, bae]]; exact fun w S => S)
 · -- h1F
  have h1b := h1
  try simp only [decide_eq_true_eq, decide_eq_false_iff_not, Bool.not_eq_eq_eq_not, Bool.not_true, Bool.not_false, Bool.not_eq_true', Bool.not_eq_false', Int.not_lt, Int.not_le, Bool.or_eq_true, Bool.and_eq_true] at h1
  have hvs := value_slot (z := ByteArray.empty) (s := ld) h1
  refine o_yes rfl rfl rfl ?_
  refine o_move rfl rfl ?_
  refine o_yes rfl rfl rfl ?_
  refine o_move rfl rfl ?_
  refine o_yes rfl rfl rfl ?_
  refine o_nil rfl rfl ?_
  refine o_yes rfl rfl rfl ?_
  refine l_obj ?_
  rintro ⟨m1_1, m2_1, m3_1, a_1, c_1⟩ ok_1
  have s0_ok_1 := ok_1.s0
  have s1_ok_1 := ok_1.s1
  have v0_ok_1 := ok_1.v0
  have v1_ok_1 := ok_1.v1
  refine l_conv (L' := blk k (.cells #[.int .u64 ld.ballot, .int .i64 ld.voters, .int .i64 ld.slot, .map (some m1_1), .map (some m2_1), .slice a_1 (ld.off).length c_1, .map (some m3_1)] 85 (0, 0)) :: mapR kvI vvI m1_1 ld.prom :: mapR kvI vvVS m2_1 ld.told :: mapR kvI vvI m3_1 ld.tak :: row e_S.T e_S.sz a_1 (ld.off).length c_1 (flat e_S ld.off) :: _) (fun w S => S) ?_
  refine o_fieldAddr (q := ⟨k, 2, none⟩) rfl rfl Try.underlying85 rfl ti3 rfl ?_
  refine o_yes rfl rfl rfl ?_
  refine o_load1 rfl rfl Try.underlying3 rfl (rd_mem 0 rfl rfl) ?_
  refine o_yes rfl rfl rfl ?_
  refine o_bin rfl rfl rfl b_neq ?_
  refine o_pick_false rfl rfl rfl ?_
  refine o_move rfl rfl ?_
  refine l_split (t := 25) rfl (fun h2 => ?_) (fun h2 => ?_)
  · -- h2T
   have h2b := h2
   try simp only [Bool.not_eq_true', decide_eq_false_iff_not, Int.not_lt, Int.not_le] at h2
   refine o_no rfl rfl rfl rfl ?_
   refine o_no rfl rfl rfl rfl ?_
   refine o_no rfl rfl rfl rfl ?_
   refine o_no rfl rfl rfl rfl ?_
   refine o_pick_true rfl rfl rfl ?_
   refine l_nil ?_
   refine q_then ?_
   refine c_true rfl ?_
   refine c_seq ?_
   refine c_region ?_
   refine o_move rfl rfl ?_
   refine o_assign rfl rfl ?_
   refine o_assign rfl rfl ?_
   refine l_nil ?_
   refine q_then ?_
   refine c_ret ?_
   refine q_pass_ret ?_
   refine q_conv (L' := LdR k ld :: _) (fun w S => Sat.obj_mk ⟨m1_1, m2_1, m3_1, a_1, c_1⟩ ok_1 S) ?_
   exact f_ret (r_two rfl rfl rfl) (⟨by grind [LdS.taken, LdS.voter, inc, bae], rfl⟩) (by rw [show (ld.taken ByteArray.empty i sl).2 = ld from by grind [LdS.taken, LdS.voter, inc, bae]]; exact fun w S => S)
  · -- h2F
   have h2b := h2
   try simp only [Bool.not_eq_false', decide_eq_true_eq] at h2
   refine o_yes rfl rfl rfl ?_
   refine o_move rfl rfl ?_
   refine o_yes rfl rfl rfl ?_
   refine o_move rfl rfl ?_
   refine o_yes rfl rfl rfl ?_
   refine o_call rfl cal37 rfl (voterS) ?_
   rintro _ _ ⟨rfl, rfl⟩
   refine o_yes rfl rfl rfl ?_
   refine o_not rfl rfl ?_
   refine o_pick_false rfl rfl rfl ?_
   refine l_nil ?_
   refine q_then ?_
   refine c_cond rfl (fun h3 => ?_) (fun h3 => ?_)
   · -- h3T
    have h3b := h3
    try simp only [decide_eq_true_eq, decide_eq_false_iff_not, Bool.not_eq_eq_eq_not, Bool.not_true, Bool.not_false, Bool.not_eq_true', Bool.not_eq_false', Int.not_lt, Int.not_le, Bool.or_eq_true, Bool.and_eq_true] at h3
    refine c_seq ?_
    refine c_region ?_
    refine o_move rfl rfl ?_
    refine o_assign rfl rfl ?_
    refine o_assign rfl rfl ?_
    refine l_nil ?_
    refine q_then ?_
    refine c_ret ?_
    refine q_pass_ret ?_
    refine q_conv (L' := LdR k ld :: _) (fun w S => Sat.obj_mk ⟨m1_1, m2_1, m3_1, a_1, c_1⟩ ok_1 S) ?_
    exact f_ret (r_two rfl rfl rfl) (⟨by grind [LdS.taken, LdS.voter, inc, bae], rfl⟩) (by rw [show (ld.taken ByteArray.empty i sl).2 = ld from by grind [LdS.taken, LdS.voter, inc, bae]]; exact fun w S => S)
   · -- h3F
    have h3b := h3
    try simp only [decide_eq_true_eq, decide_eq_false_iff_not, Bool.not_eq_eq_eq_not, Bool.not_true, Bool.not_false, Bool.not_eq_true', Bool.not_eq_false', Int.not_lt, Int.not_le, Bool.or_eq_true, Bool.and_eq_true] at h3
    refine c_skip ?_
    refine q_then ?_
    refine c_seq ?_
    refine c_seq ?_
    refine c_region ?_
    refine o_move rfl rfl ?_
    refine o_nil rfl rfl ?_
    refine o_fieldAddr (q := ⟨k, 6, none⟩) rfl rfl Try.underlying85 rfl ti62 rfl ?_
    refine o_load1 rfl rfl Try.underlying62 rfl (rd_mem 0 rfl rfl) ?_
    refine o_move rfl rfl ?_
    refine o_lookupD (kv := kvI) (vv := vvI) (b0 := 0) 3 rfl koI rfl rfl rfl Try.underlying62 ti3 ?_
    refine o_bin rfl rfl rfl (b_add rfl) ?_
    refine l_f3 ?_
    refine o_mapUpdate (q := i) (b := (IntKind.i64.wrap ((mget ld.tak i).getD 0 + 1))) koI rfl rfl rfl Try.underlying62 ?_
    refine l_nil ?_
    refine q_then ?_
    refine c_seq ?_
    refine c_region ?_
    refine o_move rfl rfl ?_
    refine o_move rfl rfl ?_
    refine o_nil rfl rfl ?_
    refine o_fieldAddr (q := ⟨k, 6, none⟩) rfl rfl Try.underlying85 rfl ti62 rfl ?_
    refine o_load1 rfl rfl Try.underlying62 rfl (rd_mem 1 rfl rfl) ?_
    refine l_f1 ?_
    refine o_call rfl cal38 rfl (enoughS) ?_
    rintro _ _ ⟨rfl, rfl⟩
    refine o_not rfl rfl ?_
    refine l_nil ?_
    refine q_then ?_
    refine c_cond rfl (fun h4 => ?_) (fun h4 => ?_)
    · -- h4T
     have h4b := h4
     try simp only [decide_eq_true_eq, decide_eq_false_iff_not, Bool.not_eq_eq_eq_not, Bool.not_true, Bool.not_false, Bool.not_eq_true', Bool.not_eq_false', Int.not_lt, Int.not_le, Bool.or_eq_true, Bool.and_eq_true] at h4
     refine c_seq ?_
     refine c_region ?_
     refine o_move rfl rfl ?_
     refine o_assign rfl rfl ?_
     refine o_assign rfl rfl ?_
     refine l_nil ?_
     refine q_then ?_
     refine c_ret ?_
     refine q_pass_ret ?_
     refine q_conv (fun w S => S.perm p4) ?_
     refine q_conv (fun w S => S.perm p2) ?_
     refine q_conv (fun w S => S.perm p4) ?_
     refine q_conv (fun w S => S.perm p4) ?_
     refine q_conv (fun w S => S.perm p4) ?_
     refine q_conv (L' := LdR k ⟨ld.ballot, ld.voters, ld.slot, ld.prom, ld.told, ld.off, mset ld.tak i (IntKind.i64.wrap ((mget ld.tak i).getD 0 + 1))⟩ :: _) (fun w S => Sat.obj_mk ⟨m1_1, m2_1, m3_1, a_1, c_1⟩ (by obtain ⟨o1, o2, o3, o4⟩ := ok_1; exact ⟨by (try dsimp only); omega, by (try dsimp only); omega, by (try dsimp only); omega, by (try dsimp only); omega⟩) S) ?_
     exact f_ret (r_two rfl rfl rfl) (⟨by grind [LdS.taken, LdS.voter, inc, bae], rfl⟩) (by rw [show (ld.taken ByteArray.empty i sl).2 = ⟨ld.ballot, ld.voters, ld.slot, ld.prom, ld.told, ld.off, mset ld.tak i (IntKind.i64.wrap ((mget ld.tak i).getD 0 + 1))⟩ from by grind [LdS.taken, LdS.voter, inc, bae]]; exact fun w S => S)
    · -- h4F
     have h4b := h4
     try simp only [decide_eq_true_eq, decide_eq_false_iff_not, Bool.not_eq_eq_eq_not, Bool.not_true, Bool.not_false, Bool.not_eq_true', Bool.not_eq_false', Int.not_lt, Int.not_le, Bool.or_eq_true, Bool.and_eq_true] at h4
     refine c_skip ?_
     refine q_then ?_
     refine c_seq ?_
     refine c_region ?_
     refine o_move rfl rfl ?_
     refine o_nil rfl rfl ?_
     refine o_fieldAddr (q := ⟨k, 2, none⟩) rfl rfl Try.underlying85 rfl ti3 rfl ?_
     refine o_load1 rfl rfl Try.underlying3 rfl (rd_mem 0 rfl rfl) ?_
     refine o_bin rfl rfl rfl (b_add (wrap_i64 (by omega) (by omega))) ?_
     refine o_nil rfl rfl ?_
     refine o_fieldAddr (q := ⟨k, 2, none⟩) rfl rfl Try.underlying85 rfl ti3 rfl ?_
     refine o_store1 rfl rfl rfl ti3 rfl rfl ?_
     refine l_nil ?_
     refine q_then ?_
     refine c_seq ?_
     refine c_region ?_
     refine o_move rfl rfl ?_
     refine o_nil rfl rfl ?_
     refine o_fieldAddr (q := ⟨k, 5, none⟩) rfl rfl Try.underlying85 rfl ti83 rfl ?_
     refine o_store1 rfl rfl rfl ti83 rfl rfl ?_
     refine l_nil ?_
     refine q_then ?_
     refine c_seq ?_
     refine c_region ?_
     refine o_move rfl rfl ?_
     refine o_nil rfl rfl ?_
     refine o_fieldAddr (q := ⟨k, 6, none⟩) rfl rfl Try.underlying85 rfl ti62 rfl ?_
     refine o_load1 rfl rfl Try.underlying62 rfl (rd_mem 0 rfl rfl) ?_
     refine l_f1 ?_
     refine o_clearMap_ rfl  Try.underlying62 ?_
     refine l_nil ?_
     refine q_then ?_
     refine c_seq ?_
     refine c_region ?_
     refine o_move rfl rfl ?_
     refine o_assign rfl rfl ?_
     refine o_assign rfl rfl ?_
     refine l_nil ?_
     refine q_then ?_
     refine c_ret ?_
     refine q_nilrow e_S ?_
     refine q_conv (fun w S => S.perm p5) ?_
     refine q_conv (fun w S => S.perm p1) ?_
     refine q_conv (fun w S => S.perm p2) ?_
     refine q_conv (fun w S => S.perm p5) ?_
     refine q_conv (fun w S => S.perm p5) ?_
     refine q_conv (fun w S => S.perm p5) ?_
     refine q_conv (L' := LdR k ⟨ld.ballot, ld.voters, ld.slot + 1, ld.prom, ld.told, ([] : List ByteArray), []⟩ :: _) (fun w S => Sat.obj_mk ⟨m1_1, m2_1, m3_1, none, 0⟩ (by obtain ⟨o1, o2, o3, o4⟩ := ok_1; exact ⟨by (try dsimp only); omega, by (try dsimp only); omega, by (try dsimp only); omega, by (try dsimp only); omega⟩) S) ?_
     refine q_conv (fun w S => (S.perm p1).tail) ?_
     exact f_ret (r_two rfl rfl rfl) (⟨by grind [LdS.taken, LdS.voter, inc, bae], rfl⟩) (by rw [show (ld.taken ByteArray.empty i sl).2 = ⟨ld.ballot, ld.voters, ld.slot + 1, ld.prom, ld.told, ([] : List ByteArray), []⟩ from by grind [LdS.taken, LdS.voter, inc, bae]]; exact fun w S => S)

theorem promisedS {W : World} {F : List Res} {k : Nat} {ld : LdS ByteArray} {i : Int} {vs : List (Vt ByteArray)} {a : Option Addr} {c : Nat} (hs : RdS W F eVS a vs) (hn : vs.length ≤ 9223372036854775807) : CS Try.prog 13 #[.pointer (some ⟨k, 0, none⟩), .int .i64 i, .slice a (vs).length c] W (LdR k ld :: F) (fun r L' => r = .tuple #[] ∧ L' = LdR k (ld.promised z0S i vs) :: F) := by
 refine f_door (l0 := [(0, .pointer (some ⟨k, 0, none⟩)), (1, .int .i64 i), (2, .slice a (vs).length c)]) Try.func13 Try.ntmps13 rfl rfl rfl ?_
 refine c_seq ?_
 refine c_seq ?_
 refine c_region ?_
 refine o_move rfl rfl ?_
 refine o_call rfl cal21 rfl (leadsS) ?_
 rintro _ _ ⟨rfl, rfl⟩
 refine o_move rfl rfl ?_
 refine l_split (t := 12) rfl (fun h1 => ?_) (fun h1 => ?_)
 · -- h1T
  have h1b := h1
  try simp only [decide_eq_true_eq, decide_eq_false_iff_not, Bool.not_eq_eq_eq_not, Bool.not_true, Bool.not_false, Bool.not_eq_true', Bool.not_eq_false', Int.not_lt, Int.not_le, Bool.or_eq_true, Bool.and_eq_true] at h1
  refine o_no rfl rfl rfl rfl ?_
  refine o_no rfl rfl rfl rfl ?_
  refine o_no rfl rfl rfl rfl ?_
  refine o_no rfl rfl rfl rfl ?_
  refine o_pick_true rfl rfl rfl ?_
  refine o_move rfl rfl ?_
  refine o_no rfl rfl rfl rfl ?_
  refine o_no rfl rfl rfl rfl ?_
  refine o_no rfl rfl rfl rfl ?_
  refine o_no rfl rfl rfl rfl ?_
  refine o_no rfl rfl rfl rfl ?_
  refine o_no rfl rfl rfl rfl ?_
  refine o_no rfl rfl rfl rfl ?_
  refine o_pick_true rfl rfl rfl ?_
  refine l_nil ?_
  refine q_then ?_
  refine c_true rfl ?_
  refine c_ret ?_
  refine q_pass_ret ?_
  exact f_ret (r_none rfl) (⟨rfl, rfl⟩) (by rw [show ld.promised z0S i vs = ld from by grind [LdS.promised, LdS.voter]]; exact fun w S => S)
 · -- h1F
  have h1b := h1
  try simp only [decide_eq_true_eq, decide_eq_false_iff_not, Bool.not_eq_eq_eq_not, Bool.not_true, Bool.not_false, Bool.not_eq_true', Bool.not_eq_false', Int.not_lt, Int.not_le, Bool.or_eq_true, Bool.and_eq_true] at h1
  refine o_yes rfl rfl rfl ?_
  refine o_move rfl rfl ?_
  refine o_yes rfl rfl rfl ?_
  refine o_move rfl rfl ?_
  refine o_yes rfl rfl rfl ?_
  refine l_obj ?_
  rintro ⟨m1_1, m2_1, m3_1, a_1, c_1⟩ ok_1
  have s0_ok_1 := ok_1.s0
  have s1_ok_1 := ok_1.s1
  have v0_ok_1 := ok_1.v0
  have v1_ok_1 := ok_1.v1
  refine l_conv (L' := blk k (.cells #[.int .u64 ld.ballot, .int .i64 ld.voters, .int .i64 ld.slot, .map (some m1_1), .map (some m2_1), .slice a_1 (ld.off).length c_1, .map (some m3_1)] 85 (0, 0)) :: mapR kvI vvI m1_1 ld.prom :: mapR kvI vvVS m2_1 ld.told :: mapR kvI vvI m3_1 ld.tak :: row e_S.T e_S.sz a_1 (ld.off).length c_1 (flat e_S ld.off) :: _) (fun w S => S) ?_
  refine o_call rfl cal37 rfl (voterS) ?_
  rintro _ _ ⟨rfl, rfl⟩
  refine o_yes rfl rfl rfl ?_
  refine o_not rfl rfl ?_
  refine o_pick_false rfl rfl rfl ?_
  refine o_move rfl rfl ?_
  refine l_split (t := 18) rfl (fun h2 => ?_) (fun h2 => ?_)
  · -- h2T
   have h2b := h2
   try simp only [decide_eq_true_eq, decide_eq_false_iff_not, Bool.not_eq_eq_eq_not, Bool.not_true, Bool.not_false, Bool.not_eq_true', Bool.not_eq_false', Int.not_lt, Int.not_le, Bool.or_eq_true, Bool.and_eq_true] at h2
   refine o_no rfl rfl rfl rfl ?_
   refine o_no rfl rfl rfl rfl ?_
   refine o_no rfl rfl rfl rfl ?_
   refine o_no rfl rfl rfl rfl ?_
   refine o_no rfl rfl rfl rfl ?_
   refine o_no rfl rfl rfl rfl ?_
   refine o_no rfl rfl rfl rfl ?_
   refine o_pick_true rfl rfl rfl ?_
   refine l_nil ?_
   refine q_then ?_
   refine c_true rfl ?_
   refine c_ret ?_
   refine q_pass_ret ?_
   refine q_conv (L' := LdR k ld :: _) (fun w S => Sat.obj_mk ⟨m1_1, m2_1, m3_1, a_1, c_1⟩ ok_1 S) ?_
   exact f_ret (r_none rfl) (⟨rfl, rfl⟩) (by rw [show ld.promised z0S i vs = ld from by grind [LdS.promised, LdS.voter]]; exact fun w S => S)
  · -- h2F
   have h2b := h2
   try simp only [decide_eq_true_eq, decide_eq_false_iff_not, Bool.not_eq_eq_eq_not, Bool.not_true, Bool.not_false, Bool.not_eq_true', Bool.not_eq_false', Int.not_lt, Int.not_le, Bool.or_eq_true, Bool.and_eq_true] at h2
   refine o_yes rfl rfl rfl ?_
   refine o_move rfl rfl ?_
   refine o_yes rfl rfl rfl ?_
   refine o_nil rfl rfl ?_
   refine o_yes rfl rfl rfl ?_
   refine o_fieldAddr (q := ⟨k, 3, none⟩) rfl rfl Try.underlying85 rfl ti62 rfl ?_
   refine o_yes rfl rfl rfl ?_
   refine o_load1 rfl rfl Try.underlying62 rfl (rd_mem 0 rfl rfl) ?_
   refine o_yes rfl rfl rfl ?_
   refine o_move rfl rfl ?_
   refine o_yes rfl rfl rfl ?_
   refine o_lookupD (kv := kvI) (vv := vvI) (b0 := 0) 1 rfl koI rfl rfl rfl Try.underlying62 ti3 ?_
   refine o_yes rfl rfl rfl ?_
   refine o_bin rfl rfl rfl b_gtr ?_
   refine o_pick_false rfl rfl rfl ?_
   refine l_nil ?_
   refine q_then ?_
   refine c_cond rfl (fun h3 => ?_) (fun h3 => ?_)
   · -- h3T
    have h3b := h3
    try simp only [decide_eq_true_eq] at h3
    refine c_ret ?_
    refine q_pass_ret ?_
    refine q_conv (L' := LdR k ld :: _) (fun w S => Sat.obj_mk ⟨m1_1, m2_1, m3_1, a_1, c_1⟩ ok_1 S) ?_
    exact f_ret (r_none rfl) (⟨rfl, rfl⟩) (by rw [show ld.promised z0S i vs = ld from by grind [LdS.promised, LdS.voter]]; exact fun w S => S)
   · -- h3F
    have h3b := h3
    try simp only [decide_eq_false_iff_not, Int.not_lt, Int.not_le] at h3
    refine c_skip ?_
    refine q_then ?_
    refine c_seq ?_
    refine c_region ?_
    refine o_move rfl rfl ?_
    refine o_nil rfl rfl ?_
    refine o_fieldAddr (q := ⟨k, 3, none⟩) rfl rfl Try.underlying85 rfl ti62 rfl ?_
    refine o_load1 rfl rfl Try.underlying62 rfl (rd_mem 0 rfl rfl) ?_
    refine o_move rfl rfl ?_
    refine o_lookupD (kv := kvI) (vv := vvI) (b0 := 0) 1 rfl koI rfl rfl rfl Try.underlying62 ti3 ?_
    refine o_bin rfl rfl rfl (b_add rfl) ?_
    refine l_f1 ?_
    refine o_mapUpdate (q := i) (b := (IntKind.i64.wrap ((mget ld.prom i).getD 0 + 1))) koI rfl rfl rfl Try.underlying62 ?_
    refine l_nil ?_
    refine q_then ?_
    refine c_seq ?_
    refine c_region ?_
    refine o_move rfl rfl ?_
    refine o_len rfl rfl Try.underlying35 ?_
    refine o_move rfl rfl ?_
    refine l_nil ?_
    refine q_then ?_
    refine c_block ?_
    refine c_loop (α := Nat × (List (Int × Vt ByteArray))) (fun z => [(0, .pointer (some ⟨k, 0, none⟩)), (34, .slice a (vs).length c), (35, .int .i64 ((vs).length : Int)), (36, .int .i64 (z.1 : Int))]) (fun z => mapR kvI vvI m1_1 (mset ld.prom i (IntKind.i64.wrap ((mget ld.prom i).getD 0 + 1))) :: blk k (.cells #[.int .u64 ld.ballot, .int .i64 ld.voters, .int .i64 ld.slot, .map (some m1_1), .map (some m2_1), .slice a_1 (ld.off).length c_1, .map (some m3_1)] 85 (0, 0)) :: mapR kvI vvVS m2_1 z.2 :: mapR kvI vvI m3_1 ld.tak :: row e_S.T e_S.sz a_1 (ld.off).length c_1 (flat e_S ld.off) :: F) (fun z => z.2 = (vs.take z.1).foldl (upd z0S) ld.told ∧ z.1 ≤ vs.length) (fun z => vs.length - z.1) (0, ld.told) (by exact ⟨rfl, Nat.zero_le _⟩) ⟨(by first | rfl | exact vint (by omega)), (by first | rfl | exact vint (by omega)), (by first | rfl | exact vint (by omega)), (by first | rfl | exact vint (by omega)), trivial⟩ (fun w S => S) ?_
    rintro ⟨j, D⟩ ⟨hD, hj⟩
    try dsimp only at *
    refine c_seq ?_
    refine c_region ?_
    refine o_bin rfl rfl rfl b_lss ?_
    refine l_nil ?_
    refine q_then ?_
    refine c_seq ?_
    refine c_cond rfl (fun h4 => ?_) (fun h4 => ?_)
    · -- h4T
     have h4b := h4
     try simp only [decide_eq_true_eq] at h4
     refine c_skip ?_
     refine q_then ?_
     refine c_seq ?_
     refine c_block ?_
     refine c_seq ?_
     refine c_region ?_
     refine o_index eVS_ok rfl rfl rfl Try.underlying35 (by omega) (by omega) (rds_c (rds_c (rds_c (rds_c (rds_c hs))))) fun ad38 ead38 => ?_
     obtain ⟨x38, hx38⟩ : ∃ x, (vs)[((j : Int)).toNat]? = some x := ⟨_, List.getElem?_eq_getElem (by omega)⟩
     refine o_loadn (vs := eVS.cells x38) rfl rfl Try.underlying40 rfl ti40 (rdn_sl eVS_ok ead38 (rds_c (rds_c (rds_c (rds_c (rds_c hs))))) hx38) ?_
     refine o_alloc rfl ti40 fun b7 => ?_
     refine o_storen rfl rfl ti40 rfl rfl rfl rfl ?_
     refine l_nil ?_
     refine q_then ?_
     refine c_seq ?_
     refine c_held [blk b7 (.cells #[.int .i64 x38.Slot, .int .u64 x38.Ballot, .string x38.Value] 40 (0, 0)), mapR kvI vvI m1_1 (mset ld.prom i (IntKind.i64.wrap ((mget ld.prom i).getD 0 + 1))), blk k (.cells #[.int .u64 ld.ballot, .int .i64 ld.voters, .int .i64 ld.slot, .map (some m1_1), .map (some m2_1), .slice a_1 (ld.off).length c_1, .map (some m3_1)] 85 (0, 0)), mapR kvI vvVS m2_1 D, mapR kvI vvI m3_1 ld.tak, row e_S.T e_S.sz a_1 (ld.off).length c_1 (flat e_S ld.off)] (by kernel_rfl) rfl ?_
     refine h_take 0 rfl rfl (by kernel_rfl) (by kernel_rfl) (by kernel_rfl) (fun L0 => v_move rfl rfl) ?_
     refine h_take 1 rfl rfl (by kernel_rfl) (by kernel_rfl) (by kernel_rfl) (fun L0 => v_nil rfl rfl) ?_
     refine h_take 2 rfl rfl (by kernel_rfl) (by kernel_rfl) (by kernel_rfl) (fun L0 => v_fieldAddr (q := ⟨k, 4, none⟩) rfl rfl Try.underlying85 rfl ti82 rfl) ?_
     refine h_take 3 rfl rfl (by kernel_rfl) (by kernel_rfl) (by kernel_rfl) (fun L0 => v_load1 rfl rfl Try.underlying82 rfl (rd_mem 2 rfl rfl)) ?_
     refine h_take 4 rfl rfl (by kernel_rfl) (by kernel_rfl) (by kernel_rfl) (fun L0 => v_fieldAddr (q := ⟨b7, 0, none⟩) rfl rfl Try.underlying40 rfl ti3 rfl) ?_
     refine h_take 5 rfl rfl (by kernel_rfl) (by kernel_rfl) (by kernel_rfl) (fun L0 => v_load1 rfl rfl Try.underlying3 rfl (rd_mem 0 rfl rfl)) ?_
     refine h_take 6 rfl rfl (by kernel_rfl) (by kernel_rfl) (by kernel_rfl) (fun L0 => v_lookupDOk (kv := kvI) (vv := vvVS) (b0 := z0S) 3 rfl koI rfl rfl rfl Try.underlying82 ti40) ?_
     refine h_take 7 rfl rfl (by kernel_rfl) (by kernel_rfl) (by kernel_rfl) (fun L0 => v_move rfl rfl) ?_
     refine h_take 8 rfl rfl (by kernel_rfl) (by kernel_rfl) (by kernel_rfl) (fun L0 => v_extract rfl rfl rfl) ?_
     refine h_take 9 rfl rfl (by kernel_rfl) (by kernel_rfl) (by kernel_rfl) (fun L0 => v_extract rfl rfl rfl) ?_
     refine h_one 10 rfl (by kernel_rfl) ?_
     refine o_alloc rfl ti40 fun b8 => ?_
     refine l_nil ?_
     refine q_conv (fun w S => S.perm p6) ?_
     refine q_conv (fun w S => S.perm p6) ?_
     refine q_conv (fun w S => S.perm p6) ?_
     refine q_conv (fun w S => S.perm p6) ?_
     refine q_conv (fun w S => S.perm p6) ?_
     refine q_conv (fun w S => S.perm p6) ?_
     refine h_next ?_
     refine h_one 11 rfl (by kernel_rfl) ?_
     refine l_f6 ?_
     refine o_storen rfl rfl ti40 rfl rfl rfl rfl ?_
     refine l_nil ?_
     refine q_conv (fun w S => S.perm p6) ?_
     refine q_conv (fun w S => S.perm p6) ?_
     refine q_conv (fun w S => S.perm p6) ?_
     refine q_conv (fun w S => S.perm p6) ?_
     refine q_conv (fun w S => S.perm p6) ?_
     refine q_conv (fun w S => S.perm p6) ?_
     refine h_next ?_
     refine h_take 12 rfl rfl (by kernel_rfl) (by kernel_rfl) (by kernel_rfl) (fun L0 => v_assign rfl rfl) ?_
     refine h_done (by kernel_rfl) ?_
     refine q_then ?_
     refine c_seq ?_
     refine c_region ?_
     refine o_move rfl rfl ?_
     refine o_not rfl rfl ?_
     refine o_move rfl rfl ?_
     refine l_split (t := 52) rfl (fun h5 => ?_) (fun h5 => ?_)
     · -- h5T
      have h5b := h5
      try simp only [decide_eq_true_eq, decide_eq_false_iff_not, Bool.not_eq_eq_eq_not, Bool.not_true, Bool.not_false, Bool.not_eq_true', Bool.not_eq_false', Int.not_lt, Int.not_le, Bool.or_eq_true, Bool.and_eq_true] at h5
      refine o_no rfl rfl rfl rfl ?_
      refine o_no rfl rfl rfl rfl ?_
      refine o_no rfl rfl rfl rfl ?_
      refine o_no rfl rfl rfl rfl ?_
      refine o_no rfl rfl rfl rfl ?_
      refine o_pick_true rfl rfl rfl ?_
      refine l_nil ?_
      refine q_then ?_
      refine c_true rfl ?_
      refine c_conv (fun w S => S.perm p3) ?_
      refine c_conv (fun w S => S.perm p6) ?_
      refine c_conv (fun w S => S.perm p6) ?_
      refine c_conv (fun w S => S.perm p6) ?_
      refine c_conv (fun w S => S.perm p6) ?_
      refine c_conv (fun w S => S.perm p6) ?_
      refine c_conv (fun w S => S.perm p6) ?_
      refine c_held [blk b7 (.cells #[.int .i64 x38.Slot, .int .u64 x38.Ballot, .string x38.Value] 40 (0, 0)), mapR kvI vvI m1_1 (mset ld.prom i (IntKind.i64.wrap ((mget ld.prom i).getD 0 + 1))), blk k (.cells #[.int .u64 ld.ballot, .int .i64 ld.voters, .int .i64 ld.slot, .map (some m1_1), .map (some m2_1), .slice a_1 (ld.off).length c_1, .map (some m3_1)] 85 (0, 0)), mapR kvI vvI m3_1 ld.tak, row e_S.T e_S.sz a_1 (ld.off).length c_1 (flat e_S ld.off), blk b8 (.cells #[.int .i64 (((mget D x38.Slot).getD z0S).Slot), .int .u64 (((mget D x38.Slot).getD z0S).Ballot), .string (((mget D x38.Slot).getD z0S).Value)] 40 (0, 0))] (by kernel_rfl) rfl ?_
      refine h_take 0 rfl rfl (by kernel_rfl) (by kernel_rfl) (by kernel_rfl) (fun L0 => v_move rfl rfl) ?_
      refine h_take 1 rfl rfl (by kernel_rfl) (by kernel_rfl) (by kernel_rfl) (fun L0 => v_nil rfl rfl) ?_
      refine h_take 2 rfl rfl (by kernel_rfl) (by kernel_rfl) (by kernel_rfl) (fun L0 => v_fieldAddr (q := ⟨k, 4, none⟩) rfl rfl Try.underlying85 rfl ti82 rfl) ?_
      refine h_take 3 rfl rfl (by kernel_rfl) (by kernel_rfl) (by kernel_rfl) (fun L0 => v_load1 rfl rfl Try.underlying82 rfl (rd_mem 2 rfl rfl)) ?_
      refine h_take 4 rfl rfl (by kernel_rfl) (by kernel_rfl) (by kernel_rfl) (fun L0 => v_fieldAddr (q := ⟨b7, 0, none⟩) rfl rfl Try.underlying40 rfl ti3 rfl) ?_
      refine h_take 5 rfl rfl (by kernel_rfl) (by kernel_rfl) (by kernel_rfl) (fun L0 => v_load1 rfl rfl Try.underlying3 rfl (rd_mem 0 rfl rfl)) ?_
      refine h_take 6 rfl rfl (by kernel_rfl) (by kernel_rfl) (by kernel_rfl) (fun L0 => v_loadn (vs := [_, _, _]) rfl rfl Try.underlying40 rfl ti40 (rdn_lit 0 rfl rfl)) ?_
      refine h_one 7 rfl (by kernel_rfl) ?_
      refine l_f6 ?_
      refine o_mapUpdate (q := x38.Slot) (b := x38) koI rfl rfl rfl Try.underlying82 ?_
      refine l_nil ?_
      refine q_conv (fun w S => S.perm p6) ?_
      refine q_conv (fun w S => S.perm p6) ?_
      refine q_conv (fun w S => S.perm p6) ?_
      refine q_conv (fun w S => S.perm p6) ?_
      refine q_conv (fun w S => S.perm p6) ?_
      refine q_conv (fun w S => S.perm p6) ?_
      refine h_next ?_
      refine h_done (by kernel_rfl) ?_
      refine q_block ?_
      refine q_then ?_
      refine c_region ?_
      refine o_bin rfl rfl rfl (b_add (wrap_i64 (by omega) (by omega))) ?_
      refine o_move rfl rfl ?_
      refine l_nil ?_
      refine q_conv (fun w S => S.tail) ?_
      refine q_conv (fun w S => (S.perm p4).tail) ?_
      refine q_conv (fun w S => S.perm p3) ?_
      refine q_conv (fun w S => S.perm p3) ?_
      refine q_conv (fun w S => S.perm p4) ?_
      refine q_conv (fun w S => S.perm p4) ?_
      refine q_conv (fun w S => S.perm p4) ?_
      exact q_round (j + 1, mset D x38.Slot x38) (by exact ⟨by have hx9 : vs[j]? = some x38 := hx38; rw [take_foldl _ _ hx9, ← hD]; first | (simp [upd, *]; done) | grind [upd], by omega⟩) (by (try dsimp only); omega) ⟨(by first | rfl | exact vint (by omega)), (by first | rfl | exact vint (by omega)), (by first | rfl | exact vint (by omega)), (by first | rfl | exact vint (by omega)), trivial⟩ (fun w S => S)
     · -- h5F
      have h5b := h5
      try simp only [decide_eq_true_eq, decide_eq_false_iff_not, Bool.not_eq_eq_eq_not, Bool.not_true, Bool.not_false, Bool.not_eq_true', Bool.not_eq_false', Int.not_lt, Int.not_le, Bool.or_eq_true, Bool.and_eq_true] at h5
      refine o_yes rfl rfl rfl ?_
      refine o_fieldAddr (q := ⟨b7, 1, none⟩) rfl rfl Try.underlying40 rfl ti29 rfl ?_
      refine o_yes rfl rfl rfl ?_
      refine o_load1 rfl rfl Try.underlying29 rfl (rd_mem 0 rfl rfl) ?_
      refine o_yes rfl rfl rfl ?_
      refine o_fieldAddr (q := ⟨b8, 1, none⟩) rfl rfl Try.underlying40 rfl ti29 rfl ?_
      refine o_yes rfl rfl rfl ?_
      refine o_load1 rfl rfl Try.underlying29 rfl (rd_mem 6 rfl rfl) ?_
      refine o_yes rfl rfl rfl ?_
      refine o_bin rfl rfl rfl b_gtr ?_
      refine o_pick_false rfl rfl rfl ?_
      refine l_nil ?_
      refine q_then ?_
      refine c_cond rfl (fun h6 => ?_) (fun h6 => ?_)
      · -- h6T
       have h6b := h6
       try simp only [decide_eq_true_eq] at h6
       refine c_conv (fun w S => S.perm p3) ?_
       refine c_conv (fun w S => S.perm p6) ?_
       refine c_conv (fun w S => S.perm p6) ?_
       refine c_conv (fun w S => S.perm p6) ?_
       refine c_conv (fun w S => S.perm p6) ?_
       refine c_conv (fun w S => S.perm p6) ?_
       refine c_conv (fun w S => S.perm p6) ?_
       refine c_held [blk b7 (.cells #[.int .i64 x38.Slot, .int .u64 x38.Ballot, .string x38.Value] 40 (0, 0)), mapR kvI vvI m1_1 (mset ld.prom i (IntKind.i64.wrap ((mget ld.prom i).getD 0 + 1))), blk k (.cells #[.int .u64 ld.ballot, .int .i64 ld.voters, .int .i64 ld.slot, .map (some m1_1), .map (some m2_1), .slice a_1 (ld.off).length c_1, .map (some m3_1)] 85 (0, 0)), mapR kvI vvI m3_1 ld.tak, row e_S.T e_S.sz a_1 (ld.off).length c_1 (flat e_S ld.off), blk b8 (.cells #[.int .i64 (((mget D x38.Slot).getD z0S).Slot), .int .u64 (((mget D x38.Slot).getD z0S).Ballot), .string (((mget D x38.Slot).getD z0S).Value)] 40 (0, 0))] (by kernel_rfl) rfl ?_
       refine h_take 0 rfl rfl (by kernel_rfl) (by kernel_rfl) (by kernel_rfl) (fun L0 => v_move rfl rfl) ?_
       refine h_take 1 rfl rfl (by kernel_rfl) (by kernel_rfl) (by kernel_rfl) (fun L0 => v_nil rfl rfl) ?_
       refine h_take 2 rfl rfl (by kernel_rfl) (by kernel_rfl) (by kernel_rfl) (fun L0 => v_fieldAddr (q := ⟨k, 4, none⟩) rfl rfl Try.underlying85 rfl ti82 rfl) ?_
       refine h_take 3 rfl rfl (by kernel_rfl) (by kernel_rfl) (by kernel_rfl) (fun L0 => v_load1 rfl rfl Try.underlying82 rfl (rd_mem 2 rfl rfl)) ?_
       refine h_take 4 rfl rfl (by kernel_rfl) (by kernel_rfl) (by kernel_rfl) (fun L0 => v_fieldAddr (q := ⟨b7, 0, none⟩) rfl rfl Try.underlying40 rfl ti3 rfl) ?_
       refine h_take 5 rfl rfl (by kernel_rfl) (by kernel_rfl) (by kernel_rfl) (fun L0 => v_load1 rfl rfl Try.underlying3 rfl (rd_mem 0 rfl rfl)) ?_
       refine h_take 6 rfl rfl (by kernel_rfl) (by kernel_rfl) (by kernel_rfl) (fun L0 => v_loadn (vs := [_, _, _]) rfl rfl Try.underlying40 rfl ti40 (rdn_lit 0 rfl rfl)) ?_
       refine h_one 7 rfl (by kernel_rfl) ?_
       refine l_f6 ?_
       refine o_mapUpdate (q := x38.Slot) (b := x38) koI rfl rfl rfl Try.underlying82 ?_
       refine l_nil ?_
       refine q_conv (fun w S => S.perm p6) ?_
       refine q_conv (fun w S => S.perm p6) ?_
       refine q_conv (fun w S => S.perm p6) ?_
       refine q_conv (fun w S => S.perm p6) ?_
       refine q_conv (fun w S => S.perm p6) ?_
       refine q_conv (fun w S => S.perm p6) ?_
       refine h_next ?_
       refine h_done (by kernel_rfl) ?_
       refine q_block ?_
       refine q_then ?_
       refine c_region ?_
       refine o_bin rfl rfl rfl (b_add (wrap_i64 (by omega) (by omega))) ?_
       refine o_move rfl rfl ?_
       refine l_nil ?_
       refine q_conv (fun w S => S.tail) ?_
       refine q_conv (fun w S => (S.perm p4).tail) ?_
       refine q_conv (fun w S => S.perm p3) ?_
       refine q_conv (fun w S => S.perm p3) ?_
       refine q_conv (fun w S => S.perm p4) ?_
       refine q_conv (fun w S => S.perm p4) ?_
       refine q_conv (fun w S => S.perm p4) ?_
       exact q_round (j + 1, mset D x38.Slot x38) (by exact ⟨by have hx9 : vs[j]? = some x38 := hx38; rw [take_foldl _ _ hx9, ← hD]; first | (simp [upd, *]; done) | grind [upd], by omega⟩) (by (try dsimp only); omega) ⟨(by first | rfl | exact vint (by omega)), (by first | rfl | exact vint (by omega)), (by first | rfl | exact vint (by omega)), (by first | rfl | exact vint (by omega)), trivial⟩ (fun w S => S)
      · -- h6F
       have h6b := h6
       try simp only [decide_eq_false_iff_not, Int.not_lt, Int.not_le] at h6
       refine c_skip ?_
       refine q_block ?_
       refine q_then ?_
       refine c_region ?_
       refine o_bin rfl rfl rfl (b_add (wrap_i64 (by omega) (by omega))) ?_
       refine o_move rfl rfl ?_
       refine l_nil ?_
       refine q_conv (fun w S => S.tail) ?_
       refine q_conv (fun w S => (S.perm p5).tail) ?_
       exact q_round (j + 1, D) (by exact ⟨by have hx9 : vs[j]? = some x38 := hx38; rw [take_foldl _ _ hx9, ← hD]; first | (simp [upd, *]; done) | grind [upd], by omega⟩) (by (try dsimp only); omega) ⟨(by first | rfl | exact vint (by omega)), (by first | rfl | exact vint (by omega)), (by first | rfl | exact vint (by omega)), (by first | rfl | exact vint (by omega)), trivial⟩ (fun w S => S)
    · -- h4F
     have h4b := h4
     try simp only [decide_eq_false_iff_not, Int.not_lt, Int.not_le] at h4
     obtain rfl : j = vs.length := by omega
     rw [List.take_length] at hD
     refine c_exit ?_
     refine q_pass_exit ?_
     refine q_pass_exit ?_
     refine q_hit ?_
     refine q_conv (fun w S => S.perm p4) ?_
     refine q_conv (fun w S => S.perm p4) ?_
     refine q_conv (fun w S => S.perm p4) ?_
     refine q_conv (fun w S => S.perm p3) ?_
     refine q_conv (fun w S => S.perm p4) ?_
     refine q_conv (L' := LdR k ⟨ld.ballot, ld.voters, ld.slot, mset ld.prom i (IntKind.i64.wrap ((mget ld.prom i).getD 0 + 1)), D, ld.off, ld.tak⟩ :: _) (fun w S => Sat.obj_mk ⟨m1_1, m2_1, m3_1, a_1, c_1⟩ (by obtain ⟨o1, o2, o3, o4⟩ := ok_1; exact ⟨by (try dsimp only); omega, by (try dsimp only); omega, by (try dsimp only); omega, by (try dsimp only); omega⟩) S) ?_
     exact f_end (r_none rfl) (⟨rfl, rfl⟩) (by rw [show ld.promised z0S i vs = ⟨ld.ballot, ld.voters, ld.slot, mset ld.prom i (IntKind.i64.wrap ((mget ld.prom i).getD 0 + 1)), D, ld.off, ld.tak⟩ from by grind [LdS.promised, LdS.voter, inc]]; exact fun w S => S)

theorem valueI {W : World} {F : List Res} {k : Nat} {ld : LdS Int} : CS Try.prog 29 #[.pointer (some ⟨k, 0, none⟩)] W (LdRI k ld :: F) (fun r L' => r = .tuple #[.int .i64 ((ld.value (0 : Int)).1), .bool (ld.value (0 : Int)).2] ∧ L' = LdRI k ld :: F) := by
 refine f_door (l0 := [(0, .pointer (some ⟨k, 0, none⟩))]) Try.func29 Try.ntmps29 rfl rfl rfl ?_
 refine c_seq ?_
 refine c_region ?_
 refine o_assign rfl rfl ?_
 refine o_assign rfl rfl ?_
 refine l_nil ?_
 refine q_then ?_
 refine c_seq ?_
 refine c_seq ?_
 refine c_region ?_
 refine o_move rfl rfl ?_
 refine o_call rfl cal30 rfl (leadsI) ?_
 rintro _ _ ⟨rfl, rfl⟩
 refine o_not rfl rfl ?_
 refine o_move rfl rfl ?_
 refine l_split (t := 11) rfl (fun h1 => ?_) (fun h1 => ?_)
 · -- h1T
  have h1b := h1
  try simp only [decide_eq_true_eq, decide_eq_false_iff_not, Bool.not_eq_eq_eq_not, Bool.not_true, Bool.not_false, Bool.not_eq_true', Bool.not_eq_false', Int.not_lt, Int.not_le, Bool.or_eq_true, Bool.and_eq_true] at h1
  refine o_no rfl rfl rfl rfl ?_
  refine o_no rfl rfl rfl rfl ?_
  refine o_no rfl rfl rfl rfl ?_
  refine o_no rfl rfl rfl rfl ?_
  refine o_no rfl rfl rfl rfl ?_
  refine o_pick_true rfl rfl rfl ?_
  refine l_nil ?_
  refine q_then ?_
  refine c_true rfl ?_
  refine c_seq ?_
  refine c_region ?_
  refine o_move rfl rfl ?_
  refine o_assign rfl rfl ?_
  refine o_assign rfl rfl ?_
  refine l_nil ?_
  refine q_then ?_
  refine c_ret ?_
  refine q_pass_ret ?_
  have hv : ld.value (0 : Int) = (0, false) := by (try rw [bae]); unfold LdS.value; cases hm : mget ld.told ld.slot <;> cases ho : ld.off <;> first | (simp_all; done) | grind
  exact f_ret (r_two rfl rfl rfl) (⟨(by rw [hv] <;> rfl), rfl⟩) (fun w S => S)
 · -- h1F
  have h1b := h1
  try simp only [decide_eq_true_eq, decide_eq_false_iff_not, Bool.not_eq_eq_eq_not, Bool.not_true, Bool.not_false, Bool.not_eq_true', Bool.not_eq_false', Int.not_lt, Int.not_le, Bool.or_eq_true, Bool.and_eq_true] at h1
  refine o_yes rfl rfl rfl ?_
  refine o_move rfl rfl ?_
  refine o_yes rfl rfl rfl ?_
  refine o_nil rfl rfl ?_
  refine o_yes rfl rfl rfl ?_
  refine l_obj ?_
  rintro ⟨m1_1, m2_1, m3_1, a_1, c_1⟩ ok_1
  have s0_ok_1 := ok_1.s0
  have s1_ok_1 := ok_1.s1
  have v0_ok_1 := ok_1.v0
  have v1_ok_1 := ok_1.v1
  refine l_conv (L' := blk k (.cells #[.int .u64 ld.ballot, .int .i64 ld.voters, .int .i64 ld.slot, .map (some m1_1), .map (some m2_1), .slice a_1 (ld.off).length c_1, .map (some m3_1)] 93 (0, 0)) :: mapR kvI vvI m1_1 ld.prom :: mapR kvI vvVI m2_1 ld.told :: mapR kvI vvI m3_1 ld.tak :: row e_I.T e_I.sz a_1 (ld.off).length c_1 (flat e_I ld.off) :: _) (fun w S => S) ?_
  refine o_fieldAddr (q := ⟨k, 2, none⟩) rfl rfl Try.underlying93 rfl ti3 rfl ?_
  refine o_yes rfl rfl rfl ?_
  refine o_load1 rfl rfl Try.underlying3 rfl (rd_mem 0 rfl rfl) ?_
  refine o_yes rfl rfl rfl ?_
  refine o_bin rfl rfl rfl b_geq ?_
  refine o_pick_false rfl rfl rfl ?_
  refine l_nil ?_
  refine q_then ?_
  refine c_cond rfl (fun h2 => ?_) (fun h2 => ?_)
  · -- h2T
   have h2b := h2
   try simp only [decide_eq_true_eq] at h2
   refine c_seq ?_
   refine c_region ?_
   refine o_move rfl rfl ?_
   refine o_assign rfl rfl ?_
   refine o_assign rfl rfl ?_
   refine l_nil ?_
   refine q_then ?_
   refine c_ret ?_
   refine q_pass_ret ?_
   have hv : ld.value (0 : Int) = (0, false) := by (try rw [bae]); unfold LdS.value; cases hm : mget ld.told ld.slot <;> cases ho : ld.off <;> first | (simp_all; done) | grind
   refine q_conv (L' := LdRI k ld :: _) (fun w S => Sat.obj_mk ⟨m1_1, m2_1, m3_1, a_1, c_1⟩ ok_1 S) ?_
   exact f_ret (r_two rfl rfl rfl) (⟨(by rw [hv] <;> rfl), rfl⟩) (fun w S => S)
  · -- h2F
   have h2b := h2
   try simp only [decide_eq_false_iff_not, Int.not_lt, Int.not_le] at h2
   refine c_skip ?_
   refine q_then ?_
   refine c_seq ?_
   refine c_seq ?_
   refine c_held [blk k (.cells #[.int .u64 ld.ballot, .int .i64 ld.voters, .int .i64 ld.slot, .map (some m1_1), .map (some m2_1), .slice a_1 (ld.off).length c_1, .map (some m3_1)] 93 (0, 0)), mapR kvI vvI m1_1 ld.prom, mapR kvI vvVI m2_1 ld.told, mapR kvI vvI m3_1 ld.tak, row e_I.T e_I.sz a_1 (ld.off).length c_1 (flat e_I ld.off)] (by kernel_rfl) rfl ?_
   refine h_take 0 rfl rfl (by kernel_rfl) (by kernel_rfl) (by kernel_rfl) (fun L0 => v_move rfl rfl) ?_
   refine h_take 1 rfl rfl (by kernel_rfl) (by kernel_rfl) (by kernel_rfl) (fun L0 => v_nil rfl rfl) ?_
   refine h_take 2 rfl rfl (by kernel_rfl) (by kernel_rfl) (by kernel_rfl) (fun L0 => v_fieldAddr (q := ⟨k, 4, none⟩) rfl rfl Try.underlying93 rfl ti90 rfl) ?_
   refine h_take 3 rfl rfl (by kernel_rfl) (by kernel_rfl) (by kernel_rfl) (fun L0 => v_load1 rfl rfl Try.underlying90 rfl (rd_mem 0 rfl rfl)) ?_
   refine h_take 4 rfl rfl (by kernel_rfl) (by kernel_rfl) (by kernel_rfl) (fun L0 => v_move rfl rfl) ?_
   refine h_take 5 rfl rfl (by kernel_rfl) (by kernel_rfl) (by kernel_rfl) (fun L0 => v_nil rfl rfl) ?_
   refine h_take 6 rfl rfl (by kernel_rfl) (by kernel_rfl) (by kernel_rfl) (fun L0 => v_fieldAddr (q := ⟨k, 2, none⟩) rfl rfl Try.underlying93 rfl ti3 rfl) ?_
   refine h_take 7 rfl rfl (by kernel_rfl) (by kernel_rfl) (by kernel_rfl) (fun L0 => v_load1 rfl rfl Try.underlying3 rfl (rd_mem 0 rfl rfl)) ?_
   refine h_take 8 rfl rfl (by kernel_rfl) (by kernel_rfl) (by kernel_rfl) (fun L0 => v_lookupDOk (kv := kvI) (vv := vvVI) (b0 := z0I) 2 rfl koI rfl rfl rfl Try.underlying90 ti72) ?_
   refine h_take 9 rfl rfl (by kernel_rfl) (by kernel_rfl) (by kernel_rfl) (fun L0 => v_move rfl rfl) ?_
   refine h_take 10 rfl rfl (by kernel_rfl) (by kernel_rfl) (by kernel_rfl) (fun L0 => v_extract rfl rfl rfl) ?_
   refine h_take 11 rfl rfl (by kernel_rfl) (by kernel_rfl) (by kernel_rfl) (fun L0 => v_extract rfl rfl rfl) ?_
   refine h_one 12 rfl (by kernel_rfl) ?_
   refine o_alloc rfl ti72 fun b4 => ?_
   refine l_nil ?_
   refine q_conv (fun w S => S.perm p5) ?_
   refine q_conv (fun w S => S.perm p5) ?_
   refine q_conv (fun w S => S.perm p5) ?_
   refine q_conv (fun w S => S.perm p5) ?_
   refine q_conv (fun w S => S.perm p5) ?_
   refine h_next ?_
   refine h_one 13 rfl (by kernel_rfl) ?_
   refine l_f5 ?_
   refine o_storen rfl rfl ti72 rfl rfl rfl rfl ?_
   refine l_nil ?_
   refine q_conv (fun w S => S.perm p5) ?_
   refine q_conv (fun w S => S.perm p5) ?_
   refine q_conv (fun w S => S.perm p5) ?_
   refine q_conv (fun w S => S.perm p5) ?_
   refine q_conv (fun w S => S.perm p5) ?_
   refine h_next ?_
   refine h_take 14 rfl rfl (by kernel_rfl) (by kernel_rfl) (by kernel_rfl) (fun L0 => v_assign rfl rfl) ?_
   refine h_done (by kernel_rfl) ?_
   refine q_then ?_
   refine c_seq ?_
   refine c_region ?_
   refine o_move rfl rfl ?_
   refine l_nil ?_
   refine q_then ?_
   refine c_cond rfl (fun h3 => ?_) (fun h3 => ?_)
   · -- h3T
    have h3b := h3
    try simp only [decide_eq_true_eq, decide_eq_false_iff_not, Bool.not_eq_eq_eq_not, Bool.not_true, Bool.not_false, Bool.not_eq_true', Bool.not_eq_false', Int.not_lt, Int.not_le, Bool.or_eq_true, Bool.and_eq_true] at h3
    refine c_seq ?_
    refine c_region ?_
    refine o_fieldAddr (q := ⟨b4, 2, none⟩) rfl rfl Try.underlying72 rfl ti3 rfl ?_
    refine o_load1 rfl rfl Try.underlying3 rfl (rd_mem 5 rfl rfl) ?_
    refine o_assign rfl rfl ?_
    refine o_assign rfl rfl ?_
    refine l_nil ?_
    refine q_then ?_
    refine c_ret ?_
    refine q_pass_ret ?_
    have hv : ld.value (0 : Int) = (((mget ld.told ld.slot).getD z0I).Value, true) := by (try rw [bae]); unfold LdS.value; cases hm : mget ld.told ld.slot <;> cases ho : ld.off <;> first | (simp_all; done) | grind
    refine q_conv (L' := LdRI k ld :: _) (fun w S => Sat.obj_mk ⟨m1_1, m2_1, m3_1, a_1, c_1⟩ ok_1 S) ?_
    refine q_conv (fun w S => (S.perm p1).tail) ?_
    exact f_ret (r_two rfl rfl rfl) (⟨(by rw [hv] <;> rfl), rfl⟩) (fun w S => S)
   · -- h3F
    have h3b := h3
    try simp only [decide_eq_true_eq, decide_eq_false_iff_not, Bool.not_eq_eq_eq_not, Bool.not_true, Bool.not_false, Bool.not_eq_true', Bool.not_eq_false', Int.not_lt, Int.not_le, Bool.or_eq_true, Bool.and_eq_true] at h3
    refine c_skip ?_
    refine q_then ?_
    refine c_seq ?_
    refine c_seq ?_
    refine c_region ?_
    refine o_move rfl rfl ?_
    refine o_nil rfl rfl ?_
    refine o_fieldAddr (q := ⟨k, 5, none⟩) rfl rfl Try.underlying93 rfl ti91 rfl ?_
    refine o_load1 rfl rfl Try.underlying91 rfl (rd_mem 0 rfl rfl) ?_
    refine o_len rfl rfl Try.underlying91 ?_
    refine o_move rfl rfl ?_
    refine l_nil ?_
    refine q_then ?_
    refine c_block ?_
    refine c_loop (α := Unit) (fun z => [(2, .int .i64 0), (37, .slice a_1 (ld.off).length c_1), (38, .int .i64 ((ld.off).length : Int)), (39, .int .i64 (0 : Int))]) (fun z => blk k (.cells #[.int .u64 ld.ballot, .int .i64 ld.voters, .int .i64 ld.slot, .map (some m1_1), .map (some m2_1), .slice a_1 (ld.off).length c_1, .map (some m3_1)] 93 (0, 0)) :: mapR kvI vvI m1_1 ld.prom :: mapR kvI vvVI m2_1 ld.told :: mapR kvI vvI m3_1 ld.tak :: row e_I.T e_I.sz a_1 (ld.off).length c_1 (flat e_I ld.off) :: blk b4 (.cells #[.int .i64 (((mget ld.told ld.slot).getD z0I).Slot), .int .u64 (((mget ld.told ld.slot).getD z0I).Ballot), .int .i64 (((mget ld.told ld.slot).getD z0I).Value)] 72 (0, 0)) :: F) (fun z => True) (fun z => 0) () (by trivial) ⟨(by first | rfl | exact vint (by omega)), (by first | rfl | exact vint (by omega)), (by first | rfl | exact vint (by omega)), (by first | rfl | exact vint (by omega)), trivial⟩ (fun w S => S) ?_
    rintro _ hp
    try dsimp only at *
    refine c_seq ?_
    refine c_region ?_
    refine o_bin rfl rfl rfl b_lss ?_
    refine l_nil ?_
    refine q_then ?_
    refine c_seq ?_
    refine c_cond rfl (fun h4 => ?_) (fun h4 => ?_)
    · -- h4T
     have h4b := h4
     try simp only [decide_eq_true_eq] at h4
     refine c_skip ?_
     refine q_then ?_
     refine c_seq ?_
     refine c_block ?_
     refine c_seq ?_
     refine c_region ?_
     refine o_index e_I_ok rfl rfl rfl Try.underlying91 (by omega) (by omega) (rds_own e_I_ok 4 rfl) fun ad41 ead41 => ?_
     obtain ⟨x41, hx41⟩ : ∃ x, (ld.off)[((0 : Int)).toNat]? = some x := ⟨_, List.getElem?_eq_getElem (by omega)⟩
     refine o_load1 rfl rfl Try.underlying3 rfl (rd_sl0 e_I_ok ead41 (rds_own e_I_ok 4 rfl) hx41 rfl) ?_
     refine o_assign rfl rfl ?_
     refine l_nil ?_
     refine q_then ?_
     refine c_seq ?_
     refine c_region ?_
     refine o_move rfl rfl ?_
     refine o_assign rfl rfl ?_
     refine o_assign rfl rfl ?_
     refine l_nil ?_
     refine q_then ?_
     refine c_ret ?_
     refine q_block_ret ?_
     refine q_pass_ret ?_
     refine q_pass_ret ?_
     refine q_block_ret ?_
     refine q_pass_ret ?_
     have hv : ld.value (0 : Int) = (x41, true) := by (try rw [bae]); unfold LdS.value; cases hm : mget ld.told ld.slot <;> cases ho : ld.off <;> first | (simp_all; done) | grind
     refine q_conv (L' := LdRI k ld :: _) (fun w S => Sat.obj_mk ⟨m1_1, m2_1, m3_1, a_1, c_1⟩ ok_1 S) ?_
     refine q_conv (fun w S => (S.perm p1).tail) ?_
     exact f_ret (r_two rfl rfl rfl) (⟨(by rw [hv] <;> rfl), rfl⟩) (fun w S => S)
    · -- h4F
     have h4b := h4
     try simp only [decide_eq_false_iff_not, Int.not_lt, Int.not_le] at h4
     refine c_exit ?_
     refine q_pass_exit ?_
     refine q_pass_exit ?_
     refine q_hit ?_
     refine q_then ?_
     refine c_seq ?_
     refine c_region ?_
     refine o_move rfl rfl ?_
     refine o_assign rfl rfl ?_
     refine o_assign rfl rfl ?_
     refine l_nil ?_
     refine q_then ?_
     refine c_ret ?_
     have hv : ld.value (0 : Int) = (0, false) := by (try rw [bae]); unfold LdS.value; cases hm : mget ld.told ld.slot <;> cases ho : ld.off <;> first | (simp_all; done) | grind
     refine q_conv (L' := LdRI k ld :: _) (fun w S => Sat.obj_mk ⟨m1_1, m2_1, m3_1, a_1, c_1⟩ ok_1 S) ?_
     refine q_conv (fun w S => (S.perm p1).tail) ?_
     exact f_ret (r_two rfl rfl rfl) (⟨(by rw [hv] <;> rfl), rfl⟩) (fun w S => S)

theorem offerI {W : World} {F : List Res} {k : Nat} {ld : LdS Int} {x : Int} : CS Try.prog 25 #[.pointer (some ⟨k, 0, none⟩), .int .i64 x] W (LdRI k ld :: F) (fun r L' => r = .bool (ld.offer (0 : Int) x).1 ∧ L' = LdRI k (ld.offer (0 : Int) x).2 :: F) := by
 refine f_door (l0 := [(0, .pointer (some ⟨k, 0, none⟩)), (1, .int .i64 x)]) Try.func25 Try.ntmps25 rfl rfl rfl ?_
 refine c_seq ?_
 refine c_region ?_
 refine o_assign rfl rfl ?_
 refine l_nil ?_
 refine q_then ?_
 refine c_seq ?_
 refine c_seq ?_
 refine c_region ?_
 refine o_move rfl rfl ?_
 refine o_call rfl cal29 rfl (valueI) ?_
 rintro _ _ ⟨rfl, rfl⟩
 refine o_move rfl rfl ?_
 refine o_extract rfl rfl rfl ?_
 refine o_extract rfl rfl rfl ?_
 refine o_assign rfl rfl ?_
 refine o_assign rfl rfl ?_
 refine l_nil ?_
 refine q_then ?_
 refine c_seq ?_
 refine c_region ?_
 refine o_move rfl rfl ?_
 refine o_move rfl rfl ?_
 refine l_split (t := 13) rfl (fun h1 => ?_) (fun h1 => ?_)
 · -- h1T
  have h1b := h1
  try simp only [decide_eq_true_eq, decide_eq_false_iff_not, Bool.not_eq_eq_eq_not, Bool.not_true, Bool.not_false, Bool.not_eq_true', Bool.not_eq_false', Int.not_lt, Int.not_le, Bool.or_eq_true, Bool.and_eq_true] at h1
  refine o_no rfl rfl rfl rfl ?_
  refine o_no rfl rfl rfl rfl ?_
  refine o_no rfl rfl rfl rfl ?_
  refine o_pick_true rfl rfl rfl ?_
  refine o_move rfl rfl ?_
  refine o_no rfl rfl rfl rfl ?_
  refine o_no rfl rfl rfl rfl ?_
  refine o_no rfl rfl rfl rfl ?_
  refine o_no rfl rfl rfl rfl ?_
  refine o_no rfl rfl rfl rfl ?_
  refine o_pick_true rfl rfl rfl ?_
  refine l_nil ?_
  refine q_then ?_
  refine c_true rfl ?_
  refine c_seq ?_
  refine c_region ?_
  refine o_assign rfl rfl ?_
  refine l_nil ?_
  refine q_then ?_
  refine c_ret ?_
  refine q_pass_ret ?_
  exact f_ret (r_one rfl rfl) (⟨by grind [LdS.offer], by grind [LdS.offer]⟩) (fun w S => S)
 · -- h1F
  have h1b := h1
  try simp only [decide_eq_true_eq, decide_eq_false_iff_not, Bool.not_eq_eq_eq_not, Bool.not_true, Bool.not_false, Bool.not_eq_true', Bool.not_eq_false', Int.not_lt, Int.not_le, Bool.or_eq_true, Bool.and_eq_true] at h1
  refine o_yes rfl rfl rfl ?_
  refine o_move rfl rfl ?_
  refine o_yes rfl rfl rfl ?_
  refine o_call rfl cal30 rfl (leadsI) ?_
  rintro _ _ ⟨rfl, rfl⟩
  refine o_yes rfl rfl rfl ?_
  refine o_not rfl rfl ?_
  refine o_pick_false rfl rfl rfl ?_
  refine o_move rfl rfl ?_
  refine l_split (t := 18) rfl (fun h2 => ?_) (fun h2 => ?_)
  · -- h2T
   have h2b := h2
   try simp only [decide_eq_true_eq, decide_eq_false_iff_not, Bool.not_eq_eq_eq_not, Bool.not_true, Bool.not_false, Bool.not_eq_true', Bool.not_eq_false', Int.not_lt, Int.not_le, Bool.or_eq_true, Bool.and_eq_true] at h2
   refine o_no rfl rfl rfl rfl ?_
   refine o_no rfl rfl rfl rfl ?_
   refine o_no rfl rfl rfl rfl ?_
   refine o_no rfl rfl rfl rfl ?_
   refine o_no rfl rfl rfl rfl ?_
   refine o_pick_true rfl rfl rfl ?_
   refine l_nil ?_
   refine q_then ?_
   refine c_true rfl ?_
   refine c_seq ?_
   refine c_region ?_
   refine o_assign rfl rfl ?_
   refine l_nil ?_
   refine q_then ?_
   refine c_ret ?_
   refine q_pass_ret ?_
   exact f_ret (r_one rfl rfl) (⟨by grind [LdS.offer], by grind [LdS.offer]⟩) (fun w S => S)
  · -- h2F
   have h2b := h2
   try simp only [decide_eq_true_eq, decide_eq_false_iff_not, Bool.not_eq_eq_eq_not, Bool.not_true, Bool.not_false, Bool.not_eq_true', Bool.not_eq_false', Int.not_lt, Int.not_le, Bool.or_eq_true, Bool.and_eq_true] at h2
   refine o_yes rfl rfl rfl ?_
   refine o_move rfl rfl ?_
   refine o_yes rfl rfl rfl ?_
   refine o_nil rfl rfl ?_
   refine o_yes rfl rfl rfl ?_
   refine l_obj ?_
   rintro ⟨m1_1, m2_1, m3_1, a_1, c_1⟩ ok_1
   have s0_ok_1 := ok_1.s0
   have s1_ok_1 := ok_1.s1
   have v0_ok_1 := ok_1.v0
   have v1_ok_1 := ok_1.v1
   refine l_conv (L' := blk k (.cells #[.int .u64 ld.ballot, .int .i64 ld.voters, .int .i64 ld.slot, .map (some m1_1), .map (some m2_1), .slice a_1 (ld.off).length c_1, .map (some m3_1)] 93 (0, 0)) :: mapR kvI vvI m1_1 ld.prom :: mapR kvI vvVI m2_1 ld.told :: mapR kvI vvI m3_1 ld.tak :: row e_I.T e_I.sz a_1 (ld.off).length c_1 (flat e_I ld.off) :: _) (fun w S => S) ?_
   refine o_fieldAddr (q := ⟨k, 2, none⟩) rfl rfl Try.underlying93 rfl ti3 rfl ?_
   refine o_yes rfl rfl rfl ?_
   refine o_load1 rfl rfl Try.underlying3 rfl (rd_mem 0 rfl rfl) ?_
   refine o_yes rfl rfl rfl ?_
   refine o_bin rfl rfl rfl b_geq ?_
   refine o_pick_false rfl rfl rfl ?_
   refine l_nil ?_
   refine q_then ?_
   refine c_cond rfl (fun h3 => ?_) (fun h3 => ?_)
   · -- h3T
    have h3b := h3
    try simp only [decide_eq_true_eq] at h3
    refine c_seq ?_
    refine c_region ?_
    refine o_assign rfl rfl ?_
    refine l_nil ?_
    refine q_then ?_
    refine c_ret ?_
    refine q_pass_ret ?_
    refine q_conv (L' := LdRI k ld :: _) (fun w S => Sat.obj_mk ⟨m1_1, m2_1, m3_1, a_1, c_1⟩ ok_1 S) ?_
    exact f_ret (r_one rfl rfl) (⟨by grind [LdS.offer], by grind [LdS.offer]⟩) (fun w S => S)
   · -- h3F
    have h3b := h3
    try simp only [decide_eq_false_iff_not, Int.not_lt, Int.not_le] at h3
    refine c_skip ?_
    refine q_then ?_
    refine c_seq ?_
    refine c_region ?_
    refine o_move rfl rfl ?_
    refine o_move rfl rfl ?_
    refine o_lit e_I_ok rfl Try.underlying91 rfl rfl rfl (lit_ok rfl) [x] rfl rfl fun a27 => ?_
    refine o_nil rfl rfl ?_
    refine o_fieldAddr (q := ⟨k, 5, none⟩) rfl rfl Try.underlying93 rfl ti91 rfl ?_
    refine l_f1 ?_
    refine o_store1 rfl rfl rfl ti91 rfl rfl ?_
    refine l_nil ?_
    refine q_then ?_
    refine c_seq ?_
    refine c_region ?_
    refine o_assign rfl rfl ?_
    refine l_nil ?_
    refine q_then ?_
    refine c_ret ?_
    refine q_conv (fun w S => S.perm p5) ?_
    refine q_conv (fun w S => S.perm p2) ?_
    refine q_conv (fun w S => S.perm p5) ?_
    refine q_conv (fun w S => S.perm p5) ?_
    refine q_conv (fun w S => S.perm p5) ?_
    refine q_conv (fun w S => S.perm p5) ?_
    refine q_conv (L' := LdRI k ⟨ld.ballot, ld.voters, ld.slot, ld.prom, ld.told, [x], ld.tak⟩ :: _) (fun w S => Sat.obj_mk ⟨m1_1, m2_1, m3_1, a27, 1⟩ (by obtain ⟨o1, o2, o3, o4⟩ := ok_1; exact ⟨by (try dsimp only); omega, by (try dsimp only); omega, by (try dsimp only); omega, by (try dsimp only); omega⟩) S) ?_
    refine q_conv (fun w S => (S.perm p1).tail) ?_
    exact f_ret (r_one rfl rfl) (⟨by grind [LdS.offer], rfl⟩) (by rw [show (ld.offer (0 : Int) x).2 = ⟨ld.ballot, ld.voters, ld.slot, ld.prom, ld.told, [x], ld.tak⟩ from by grind [LdS.offer]]; exact fun w S => S)

theorem takenI {W : World} {F : List Res} {k : Nat} {ld : LdS Int} {i sl : Int} : CS Try.prog 27 #[.pointer (some ⟨k, 0, none⟩), .int .i64 i, .int .i64 sl] W (LdRI k ld :: F) (fun r L' => r = .tuple #[.int .i64 ((ld.taken (0 : Int) i sl).1.1), .bool (ld.taken (0 : Int) i sl).1.2] ∧ L' = LdRI k (ld.taken (0 : Int) i sl).2 :: F) := by
 refine f_door (l0 := [(0, .pointer (some ⟨k, 0, none⟩)), (1, .int .i64 i), (2, .int .i64 sl)]) Try.func27 Try.ntmps27 rfl rfl rfl ?_
 refine c_seq ?_
 refine c_region ?_
 refine o_assign rfl rfl ?_
 refine o_assign rfl rfl ?_
 refine l_nil ?_
 refine q_then ?_
 refine c_seq ?_
 refine c_region ?_
 refine o_move rfl rfl ?_
 refine o_call rfl cal29 rfl (valueI) ?_
 rintro _ _ ⟨rfl, rfl⟩
 refine o_move rfl rfl ?_
 refine o_extract rfl rfl rfl ?_
 refine o_extract rfl rfl rfl ?_
 refine o_assign rfl rfl ?_
 refine o_assign rfl rfl ?_
 refine l_nil ?_
 refine q_then ?_
 refine c_seq ?_
 refine c_seq ?_
 refine c_region ?_
 refine o_move rfl rfl ?_
 refine o_not rfl rfl ?_
 refine o_move rfl rfl ?_
 refine l_split (t := 17) rfl (fun h1 => ?_) (fun h1 => ?_)
 · -- h1T
  have h1b := h1
  try simp only [decide_eq_true_eq, decide_eq_false_iff_not, Bool.not_eq_eq_eq_not, Bool.not_true, Bool.not_false, Bool.not_eq_true', Bool.not_eq_false', Int.not_lt, Int.not_le, Bool.or_eq_true, Bool.and_eq_true] at h1
  refine o_no rfl rfl rfl rfl ?_
  refine o_no rfl rfl rfl rfl ?_
  refine o_no rfl rfl rfl rfl ?_
  refine o_no rfl rfl rfl rfl ?_
  refine o_no rfl rfl rfl rfl ?_
  refine o_no rfl rfl rfl rfl ?_
  refine o_pick_true rfl rfl rfl ?_
  refine o_move rfl rfl ?_
  refine o_no rfl rfl rfl rfl ?_
  refine o_no rfl rfl rfl rfl ?_
  refine o_no rfl rfl rfl rfl ?_
  refine o_no rfl rfl rfl rfl ?_
  refine o_pick_true rfl rfl rfl ?_
  refine l_nil ?_
  refine q_then ?_
  refine c_true rfl ?_
  refine c_seq ?_
  refine c_region ?_
  refine o_move rfl rfl ?_
  refine o_assign rfl rfl ?_
  refine o_assign rfl rfl ?_
  refine l_nil ?_
  refine q_then ?_
  refine c_ret ?_
  refine q_pass_ret ?_
  exact f_ret (r_two rfl rfl rfl) (⟨by grind [LdS.taken, LdS.voter, inc, bae], rfl⟩) (by rw [show (ld.taken (0 : Int) i sl).2 = ld from by grind [LdS.taken, LdS.voter, inc, bae]]; exact fun w S => S)
 · -- h1F
  have h1b := h1
  try simp only [decide_eq_true_eq, decide_eq_false_iff_not, Bool.not_eq_eq_eq_not, Bool.not_true, Bool.not_false, Bool.not_eq_true', Bool.not_eq_false', Int.not_lt, Int.not_le, Bool.or_eq_true, Bool.and_eq_true] at h1
  have hvs := value_slot (z := (0 : Int)) (s := ld) h1
  refine o_yes rfl rfl rfl ?_
  refine o_move rfl rfl ?_
  refine o_yes rfl rfl rfl ?_
  refine o_move rfl rfl ?_
  refine o_yes rfl rfl rfl ?_
  refine o_nil rfl rfl ?_
  refine o_yes rfl rfl rfl ?_
  refine l_obj ?_
  rintro ⟨m1_1, m2_1, m3_1, a_1, c_1⟩ ok_1
  have s0_ok_1 := ok_1.s0
  have s1_ok_1 := ok_1.s1
  have v0_ok_1 := ok_1.v0
  have v1_ok_1 := ok_1.v1
  refine l_conv (L' := blk k (.cells #[.int .u64 ld.ballot, .int .i64 ld.voters, .int .i64 ld.slot, .map (some m1_1), .map (some m2_1), .slice a_1 (ld.off).length c_1, .map (some m3_1)] 93 (0, 0)) :: mapR kvI vvI m1_1 ld.prom :: mapR kvI vvVI m2_1 ld.told :: mapR kvI vvI m3_1 ld.tak :: row e_I.T e_I.sz a_1 (ld.off).length c_1 (flat e_I ld.off) :: _) (fun w S => S) ?_
  refine o_fieldAddr (q := ⟨k, 2, none⟩) rfl rfl Try.underlying93 rfl ti3 rfl ?_
  refine o_yes rfl rfl rfl ?_
  refine o_load1 rfl rfl Try.underlying3 rfl (rd_mem 0 rfl rfl) ?_
  refine o_yes rfl rfl rfl ?_
  refine o_bin rfl rfl rfl b_neq ?_
  refine o_pick_false rfl rfl rfl ?_
  refine o_move rfl rfl ?_
  refine l_split (t := 25) rfl (fun h2 => ?_) (fun h2 => ?_)
  · -- h2T
   have h2b := h2
   try simp only [Bool.not_eq_true', decide_eq_false_iff_not, Int.not_lt, Int.not_le] at h2
   refine o_no rfl rfl rfl rfl ?_
   refine o_no rfl rfl rfl rfl ?_
   refine o_no rfl rfl rfl rfl ?_
   refine o_no rfl rfl rfl rfl ?_
   refine o_pick_true rfl rfl rfl ?_
   refine l_nil ?_
   refine q_then ?_
   refine c_true rfl ?_
   refine c_seq ?_
   refine c_region ?_
   refine o_move rfl rfl ?_
   refine o_assign rfl rfl ?_
   refine o_assign rfl rfl ?_
   refine l_nil ?_
   refine q_then ?_
   refine c_ret ?_
   refine q_pass_ret ?_
   refine q_conv (L' := LdRI k ld :: _) (fun w S => Sat.obj_mk ⟨m1_1, m2_1, m3_1, a_1, c_1⟩ ok_1 S) ?_
   exact f_ret (r_two rfl rfl rfl) (⟨by grind [LdS.taken, LdS.voter, inc, bae], rfl⟩) (by rw [show (ld.taken (0 : Int) i sl).2 = ld from by grind [LdS.taken, LdS.voter, inc, bae]]; exact fun w S => S)
  · -- h2F
   have h2b := h2
   try simp only [Bool.not_eq_false', decide_eq_true_eq] at h2
   refine o_yes rfl rfl rfl ?_
   refine o_move rfl rfl ?_
   refine o_yes rfl rfl rfl ?_
   refine o_move rfl rfl ?_
   refine o_yes rfl rfl rfl ?_
   refine o_call rfl cal40 rfl (voterI) ?_
   rintro _ _ ⟨rfl, rfl⟩
   refine o_yes rfl rfl rfl ?_
   refine o_not rfl rfl ?_
   refine o_pick_false rfl rfl rfl ?_
   refine l_nil ?_
   refine q_then ?_
   refine c_cond rfl (fun h3 => ?_) (fun h3 => ?_)
   · -- h3T
    have h3b := h3
    try simp only [decide_eq_true_eq, decide_eq_false_iff_not, Bool.not_eq_eq_eq_not, Bool.not_true, Bool.not_false, Bool.not_eq_true', Bool.not_eq_false', Int.not_lt, Int.not_le, Bool.or_eq_true, Bool.and_eq_true] at h3
    refine c_seq ?_
    refine c_region ?_
    refine o_move rfl rfl ?_
    refine o_assign rfl rfl ?_
    refine o_assign rfl rfl ?_
    refine l_nil ?_
    refine q_then ?_
    refine c_ret ?_
    refine q_pass_ret ?_
    refine q_conv (L' := LdRI k ld :: _) (fun w S => Sat.obj_mk ⟨m1_1, m2_1, m3_1, a_1, c_1⟩ ok_1 S) ?_
    exact f_ret (r_two rfl rfl rfl) (⟨by grind [LdS.taken, LdS.voter, inc, bae], rfl⟩) (by rw [show (ld.taken (0 : Int) i sl).2 = ld from by grind [LdS.taken, LdS.voter, inc, bae]]; exact fun w S => S)
   · -- h3F
    have h3b := h3
    try simp only [decide_eq_true_eq, decide_eq_false_iff_not, Bool.not_eq_eq_eq_not, Bool.not_true, Bool.not_false, Bool.not_eq_true', Bool.not_eq_false', Int.not_lt, Int.not_le, Bool.or_eq_true, Bool.and_eq_true] at h3
    refine c_skip ?_
    refine q_then ?_
    refine c_seq ?_
    refine c_seq ?_
    refine c_region ?_
    refine o_move rfl rfl ?_
    refine o_nil rfl rfl ?_
    refine o_fieldAddr (q := ⟨k, 6, none⟩) rfl rfl Try.underlying93 rfl ti62 rfl ?_
    refine o_load1 rfl rfl Try.underlying62 rfl (rd_mem 0 rfl rfl) ?_
    refine o_move rfl rfl ?_
    refine o_lookupD (kv := kvI) (vv := vvI) (b0 := 0) 3 rfl koI rfl rfl rfl Try.underlying62 ti3 ?_
    refine o_bin rfl rfl rfl (b_add rfl) ?_
    refine l_f3 ?_
    refine o_mapUpdate (q := i) (b := (IntKind.i64.wrap ((mget ld.tak i).getD 0 + 1))) koI rfl rfl rfl Try.underlying62 ?_
    refine l_nil ?_
    refine q_then ?_
    refine c_seq ?_
    refine c_region ?_
    refine o_move rfl rfl ?_
    refine o_move rfl rfl ?_
    refine o_nil rfl rfl ?_
    refine o_fieldAddr (q := ⟨k, 6, none⟩) rfl rfl Try.underlying93 rfl ti62 rfl ?_
    refine o_load1 rfl rfl Try.underlying62 rfl (rd_mem 1 rfl rfl) ?_
    refine l_f1 ?_
    refine o_call rfl cal41 rfl (enoughI) ?_
    rintro _ _ ⟨rfl, rfl⟩
    refine o_not rfl rfl ?_
    refine l_nil ?_
    refine q_then ?_
    refine c_cond rfl (fun h4 => ?_) (fun h4 => ?_)
    · -- h4T
     have h4b := h4
     try simp only [decide_eq_true_eq, decide_eq_false_iff_not, Bool.not_eq_eq_eq_not, Bool.not_true, Bool.not_false, Bool.not_eq_true', Bool.not_eq_false', Int.not_lt, Int.not_le, Bool.or_eq_true, Bool.and_eq_true] at h4
     refine c_seq ?_
     refine c_region ?_
     refine o_move rfl rfl ?_
     refine o_assign rfl rfl ?_
     refine o_assign rfl rfl ?_
     refine l_nil ?_
     refine q_then ?_
     refine c_ret ?_
     refine q_pass_ret ?_
     refine q_conv (fun w S => S.perm p4) ?_
     refine q_conv (fun w S => S.perm p2) ?_
     refine q_conv (fun w S => S.perm p4) ?_
     refine q_conv (fun w S => S.perm p4) ?_
     refine q_conv (fun w S => S.perm p4) ?_
     refine q_conv (L' := LdRI k ⟨ld.ballot, ld.voters, ld.slot, ld.prom, ld.told, ld.off, mset ld.tak i (IntKind.i64.wrap ((mget ld.tak i).getD 0 + 1))⟩ :: _) (fun w S => Sat.obj_mk ⟨m1_1, m2_1, m3_1, a_1, c_1⟩ (by obtain ⟨o1, o2, o3, o4⟩ := ok_1; exact ⟨by (try dsimp only); omega, by (try dsimp only); omega, by (try dsimp only); omega, by (try dsimp only); omega⟩) S) ?_
     exact f_ret (r_two rfl rfl rfl) (⟨by grind [LdS.taken, LdS.voter, inc, bae], rfl⟩) (by rw [show (ld.taken (0 : Int) i sl).2 = ⟨ld.ballot, ld.voters, ld.slot, ld.prom, ld.told, ld.off, mset ld.tak i (IntKind.i64.wrap ((mget ld.tak i).getD 0 + 1))⟩ from by grind [LdS.taken, LdS.voter, inc, bae]]; exact fun w S => S)
    · -- h4F
     have h4b := h4
     try simp only [decide_eq_true_eq, decide_eq_false_iff_not, Bool.not_eq_eq_eq_not, Bool.not_true, Bool.not_false, Bool.not_eq_true', Bool.not_eq_false', Int.not_lt, Int.not_le, Bool.or_eq_true, Bool.and_eq_true] at h4
     refine c_skip ?_
     refine q_then ?_
     refine c_seq ?_
     refine c_region ?_
     refine o_move rfl rfl ?_
     refine o_nil rfl rfl ?_
     refine o_fieldAddr (q := ⟨k, 2, none⟩) rfl rfl Try.underlying93 rfl ti3 rfl ?_
     refine o_load1 rfl rfl Try.underlying3 rfl (rd_mem 0 rfl rfl) ?_
     refine o_bin rfl rfl rfl (b_add (wrap_i64 (by omega) (by omega))) ?_
     refine o_nil rfl rfl ?_
     refine o_fieldAddr (q := ⟨k, 2, none⟩) rfl rfl Try.underlying93 rfl ti3 rfl ?_
     refine o_store1 rfl rfl rfl ti3 rfl rfl ?_
     refine l_nil ?_
     refine q_then ?_
     refine c_seq ?_
     refine c_region ?_
     refine o_move rfl rfl ?_
     refine o_nil rfl rfl ?_
     refine o_fieldAddr (q := ⟨k, 5, none⟩) rfl rfl Try.underlying93 rfl ti91 rfl ?_
     refine o_store1 rfl rfl rfl ti91 rfl rfl ?_
     refine l_nil ?_
     refine q_then ?_
     refine c_seq ?_
     refine c_region ?_
     refine o_move rfl rfl ?_
     refine o_nil rfl rfl ?_
     refine o_fieldAddr (q := ⟨k, 6, none⟩) rfl rfl Try.underlying93 rfl ti62 rfl ?_
     refine o_load1 rfl rfl Try.underlying62 rfl (rd_mem 0 rfl rfl) ?_
     refine l_f1 ?_
     refine o_clearMap_ rfl  Try.underlying62 ?_
     refine l_nil ?_
     refine q_then ?_
     refine c_seq ?_
     refine c_region ?_
     refine o_move rfl rfl ?_
     refine o_assign rfl rfl ?_
     refine o_assign rfl rfl ?_
     refine l_nil ?_
     refine q_then ?_
     refine c_ret ?_
     refine q_nilrow e_I ?_
     refine q_conv (fun w S => S.perm p5) ?_
     refine q_conv (fun w S => S.perm p1) ?_
     refine q_conv (fun w S => S.perm p2) ?_
     refine q_conv (fun w S => S.perm p5) ?_
     refine q_conv (fun w S => S.perm p5) ?_
     refine q_conv (fun w S => S.perm p5) ?_
     refine q_conv (L' := LdRI k ⟨ld.ballot, ld.voters, ld.slot + 1, ld.prom, ld.told, ([] : List Int), []⟩ :: _) (fun w S => Sat.obj_mk ⟨m1_1, m2_1, m3_1, none, 0⟩ (by obtain ⟨o1, o2, o3, o4⟩ := ok_1; exact ⟨by (try dsimp only); omega, by (try dsimp only); omega, by (try dsimp only); omega, by (try dsimp only); omega⟩) S) ?_
     refine q_conv (fun w S => (S.perm p1).tail) ?_
     exact f_ret (r_two rfl rfl rfl) (⟨by grind [LdS.taken, LdS.voter, inc, bae], rfl⟩) (by rw [show (ld.taken (0 : Int) i sl).2 = ⟨ld.ballot, ld.voters, ld.slot + 1, ld.prom, ld.told, ([] : List Int), []⟩ from by grind [LdS.taken, LdS.voter, inc, bae]]; exact fun w S => S)

theorem promisedI {W : World} {F : List Res} {k : Nat} {ld : LdS Int} {i : Int} {vs : List (Vt Int)} {a : Option Addr} {c : Nat} (hs : RdS W F eVI a vs) (hn : vs.length ≤ 9223372036854775807) : CS Try.prog 26 #[.pointer (some ⟨k, 0, none⟩), .int .i64 i, .slice a (vs).length c] W (LdRI k ld :: F) (fun r L' => r = .tuple #[] ∧ L' = LdRI k (ld.promised z0I i vs) :: F) := by
 refine f_door (l0 := [(0, .pointer (some ⟨k, 0, none⟩)), (1, .int .i64 i), (2, .slice a (vs).length c)]) Try.func26 Try.ntmps26 rfl rfl rfl ?_
 refine c_seq ?_
 refine c_seq ?_
 refine c_region ?_
 refine o_move rfl rfl ?_
 refine o_call rfl cal30 rfl (leadsI) ?_
 rintro _ _ ⟨rfl, rfl⟩
 refine o_move rfl rfl ?_
 refine l_split (t := 12) rfl (fun h1 => ?_) (fun h1 => ?_)
 · -- h1T
  have h1b := h1
  try simp only [decide_eq_true_eq, decide_eq_false_iff_not, Bool.not_eq_eq_eq_not, Bool.not_true, Bool.not_false, Bool.not_eq_true', Bool.not_eq_false', Int.not_lt, Int.not_le, Bool.or_eq_true, Bool.and_eq_true] at h1
  refine o_no rfl rfl rfl rfl ?_
  refine o_no rfl rfl rfl rfl ?_
  refine o_no rfl rfl rfl rfl ?_
  refine o_no rfl rfl rfl rfl ?_
  refine o_pick_true rfl rfl rfl ?_
  refine o_move rfl rfl ?_
  refine o_no rfl rfl rfl rfl ?_
  refine o_no rfl rfl rfl rfl ?_
  refine o_no rfl rfl rfl rfl ?_
  refine o_no rfl rfl rfl rfl ?_
  refine o_no rfl rfl rfl rfl ?_
  refine o_no rfl rfl rfl rfl ?_
  refine o_no rfl rfl rfl rfl ?_
  refine o_pick_true rfl rfl rfl ?_
  refine l_nil ?_
  refine q_then ?_
  refine c_true rfl ?_
  refine c_ret ?_
  refine q_pass_ret ?_
  exact f_ret (r_none rfl) (⟨rfl, rfl⟩) (by rw [show ld.promised z0I i vs = ld from by grind [LdS.promised, LdS.voter]]; exact fun w S => S)
 · -- h1F
  have h1b := h1
  try simp only [decide_eq_true_eq, decide_eq_false_iff_not, Bool.not_eq_eq_eq_not, Bool.not_true, Bool.not_false, Bool.not_eq_true', Bool.not_eq_false', Int.not_lt, Int.not_le, Bool.or_eq_true, Bool.and_eq_true] at h1
  refine o_yes rfl rfl rfl ?_
  refine o_move rfl rfl ?_
  refine o_yes rfl rfl rfl ?_
  refine o_move rfl rfl ?_
  refine o_yes rfl rfl rfl ?_
  refine l_obj ?_
  rintro ⟨m1_1, m2_1, m3_1, a_1, c_1⟩ ok_1
  have s0_ok_1 := ok_1.s0
  have s1_ok_1 := ok_1.s1
  have v0_ok_1 := ok_1.v0
  have v1_ok_1 := ok_1.v1
  refine l_conv (L' := blk k (.cells #[.int .u64 ld.ballot, .int .i64 ld.voters, .int .i64 ld.slot, .map (some m1_1), .map (some m2_1), .slice a_1 (ld.off).length c_1, .map (some m3_1)] 93 (0, 0)) :: mapR kvI vvI m1_1 ld.prom :: mapR kvI vvVI m2_1 ld.told :: mapR kvI vvI m3_1 ld.tak :: row e_I.T e_I.sz a_1 (ld.off).length c_1 (flat e_I ld.off) :: _) (fun w S => S) ?_
  refine o_call rfl cal40 rfl (voterI) ?_
  rintro _ _ ⟨rfl, rfl⟩
  refine o_yes rfl rfl rfl ?_
  refine o_not rfl rfl ?_
  refine o_pick_false rfl rfl rfl ?_
  refine o_move rfl rfl ?_
  refine l_split (t := 18) rfl (fun h2 => ?_) (fun h2 => ?_)
  · -- h2T
   have h2b := h2
   try simp only [decide_eq_true_eq, decide_eq_false_iff_not, Bool.not_eq_eq_eq_not, Bool.not_true, Bool.not_false, Bool.not_eq_true', Bool.not_eq_false', Int.not_lt, Int.not_le, Bool.or_eq_true, Bool.and_eq_true] at h2
   refine o_no rfl rfl rfl rfl ?_
   refine o_no rfl rfl rfl rfl ?_
   refine o_no rfl rfl rfl rfl ?_
   refine o_no rfl rfl rfl rfl ?_
   refine o_no rfl rfl rfl rfl ?_
   refine o_no rfl rfl rfl rfl ?_
   refine o_no rfl rfl rfl rfl ?_
   refine o_pick_true rfl rfl rfl ?_
   refine l_nil ?_
   refine q_then ?_
   refine c_true rfl ?_
   refine c_ret ?_
   refine q_pass_ret ?_
   refine q_conv (L' := LdRI k ld :: _) (fun w S => Sat.obj_mk ⟨m1_1, m2_1, m3_1, a_1, c_1⟩ ok_1 S) ?_
   exact f_ret (r_none rfl) (⟨rfl, rfl⟩) (by rw [show ld.promised z0I i vs = ld from by grind [LdS.promised, LdS.voter]]; exact fun w S => S)
  · -- h2F
   have h2b := h2
   try simp only [decide_eq_true_eq, decide_eq_false_iff_not, Bool.not_eq_eq_eq_not, Bool.not_true, Bool.not_false, Bool.not_eq_true', Bool.not_eq_false', Int.not_lt, Int.not_le, Bool.or_eq_true, Bool.and_eq_true] at h2
   refine o_yes rfl rfl rfl ?_
   refine o_move rfl rfl ?_
   refine o_yes rfl rfl rfl ?_
   refine o_nil rfl rfl ?_
   refine o_yes rfl rfl rfl ?_
   refine o_fieldAddr (q := ⟨k, 3, none⟩) rfl rfl Try.underlying93 rfl ti62 rfl ?_
   refine o_yes rfl rfl rfl ?_
   refine o_load1 rfl rfl Try.underlying62 rfl (rd_mem 0 rfl rfl) ?_
   refine o_yes rfl rfl rfl ?_
   refine o_move rfl rfl ?_
   refine o_yes rfl rfl rfl ?_
   refine o_lookupD (kv := kvI) (vv := vvI) (b0 := 0) 1 rfl koI rfl rfl rfl Try.underlying62 ti3 ?_
   refine o_yes rfl rfl rfl ?_
   refine o_bin rfl rfl rfl b_gtr ?_
   refine o_pick_false rfl rfl rfl ?_
   refine l_nil ?_
   refine q_then ?_
   refine c_cond rfl (fun h3 => ?_) (fun h3 => ?_)
   · -- h3T
    have h3b := h3
    try simp only [decide_eq_true_eq] at h3
    refine c_ret ?_
    refine q_pass_ret ?_
    refine q_conv (L' := LdRI k ld :: _) (fun w S => Sat.obj_mk ⟨m1_1, m2_1, m3_1, a_1, c_1⟩ ok_1 S) ?_
    exact f_ret (r_none rfl) (⟨rfl, rfl⟩) (by rw [show ld.promised z0I i vs = ld from by grind [LdS.promised, LdS.voter]]; exact fun w S => S)
   · -- h3F
    have h3b := h3
    try simp only [decide_eq_false_iff_not, Int.not_lt, Int.not_le] at h3
    refine c_skip ?_
    refine q_then ?_
    refine c_seq ?_
    refine c_region ?_
    refine o_move rfl rfl ?_
    refine o_nil rfl rfl ?_
    refine o_fieldAddr (q := ⟨k, 3, none⟩) rfl rfl Try.underlying93 rfl ti62 rfl ?_
    refine o_load1 rfl rfl Try.underlying62 rfl (rd_mem 0 rfl rfl) ?_
    refine o_move rfl rfl ?_
    refine o_lookupD (kv := kvI) (vv := vvI) (b0 := 0) 1 rfl koI rfl rfl rfl Try.underlying62 ti3 ?_
    refine o_bin rfl rfl rfl (b_add rfl) ?_
    refine l_f1 ?_
    refine o_mapUpdate (q := i) (b := (IntKind.i64.wrap ((mget ld.prom i).getD 0 + 1))) koI rfl rfl rfl Try.underlying62 ?_
    refine l_nil ?_
    refine q_then ?_
    refine c_seq ?_
    refine c_region ?_
    refine o_move rfl rfl ?_
    refine o_len rfl rfl Try.underlying67 ?_
    refine o_move rfl rfl ?_
    refine l_nil ?_
    refine q_then ?_
    refine c_block ?_
    refine c_loop (α := Nat × (List (Int × Vt Int))) (fun z => [(0, .pointer (some ⟨k, 0, none⟩)), (34, .slice a (vs).length c), (35, .int .i64 ((vs).length : Int)), (36, .int .i64 (z.1 : Int))]) (fun z => mapR kvI vvI m1_1 (mset ld.prom i (IntKind.i64.wrap ((mget ld.prom i).getD 0 + 1))) :: blk k (.cells #[.int .u64 ld.ballot, .int .i64 ld.voters, .int .i64 ld.slot, .map (some m1_1), .map (some m2_1), .slice a_1 (ld.off).length c_1, .map (some m3_1)] 93 (0, 0)) :: mapR kvI vvVI m2_1 z.2 :: mapR kvI vvI m3_1 ld.tak :: row e_I.T e_I.sz a_1 (ld.off).length c_1 (flat e_I ld.off) :: F) (fun z => z.2 = (vs.take z.1).foldl (upd z0I) ld.told ∧ z.1 ≤ vs.length) (fun z => vs.length - z.1) (0, ld.told) (by exact ⟨rfl, Nat.zero_le _⟩) ⟨(by first | rfl | exact vint (by omega)), (by first | rfl | exact vint (by omega)), (by first | rfl | exact vint (by omega)), (by first | rfl | exact vint (by omega)), trivial⟩ (fun w S => S) ?_
    rintro ⟨j, D⟩ ⟨hD, hj⟩
    try dsimp only at *
    refine c_seq ?_
    refine c_region ?_
    refine o_bin rfl rfl rfl b_lss ?_
    refine l_nil ?_
    refine q_then ?_
    refine c_seq ?_
    refine c_cond rfl (fun h4 => ?_) (fun h4 => ?_)
    · -- h4T
     have h4b := h4
     try simp only [decide_eq_true_eq] at h4
     refine c_skip ?_
     refine q_then ?_
     refine c_seq ?_
     refine c_block ?_
     refine c_seq ?_
     refine c_region ?_
     refine o_index eVI_ok rfl rfl rfl Try.underlying67 (by omega) (by omega) (rds_c (rds_c (rds_c (rds_c (rds_c hs))))) fun ad38 ead38 => ?_
     obtain ⟨x38, hx38⟩ : ∃ x, (vs)[((j : Int)).toNat]? = some x := ⟨_, List.getElem?_eq_getElem (by omega)⟩
     refine o_loadn (vs := eVI.cells x38) rfl rfl Try.underlying72 rfl ti72 (rdn_sl eVI_ok ead38 (rds_c (rds_c (rds_c (rds_c (rds_c hs))))) hx38) ?_
     refine o_alloc rfl ti72 fun b7 => ?_
     refine o_storen rfl rfl ti72 rfl rfl rfl rfl ?_
     refine l_nil ?_
     refine q_then ?_
     refine c_seq ?_
     refine c_held [blk b7 (.cells #[.int .i64 x38.Slot, .int .u64 x38.Ballot, .int .i64 x38.Value] 72 (0, 0)), mapR kvI vvI m1_1 (mset ld.prom i (IntKind.i64.wrap ((mget ld.prom i).getD 0 + 1))), blk k (.cells #[.int .u64 ld.ballot, .int .i64 ld.voters, .int .i64 ld.slot, .map (some m1_1), .map (some m2_1), .slice a_1 (ld.off).length c_1, .map (some m3_1)] 93 (0, 0)), mapR kvI vvVI m2_1 D, mapR kvI vvI m3_1 ld.tak, row e_I.T e_I.sz a_1 (ld.off).length c_1 (flat e_I ld.off)] (by kernel_rfl) rfl ?_
     refine h_take 0 rfl rfl (by kernel_rfl) (by kernel_rfl) (by kernel_rfl) (fun L0 => v_move rfl rfl) ?_
     refine h_take 1 rfl rfl (by kernel_rfl) (by kernel_rfl) (by kernel_rfl) (fun L0 => v_nil rfl rfl) ?_
     refine h_take 2 rfl rfl (by kernel_rfl) (by kernel_rfl) (by kernel_rfl) (fun L0 => v_fieldAddr (q := ⟨k, 4, none⟩) rfl rfl Try.underlying93 rfl ti90 rfl) ?_
     refine h_take 3 rfl rfl (by kernel_rfl) (by kernel_rfl) (by kernel_rfl) (fun L0 => v_load1 rfl rfl Try.underlying90 rfl (rd_mem 2 rfl rfl)) ?_
     refine h_take 4 rfl rfl (by kernel_rfl) (by kernel_rfl) (by kernel_rfl) (fun L0 => v_fieldAddr (q := ⟨b7, 0, none⟩) rfl rfl Try.underlying72 rfl ti3 rfl) ?_
     refine h_take 5 rfl rfl (by kernel_rfl) (by kernel_rfl) (by kernel_rfl) (fun L0 => v_load1 rfl rfl Try.underlying3 rfl (rd_mem 0 rfl rfl)) ?_
     refine h_take 6 rfl rfl (by kernel_rfl) (by kernel_rfl) (by kernel_rfl) (fun L0 => v_lookupDOk (kv := kvI) (vv := vvVI) (b0 := z0I) 3 rfl koI rfl rfl rfl Try.underlying90 ti72) ?_
     refine h_take 7 rfl rfl (by kernel_rfl) (by kernel_rfl) (by kernel_rfl) (fun L0 => v_move rfl rfl) ?_
     refine h_take 8 rfl rfl (by kernel_rfl) (by kernel_rfl) (by kernel_rfl) (fun L0 => v_extract rfl rfl rfl) ?_
     refine h_take 9 rfl rfl (by kernel_rfl) (by kernel_rfl) (by kernel_rfl) (fun L0 => v_extract rfl rfl rfl) ?_
     refine h_one 10 rfl (by kernel_rfl) ?_
     refine o_alloc rfl ti72 fun b8 => ?_
     refine l_nil ?_
     refine q_conv (fun w S => S.perm p6) ?_
     refine q_conv (fun w S => S.perm p6) ?_
     refine q_conv (fun w S => S.perm p6) ?_
     refine q_conv (fun w S => S.perm p6) ?_
     refine q_conv (fun w S => S.perm p6) ?_
     refine q_conv (fun w S => S.perm p6) ?_
     refine h_next ?_
     refine h_one 11 rfl (by kernel_rfl) ?_
     refine l_f6 ?_
     refine o_storen rfl rfl ti72 rfl rfl rfl rfl ?_
     refine l_nil ?_
     refine q_conv (fun w S => S.perm p6) ?_
     refine q_conv (fun w S => S.perm p6) ?_
     refine q_conv (fun w S => S.perm p6) ?_
     refine q_conv (fun w S => S.perm p6) ?_
     refine q_conv (fun w S => S.perm p6) ?_
     refine q_conv (fun w S => S.perm p6) ?_
     refine h_next ?_
     refine h_take 12 rfl rfl (by kernel_rfl) (by kernel_rfl) (by kernel_rfl) (fun L0 => v_assign rfl rfl) ?_
     refine h_done (by kernel_rfl) ?_
     refine q_then ?_
     refine c_seq ?_
     refine c_region ?_
     refine o_move rfl rfl ?_
     refine o_not rfl rfl ?_
     refine o_move rfl rfl ?_
     refine l_split (t := 52) rfl (fun h5 => ?_) (fun h5 => ?_)
     · -- h5T
      have h5b := h5
      try simp only [decide_eq_true_eq, decide_eq_false_iff_not, Bool.not_eq_eq_eq_not, Bool.not_true, Bool.not_false, Bool.not_eq_true', Bool.not_eq_false', Int.not_lt, Int.not_le, Bool.or_eq_true, Bool.and_eq_true] at h5
      refine o_no rfl rfl rfl rfl ?_
      refine o_no rfl rfl rfl rfl ?_
      refine o_no rfl rfl rfl rfl ?_
      refine o_no rfl rfl rfl rfl ?_
      refine o_no rfl rfl rfl rfl ?_
      refine o_pick_true rfl rfl rfl ?_
      refine l_nil ?_
      refine q_then ?_
      refine c_true rfl ?_
      refine c_conv (fun w S => S.perm p3) ?_
      refine c_conv (fun w S => S.perm p6) ?_
      refine c_conv (fun w S => S.perm p6) ?_
      refine c_conv (fun w S => S.perm p6) ?_
      refine c_conv (fun w S => S.perm p6) ?_
      refine c_conv (fun w S => S.perm p6) ?_
      refine c_conv (fun w S => S.perm p6) ?_
      refine c_held [blk b7 (.cells #[.int .i64 x38.Slot, .int .u64 x38.Ballot, .int .i64 x38.Value] 72 (0, 0)), mapR kvI vvI m1_1 (mset ld.prom i (IntKind.i64.wrap ((mget ld.prom i).getD 0 + 1))), blk k (.cells #[.int .u64 ld.ballot, .int .i64 ld.voters, .int .i64 ld.slot, .map (some m1_1), .map (some m2_1), .slice a_1 (ld.off).length c_1, .map (some m3_1)] 93 (0, 0)), mapR kvI vvI m3_1 ld.tak, row e_I.T e_I.sz a_1 (ld.off).length c_1 (flat e_I ld.off), blk b8 (.cells #[.int .i64 (((mget D x38.Slot).getD z0I).Slot), .int .u64 (((mget D x38.Slot).getD z0I).Ballot), .int .i64 (((mget D x38.Slot).getD z0I).Value)] 72 (0, 0))] (by kernel_rfl) rfl ?_
      refine h_take 0 rfl rfl (by kernel_rfl) (by kernel_rfl) (by kernel_rfl) (fun L0 => v_move rfl rfl) ?_
      refine h_take 1 rfl rfl (by kernel_rfl) (by kernel_rfl) (by kernel_rfl) (fun L0 => v_nil rfl rfl) ?_
      refine h_take 2 rfl rfl (by kernel_rfl) (by kernel_rfl) (by kernel_rfl) (fun L0 => v_fieldAddr (q := ⟨k, 4, none⟩) rfl rfl Try.underlying93 rfl ti90 rfl) ?_
      refine h_take 3 rfl rfl (by kernel_rfl) (by kernel_rfl) (by kernel_rfl) (fun L0 => v_load1 rfl rfl Try.underlying90 rfl (rd_mem 2 rfl rfl)) ?_
      refine h_take 4 rfl rfl (by kernel_rfl) (by kernel_rfl) (by kernel_rfl) (fun L0 => v_fieldAddr (q := ⟨b7, 0, none⟩) rfl rfl Try.underlying72 rfl ti3 rfl) ?_
      refine h_take 5 rfl rfl (by kernel_rfl) (by kernel_rfl) (by kernel_rfl) (fun L0 => v_load1 rfl rfl Try.underlying3 rfl (rd_mem 0 rfl rfl)) ?_
      refine h_take 6 rfl rfl (by kernel_rfl) (by kernel_rfl) (by kernel_rfl) (fun L0 => v_loadn (vs := [_, _, _]) rfl rfl Try.underlying72 rfl ti72 (rdn_lit 0 rfl rfl)) ?_
      refine h_one 7 rfl (by kernel_rfl) ?_
      refine l_f6 ?_
      refine o_mapUpdate (q := x38.Slot) (b := x38) koI rfl rfl rfl Try.underlying90 ?_
      refine l_nil ?_
      refine q_conv (fun w S => S.perm p6) ?_
      refine q_conv (fun w S => S.perm p6) ?_
      refine q_conv (fun w S => S.perm p6) ?_
      refine q_conv (fun w S => S.perm p6) ?_
      refine q_conv (fun w S => S.perm p6) ?_
      refine q_conv (fun w S => S.perm p6) ?_
      refine h_next ?_
      refine h_done (by kernel_rfl) ?_
      refine q_block ?_
      refine q_then ?_
      refine c_region ?_
      refine o_bin rfl rfl rfl (b_add (wrap_i64 (by omega) (by omega))) ?_
      refine o_move rfl rfl ?_
      refine l_nil ?_
      refine q_conv (fun w S => S.tail) ?_
      refine q_conv (fun w S => (S.perm p4).tail) ?_
      refine q_conv (fun w S => S.perm p3) ?_
      refine q_conv (fun w S => S.perm p3) ?_
      refine q_conv (fun w S => S.perm p4) ?_
      refine q_conv (fun w S => S.perm p4) ?_
      refine q_conv (fun w S => S.perm p4) ?_
      exact q_round (j + 1, mset D x38.Slot x38) (by exact ⟨by have hx9 : vs[j]? = some x38 := hx38; rw [take_foldl _ _ hx9, ← hD]; first | (simp [upd, *]; done) | grind [upd], by omega⟩) (by (try dsimp only); omega) ⟨(by first | rfl | exact vint (by omega)), (by first | rfl | exact vint (by omega)), (by first | rfl | exact vint (by omega)), (by first | rfl | exact vint (by omega)), trivial⟩ (fun w S => S)
     · -- h5F
      have h5b := h5
      try simp only [decide_eq_true_eq, decide_eq_false_iff_not, Bool.not_eq_eq_eq_not, Bool.not_true, Bool.not_false, Bool.not_eq_true', Bool.not_eq_false', Int.not_lt, Int.not_le, Bool.or_eq_true, Bool.and_eq_true] at h5
      refine o_yes rfl rfl rfl ?_
      refine o_fieldAddr (q := ⟨b7, 1, none⟩) rfl rfl Try.underlying72 rfl ti29 rfl ?_
      refine o_yes rfl rfl rfl ?_
      refine o_load1 rfl rfl Try.underlying29 rfl (rd_mem 0 rfl rfl) ?_
      refine o_yes rfl rfl rfl ?_
      refine o_fieldAddr (q := ⟨b8, 1, none⟩) rfl rfl Try.underlying72 rfl ti29 rfl ?_
      refine o_yes rfl rfl rfl ?_
      refine o_load1 rfl rfl Try.underlying29 rfl (rd_mem 6 rfl rfl) ?_
      refine o_yes rfl rfl rfl ?_
      refine o_bin rfl rfl rfl b_gtr ?_
      refine o_pick_false rfl rfl rfl ?_
      refine l_nil ?_
      refine q_then ?_
      refine c_cond rfl (fun h6 => ?_) (fun h6 => ?_)
      · -- h6T
       have h6b := h6
       try simp only [decide_eq_true_eq] at h6
       refine c_conv (fun w S => S.perm p3) ?_
       refine c_conv (fun w S => S.perm p6) ?_
       refine c_conv (fun w S => S.perm p6) ?_
       refine c_conv (fun w S => S.perm p6) ?_
       refine c_conv (fun w S => S.perm p6) ?_
       refine c_conv (fun w S => S.perm p6) ?_
       refine c_conv (fun w S => S.perm p6) ?_
       refine c_held [blk b7 (.cells #[.int .i64 x38.Slot, .int .u64 x38.Ballot, .int .i64 x38.Value] 72 (0, 0)), mapR kvI vvI m1_1 (mset ld.prom i (IntKind.i64.wrap ((mget ld.prom i).getD 0 + 1))), blk k (.cells #[.int .u64 ld.ballot, .int .i64 ld.voters, .int .i64 ld.slot, .map (some m1_1), .map (some m2_1), .slice a_1 (ld.off).length c_1, .map (some m3_1)] 93 (0, 0)), mapR kvI vvI m3_1 ld.tak, row e_I.T e_I.sz a_1 (ld.off).length c_1 (flat e_I ld.off), blk b8 (.cells #[.int .i64 (((mget D x38.Slot).getD z0I).Slot), .int .u64 (((mget D x38.Slot).getD z0I).Ballot), .int .i64 (((mget D x38.Slot).getD z0I).Value)] 72 (0, 0))] (by kernel_rfl) rfl ?_
       refine h_take 0 rfl rfl (by kernel_rfl) (by kernel_rfl) (by kernel_rfl) (fun L0 => v_move rfl rfl) ?_
       refine h_take 1 rfl rfl (by kernel_rfl) (by kernel_rfl) (by kernel_rfl) (fun L0 => v_nil rfl rfl) ?_
       refine h_take 2 rfl rfl (by kernel_rfl) (by kernel_rfl) (by kernel_rfl) (fun L0 => v_fieldAddr (q := ⟨k, 4, none⟩) rfl rfl Try.underlying93 rfl ti90 rfl) ?_
       refine h_take 3 rfl rfl (by kernel_rfl) (by kernel_rfl) (by kernel_rfl) (fun L0 => v_load1 rfl rfl Try.underlying90 rfl (rd_mem 2 rfl rfl)) ?_
       refine h_take 4 rfl rfl (by kernel_rfl) (by kernel_rfl) (by kernel_rfl) (fun L0 => v_fieldAddr (q := ⟨b7, 0, none⟩) rfl rfl Try.underlying72 rfl ti3 rfl) ?_
       refine h_take 5 rfl rfl (by kernel_rfl) (by kernel_rfl) (by kernel_rfl) (fun L0 => v_load1 rfl rfl Try.underlying3 rfl (rd_mem 0 rfl rfl)) ?_
       refine h_take 6 rfl rfl (by kernel_rfl) (by kernel_rfl) (by kernel_rfl) (fun L0 => v_loadn (vs := [_, _, _]) rfl rfl Try.underlying72 rfl ti72 (rdn_lit 0 rfl rfl)) ?_
       refine h_one 7 rfl (by kernel_rfl) ?_
       refine l_f6 ?_
       refine o_mapUpdate (q := x38.Slot) (b := x38) koI rfl rfl rfl Try.underlying90 ?_
       refine l_nil ?_
       refine q_conv (fun w S => S.perm p6) ?_
       refine q_conv (fun w S => S.perm p6) ?_
       refine q_conv (fun w S => S.perm p6) ?_
       refine q_conv (fun w S => S.perm p6) ?_
       refine q_conv (fun w S => S.perm p6) ?_
       refine q_conv (fun w S => S.perm p6) ?_
       refine h_next ?_
       refine h_done (by kernel_rfl) ?_
       refine q_block ?_
       refine q_then ?_
       refine c_region ?_
       refine o_bin rfl rfl rfl (b_add (wrap_i64 (by omega) (by omega))) ?_
       refine o_move rfl rfl ?_
       refine l_nil ?_
       refine q_conv (fun w S => S.tail) ?_
       refine q_conv (fun w S => (S.perm p4).tail) ?_
       refine q_conv (fun w S => S.perm p3) ?_
       refine q_conv (fun w S => S.perm p3) ?_
       refine q_conv (fun w S => S.perm p4) ?_
       refine q_conv (fun w S => S.perm p4) ?_
       refine q_conv (fun w S => S.perm p4) ?_
       exact q_round (j + 1, mset D x38.Slot x38) (by exact ⟨by have hx9 : vs[j]? = some x38 := hx38; rw [take_foldl _ _ hx9, ← hD]; first | (simp [upd, *]; done) | grind [upd], by omega⟩) (by (try dsimp only); omega) ⟨(by first | rfl | exact vint (by omega)), (by first | rfl | exact vint (by omega)), (by first | rfl | exact vint (by omega)), (by first | rfl | exact vint (by omega)), trivial⟩ (fun w S => S)
      · -- h6F
       have h6b := h6
       try simp only [decide_eq_false_iff_not, Int.not_lt, Int.not_le] at h6
       refine c_skip ?_
       refine q_block ?_
       refine q_then ?_
       refine c_region ?_
       refine o_bin rfl rfl rfl (b_add (wrap_i64 (by omega) (by omega))) ?_
       refine o_move rfl rfl ?_
       refine l_nil ?_
       refine q_conv (fun w S => S.tail) ?_
       refine q_conv (fun w S => (S.perm p5).tail) ?_
       exact q_round (j + 1, D) (by exact ⟨by have hx9 : vs[j]? = some x38 := hx38; rw [take_foldl _ _ hx9, ← hD]; first | (simp [upd, *]; done) | grind [upd], by omega⟩) (by (try dsimp only); omega) ⟨(by first | rfl | exact vint (by omega)), (by first | rfl | exact vint (by omega)), (by first | rfl | exact vint (by omega)), (by first | rfl | exact vint (by omega)), trivial⟩ (fun w S => S)
    · -- h4F
     have h4b := h4
     try simp only [decide_eq_false_iff_not, Int.not_lt, Int.not_le] at h4
     obtain rfl : j = vs.length := by omega
     rw [List.take_length] at hD
     refine c_exit ?_
     refine q_pass_exit ?_
     refine q_pass_exit ?_
     refine q_hit ?_
     refine q_conv (fun w S => S.perm p4) ?_
     refine q_conv (fun w S => S.perm p4) ?_
     refine q_conv (fun w S => S.perm p4) ?_
     refine q_conv (fun w S => S.perm p3) ?_
     refine q_conv (fun w S => S.perm p4) ?_
     refine q_conv (L' := LdRI k ⟨ld.ballot, ld.voters, ld.slot, mset ld.prom i (IntKind.i64.wrap ((mget ld.prom i).getD 0 + 1)), D, ld.off, ld.tak⟩ :: _) (fun w S => Sat.obj_mk ⟨m1_1, m2_1, m3_1, a_1, c_1⟩ (by obtain ⟨o1, o2, o3, o4⟩ := ok_1; exact ⟨by (try dsimp only); omega, by (try dsimp only); omega, by (try dsimp only); omega, by (try dsimp only); omega⟩) S) ?_
     exact f_end (r_none rfl) (⟨rfl, rfl⟩) (by rw [show ld.promised z0I i vs = ⟨ld.ballot, ld.voters, ld.slot, mset ld.prom i (IntKind.i64.wrap ((mget ld.prom i).getD 0 + 1)), D, ld.off, ld.tak⟩ from by grind [LdS.promised, LdS.voter, inc]]; exact fun w S => S)

end Go.Proofs.Ytakjmdeckngnlaa
