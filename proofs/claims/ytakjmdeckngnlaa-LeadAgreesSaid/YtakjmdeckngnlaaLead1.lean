/- Printed by eng2.py out of 12/spec.py. -/
import Derived.Test.YtakjmdeckngnlaaTy
set_option linter.unusedVariables false
set_option linter.unusedSimpArgs false
set_option maxRecDepth 10000
namespace Go.Proofs.Ytakjmdeckngnlaa
open Go.RowKit
theorem enoughS {W : World} {F : List Res} {k : Nat} {c0 c2 c3 c4 c5 c6 : Value} {v : Int} {m : Nat} {Dm : List (Int × Int)} : CS Try.prog 38 #[.pointer (some ⟨k, 0, none⟩), .map (some m)] W (blk k (.cells #[c0, .int .i64 v, c2, c3, c4, c5, c6] 85 (0, 0)) :: mapR kvI vvI m Dm :: F) (fun r L' => r = .bool (enoughB v Dm) ∧ L' = blk k (.cells #[c0, .int .i64 v, c2, c3, c4, c5, c6] 85 (0, 0)) :: mapR kvI vvI m Dm :: F) := by
 refine f_door (l0 := [(0, .pointer (some ⟨k, 0, none⟩)), (1, .map (some m))]) Try.func38 Try.ntmps38 rfl rfl rfl ?_
 refine c_seq ?_
 refine c_region ?_
 refine o_assign rfl rfl ?_
 refine l_nil ?_
 refine q_then ?_
 refine c_seq ?_
 refine c_quiet (by kernel_rfl) (by kernel_rfl) ?_
 refine Qt.o_val rfl (v_move rfl rfl) ?_
 refine Qt.o_val rfl (v_lenMap (kv := kvI) (vv := vvI) 1 rfl rfl rfl Try.underlying62) ?_
 refine Qt.o_val rfl (v_move rfl rfl) ?_
 refine Qt.o_val rfl (v_nil rfl rfl) ?_
 refine Qt.o_val rfl (v_fieldAddr (q := ⟨k, 1, none⟩) rfl rfl Try.underlying85 rfl ti3 rfl) ?_
 refine Qt.o_val rfl (v_load1 rfl rfl Try.underlying3 rfl (rd_mem 0 rfl rfl)) ?_
 refine Qt.o_val rfl (v_bin rfl rfl rfl (b_quo (by omega) rfl)) ?_
 refine Qt.o_val rfl (v_bin rfl rfl rfl b_gtr) ?_
 refine Qt.o_val rfl (v_assign rfl rfl) ?_
 refine Qt.l_nil ?_
 refine q_then ?_
 refine c_ret ?_
 exact f_ret (r_one rfl rfl) (⟨rfl, rfl⟩) (fun w S => S)

theorem voterS {W : World} {F : List Res} {k : Nat} {c0 c2 c3 c4 c5 c6 : Value} {v : Int} {i : Int} : CS Try.prog 37 #[.pointer (some ⟨k, 0, none⟩), .int .i64 i] W (blk k (.cells #[c0, .int .i64 v, c2, c3, c4, c5, c6] 85 (0, 0)) :: F) (fun r L' => r = .bool (decide (0 ≤ i) && decide (i < v)) ∧ L' = blk k (.cells #[c0, .int .i64 v, c2, c3, c4, c5, c6] 85 (0, 0)) :: F) := by
 refine f_door (l0 := [(0, .pointer (some ⟨k, 0, none⟩)), (1, .int .i64 i)]) Try.func37 Try.ntmps37 rfl rfl rfl ?_
 refine c_seq ?_
 refine c_region ?_
 refine o_assign rfl rfl ?_
 refine l_nil ?_
 refine q_then ?_
 refine c_seq ?_
 refine c_region ?_
 refine o_move rfl rfl ?_
 refine o_bin rfl rfl rfl b_geq ?_
 refine o_move rfl rfl ?_
 refine l_split (t := 7) rfl (fun h1 => ?_) (fun h1 => ?_)
 · -- h1T
  have h1b := h1
  try simp only [decide_eq_true_eq] at h1
  refine o_yes rfl rfl rfl ?_
  refine o_move rfl rfl ?_
  refine o_yes rfl rfl rfl ?_
  refine o_move rfl rfl ?_
  refine o_yes rfl rfl rfl ?_
  refine o_nil rfl rfl ?_
  refine o_yes rfl rfl rfl ?_
  refine o_fieldAddr (q := ⟨k, 1, none⟩) rfl rfl Try.underlying85 rfl ti3 rfl ?_
  refine o_yes rfl rfl rfl ?_
  refine o_load1 rfl rfl Try.underlying3 rfl (rd_mem 0 rfl rfl) ?_
  refine o_yes rfl rfl rfl ?_
  refine o_bin rfl rfl rfl b_lss ?_
  refine o_pick_true rfl rfl rfl ?_
  refine o_assign rfl rfl ?_
  refine l_nil ?_
  refine q_then ?_
  refine c_ret ?_
  exact f_ret (r_one rfl rfl) (⟨(by first | rfl | (congr 1; first | (simp [*]; done) | (simp [*]; omega) | grind)), rfl⟩) (fun w S => S)
 · -- h1F
  have h1b := h1
  try simp only [decide_eq_false_iff_not, Int.not_lt, Int.not_le] at h1
  refine o_no rfl rfl rfl rfl ?_
  refine o_no rfl rfl rfl rfl ?_
  refine o_no rfl rfl rfl rfl ?_
  refine o_no rfl rfl rfl rfl ?_
  refine o_no rfl rfl rfl rfl ?_
  refine o_no rfl rfl rfl rfl ?_
  refine o_pick_false rfl rfl rfl ?_
  refine o_assign rfl rfl ?_
  refine l_nil ?_
  refine q_then ?_
  refine c_ret ?_
  exact f_ret (r_one rfl rfl) (⟨(by first | rfl | (congr 1; first | (simp [*]; done) | (simp [*]; omega) | grind)), rfl⟩) (fun w S => S)

theorem leadsS {W : World} {F : List Res} {k : Nat} {ld : LdS ByteArray} : CS Try.prog 21 #[.pointer (some ⟨k, 0, none⟩)] W (LdR k ld :: F) (fun r L' => r = .bool ld.leads ∧ L' = LdR k ld :: F) := by
 refine f_door (l0 := [(0, .pointer (some ⟨k, 0, none⟩))]) Try.func21 Try.ntmps21 rfl rfl rfl ?_
 refine c_seq ?_
 refine c_region ?_
 refine o_assign rfl rfl ?_
 refine l_nil ?_
 refine q_then ?_
 refine c_seq ?_
 refine c_region ?_
 refine o_move rfl rfl ?_
 refine o_move rfl rfl ?_
 refine o_nil rfl rfl ?_
 refine l_obj ?_
 rintro ⟨m1_1, m2_1, m3_1, a_1, c_1⟩ ok_1
 have s0_ok_1 := ok_1.s0
 have s1_ok_1 := ok_1.s1
 have v0_ok_1 := ok_1.v0
 have v1_ok_1 := ok_1.v1
 refine l_conv (L' := blk k (.cells #[.int .u64 ld.ballot, .int .i64 ld.voters, .int .i64 ld.slot, .map (some m1_1), .map (some m2_1), .slice a_1 (ld.off).length c_1, .map (some m3_1)] 85 (0, 0)) :: mapR kvI vvI m1_1 ld.prom :: mapR kvI vvVS m2_1 ld.told :: mapR kvI vvI m3_1 ld.tak :: row e_S.T e_S.sz a_1 (ld.off).length c_1 (flat e_S ld.off) :: _) (fun w S => S) ?_
 refine o_fieldAddr (q := ⟨k, 3, none⟩) rfl rfl Try.underlying85 rfl ti62 rfl ?_
 refine o_load1 rfl rfl Try.underlying62 rfl (rd_mem 0 rfl rfl) ?_
 refine l_f1 ?_
 refine l_f1 ?_
 refine o_call rfl cal38 rfl (enoughS) ?_
 rintro _ _ ⟨rfl, rfl⟩
 refine o_assign rfl rfl ?_
 refine l_nil ?_
 refine q_then ?_
 refine c_ret ?_
 refine q_conv (L' := LdR k ld :: _) (fun w S => Sat.obj_mk ⟨m1_1, m2_1, m3_1, a_1, c_1⟩ ok_1 S) ?_
 exact f_ret (r_one rfl rfl) (⟨rfl, rfl⟩) (fun w S => S)

theorem slotS {W : World} {F : List Res} {k : Nat} {ld : LdS ByteArray} : CS Try.prog 23 #[.pointer (some ⟨k, 0, none⟩)] W (LdR k ld :: F) (fun r L' => r = .int .i64 ld.slot ∧ L' = LdR k ld :: F) := by
 refine f_door (l0 := [(0, .pointer (some ⟨k, 0, none⟩))]) Try.func23 Try.ntmps23 rfl rfl rfl ?_
 refine c_seq ?_
 refine c_region ?_
 refine o_assign rfl rfl ?_
 refine l_nil ?_
 refine q_then ?_
 refine c_seq ?_
 refine c_region ?_
 refine o_move rfl rfl ?_
 refine o_nil rfl rfl ?_
 refine l_obj ?_
 rintro ⟨m1_1, m2_1, m3_1, a_1, c_1⟩ ok_1
 have s0_ok_1 := ok_1.s0
 have s1_ok_1 := ok_1.s1
 have v0_ok_1 := ok_1.v0
 have v1_ok_1 := ok_1.v1
 refine l_conv (L' := blk k (.cells #[.int .u64 ld.ballot, .int .i64 ld.voters, .int .i64 ld.slot, .map (some m1_1), .map (some m2_1), .slice a_1 (ld.off).length c_1, .map (some m3_1)] 85 (0, 0)) :: mapR kvI vvI m1_1 ld.prom :: mapR kvI vvVS m2_1 ld.told :: mapR kvI vvI m3_1 ld.tak :: row e_S.T e_S.sz a_1 (ld.off).length c_1 (flat e_S ld.off) :: _) (fun w S => S) ?_
 refine o_fieldAddr (q := ⟨k, 2, none⟩) rfl rfl Try.underlying85 rfl ti3 rfl ?_
 refine o_load1 rfl rfl Try.underlying3 rfl (rd_mem 0 rfl rfl) ?_
 refine o_assign rfl rfl ?_
 refine l_nil ?_
 refine q_then ?_
 refine c_ret ?_
 refine q_conv (L' := LdR k ld :: _) (fun w S => Sat.obj_mk ⟨m1_1, m2_1, m3_1, a_1, c_1⟩ ok_1 S) ?_
 exact f_ret (r_one rfl rfl) (⟨rfl, rfl⟩) (fun w S => S)

theorem lnewS {W : World} {F : List Res} {b v f : Int} : CS Try.prog 10 #[.int .u64 b, .int .i64 v, .int .i64 f] W (F) (fun r L' => ∃ p : Value × Value, r = .tuple #[p.1, p.2] ∧ ((p.1 = .pointer none ∧ p.2 = .int .i64 1 ∧ ¬ (1 ≤ v ∧ v ≤ 9 ∧ 0 ≤ f ∧ f ≤ 64) ∧ L' = F) ∨ ∃ k, p.1 = .pointer (some ⟨k, 0, none⟩) ∧ p.2 = .int .i64 0 ∧ (1 ≤ v ∧ v ≤ 9 ∧ 0 ≤ f ∧ f ≤ 64) ∧ L' = LdR k (ldNew ByteArray b v f) :: F)) := by
 refine f_door (l0 := [(0, .int .u64 b), (1, .int .i64 v), (2, .int .i64 f)]) Try.func10 Try.ntmps10 rfl rfl rfl ?_
 refine c_seq ?_
 refine c_region ?_
 refine o_assign rfl rfl ?_
 refine o_assign rfl rfl ?_
 refine l_nil ?_
 refine q_then ?_
 refine c_seq ?_
 refine c_seq ?_
 refine c_region ?_
 refine o_move rfl rfl ?_
 refine o_bin rfl rfl rfl b_lss ?_
 refine o_move rfl rfl ?_
 refine l_split (t := 10) rfl (fun h1 => ?_) (fun h1 => ?_)
 · -- h1T
  have h1b := h1
  try simp only [decide_eq_true_eq] at h1
  refine o_no rfl rfl rfl rfl ?_
  refine o_no rfl rfl rfl rfl ?_
  refine o_pick_true rfl rfl rfl ?_
  refine o_move rfl rfl ?_
  refine o_no rfl rfl rfl rfl ?_
  refine o_no rfl rfl rfl rfl ?_
  refine o_pick_true rfl rfl rfl ?_
  refine o_move rfl rfl ?_
  refine o_no rfl rfl rfl rfl ?_
  refine o_no rfl rfl rfl rfl ?_
  refine o_pick_true rfl rfl rfl ?_
  refine l_nil ?_
  refine q_then ?_
  refine c_true rfl ?_
  refine c_seq ?_
  refine c_region ?_
  refine o_assign rfl rfl ?_
  refine o_assign rfl rfl ?_
  refine l_nil ?_
  refine q_then ?_
  refine c_ret ?_
  refine q_pass_ret ?_
  exact f_ret (r_two rfl rfl rfl) (⟨(.pointer none, .int .i64 1), rfl, .inl ⟨rfl, rfl, by omega, rfl⟩⟩) (fun w S => S)
 · -- h1F
  have h1b := h1
  try simp only [decide_eq_false_iff_not, Int.not_lt, Int.not_le] at h1
  refine o_yes rfl rfl rfl ?_
  refine o_move rfl rfl ?_
  refine o_yes rfl rfl rfl ?_
  refine o_bin rfl rfl rfl b_gtr ?_
  refine o_pick_false rfl rfl rfl ?_
  refine o_move rfl rfl ?_
  refine l_split (t := 14) rfl (fun h2 => ?_) (fun h2 => ?_)
  · -- h2T
   have h2b := h2
   try simp only [decide_eq_true_eq] at h2
   refine o_no rfl rfl rfl rfl ?_
   refine o_no rfl rfl rfl rfl ?_
   refine o_pick_true rfl rfl rfl ?_
   refine o_move rfl rfl ?_
   refine o_no rfl rfl rfl rfl ?_
   refine o_no rfl rfl rfl rfl ?_
   refine o_pick_true rfl rfl rfl ?_
   refine l_nil ?_
   refine q_then ?_
   refine c_true rfl ?_
   refine c_seq ?_
   refine c_region ?_
   refine o_assign rfl rfl ?_
   refine o_assign rfl rfl ?_
   refine l_nil ?_
   refine q_then ?_
   refine c_ret ?_
   refine q_pass_ret ?_
   exact f_ret (r_two rfl rfl rfl) (⟨(.pointer none, .int .i64 1), rfl, .inl ⟨rfl, rfl, by omega, rfl⟩⟩) (fun w S => S)
  · -- h2F
   have h2b := h2
   try simp only [decide_eq_false_iff_not, Int.not_lt, Int.not_le] at h2
   refine o_yes rfl rfl rfl ?_
   refine o_move rfl rfl ?_
   refine o_yes rfl rfl rfl ?_
   refine o_bin rfl rfl rfl b_lss ?_
   refine o_pick_false rfl rfl rfl ?_
   refine o_move rfl rfl ?_
   refine l_split (t := 18) rfl (fun h3 => ?_) (fun h3 => ?_)
   · -- h3T
    have h3b := h3
    try simp only [decide_eq_true_eq] at h3
    refine o_no rfl rfl rfl rfl ?_
    refine o_no rfl rfl rfl rfl ?_
    refine o_pick_true rfl rfl rfl ?_
    refine l_nil ?_
    refine q_then ?_
    refine c_true rfl ?_
    refine c_seq ?_
    refine c_region ?_
    refine o_assign rfl rfl ?_
    refine o_assign rfl rfl ?_
    refine l_nil ?_
    refine q_then ?_
    refine c_ret ?_
    refine q_pass_ret ?_
    exact f_ret (r_two rfl rfl rfl) (⟨(.pointer none, .int .i64 1), rfl, .inl ⟨rfl, rfl, by omega, rfl⟩⟩) (fun w S => S)
   · -- h3F
    have h3b := h3
    try simp only [decide_eq_false_iff_not, Int.not_lt, Int.not_le] at h3
    refine o_yes rfl rfl rfl ?_
    refine o_move rfl rfl ?_
    refine o_yes rfl rfl rfl ?_
    refine o_bin rfl rfl rfl b_gtr ?_
    refine o_pick_false rfl rfl rfl ?_
    refine l_nil ?_
    refine q_then ?_
    refine c_cond rfl (fun h4 => ?_) (fun h4 => ?_)
    · -- h4T
     have h4b := h4
     try simp only [decide_eq_true_eq] at h4
     refine c_seq ?_
     refine c_region ?_
     refine o_assign rfl rfl ?_
     refine o_assign rfl rfl ?_
     refine l_nil ?_
     refine q_then ?_
     refine c_ret ?_
     refine q_pass_ret ?_
     exact f_ret (r_two rfl rfl rfl) (⟨(.pointer none, .int .i64 1), rfl, .inl ⟨rfl, rfl, by omega, rfl⟩⟩) (fun w S => S)
    · -- h4F
     have h4b := h4
     try simp only [decide_eq_false_iff_not, Int.not_lt, Int.not_le] at h4
     refine c_skip ?_
     refine q_then ?_
     refine c_seq ?_
     refine c_region ?_
     refine o_move rfl rfl ?_
     refine o_move rfl rfl ?_
     refine o_move rfl rfl ?_
     refine o_makeMap kvI vvI rfl fun m25 => ?_
     refine o_makeMap kvI vvVS rfl fun m26 => ?_
     refine o_makeMap kvI vvI rfl fun m27 => ?_
     refine o_build rfl sp85 ti85 rfl ((fill_cons (cells' := [.int .u64 b, .int .i64 0, .int .i64 0, .map none, .map none, .slice none 0 0, .map none]) rfl rfl rfl rfl (fill_cons (cells' := [.int .u64 b, .int .i64 v, .int .i64 0, .map none, .map none, .slice none 0 0, .map none]) rfl rfl rfl rfl (fill_cons (cells' := [.int .u64 b, .int .i64 v, .int .i64 f, .map none, .map none, .slice none 0 0, .map none]) rfl rfl rfl rfl (fill_cons (cells' := [.int .u64 b, .int .i64 v, .int .i64 f, .map (some m25), .map none, .slice none 0 0, .map none]) rfl rfl rfl rfl (fill_cons (cells' := [.int .u64 b, .int .i64 v, .int .i64 f, .map (some m25), .map (some m26), .slice none 0 0, .map none]) rfl rfl rfl rfl (fill_cons (cells' := [.int .u64 b, .int .i64 v, .int .i64 f, .map (some m25), .map (some m26), .slice none 0 0, .map (some m27)]) rfl rfl rfl rfl fill_nil))))))) ?_
     refine o_box rfl rfl fun b29 => ?_
     refine o_assign rfl rfl ?_
     refine o_assign rfl rfl ?_
     refine l_nil ?_
     refine q_then ?_
     refine c_ret ?_
     refine q_nilrow e_S ?_
     refine q_conv (fun w S => S.perm p2) ?_
     refine q_conv (fun w S => S.perm p3) ?_
     refine q_conv (fun w S => S.perm p4) ?_
     refine q_conv (fun w S => S.perm p4) ?_
     exact f_ret (r_two rfl rfl rfl) (⟨(.pointer (some ⟨b29, 0, none⟩), .int .i64 0), rfl, .inr ⟨b29, rfl, rfl, by omega, rfl⟩⟩) (fun w S => Sat.obj_mk (⟨m25, m26, m27, none, 0⟩) (⟨by simp only [ldNew]; omega, by simp only [ldNew]; omega, by simp only [ldNew]; omega, by simp only [ldNew]; omega⟩) S)

theorem enoughI {W : World} {F : List Res} {k : Nat} {c0 c2 c3 c4 c5 c6 : Value} {v : Int} {m : Nat} {Dm : List (Int × Int)} : CS Try.prog 41 #[.pointer (some ⟨k, 0, none⟩), .map (some m)] W (blk k (.cells #[c0, .int .i64 v, c2, c3, c4, c5, c6] 93 (0, 0)) :: mapR kvI vvI m Dm :: F) (fun r L' => r = .bool (enoughB v Dm) ∧ L' = blk k (.cells #[c0, .int .i64 v, c2, c3, c4, c5, c6] 93 (0, 0)) :: mapR kvI vvI m Dm :: F) := by
 refine f_door (l0 := [(0, .pointer (some ⟨k, 0, none⟩)), (1, .map (some m))]) Try.func41 Try.ntmps41 rfl rfl rfl ?_
 refine c_seq ?_
 refine c_region ?_
 refine o_assign rfl rfl ?_
 refine l_nil ?_
 refine q_then ?_
 refine c_seq ?_
 refine c_quiet (by kernel_rfl) (by kernel_rfl) ?_
 refine Qt.o_val rfl (v_move rfl rfl) ?_
 refine Qt.o_val rfl (v_lenMap (kv := kvI) (vv := vvI) 1 rfl rfl rfl Try.underlying62) ?_
 refine Qt.o_val rfl (v_move rfl rfl) ?_
 refine Qt.o_val rfl (v_nil rfl rfl) ?_
 refine Qt.o_val rfl (v_fieldAddr (q := ⟨k, 1, none⟩) rfl rfl Try.underlying93 rfl ti3 rfl) ?_
 refine Qt.o_val rfl (v_load1 rfl rfl Try.underlying3 rfl (rd_mem 0 rfl rfl)) ?_
 refine Qt.o_val rfl (v_bin rfl rfl rfl (b_quo (by omega) rfl)) ?_
 refine Qt.o_val rfl (v_bin rfl rfl rfl b_gtr) ?_
 refine Qt.o_val rfl (v_assign rfl rfl) ?_
 refine Qt.l_nil ?_
 refine q_then ?_
 refine c_ret ?_
 exact f_ret (r_one rfl rfl) (⟨rfl, rfl⟩) (fun w S => S)

theorem voterI {W : World} {F : List Res} {k : Nat} {c0 c2 c3 c4 c5 c6 : Value} {v : Int} {i : Int} : CS Try.prog 40 #[.pointer (some ⟨k, 0, none⟩), .int .i64 i] W (blk k (.cells #[c0, .int .i64 v, c2, c3, c4, c5, c6] 93 (0, 0)) :: F) (fun r L' => r = .bool (decide (0 ≤ i) && decide (i < v)) ∧ L' = blk k (.cells #[c0, .int .i64 v, c2, c3, c4, c5, c6] 93 (0, 0)) :: F) := by
 refine f_door (l0 := [(0, .pointer (some ⟨k, 0, none⟩)), (1, .int .i64 i)]) Try.func40 Try.ntmps40 rfl rfl rfl ?_
 refine c_seq ?_
 refine c_region ?_
 refine o_assign rfl rfl ?_
 refine l_nil ?_
 refine q_then ?_
 refine c_seq ?_
 refine c_region ?_
 refine o_move rfl rfl ?_
 refine o_bin rfl rfl rfl b_geq ?_
 refine o_move rfl rfl ?_
 refine l_split (t := 7) rfl (fun h1 => ?_) (fun h1 => ?_)
 · -- h1T
  have h1b := h1
  try simp only [decide_eq_true_eq] at h1
  refine o_yes rfl rfl rfl ?_
  refine o_move rfl rfl ?_
  refine o_yes rfl rfl rfl ?_
  refine o_move rfl rfl ?_
  refine o_yes rfl rfl rfl ?_
  refine o_nil rfl rfl ?_
  refine o_yes rfl rfl rfl ?_
  refine o_fieldAddr (q := ⟨k, 1, none⟩) rfl rfl Try.underlying93 rfl ti3 rfl ?_
  refine o_yes rfl rfl rfl ?_
  refine o_load1 rfl rfl Try.underlying3 rfl (rd_mem 0 rfl rfl) ?_
  refine o_yes rfl rfl rfl ?_
  refine o_bin rfl rfl rfl b_lss ?_
  refine o_pick_true rfl rfl rfl ?_
  refine o_assign rfl rfl ?_
  refine l_nil ?_
  refine q_then ?_
  refine c_ret ?_
  exact f_ret (r_one rfl rfl) (⟨(by first | rfl | (congr 1; first | (simp [*]; done) | (simp [*]; omega) | grind)), rfl⟩) (fun w S => S)
 · -- h1F
  have h1b := h1
  try simp only [decide_eq_false_iff_not, Int.not_lt, Int.not_le] at h1
  refine o_no rfl rfl rfl rfl ?_
  refine o_no rfl rfl rfl rfl ?_
  refine o_no rfl rfl rfl rfl ?_
  refine o_no rfl rfl rfl rfl ?_
  refine o_no rfl rfl rfl rfl ?_
  refine o_no rfl rfl rfl rfl ?_
  refine o_pick_false rfl rfl rfl ?_
  refine o_assign rfl rfl ?_
  refine l_nil ?_
  refine q_then ?_
  refine c_ret ?_
  exact f_ret (r_one rfl rfl) (⟨(by first | rfl | (congr 1; first | (simp [*]; done) | (simp [*]; omega) | grind)), rfl⟩) (fun w S => S)

theorem leadsI {W : World} {F : List Res} {k : Nat} {ld : LdS Int} : CS Try.prog 30 #[.pointer (some ⟨k, 0, none⟩)] W (LdRI k ld :: F) (fun r L' => r = .bool ld.leads ∧ L' = LdRI k ld :: F) := by
 refine f_door (l0 := [(0, .pointer (some ⟨k, 0, none⟩))]) Try.func30 Try.ntmps30 rfl rfl rfl ?_
 refine c_seq ?_
 refine c_region ?_
 refine o_assign rfl rfl ?_
 refine l_nil ?_
 refine q_then ?_
 refine c_seq ?_
 refine c_region ?_
 refine o_move rfl rfl ?_
 refine o_move rfl rfl ?_
 refine o_nil rfl rfl ?_
 refine l_obj ?_
 rintro ⟨m1_1, m2_1, m3_1, a_1, c_1⟩ ok_1
 have s0_ok_1 := ok_1.s0
 have s1_ok_1 := ok_1.s1
 have v0_ok_1 := ok_1.v0
 have v1_ok_1 := ok_1.v1
 refine l_conv (L' := blk k (.cells #[.int .u64 ld.ballot, .int .i64 ld.voters, .int .i64 ld.slot, .map (some m1_1), .map (some m2_1), .slice a_1 (ld.off).length c_1, .map (some m3_1)] 93 (0, 0)) :: mapR kvI vvI m1_1 ld.prom :: mapR kvI vvVI m2_1 ld.told :: mapR kvI vvI m3_1 ld.tak :: row e_I.T e_I.sz a_1 (ld.off).length c_1 (flat e_I ld.off) :: _) (fun w S => S) ?_
 refine o_fieldAddr (q := ⟨k, 3, none⟩) rfl rfl Try.underlying93 rfl ti62 rfl ?_
 refine o_load1 rfl rfl Try.underlying62 rfl (rd_mem 0 rfl rfl) ?_
 refine l_f1 ?_
 refine l_f1 ?_
 refine o_call rfl cal41 rfl (enoughI) ?_
 rintro _ _ ⟨rfl, rfl⟩
 refine o_assign rfl rfl ?_
 refine l_nil ?_
 refine q_then ?_
 refine c_ret ?_
 refine q_conv (L' := LdRI k ld :: _) (fun w S => Sat.obj_mk ⟨m1_1, m2_1, m3_1, a_1, c_1⟩ ok_1 S) ?_
 exact f_ret (r_one rfl rfl) (⟨rfl, rfl⟩) (fun w S => S)

theorem slotI {W : World} {F : List Res} {k : Nat} {ld : LdS Int} : CS Try.prog 28 #[.pointer (some ⟨k, 0, none⟩)] W (LdRI k ld :: F) (fun r L' => r = .int .i64 ld.slot ∧ L' = LdRI k ld :: F) := by
 refine f_door (l0 := [(0, .pointer (some ⟨k, 0, none⟩))]) Try.func28 Try.ntmps28 rfl rfl rfl ?_
 refine c_seq ?_
 refine c_region ?_
 refine o_assign rfl rfl ?_
 refine l_nil ?_
 refine q_then ?_
 refine c_seq ?_
 refine c_region ?_
 refine o_move rfl rfl ?_
 refine o_nil rfl rfl ?_
 refine l_obj ?_
 rintro ⟨m1_1, m2_1, m3_1, a_1, c_1⟩ ok_1
 have s0_ok_1 := ok_1.s0
 have s1_ok_1 := ok_1.s1
 have v0_ok_1 := ok_1.v0
 have v1_ok_1 := ok_1.v1
 refine l_conv (L' := blk k (.cells #[.int .u64 ld.ballot, .int .i64 ld.voters, .int .i64 ld.slot, .map (some m1_1), .map (some m2_1), .slice a_1 (ld.off).length c_1, .map (some m3_1)] 93 (0, 0)) :: mapR kvI vvI m1_1 ld.prom :: mapR kvI vvVI m2_1 ld.told :: mapR kvI vvI m3_1 ld.tak :: row e_I.T e_I.sz a_1 (ld.off).length c_1 (flat e_I ld.off) :: _) (fun w S => S) ?_
 refine o_fieldAddr (q := ⟨k, 2, none⟩) rfl rfl Try.underlying93 rfl ti3 rfl ?_
 refine o_load1 rfl rfl Try.underlying3 rfl (rd_mem 0 rfl rfl) ?_
 refine o_assign rfl rfl ?_
 refine l_nil ?_
 refine q_then ?_
 refine c_ret ?_
 refine q_conv (L' := LdRI k ld :: _) (fun w S => Sat.obj_mk ⟨m1_1, m2_1, m3_1, a_1, c_1⟩ ok_1 S) ?_
 exact f_ret (r_one rfl rfl) (⟨rfl, rfl⟩) (fun w S => S)

theorem lnewI {W : World} {F : List Res} {b v f : Int} : CS Try.prog 24 #[.int .u64 b, .int .i64 v, .int .i64 f] W (F) (fun r L' => ∃ p : Value × Value, r = .tuple #[p.1, p.2] ∧ ((p.1 = .pointer none ∧ p.2 = .int .i64 1 ∧ ¬ (1 ≤ v ∧ v ≤ 9 ∧ 0 ≤ f ∧ f ≤ 64) ∧ L' = F) ∨ ∃ k, p.1 = .pointer (some ⟨k, 0, none⟩) ∧ p.2 = .int .i64 0 ∧ (1 ≤ v ∧ v ≤ 9 ∧ 0 ≤ f ∧ f ≤ 64) ∧ L' = LdRI k (ldNew Int b v f) :: F)) := by
 refine f_door (l0 := [(0, .int .u64 b), (1, .int .i64 v), (2, .int .i64 f)]) Try.func24 Try.ntmps24 rfl rfl rfl ?_
 refine c_seq ?_
 refine c_region ?_
 refine o_assign rfl rfl ?_
 refine o_assign rfl rfl ?_
 refine l_nil ?_
 refine q_then ?_
 refine c_seq ?_
 refine c_seq ?_
 refine c_region ?_
 refine o_move rfl rfl ?_
 refine o_bin rfl rfl rfl b_lss ?_
 refine o_move rfl rfl ?_
 refine l_split (t := 10) rfl (fun h1 => ?_) (fun h1 => ?_)
 · -- h1T
  have h1b := h1
  try simp only [decide_eq_true_eq] at h1
  refine o_no rfl rfl rfl rfl ?_
  refine o_no rfl rfl rfl rfl ?_
  refine o_pick_true rfl rfl rfl ?_
  refine o_move rfl rfl ?_
  refine o_no rfl rfl rfl rfl ?_
  refine o_no rfl rfl rfl rfl ?_
  refine o_pick_true rfl rfl rfl ?_
  refine o_move rfl rfl ?_
  refine o_no rfl rfl rfl rfl ?_
  refine o_no rfl rfl rfl rfl ?_
  refine o_pick_true rfl rfl rfl ?_
  refine l_nil ?_
  refine q_then ?_
  refine c_true rfl ?_
  refine c_seq ?_
  refine c_region ?_
  refine o_assign rfl rfl ?_
  refine o_assign rfl rfl ?_
  refine l_nil ?_
  refine q_then ?_
  refine c_ret ?_
  refine q_pass_ret ?_
  exact f_ret (r_two rfl rfl rfl) (⟨(.pointer none, .int .i64 1), rfl, .inl ⟨rfl, rfl, by omega, rfl⟩⟩) (fun w S => S)
 · -- h1F
  have h1b := h1
  try simp only [decide_eq_false_iff_not, Int.not_lt, Int.not_le] at h1
  refine o_yes rfl rfl rfl ?_
  refine o_move rfl rfl ?_
  refine o_yes rfl rfl rfl ?_
  refine o_bin rfl rfl rfl b_gtr ?_
  refine o_pick_false rfl rfl rfl ?_
  refine o_move rfl rfl ?_
  refine l_split (t := 14) rfl (fun h2 => ?_) (fun h2 => ?_)
  · -- h2T
   have h2b := h2
   try simp only [decide_eq_true_eq] at h2
   refine o_no rfl rfl rfl rfl ?_
   refine o_no rfl rfl rfl rfl ?_
   refine o_pick_true rfl rfl rfl ?_
   refine o_move rfl rfl ?_
   refine o_no rfl rfl rfl rfl ?_
   refine o_no rfl rfl rfl rfl ?_
   refine o_pick_true rfl rfl rfl ?_
   refine l_nil ?_
   refine q_then ?_
   refine c_true rfl ?_
   refine c_seq ?_
   refine c_region ?_
   refine o_assign rfl rfl ?_
   refine o_assign rfl rfl ?_
   refine l_nil ?_
   refine q_then ?_
   refine c_ret ?_
   refine q_pass_ret ?_
   exact f_ret (r_two rfl rfl rfl) (⟨(.pointer none, .int .i64 1), rfl, .inl ⟨rfl, rfl, by omega, rfl⟩⟩) (fun w S => S)
  · -- h2F
   have h2b := h2
   try simp only [decide_eq_false_iff_not, Int.not_lt, Int.not_le] at h2
   refine o_yes rfl rfl rfl ?_
   refine o_move rfl rfl ?_
   refine o_yes rfl rfl rfl ?_
   refine o_bin rfl rfl rfl b_lss ?_
   refine o_pick_false rfl rfl rfl ?_
   refine o_move rfl rfl ?_
   refine l_split (t := 18) rfl (fun h3 => ?_) (fun h3 => ?_)
   · -- h3T
    have h3b := h3
    try simp only [decide_eq_true_eq] at h3
    refine o_no rfl rfl rfl rfl ?_
    refine o_no rfl rfl rfl rfl ?_
    refine o_pick_true rfl rfl rfl ?_
    refine l_nil ?_
    refine q_then ?_
    refine c_true rfl ?_
    refine c_seq ?_
    refine c_region ?_
    refine o_assign rfl rfl ?_
    refine o_assign rfl rfl ?_
    refine l_nil ?_
    refine q_then ?_
    refine c_ret ?_
    refine q_pass_ret ?_
    exact f_ret (r_two rfl rfl rfl) (⟨(.pointer none, .int .i64 1), rfl, .inl ⟨rfl, rfl, by omega, rfl⟩⟩) (fun w S => S)
   · -- h3F
    have h3b := h3
    try simp only [decide_eq_false_iff_not, Int.not_lt, Int.not_le] at h3
    refine o_yes rfl rfl rfl ?_
    refine o_move rfl rfl ?_
    refine o_yes rfl rfl rfl ?_
    refine o_bin rfl rfl rfl b_gtr ?_
    refine o_pick_false rfl rfl rfl ?_
    refine l_nil ?_
    refine q_then ?_
    refine c_cond rfl (fun h4 => ?_) (fun h4 => ?_)
    · -- h4T
     have h4b := h4
     try simp only [decide_eq_true_eq] at h4
     refine c_seq ?_
     refine c_region ?_
     refine o_assign rfl rfl ?_
     refine o_assign rfl rfl ?_
     refine l_nil ?_
     refine q_then ?_
     refine c_ret ?_
     refine q_pass_ret ?_
     exact f_ret (r_two rfl rfl rfl) (⟨(.pointer none, .int .i64 1), rfl, .inl ⟨rfl, rfl, by omega, rfl⟩⟩) (fun w S => S)
    · -- h4F
     have h4b := h4
     try simp only [decide_eq_false_iff_not, Int.not_lt, Int.not_le] at h4
     refine c_skip ?_
     refine q_then ?_
     refine c_seq ?_
     refine c_region ?_
     refine o_move rfl rfl ?_
     refine o_move rfl rfl ?_
     refine o_move rfl rfl ?_
     refine o_makeMap kvI vvI rfl fun m25 => ?_
     refine o_makeMap kvI vvVI rfl fun m26 => ?_
     refine o_makeMap kvI vvI rfl fun m27 => ?_
     refine o_build rfl sp93 ti93 rfl ((fill_cons (cells' := [.int .u64 b, .int .i64 0, .int .i64 0, .map none, .map none, .slice none 0 0, .map none]) rfl rfl rfl rfl (fill_cons (cells' := [.int .u64 b, .int .i64 v, .int .i64 0, .map none, .map none, .slice none 0 0, .map none]) rfl rfl rfl rfl (fill_cons (cells' := [.int .u64 b, .int .i64 v, .int .i64 f, .map none, .map none, .slice none 0 0, .map none]) rfl rfl rfl rfl (fill_cons (cells' := [.int .u64 b, .int .i64 v, .int .i64 f, .map (some m25), .map none, .slice none 0 0, .map none]) rfl rfl rfl rfl (fill_cons (cells' := [.int .u64 b, .int .i64 v, .int .i64 f, .map (some m25), .map (some m26), .slice none 0 0, .map none]) rfl rfl rfl rfl (fill_cons (cells' := [.int .u64 b, .int .i64 v, .int .i64 f, .map (some m25), .map (some m26), .slice none 0 0, .map (some m27)]) rfl rfl rfl rfl fill_nil))))))) ?_
     refine o_box rfl rfl fun b29 => ?_
     refine o_assign rfl rfl ?_
     refine o_assign rfl rfl ?_
     refine l_nil ?_
     refine q_then ?_
     refine c_ret ?_
     refine q_nilrow e_I ?_
     refine q_conv (fun w S => S.perm p2) ?_
     refine q_conv (fun w S => S.perm p3) ?_
     refine q_conv (fun w S => S.perm p4) ?_
     refine q_conv (fun w S => S.perm p4) ?_
     exact f_ret (r_two rfl rfl rfl) (⟨(.pointer (some ⟨b29, 0, none⟩), .int .i64 0), rfl, .inr ⟨b29, rfl, rfl, by omega, rfl⟩⟩) (fun w S => Sat.obj_mk (⟨m25, m26, m27, none, 0⟩) (⟨by simp only [ldNew]; omega, by simp only [ldNew]; omega, by simp only [ldNew]; omega, by simp only [ldNew]; omega⟩) S)

end Go.Proofs.Ytakjmdeckngnlaa
