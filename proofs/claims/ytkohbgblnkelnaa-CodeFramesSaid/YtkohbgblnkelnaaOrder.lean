/- Printed by eng.py out of 01/spec.py. -/
import Derived.Test.YtkohbgblnkelnaaPen
import Derived.Test.YtkohbgblnkelnaaSum
set_option linter.unusedVariables false
set_option linter.unusedSimpArgs false
set_option maxRecDepth 10000
namespace Go.Proofs.Ytkohbgblnkelnaa
open Go.RowKit
theorem speaks_ {W : World} {F : List Res} : CS Try.prog 12 #[] W (F) (fun r L' => r = .bool true ∧ F = L') := by
  have l300 : (numB 300).length = 2 := by rw [num_example]; rfl
  refine f_door (l0 := []) Try.func12 Try.ntmps12 rfl rfl rfl ?_
  refine c_seq ?_
  refine c_region ?_
  refine o_assign rfl rfl ?_
  refine l_nil ?_
  refine q_then ?_
  refine c_seq ?_
  refine c_region ?_
  refine o_build rfl sp27 ti27 rfl rfl ?_
  refine o_box rfl rfl fun b3 => ?_
  refine l_nilrow e8 ?_
  refine l_conv (L' := blk b3 (.cells #[.slice none (([] : List UInt8)).length 0] 27 (0, 0)) :: row e8.T e8.sz none (([] : List UInt8)).length 0 (flat e8 ([] : List UInt8)) :: _) (fun w S => S.perm p1) ?_
  refine o_assign rfl rfl ?_
  refine l_nil ?_
  refine q_then ?_
  refine c_seq ?_
  refine c_region ?_
  refine o_move rfl rfl ?_
  refine l_f1 ?_
  refine l_f1 ?_
  refine o_call rfl cal13 rfl (penNum (v := 300) (by omega) (by simp)) ?_
  rintro _ _ ⟨a5, c5, rfl, rfl⟩
  refine l_nil ?_
  refine q_then ?_
  refine c_seq ?_
  refine c_region ?_
  refine o_move rfl rfl ?_
  refine l_f1 ?_
  refine l_f1 ?_
  refine o_call rfl cal14 rfl (penData (by simp only [List.length_append, List.length_cons, List.length_nil]; omega)) ?_
  rintro _ _ ⟨a7, c7, rfl, rfl⟩
  refine o_bytesStr (e := e8) rfl rfl rfl Try.underlying25 Try.underlying5 Try.underlying9 (rds_own e8_ok 0 rfl) ?_
  refine o_bin rfl rfl rfl b_seql ?_
  refine l_eq (t := 9) (v' := .bool true) rfl (show _ = Value.bool true from by rw [num_example]; rfl) ?_
  refine o_move rfl rfl ?_
  refine o_yes rfl rfl rfl ?_
  refine o_lit e8_ok rfl Try.underlying25 rfl rfl rfl (lit_ok rfl) [49, 50, 51, 52, 53, 54, 55, 56, 57] rfl rfl fun a11 => ?_
  refine o_yes rfl rfl rfl ?_
  refine o_mark e8_ok (by simp) rfl rfl Try.underlying25 Try.underlying5 ?_
  refine o_yes rfl rfl rfl ?_
  refine o_call rfl cal28 rfl (sum8 (rds_mrow e8_ok 0 rfl) (by simp)) ?_
  rintro _ _ ⟨rfl, rfl⟩
  refine o_yes rfl rfl rfl ?_
  refine o_bin rfl rfl rfl b_eql ?_
  refine l_eq (t := 14) (v' := .bool true) rfl (show _ = Value.bool true from by rw [sum_example]; rfl) ?_
  refine o_pick_true rfl rfl rfl ?_
  refine o_assign rfl rfl ?_
  refine l_nil ?_
  refine q_then ?_
  refine c_ret ?_
  refine q_conv (fun w S => S.tail) ?_
  refine q_conv (fun w S => S.tail) ?_
  refine q_conv (fun w S => S.tail) ?_
  refine q_conv (fun w S => S.tail) ?_
  exact f_ret (r_one rfl rfl) (⟨rfl, rfl⟩) (fun w S => S)

theorem names_ {W : World} {F : List Res} : CS Try.prog 3 #[] W (F) (fun r L' => r = .bool true ∧ F = L') := by
  refine f_door (l0 := []) Try.func3 Try.ntmps3 rfl rfl rfl ?_
  refine c_seq ?_
  refine c_region ?_
  refine o_assign rfl rfl ?_
  refine l_nil ?_
  refine q_then ?_
  refine c_seq ?_
  refine c_seq ?_
  refine c_region ?_
  refine o_call rfl cal12 rfl (speaks_) ?_
  rintro _ _ ⟨rfl, rfl⟩
  refine o_not rfl rfl ?_
  refine l_nil ?_
  refine q_then ?_
  refine c_false rfl ?_
  refine c_skip ?_
  refine q_then ?_
  refine c_seq ?_
  refine c_region ?_
  refine o_assign rfl rfl ?_
  refine l_nil ?_
  refine q_then ?_
  refine c_seq ?_
  refine c_region ?_
  refine o_assign rfl rfl ?_
  refine l_nil ?_
  refine q_then ?_
  refine c_seq ?_
  refine c_region ?_
  refine o_move rfl rfl ?_
  refine o_move rfl rfl ?_
  refine o_yes rfl rfl rfl ?_
  refine o_move rfl rfl ?_
  refine o_pick_true rfl rfl rfl ?_
  refine o_move rfl rfl ?_
  refine o_pick_true rfl rfl rfl ?_
  refine o_move rfl rfl ?_
  refine o_pick_true rfl rfl rfl ?_
  refine o_move rfl rfl ?_
  refine o_pick_true rfl rfl rfl ?_
  refine o_move rfl rfl ?_
  refine o_pick_true rfl rfl rfl ?_
  refine o_move rfl rfl ?_
  refine o_pick_true rfl rfl rfl ?_
  refine o_move rfl rfl ?_
  refine o_pick_true rfl rfl rfl ?_
  refine o_move rfl rfl ?_
  refine o_pick_true rfl rfl rfl ?_
  refine o_move rfl rfl ?_
  refine o_pick_true rfl rfl rfl ?_
  refine o_move rfl rfl ?_
  refine o_pick_true rfl rfl rfl ?_
  refine o_move rfl rfl ?_
  refine o_pick_true rfl rfl rfl ?_
  refine o_move rfl rfl ?_
  refine o_pick_true rfl rfl rfl ?_
  refine o_move rfl rfl ?_
  refine o_pick_true rfl rfl rfl ?_
  refine o_assign rfl rfl ?_
  refine l_nil ?_
  refine q_then ?_
  refine c_ret ?_
  exact f_ret (r_one rfl rfl) (⟨rfl, rfl⟩) (fun w S => S)

theorem order_ {W : World} {F : List Res} {m n : Nat} (hm : m < 18446744073709551616) (hn : n < 18446744073709551616) : CS Try.prog 4 #[.int .u64 (m : Int), .int .u64 (n : Int)] W (F) (fun r L' => r = .bool true ∧ F = L') := by
  have lm := numB_len_le 10 m (by omega) (by omega)
  have ln := numB_len_le 10 n (by omega) (by omega)
  have mono1 := @numB_mono m n
  have mono2 := @numB_mono n m
  refine f_door (l0 := [(0, .int .u64 (m : Int)), (1, .int .u64 (n : Int))]) Try.func4 Try.ntmps4 rfl rfl rfl ?_
  refine c_seq ?_
  refine c_region ?_
  refine o_assign rfl rfl ?_
  refine l_nil ?_
  refine q_then ?_
  refine c_seq ?_
  refine c_seq ?_
  refine c_region ?_
  refine o_call rfl cal12 rfl (speaks_) ?_
  rintro _ _ ⟨rfl, rfl⟩
  refine o_not rfl rfl ?_
  refine l_nil ?_
  refine q_then ?_
  refine c_false rfl ?_
  refine c_skip ?_
  refine q_then ?_
  refine c_seq ?_
  refine c_region ?_
  refine o_build rfl sp27 ti27 rfl rfl ?_
  refine o_box rfl rfl fun b12 => ?_
  refine o_build rfl sp27 ti27 rfl rfl ?_
  refine o_box rfl rfl fun b14 => ?_
  refine l_f1 ?_
  refine l_nilrow e8 ?_
  refine l_conv (L' := blk b12 (.cells #[.slice none (([] : List UInt8)).length 0] 27 (0, 0)) :: row e8.T e8.sz none (([] : List UInt8)).length 0 (flat e8 ([] : List UInt8)) :: _) (fun w S => S.perm p1) ?_
  refine l_f2 ?_
  refine l_nilrow e8 ?_
  refine l_conv (L' := blk b14 (.cells #[.slice none (([] : List UInt8)).length 0] 27 (0, 0)) :: row e8.T e8.sz none (([] : List UInt8)).length 0 (flat e8 ([] : List UInt8)) :: _) (fun w S => S.perm p1) ?_
  refine o_assign rfl rfl ?_
  refine o_assign rfl rfl ?_
  refine l_nil ?_
  refine q_then ?_
  refine c_seq ?_
  refine c_region ?_
  refine o_move rfl rfl ?_
  refine o_move rfl rfl ?_
  refine l_f3 ?_
  refine l_f3 ?_
  refine o_call rfl cal13 rfl (penNum (v := m) (by omega) (by simp)) ?_
  rintro _ _ ⟨a17, c17, rfl, rfl⟩
  refine l_nil ?_
  refine q_then ?_
  refine c_seq ?_
  refine c_region ?_
  refine o_move rfl rfl ?_
  refine o_move rfl rfl ?_
  refine l_f3 ?_
  refine l_f3 ?_
  refine o_call rfl cal13 rfl (penNum (v := n) (by omega) (by simp)) ?_
  rintro _ _ ⟨a20, c20, rfl, rfl⟩
  refine l_nil ?_
  refine q_then ?_
  refine c_seq ?_
  refine c_region ?_
  refine o_move rfl rfl ?_
  refine l_f3 ?_
  refine l_f3 ?_
  refine o_call rfl cal14 rfl (penData (by simp only [List.length_append, List.length_cons, List.length_nil]; omega)) ?_
  rintro _ _ ⟨a22, c22, rfl, rfl⟩
  refine o_move rfl rfl ?_
  refine l_f4 ?_
  refine l_f4 ?_
  refine o_call rfl cal14 rfl (penData (by simp only [List.length_append, List.length_cons, List.length_nil]; omega)) ?_
  rintro _ _ ⟨a24, c24, rfl, rfl⟩
  refine o_assign rfl rfl ?_
  refine o_assign rfl rfl ?_
  refine l_nil ?_
  refine q_then ?_
  refine c_seq ?_
  refine c_region ?_
  refine o_move rfl rfl ?_
  refine o_move rfl rfl ?_
  refine o_bin rfl rfl rfl b_eql ?_
  refine o_move rfl rfl ?_
  refine o_bytesStr (e := e8) rfl rfl rfl Try.underlying25 Try.underlying5 Try.underlying9 (rds_own e8_ok 3 rfl) ?_
  refine o_move rfl rfl ?_
  refine o_bytesStr (e := e8) rfl rfl rfl Try.underlying25 Try.underlying5 Try.underlying9 (rds_own e8_ok 0 rfl) ?_
  refine o_bin rfl rfl rfl b_seql ?_
  refine o_bin rfl rfl rfl (b_beq Try.underlying4 _ _) ?_
  refine l_eq (t := 33) (v' := .bool true) rfl (show _ = Value.bool true from by simp only [List.nil_append, bts_eq, numB_eq, Int.ofNat_inj]; simp) ?_
  refine o_move rfl rfl ?_
  refine o_yes rfl rfl rfl ?_
  refine o_move rfl rfl ?_
  refine o_yes rfl rfl rfl ?_
  refine o_move rfl rfl ?_
  refine o_yes rfl rfl rfl ?_
  refine o_bin rfl rfl rfl b_gtr ?_
  refine o_yes rfl rfl rfl ?_
  refine o_move rfl rfl ?_
  refine l_split (t := 38) rfl (fun h1 => ?_) (fun h1 => ?_)
  · -- h1T
    try simp only [decide_eq_true_eq, decide_eq_false_iff_not, Bool.not_eq_eq_eq_not, Bool.not_true, Bool.not_false, Bool.not_eq_true', Bool.not_eq_false', Int.not_lt, Int.not_le, Bool.or_eq_true, Bool.and_eq_true] at h1
    refine o_no rfl rfl rfl rfl ?_
    refine o_no rfl rfl rfl rfl ?_
    refine o_no rfl rfl rfl rfl ?_
    refine o_no rfl rfl rfl rfl ?_
    refine o_no rfl rfl rfl rfl ?_
    refine o_yes rfl rfl rfl ?_
    refine o_pick_true rfl rfl rfl ?_
    refine o_pick_true rfl rfl rfl ?_
    refine o_move rfl rfl ?_
    refine o_yes rfl rfl rfl ?_
    refine o_move rfl rfl ?_
    refine o_yes rfl rfl rfl ?_
    refine o_move rfl rfl ?_
    refine o_yes rfl rfl rfl ?_
    refine o_bin rfl rfl rfl b_lss ?_
    refine o_yes rfl rfl rfl ?_
    refine o_move rfl rfl ?_
    refine l_split (t := 50) rfl (fun h2 => ?_) (fun h2 => ?_)
    · -- h2T
      try simp only [decide_eq_true_eq, decide_eq_false_iff_not, Bool.not_eq_eq_eq_not, Bool.not_true, Bool.not_false, Bool.not_eq_true', Bool.not_eq_false', Int.not_lt, Int.not_le, Bool.or_eq_true, Bool.and_eq_true] at h2
      refine o_no rfl rfl rfl rfl ?_
      refine o_no rfl rfl rfl rfl ?_
      refine o_no rfl rfl rfl rfl ?_
      refine o_no rfl rfl rfl rfl ?_
      refine o_no rfl rfl rfl rfl ?_
      refine o_yes rfl rfl rfl ?_
      refine o_pick_true rfl rfl rfl ?_
      refine o_pick_true rfl rfl rfl ?_
      refine o_assign rfl rfl ?_
      refine l_nil ?_
      refine q_then ?_
      refine c_ret ?_
      refine q_conv (fun w S => S.tail) ?_
      refine q_conv (fun w S => S.tail) ?_
      refine q_conv (fun w S => S.tail) ?_
      refine q_conv (fun w S => S.tail) ?_
      refine q_conv (fun w S => S.tail) ?_
      refine q_conv (fun w S => S.tail) ?_
      exact f_ret (r_one rfl rfl) (⟨rfl, rfl⟩) (fun w S => S)
    · -- h2F
      try simp only [decide_eq_true_eq, decide_eq_false_iff_not, Bool.not_eq_eq_eq_not, Bool.not_true, Bool.not_false, Bool.not_eq_true', Bool.not_eq_false', Int.not_lt, Int.not_le, Bool.or_eq_true, Bool.and_eq_true] at h2
      refine o_yes rfl rfl rfl ?_
      refine o_move rfl rfl ?_
      refine o_yes rfl rfl rfl ?_
      refine o_len rfl rfl Try.underlying25 ?_
      refine o_yes rfl rfl rfl ?_
      refine o_move rfl rfl ?_
      refine o_yes rfl rfl rfl ?_
      refine o_len rfl rfl Try.underlying25 ?_
      refine o_yes rfl rfl rfl ?_
      refine o_bin rfl rfl rfl b_geq ?_
      refine l_eq (t := 55) (v' := .bool true) rfl (show _ = Value.bool true from by simp only [List.nil_append]; rw [decide_eq_true (by omega)]) ?_
      refine o_yes rfl rfl rfl ?_
      refine o_pick_false rfl rfl rfl ?_
      refine o_pick_true rfl rfl rfl ?_
      refine o_assign rfl rfl ?_
      refine l_nil ?_
      refine q_then ?_
      refine c_ret ?_
      refine q_conv (fun w S => S.tail) ?_
      refine q_conv (fun w S => S.tail) ?_
      refine q_conv (fun w S => S.tail) ?_
      refine q_conv (fun w S => S.tail) ?_
      refine q_conv (fun w S => S.tail) ?_
      refine q_conv (fun w S => S.tail) ?_
      exact f_ret (r_one rfl rfl) (⟨rfl, rfl⟩) (fun w S => S)
  · -- h1F
    try simp only [decide_eq_true_eq, decide_eq_false_iff_not, Bool.not_eq_eq_eq_not, Bool.not_true, Bool.not_false, Bool.not_eq_true', Bool.not_eq_false', Int.not_lt, Int.not_le, Bool.or_eq_true, Bool.and_eq_true] at h1
    refine o_yes rfl rfl rfl ?_
    refine o_move rfl rfl ?_
    refine o_yes rfl rfl rfl ?_
    refine o_len rfl rfl Try.underlying25 ?_
    refine o_yes rfl rfl rfl ?_
    refine o_move rfl rfl ?_
    refine o_yes rfl rfl rfl ?_
    refine o_len rfl rfl Try.underlying25 ?_
    refine o_yes rfl rfl rfl ?_
    refine o_bin rfl rfl rfl b_leq ?_
    refine l_eq (t := 43) (v' := .bool true) rfl (show _ = Value.bool true from by simp only [List.nil_append]; rw [decide_eq_true (by omega)]) ?_
    refine o_yes rfl rfl rfl ?_
    refine o_pick_false rfl rfl rfl ?_
    refine o_pick_true rfl rfl rfl ?_
    refine o_move rfl rfl ?_
    refine o_yes rfl rfl rfl ?_
    refine o_move rfl rfl ?_
    refine o_yes rfl rfl rfl ?_
    refine o_move rfl rfl ?_
    refine o_yes rfl rfl rfl ?_
    refine o_bin rfl rfl rfl b_lss ?_
    refine o_yes rfl rfl rfl ?_
    refine o_move rfl rfl ?_
    refine l_split (t := 50) rfl (fun h3 => ?_) (fun h3 => ?_)
    · -- h3T
      try simp only [decide_eq_true_eq, decide_eq_false_iff_not, Bool.not_eq_eq_eq_not, Bool.not_true, Bool.not_false, Bool.not_eq_true', Bool.not_eq_false', Int.not_lt, Int.not_le, Bool.or_eq_true, Bool.and_eq_true] at h3
      refine o_no rfl rfl rfl rfl ?_
      refine o_no rfl rfl rfl rfl ?_
      refine o_no rfl rfl rfl rfl ?_
      refine o_no rfl rfl rfl rfl ?_
      refine o_no rfl rfl rfl rfl ?_
      refine o_yes rfl rfl rfl ?_
      refine o_pick_true rfl rfl rfl ?_
      refine o_pick_true rfl rfl rfl ?_
      refine o_assign rfl rfl ?_
      refine l_nil ?_
      refine q_then ?_
      refine c_ret ?_
      refine q_conv (fun w S => S.tail) ?_
      refine q_conv (fun w S => S.tail) ?_
      refine q_conv (fun w S => S.tail) ?_
      refine q_conv (fun w S => S.tail) ?_
      refine q_conv (fun w S => S.tail) ?_
      refine q_conv (fun w S => S.tail) ?_
      exact f_ret (r_one rfl rfl) (⟨rfl, rfl⟩) (fun w S => S)
    · -- h3F
      try simp only [decide_eq_true_eq, decide_eq_false_iff_not, Bool.not_eq_eq_eq_not, Bool.not_true, Bool.not_false, Bool.not_eq_true', Bool.not_eq_false', Int.not_lt, Int.not_le, Bool.or_eq_true, Bool.and_eq_true] at h3
      refine o_yes rfl rfl rfl ?_
      refine o_move rfl rfl ?_
      refine o_yes rfl rfl rfl ?_
      refine o_len rfl rfl Try.underlying25 ?_
      refine o_yes rfl rfl rfl ?_
      refine o_move rfl rfl ?_
      refine o_yes rfl rfl rfl ?_
      refine o_len rfl rfl Try.underlying25 ?_
      refine o_yes rfl rfl rfl ?_
      refine o_bin rfl rfl rfl b_geq ?_
      refine l_eq (t := 55) (v' := .bool true) rfl (show _ = Value.bool true from by simp only [List.nil_append]; rw [decide_eq_true (by omega)]) ?_
      refine o_yes rfl rfl rfl ?_
      refine o_pick_false rfl rfl rfl ?_
      refine o_pick_true rfl rfl rfl ?_
      refine o_assign rfl rfl ?_
      refine l_nil ?_
      refine q_then ?_
      refine c_ret ?_
      refine q_conv (fun w S => S.tail) ?_
      refine q_conv (fun w S => S.tail) ?_
      refine q_conv (fun w S => S.tail) ?_
      refine q_conv (fun w S => S.tail) ?_
      refine q_conv (fun w S => S.tail) ?_
      refine q_conv (fun w S => S.tail) ?_
      exact f_ret (r_one rfl rfl) (⟨rfl, rfl⟩) (fun w S => S)

end Go.Proofs.Ytkohbgblnkelnaa
