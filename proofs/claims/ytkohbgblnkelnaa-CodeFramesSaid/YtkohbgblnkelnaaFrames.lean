/- Printed by eng.py out of 01/spec.py. -/
import Derived.Test.YtkohbgblnkelnaaRUnframe
set_option linter.unusedVariables false
set_option linter.unusedSimpArgs false
set_option maxRecDepth 10000
namespace Go.Proofs.Ytkohbgblnkelnaa
open Go.RowKit
set_option maxHeartbeats 1000000 in
theorem frames_ {W : World} {F : List Res} {xs ys : List UInt8} {a ay : Option Addr} {c cy : Nat} (hs : RdS W F e8 a xs) (hcc : xs.length ≤ c) (hsy : RdS W F e8 ay ys) (hcy : ys.length ≤ cy) : CS Try.prog 7 #[.slice a xs.length c, .slice ay ys.length cy] W (F) (fun r L' => r = .bool true ∧ F = L') := by
  refine f_door (l0 := [(0, .slice a xs.length c), (1, .slice ay ys.length cy)]) Try.func7 Try.ntmps7 rfl rfl rfl ?_
  refine c_seq ?_
  refine c_region ?_
  refine o_assign rfl rfl ?_
  refine l_nil ?_
  refine q_then ?_
  refine c_seq ?_
  refine c_seq ?_
  refine c_region ?_
  refine o_call rfl cal12 rfl (speaks_) ?_
  rintro _ _ ⟨rfl, rfl⟩
  refine o_not rfl rfl ?_
  refine l_nil ?_
  refine q_then ?_
  refine c_false rfl ?_
  refine c_skip ?_
  refine q_then ?_
  refine c_seq ?_
  refine c_seq ?_
  refine c_region ?_
  refine o_move rfl rfl ?_
  refine o_len rfl rfl Try.underlying25 ?_
  refine o_bin rfl rfl rfl b_gtr ?_
  refine o_move rfl rfl ?_
  refine l_split (t := 25) rfl (fun h1 => ?_) (fun h1 => ?_)
  · -- h1T
    have h1b := h1
    try simp only [decide_eq_true_eq, decide_eq_false_iff_not, Bool.not_eq_eq_eq_not, Bool.not_true, Bool.not_false, Bool.not_eq_true', Bool.not_eq_false', Int.not_lt, Int.not_le, Bool.or_eq_true, Bool.and_eq_true] at h1
    refine o_no rfl rfl rfl rfl ?_
    refine o_no rfl rfl rfl rfl ?_
    refine o_no rfl rfl rfl rfl ?_
    refine o_pick_true rfl rfl rfl ?_
    refine l_nil ?_
    refine q_then ?_
    refine c_true rfl ?_
    refine c_seq ?_
    refine c_region ?_
    refine o_assign rfl rfl ?_
    refine l_nil ?_
    refine q_then ?_
    refine c_ret ?_
    refine q_pass_ret ?_
    exact f_ret (r_one rfl rfl) (⟨rfl, rfl⟩) (fun w S => S)
  · -- h1F
    have h1b := h1
    try simp only [decide_eq_true_eq, decide_eq_false_iff_not, Bool.not_eq_eq_eq_not, Bool.not_true, Bool.not_false, Bool.not_eq_true', Bool.not_eq_false', Int.not_lt, Int.not_le, Bool.or_eq_true, Bool.and_eq_true] at h1
    refine o_yes rfl rfl rfl ?_
    refine o_move rfl rfl ?_
    refine o_yes rfl rfl rfl ?_
    refine o_len rfl rfl Try.underlying25 ?_
    refine o_yes rfl rfl rfl ?_
    refine o_bin rfl rfl rfl b_gtr ?_
    refine o_pick_false rfl rfl rfl ?_
    refine l_nil ?_
    refine q_then ?_
    refine c_cond rfl (fun h2 => ?_) (fun h2 => ?_)
    · -- h2T
      have h2b := h2
      try simp only [decide_eq_true_eq, decide_eq_false_iff_not, Bool.not_eq_eq_eq_not, Bool.not_true, Bool.not_false, Bool.not_eq_true', Bool.not_eq_false', Int.not_lt, Int.not_le, Bool.or_eq_true, Bool.and_eq_true] at h2
      refine c_seq ?_
      refine c_region ?_
      refine o_assign rfl rfl ?_
      refine l_nil ?_
      refine q_then ?_
      refine c_ret ?_
      refine q_pass_ret ?_
      exact f_ret (r_one rfl rfl) (⟨rfl, rfl⟩) (fun w S => S)
    · -- h2F
      have h2b := h2
      try simp only [decide_eq_true_eq, decide_eq_false_iff_not, Bool.not_eq_eq_eq_not, Bool.not_true, Bool.not_false, Bool.not_eq_true', Bool.not_eq_false', Int.not_lt, Int.not_le, Bool.or_eq_true, Bool.and_eq_true] at h2
      refine c_skip ?_
      refine q_then ?_
      refine c_seq ?_
      refine c_region ?_
      refine o_lit e8_ok rfl Try.underlying25 rfl rfl rfl (lit_ok rfl) ([] : List UInt8) rfl rfl fun a30 => ?_
      refine o_move rfl rfl ?_
      refine o_append e8_ok rfl rfl rfl Try.underlying25 (rds_c hs) (by show (_ + _) * 1 ≤ _; (try simp only [List.length_append, List.length_cons, List.length_nil]); omega) (by (try simp only [List.length_append, List.length_cons, List.length_nil]); omega) fun a32 c32 => ?_
      refine l_eq (t := 32) (v' := .slice a32 (xs).length c32) rfl (by rfl) ?_
      refine l_conv (L' := row e8.T e8.sz a32 (xs).length c32 (flat e8 xs) :: _) (fun w S => by exact S) ?_
      refine o_lit e8_ok rfl Try.underlying25 rfl rfl rfl (lit_ok rfl) ([] : List UInt8) rfl rfl fun a33 => ?_
      refine o_move rfl rfl ?_
      refine o_append e8_ok rfl rfl rfl Try.underlying25 (rds_c (rds_c hsy)) (by show (_ + _) * 1 ≤ _; (try simp only [List.length_append, List.length_cons, List.length_nil]); omega) (by (try simp only [List.length_append, List.length_cons, List.length_nil]); omega) fun a35 c35 => ?_
      refine l_eq (t := 35) (v' := .slice a35 (ys).length c35) rfl (by rfl) ?_
      refine l_conv (L' := row e8.T e8.sz a35 (ys).length c35 (flat e8 ys) :: _) (fun w S => by exact S) ?_
      refine l_fact (row_cap 0 rfl) ?_
      intro hcap35
      refine o_assign rfl rfl ?_
      refine o_assign rfl rfl ?_
      refine l_nil ?_
      refine q_then ?_
      refine c_seq ?_
      refine c_region ?_
      refine o_move rfl rfl ?_
      refine o_call rfl cal24 rfl (frame8 (rds_own e8_ok 1 rfl) (by (try simp only [List.length_append]); omega)) ?_
      rintro _ _ ⟨out38, a38, c38, hout38, rfl, rfl⟩
      refine o_move rfl rfl ?_
      refine o_extract rfl rfl rfl ?_
      refine o_extract rfl rfl rfl ?_
      refine o_assign rfl rfl ?_
      refine o_assign rfl rfl ?_
      refine l_nil ?_
      refine q_then ?_
      refine c_seq ?_
      refine c_region ?_
      refine o_move rfl rfl ?_
      refine o_call rfl cal25 rfl (rframe (rds_c (rds_c (rds_c hs))) (by (try simp only [List.length_append]); omega)) ?_
      rintro _ _ ⟨out43, a43, c43, hout43, rfl, rfl⟩
      refine o_move rfl rfl ?_
      refine o_extract rfl rfl rfl ?_
      refine o_extract rfl rfl rfl ?_
      refine o_assign rfl rfl ?_
      refine o_assign rfl rfl ?_
      refine l_nil ?_
      refine q_then ?_
      refine c_seq ?_
      refine c_region ?_
      refine o_move rfl rfl ?_
      refine o_call rfl cal26 rfl (unframe8 (rds_own e8_ok 2 rfl) (by omega) (by (try simp only [List.length_append]); omega)) ?_
      rintro _ _ ⟨again48, aa48, ca48, body48, ay48, cy48, hbody48, cut48, rfl, rfl⟩
      refine o_move rfl rfl ?_
      refine o_extract rfl rfl rfl ?_
      refine o_extract rfl rfl rfl ?_
      refine o_extract rfl rfl rfl ?_
      refine o_assign rfl rfl ?_
      refine o_assign rfl rfl ?_
      refine o_assign rfl rfl ?_
      refine l_nil ?_
      refine q_then ?_
      refine c_seq ?_
      refine c_region ?_
      refine o_move rfl rfl ?_
      refine o_call rfl cal27 rfl (runframe (rds_c (rds_c (rds_c (rds_c (rds_c hsy))))) (by omega) (by (try simp only [List.length_append]); omega)) ?_
      rintro _ _ ⟨out54, a54, c54, hout54, rfl, rfl⟩
      refine o_move rfl rfl ?_
      refine o_extract rfl rfl rfl ?_
      refine o_extract rfl rfl rfl ?_
      refine o_extract rfl rfl rfl ?_
      refine o_assign rfl rfl ?_
      refine o_assign rfl rfl ?_
      refine o_assign rfl rfl ?_
      refine l_nil ?_
      refine q_then ?_
      refine c_seq ?_
      refine c_seq ?_
      refine c_region ?_
      refine o_move rfl rfl ?_
      refine o_move rfl rfl ?_
      refine o_bin rfl rfl rfl b_neq ?_
      refine l_eq (t := 60) (v' := .bool false) rfl (show _ = Value.bool false from by simp) ?_
      refine o_move rfl rfl ?_
      refine o_yes rfl rfl rfl ?_
      refine o_move rfl rfl ?_
      refine o_yes rfl rfl rfl ?_
      refine o_bytesStr (e := e8) rfl rfl rfl Try.underlying25 Try.underlying5 Try.underlying9 (rds_own e8_ok 3 rfl) ?_
      refine o_yes rfl rfl rfl ?_
      refine o_move rfl rfl ?_
      refine o_yes rfl rfl rfl ?_
      refine o_bytesStr (e := e8) rfl rfl rfl Try.underlying25 Try.underlying5 Try.underlying9 (rds_own e8_ok 2 rfl) ?_
      refine o_yes rfl rfl rfl ?_
      refine o_bin rfl rfl rfl b_sneq ?_
      refine l_eq (t := 66) (v' := .bool false) rfl (show _ = Value.bool false from by rw [hout38, hout43]; simp) ?_
      refine o_pick_false rfl rfl rfl ?_
      refine o_move rfl rfl ?_
      refine o_yes rfl rfl rfl ?_
      refine o_move rfl rfl ?_
      refine o_yes rfl rfl rfl ?_
      refine o_move rfl rfl ?_
      refine o_yes rfl rfl rfl ?_
      refine o_bin rfl rfl rfl b_neq ?_
      refine l_eq (t := 71) (v' := .bool false) rfl (show _ = Value.bool false from by simp) ?_
      refine o_pick_false rfl rfl rfl ?_
      refine o_move rfl rfl ?_
      refine o_yes rfl rfl rfl ?_
      refine o_move rfl rfl ?_
      refine o_yes rfl rfl rfl ?_
      refine o_move rfl rfl ?_
      refine o_yes rfl rfl rfl ?_
      refine o_bin rfl rfl rfl b_neq ?_
      refine l_eq (t := 76) (v' := .bool false) rfl (show _ = Value.bool false from by simp) ?_
      refine o_pick_false rfl rfl rfl ?_
      refine o_move rfl rfl ?_
      refine o_yes rfl rfl rfl ?_
      refine o_move rfl rfl ?_
      refine o_yes rfl rfl rfl ?_
      refine o_bytesStr (e := e8) rfl rfl rfl Try.underlying25 Try.underlying5 Try.underlying9 (cut48 (rds_own e8_ok 1 rfl)) ?_
      refine o_yes rfl rfl rfl ?_
      refine o_move rfl rfl ?_
      refine o_yes rfl rfl rfl ?_
      refine o_bytesStr (e := e8) rfl rfl rfl Try.underlying25 Try.underlying5 Try.underlying9 (rds_own e8_ok 0 rfl) ?_
      refine o_yes rfl rfl rfl ?_
      refine o_bin rfl rfl rfl b_sneq ?_
      refine l_eq (t := 83) (v' := .bool false) rfl (show _ = Value.bool false from by rw [hbody48, hout54]; simp) ?_
      refine o_pick_false rfl rfl rfl ?_
      refine o_move rfl rfl ?_
      refine o_yes rfl rfl rfl ?_
      refine o_move rfl rfl ?_
      refine o_yes rfl rfl rfl ?_
      refine o_bytesStr (e := e8) rfl rfl rfl Try.underlying25 Try.underlying5 Try.underlying9 (rds_own e8_ok 5 rfl) ?_
      refine o_yes rfl rfl rfl ?_
      refine o_move rfl rfl ?_
      refine o_yes rfl rfl rfl ?_
      refine o_bytesStr (e := e8) rfl rfl rfl Try.underlying25 Try.underlying5 Try.underlying9 (rds_c (rds_c (rds_c (rds_c (rds_c (rds_c hs)))))) ?_
      refine o_yes rfl rfl rfl ?_
      refine o_bin rfl rfl rfl b_sneq ?_
      refine l_eq (t := 90) (v' := .bool false) rfl (show _ = Value.bool false from by simp) ?_
      refine o_pick_false rfl rfl rfl ?_
      refine o_move rfl rfl ?_
      refine o_yes rfl rfl rfl ?_
      refine o_move rfl rfl ?_
      refine o_yes rfl rfl rfl ?_
      refine o_bytesStr (e := e8) rfl rfl rfl Try.underlying25 Try.underlying5 Try.underlying9 (rds_own e8_ok 4 rfl) ?_
      refine o_yes rfl rfl rfl ?_
      refine o_move rfl rfl ?_
      refine o_yes rfl rfl rfl ?_
      refine o_bytesStr (e := e8) rfl rfl rfl Try.underlying25 Try.underlying5 Try.underlying9 (rds_c (rds_c (rds_c (rds_c (rds_c (rds_c hsy)))))) ?_
      refine o_yes rfl rfl rfl ?_
      refine o_bin rfl rfl rfl b_sneq ?_
      refine l_eq (t := 97) (v' := .bool false) rfl (show _ = Value.bool false from by simp) ?_
      refine o_pick_false rfl rfl rfl ?_
      refine l_nil ?_
      refine q_then ?_
      refine c_false rfl ?_
      refine c_skip ?_
      refine q_then ?_
      refine c_seq ?_
      refine c_seq ?_
      refine c_region ?_
      refine o_move rfl rfl ?_
      refine o_bin rfl rfl rfl b_neq ?_
      refine l_nil ?_
      refine q_then ?_
      refine c_cond rfl (fun h3 => ?_) (fun h3 => ?_)
      · -- h3T
        have h3b := h3
        try simp only [decide_eq_true_eq, decide_eq_false_iff_not, Bool.not_eq_eq_eq_not, Bool.not_true, Bool.not_false, Bool.not_eq_true', Bool.not_eq_false', Int.not_lt, Int.not_le, Bool.or_eq_true, Bool.and_eq_true] at h3
        refine c_seq ?_
        refine c_region ?_
        refine o_assign rfl rfl ?_
        refine l_nil ?_
        refine q_then ?_
        refine c_ret ?_
        refine q_pass_ret ?_
        refine q_conv (fun w S => S.tail) ?_
        refine q_conv (fun w S => S.tail) ?_
        refine q_conv (fun w S => S.tail) ?_
        refine q_conv (fun w S => S.tail) ?_
        refine q_conv (fun w S => S.tail) ?_
        refine q_conv (fun w S => S.tail) ?_
        exact f_ret (r_one rfl rfl) (⟨rfl, rfl⟩) (fun w S => S)
      · -- h3F
        have h3b := h3
        try simp only [decide_eq_true_eq, decide_eq_false_iff_not, Bool.not_eq_eq_eq_not, Bool.not_true, Bool.not_false, Bool.not_eq_true', Bool.not_eq_false', Int.not_lt, Int.not_le, Bool.or_eq_true, Bool.and_eq_true] at h3
        refine c_skip ?_
        refine q_then ?_
        refine c_seq ?_
        have hok : ¬ 4096 < xs.length := by intro h9; rw [frR_no h9] at h3; simp at h3
        have hfr : out38 = frameB xs := by rw [hout38, frR_yes hok]
        have hun : unR (out38 ++ ys) = (xs, 6 + xs.length, 0) := by rw [hfr]; exact unR_frame (by omega)
        have hfl := frameB_len xs
        rw [← hfr] at hfl
        refine c_region ?_
        refine o_lit e8_ok rfl Try.underlying25 rfl rfl rfl (lit_ok rfl) ([] : List UInt8) rfl rfl fun a102 => ?_
        refine o_move rfl rfl ?_
        refine o_append e8_ok rfl rfl rfl Try.underlying25 (rds_own e8_ok 4 rfl) (by show (_ + _) * 1 ≤ _; (try simp only [List.length_append, List.length_cons, List.length_nil]); omega) (by (try simp only [List.length_append, List.length_cons, List.length_nil]); omega) fun a104 c104 => ?_
        refine l_f4 ?_
        refine l_drop ?_
        refine l_eq (t := 104) (v' := .slice a104 (out38).length c104) rfl (by rfl) ?_
        refine l_conv (L' := row e8.T e8.sz a104 (out38).length c104 (flat e8 out38) :: _) (fun w S => by exact S) ?_
        refine o_move rfl rfl ?_
        refine o_append e8_ok rfl rfl rfl Try.underlying25 (rds_c (rds_c (rds_c (rds_c (rds_c (rds_c hsy)))))) (by show (_ + _) * 1 ≤ _; (try simp only [List.length_append, List.length_cons, List.length_nil]); omega) (by (try simp only [List.length_append, List.length_cons, List.length_nil]); omega) fun a106 c106 => ?_
        refine l_fact (row_cap 0 rfl) ?_
        intro hcap106
        refine o_call rfl cal26 rfl (unframe8 (rds_own e8_ok 0 rfl) (by omega) (by (try simp only [List.length_append]); omega)) ?_
        rintro _ _ ⟨again107, aa107, ca107, body107, ay107, cy107, hbody107, cut107, rfl, rfl⟩
        refine o_move rfl rfl ?_
        refine o_extract rfl rfl rfl ?_
        refine o_extract rfl rfl rfl ?_
        refine o_extract rfl rfl rfl ?_
        refine o_assign rfl rfl ?_
        refine o_assign rfl rfl ?_
        refine o_assign rfl rfl ?_
        refine l_nil ?_
        refine q_then ?_
        refine c_seq ?_
        refine c_region ?_
        refine o_move rfl rfl ?_
        refine o_bin rfl rfl rfl b_eql ?_
        refine l_eq (t := 112) (v' := .bool true) rfl (show _ = Value.bool true from by rw [hun]; simp) ?_
        refine o_move rfl rfl ?_
        refine o_yes rfl rfl rfl ?_
        refine o_move rfl rfl ?_
        refine o_yes rfl rfl rfl ?_
        refine o_move rfl rfl ?_
        refine o_yes rfl rfl rfl ?_
        refine o_len rfl rfl Try.underlying25 ?_
        refine o_yes rfl rfl rfl ?_
        refine o_bin rfl rfl rfl b_eql ?_
        refine l_eq (t := 117) (v' := .bool true) rfl (show _ = Value.bool true from by rw [hun]; simp; omega) ?_
        refine o_pick_true rfl rfl rfl ?_
        refine o_move rfl rfl ?_
        refine o_yes rfl rfl rfl ?_
        refine o_move rfl rfl ?_
        refine o_yes rfl rfl rfl ?_
        refine o_bytesStr (e := e8) rfl rfl rfl Try.underlying25 Try.underlying5 Try.underlying9 (cut107 (rds_own e8_ok 0 rfl)) ?_
        refine o_yes rfl rfl rfl ?_
        refine o_move rfl rfl ?_
        refine o_yes rfl rfl rfl ?_
        refine o_bytesStr (e := e8) rfl rfl rfl Try.underlying25 Try.underlying5 Try.underlying9 (rds_c (rds_c (rds_c (rds_c (rds_c (rds_c (rds_c hs))))))) ?_
        refine o_yes rfl rfl rfl ?_
        refine o_bin rfl rfl rfl b_seql ?_
        refine l_eq (t := 124) (v' := .bool true) rfl (show _ = Value.bool true from by rw [hbody107, hun]; simp) ?_
        refine o_pick_true rfl rfl rfl ?_
        refine o_move rfl rfl ?_
        refine o_yes rfl rfl rfl ?_
        refine o_move rfl rfl ?_
        refine o_yes rfl rfl rfl ?_
        refine o_call rfl cal28 rfl (sum8 (rds_c (rds_c (rds_c (rds_c (rds_c (rds_c (rds_c hsy))))))) (by (try simp only [List.length_append]); omega)) ?_
        rintro _ _ ⟨rfl, rfl⟩
        refine o_yes rfl rfl rfl ?_
        refine o_move rfl rfl ?_
        refine o_yes rfl rfl rfl ?_
        refine o_call rfl cal29 rfl (rsum (rds_c (rds_c (rds_c (rds_c (rds_c (rds_c (rds_c hsy))))))) (by (try simp only [List.length_append]); omega)) ?_
        rintro _ _ ⟨rfl, rfl⟩
        refine o_yes rfl rfl rfl ?_
        refine o_bin rfl rfl rfl b_eql ?_
        refine l_eq (t := 131) (v' := .bool true) rfl (show _ = Value.bool true from by simp) ?_
        refine o_pick_true rfl rfl rfl ?_
        refine o_assign rfl rfl ?_
        refine l_nil ?_
        refine q_then ?_
        refine c_ret ?_
        refine q_conv (fun w S => S.tail) ?_
        refine q_conv (fun w S => S.tail) ?_
        refine q_conv (fun w S => S.tail) ?_
        refine q_conv (fun w S => S.tail) ?_
        refine q_conv (fun w S => S.tail) ?_
        refine q_conv (fun w S => S.tail) ?_
        refine q_conv (fun w S => S.tail) ?_
        exact f_ret (r_one rfl rfl) (⟨rfl, rfl⟩) (fun w S => S)

end Go.Proofs.Ytkohbgblnkelnaa
