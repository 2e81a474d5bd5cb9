/- Printed by eng2.py out of 18/spec.py. -/
import Derived.Test.YtoigakfglgdjdaaOf
set_option linter.unusedVariables false
set_option linter.unusedSimpArgs false
set_option maxRecDepth 10000
namespace Go.Proofs.Ytoigakfglgdjdaa
open Go.RowKit Classical
set_option maxHeartbeats 1000000 in
theorem same_ {W : World} {F : List Res} {p : RMsg} (R_p : RdS W F e_RVote p.f_Votes.a p.f_Votes.xs) (rn_p : p.f_Votes.xs.length ≤ 9223372036854775807) {q : RMsg} (R_q : RdS W F e_RVote q.f_Votes.a q.f_Votes.xs) (rn_q : q.f_Votes.xs.length ≤ 9223372036854775807) : CS Try.prog 11 #[.agg #[.int .i64 p.f_Kind, .int .i64 p.f_From, .int .i64 p.f_To, .int .i64 p.f_Group, .int .i64 p.f_Slot, .int .u64 p.f_Ballot, .string p.f_Value, .slice p.f_Votes.a (p.f_Votes.xs).length p.f_Votes.c], .agg #[.int .i64 q.f_Kind, .int .i64 q.f_From, .int .i64 q.f_To, .int .i64 q.f_Group, .int .i64 q.f_Slot, .int .u64 q.f_Ballot, .string q.f_Value, .slice q.f_Votes.a (q.f_Votes.xs).length q.f_Votes.c]] W (F) (fun r L' => r = .bool (decide (SameM p q)) ∧ F = L') := by
 refine f_door (l0 := [(0, .agg #[.int .i64 p.f_Kind, .int .i64 p.f_From, .int .i64 p.f_To, .int .i64 p.f_Group, .int .i64 p.f_Slot, .int .u64 p.f_Ballot, .string p.f_Value, .slice p.f_Votes.a (p.f_Votes.xs).length p.f_Votes.c]), (1, .agg #[.int .i64 q.f_Kind, .int .i64 q.f_From, .int .i64 q.f_To, .int .i64 q.f_Group, .int .i64 q.f_Slot, .int .u64 q.f_Ballot, .string q.f_Value, .slice q.f_Votes.a (q.f_Votes.xs).length q.f_Votes.c])]) Try.func11 Try.ntmps11 rfl rfl rfl ?_
 refine c_seq ?_
 refine c_region ?_
 refine o_box rfl rfl fun b2 => ?_
 refine o_box rfl rfl fun b3 => ?_
 refine o_assign rfl rfl ?_
 refine l_nil ?_
 refine q_then ?_
 refine c_seq ?_
 refine c_seq ?_
 refine c_region ?_
 refine o_fieldAddr (q := ⟨b2, 0, none⟩) rfl rfl Try.underlying35 rfl ti3 rfl ?_
 refine o_load1 rfl rfl Try.underlying3 rfl (rd_mem 1 rfl rfl) ?_
 refine o_fieldAddr (q := ⟨b3, 0, none⟩) rfl rfl Try.underlying35 rfl ti3 rfl ?_
 refine o_load1 rfl rfl Try.underlying3 rfl (rd_mem 0 rfl rfl) ?_
 refine o_bin rfl rfl rfl b_neq ?_
 refine o_move rfl rfl ?_
 refine l_split (t := 11) rfl (fun h1 => ?_) (fun h1 => ?_)
 · -- h1T
  have h1b := h1
  try simp only [Bool.not_eq_true', decide_eq_false_iff_not, Int.not_lt, Int.not_le] at h1
  refine o_no rfl rfl rfl rfl ?_
  refine o_no rfl rfl rfl rfl ?_
  refine o_no rfl rfl rfl rfl ?_
  refine o_no rfl rfl rfl rfl ?_
  refine o_no rfl rfl rfl rfl ?_
  refine o_pick_true rfl rfl rfl ?_
  refine o_move rfl rfl ?_
  refine o_no rfl rfl rfl rfl ?_
  refine o_no rfl rfl rfl rfl ?_
  refine o_no rfl rfl rfl rfl ?_
  refine o_no rfl rfl rfl rfl ?_
  refine o_no rfl rfl rfl rfl ?_
  refine o_pick_true rfl rfl rfl ?_
  refine o_move rfl rfl ?_
  refine o_no rfl rfl rfl rfl ?_
  refine o_no rfl rfl rfl rfl ?_
  refine o_no rfl rfl rfl rfl ?_
  refine o_no rfl rfl rfl rfl ?_
  refine o_no rfl rfl rfl rfl ?_
  refine o_pick_true rfl rfl rfl ?_
  refine o_move rfl rfl ?_
  refine o_no rfl rfl rfl rfl ?_
  refine o_no rfl rfl rfl rfl ?_
  refine o_no rfl rfl rfl rfl ?_
  refine o_no rfl rfl rfl rfl ?_
  refine o_no rfl rfl rfl rfl ?_
  refine o_pick_true rfl rfl rfl ?_
  refine o_move rfl rfl ?_
  refine o_no rfl rfl rfl rfl ?_
  refine o_no rfl rfl rfl rfl ?_
  refine o_no rfl rfl rfl rfl ?_
  refine o_no rfl rfl rfl rfl ?_
  refine o_no rfl rfl rfl rfl ?_
  refine o_pick_true rfl rfl rfl ?_
  refine o_move rfl rfl ?_
  refine o_no rfl rfl rfl rfl ?_
  refine o_no rfl rfl rfl rfl ?_
  refine o_no rfl rfl rfl rfl ?_
  refine o_no rfl rfl rfl rfl ?_
  refine o_no rfl rfl rfl rfl ?_
  refine o_pick_true rfl rfl rfl ?_
  refine o_move rfl rfl ?_
  refine o_no rfl rfl rfl rfl ?_
  refine o_no rfl rfl rfl rfl ?_
  refine o_no rfl rfl rfl rfl ?_
  refine o_no rfl rfl rfl rfl ?_
  refine o_no rfl rfl rfl rfl ?_
  refine o_no rfl rfl rfl rfl ?_
  refine o_no rfl rfl rfl rfl ?_
  refine o_pick_true rfl rfl rfl ?_
  refine l_nil ?_
  refine q_then ?_
  refine c_true rfl ?_
  refine c_seq ?_
  refine c_region ?_
  refine o_assign rfl rfl ?_
  refine l_nil ?_
  refine q_then ?_
  refine c_ret ?_
  refine q_pass_ret ?_
  refine q_conv (fun w S => S.tail) ?_
  refine q_conv (fun w S => S.tail) ?_
  exact f_ret (r_one rfl rfl) (⟨vfalse (fun h9 => by obtain ⟨e1, e2, e3, e4, e5, e6, e7, e8⟩ := h9; simp_all), rfl⟩) (fun w S => S)
 · -- h1F
  have h1b := h1
  try simp only [Bool.not_eq_false', decide_eq_true_eq] at h1
  refine o_yes rfl rfl rfl ?_
  refine o_fieldAddr (q := ⟨b2, 1, none⟩) rfl rfl Try.underlying35 rfl ti3 rfl ?_
  refine o_yes rfl rfl rfl ?_
  refine o_load1 rfl rfl Try.underlying3 rfl (rd_mem 1 rfl rfl) ?_
  refine o_yes rfl rfl rfl ?_
  refine o_fieldAddr (q := ⟨b3, 1, none⟩) rfl rfl Try.underlying35 rfl ti3 rfl ?_
  refine o_yes rfl rfl rfl ?_
  refine o_load1 rfl rfl Try.underlying3 rfl (rd_mem 0 rfl rfl) ?_
  refine o_yes rfl rfl rfl ?_
  refine o_bin rfl rfl rfl b_neq ?_
  refine o_pick_false rfl rfl rfl ?_
  refine o_move rfl rfl ?_
  refine l_split (t := 18) rfl (fun h2 => ?_) (fun h2 => ?_)
  · -- h2T
   have h2b := h2
   try simp only [Bool.not_eq_true', decide_eq_false_iff_not, Int.not_lt, Int.not_le] at h2
   refine o_no rfl rfl rfl rfl ?_
   refine o_no rfl rfl rfl rfl ?_
   refine o_no rfl rfl rfl rfl ?_
   refine o_no rfl rfl rfl rfl ?_
   refine o_no rfl rfl rfl rfl ?_
   refine o_pick_true rfl rfl rfl ?_
   refine o_move rfl rfl ?_
   refine o_no rfl rfl rfl rfl ?_
   refine o_no rfl rfl rfl rfl ?_
   refine o_no rfl rfl rfl rfl ?_
   refine o_no rfl rfl rfl rfl ?_
   refine o_no rfl rfl rfl rfl ?_
   refine o_pick_true rfl rfl rfl ?_
   refine o_move rfl rfl ?_
   refine o_no rfl rfl rfl rfl ?_
   refine o_no rfl rfl rfl rfl ?_
   refine o_no rfl rfl rfl rfl ?_
   refine o_no rfl rfl rfl rfl ?_
   refine o_no rfl rfl rfl rfl ?_
   refine o_pick_true rfl rfl rfl ?_
   refine o_move rfl rfl ?_
   refine o_no rfl rfl rfl rfl ?_
   refine o_no rfl rfl rfl rfl ?_
   refine o_no rfl rfl rfl rfl ?_
   refine o_no rfl rfl rfl rfl ?_
   refine o_no rfl rfl rfl rfl ?_
   refine o_pick_true rfl rfl rfl ?_
   refine o_move rfl rfl ?_
   refine o_no rfl rfl rfl rfl ?_
   refine o_no rfl rfl rfl rfl ?_
   refine o_no rfl rfl rfl rfl ?_
   refine o_no rfl rfl rfl rfl ?_
   refine o_no rfl rfl rfl rfl ?_
   refine o_pick_true rfl rfl rfl ?_
   refine o_move rfl rfl ?_
   refine o_no rfl rfl rfl rfl ?_
   refine o_no rfl rfl rfl rfl ?_
   refine o_no rfl rfl rfl rfl ?_
   refine o_no rfl rfl rfl rfl ?_
   refine o_no rfl rfl rfl rfl ?_
   refine o_no rfl rfl rfl rfl ?_
   refine o_no rfl rfl rfl rfl ?_
   refine o_pick_true rfl rfl rfl ?_
   refine l_nil ?_
   refine q_then ?_
   refine c_true rfl ?_
   refine c_seq ?_
   refine c_region ?_
   refine o_assign rfl rfl ?_
   refine l_nil ?_
   refine q_then ?_
   refine c_ret ?_
   refine q_pass_ret ?_
   refine q_conv (fun w S => S.tail) ?_
   refine q_conv (fun w S => S.tail) ?_
   exact f_ret (r_one rfl rfl) (⟨vfalse (fun h9 => by obtain ⟨e1, e2, e3, e4, e5, e6, e7, e8⟩ := h9; simp_all), rfl⟩) (fun w S => S)
  · -- h2F
   have h2b := h2
   try simp only [Bool.not_eq_false', decide_eq_true_eq] at h2
   refine o_yes rfl rfl rfl ?_
   refine o_fieldAddr (q := ⟨b2, 2, none⟩) rfl rfl Try.underlying35 rfl ti3 rfl ?_
   refine o_yes rfl rfl rfl ?_
   refine o_load1 rfl rfl Try.underlying3 rfl (rd_mem 1 rfl rfl) ?_
   refine o_yes rfl rfl rfl ?_
   refine o_fieldAddr (q := ⟨b3, 2, none⟩) rfl rfl Try.underlying35 rfl ti3 rfl ?_
   refine o_yes rfl rfl rfl ?_
   refine o_load1 rfl rfl Try.underlying3 rfl (rd_mem 0 rfl rfl) ?_
   refine o_yes rfl rfl rfl ?_
   refine o_bin rfl rfl rfl b_neq ?_
   refine o_pick_false rfl rfl rfl ?_
   refine o_move rfl rfl ?_
   refine l_split (t := 25) rfl (fun h3 => ?_) (fun h3 => ?_)
   · -- h3T
    have h3b := h3
    try simp only [Bool.not_eq_true', decide_eq_false_iff_not, Int.not_lt, Int.not_le] at h3
    refine o_no rfl rfl rfl rfl ?_
    refine o_no rfl rfl rfl rfl ?_
    refine o_no rfl rfl rfl rfl ?_
    refine o_no rfl rfl rfl rfl ?_
    refine o_no rfl rfl rfl rfl ?_
    refine o_pick_true rfl rfl rfl ?_
    refine o_move rfl rfl ?_
    refine o_no rfl rfl rfl rfl ?_
    refine o_no rfl rfl rfl rfl ?_
    refine o_no rfl rfl rfl rfl ?_
    refine o_no rfl rfl rfl rfl ?_
    refine o_no rfl rfl rfl rfl ?_
    refine o_pick_true rfl rfl rfl ?_
    refine o_move rfl rfl ?_
    refine o_no rfl rfl rfl rfl ?_
    refine o_no rfl rfl rfl rfl ?_
    refine o_no rfl rfl rfl rfl ?_
    refine o_no rfl rfl rfl rfl ?_
    refine o_no rfl rfl rfl rfl ?_
    refine o_pick_true rfl rfl rfl ?_
    refine o_move rfl rfl ?_
    refine o_no rfl rfl rfl rfl ?_
    refine o_no rfl rfl rfl rfl ?_
    refine o_no rfl rfl rfl rfl ?_
    refine o_no rfl rfl rfl rfl ?_
    refine o_no rfl rfl rfl rfl ?_
    refine o_pick_true rfl rfl rfl ?_
    refine o_move rfl rfl ?_
    refine o_no rfl rfl rfl rfl ?_
    refine o_no rfl rfl rfl rfl ?_
    refine o_no rfl rfl rfl rfl ?_
    refine o_no rfl rfl rfl rfl ?_
    refine o_no rfl rfl rfl rfl ?_
    refine o_no rfl rfl rfl rfl ?_
    refine o_no rfl rfl rfl rfl ?_
    refine o_pick_true rfl rfl rfl ?_
    refine l_nil ?_
    refine q_then ?_
    refine c_true rfl ?_
    refine c_seq ?_
    refine c_region ?_
    refine o_assign rfl rfl ?_
    refine l_nil ?_
    refine q_then ?_
    refine c_ret ?_
    refine q_pass_ret ?_
    refine q_conv (fun w S => S.tail) ?_
    refine q_conv (fun w S => S.tail) ?_
    exact f_ret (r_one rfl rfl) (⟨vfalse (fun h9 => by obtain ⟨e1, e2, e3, e4, e5, e6, e7, e8⟩ := h9; simp_all), rfl⟩) (fun w S => S)
   · -- h3F
    have h3b := h3
    try simp only [Bool.not_eq_false', decide_eq_true_eq] at h3
    refine o_yes rfl rfl rfl ?_
    refine o_fieldAddr (q := ⟨b2, 3, none⟩) rfl rfl Try.underlying35 rfl ti3 rfl ?_
    refine o_yes rfl rfl rfl ?_
    refine o_load1 rfl rfl Try.underlying3 rfl (rd_mem 1 rfl rfl) ?_
    refine o_yes rfl rfl rfl ?_
    refine o_fieldAddr (q := ⟨b3, 3, none⟩) rfl rfl Try.underlying35 rfl ti3 rfl ?_
    refine o_yes rfl rfl rfl ?_
    refine o_load1 rfl rfl Try.underlying3 rfl (rd_mem 0 rfl rfl) ?_
    refine o_yes rfl rfl rfl ?_
    refine o_bin rfl rfl rfl b_neq ?_
    refine o_pick_false rfl rfl rfl ?_
    refine o_move rfl rfl ?_
    refine l_split (t := 32) rfl (fun h4 => ?_) (fun h4 => ?_)
    · -- h4T
     have h4b := h4
     try simp only [Bool.not_eq_true', decide_eq_false_iff_not, Int.not_lt, Int.not_le] at h4
     refine o_no rfl rfl rfl rfl ?_
     refine o_no rfl rfl rfl rfl ?_
     refine o_no rfl rfl rfl rfl ?_
     refine o_no rfl rfl rfl rfl ?_
     refine o_no rfl rfl rfl rfl ?_
     refine o_pick_true rfl rfl rfl ?_
     refine o_move rfl rfl ?_
     refine o_no rfl rfl rfl rfl ?_
     refine o_no rfl rfl rfl rfl ?_
     refine o_no rfl rfl rfl rfl ?_
     refine o_no rfl rfl rfl rfl ?_
     refine o_no rfl rfl rfl rfl ?_
     refine o_pick_true rfl rfl rfl ?_
     refine o_move rfl rfl ?_
     refine o_no rfl rfl rfl rfl ?_
     refine o_no rfl rfl rfl rfl ?_
     refine o_no rfl rfl rfl rfl ?_
     refine o_no rfl rfl rfl rfl ?_
     refine o_no rfl rfl rfl rfl ?_
     refine o_pick_true rfl rfl rfl ?_
     refine o_move rfl rfl ?_
     refine o_no rfl rfl rfl rfl ?_
     refine o_no rfl rfl rfl rfl ?_
     refine o_no rfl rfl rfl rfl ?_
     refine o_no rfl rfl rfl rfl ?_
     refine o_no rfl rfl rfl rfl ?_
     refine o_no rfl rfl rfl rfl ?_
     refine o_no rfl rfl rfl rfl ?_
     refine o_pick_true rfl rfl rfl ?_
     refine l_nil ?_
     refine q_then ?_
     refine c_true rfl ?_
     refine c_seq ?_
     refine c_region ?_
     refine o_assign rfl rfl ?_
     refine l_nil ?_
     refine q_then ?_
     refine c_ret ?_
     refine q_pass_ret ?_
     refine q_conv (fun w S => S.tail) ?_
     refine q_conv (fun w S => S.tail) ?_
     exact f_ret (r_one rfl rfl) (⟨vfalse (fun h9 => by obtain ⟨e1, e2, e3, e4, e5, e6, e7, e8⟩ := h9; simp_all), rfl⟩) (fun w S => S)
    · -- h4F
     have h4b := h4
     try simp only [Bool.not_eq_false', decide_eq_true_eq] at h4
     refine o_yes rfl rfl rfl ?_
     refine o_fieldAddr (q := ⟨b2, 4, none⟩) rfl rfl Try.underlying35 rfl ti3 rfl ?_
     refine o_yes rfl rfl rfl ?_
     refine o_load1 rfl rfl Try.underlying3 rfl (rd_mem 1 rfl rfl) ?_
     refine o_yes rfl rfl rfl ?_
     refine o_fieldAddr (q := ⟨b3, 4, none⟩) rfl rfl Try.underlying35 rfl ti3 rfl ?_
     refine o_yes rfl rfl rfl ?_
     refine o_load1 rfl rfl Try.underlying3 rfl (rd_mem 0 rfl rfl) ?_
     refine o_yes rfl rfl rfl ?_
     refine o_bin rfl rfl rfl b_neq ?_
     refine o_pick_false rfl rfl rfl ?_
     refine o_move rfl rfl ?_
     refine l_split (t := 39) rfl (fun h5 => ?_) (fun h5 => ?_)
     · -- h5T
      have h5b := h5
      try simp only [Bool.not_eq_true', decide_eq_false_iff_not, Int.not_lt, Int.not_le] at h5
      refine o_no rfl rfl rfl rfl ?_
      refine o_no rfl rfl rfl rfl ?_
      refine o_no rfl rfl rfl rfl ?_
      refine o_no rfl rfl rfl rfl ?_
      refine o_no rfl rfl rfl rfl ?_
      refine o_pick_true rfl rfl rfl ?_
      refine o_move rfl rfl ?_
      refine o_no rfl rfl rfl rfl ?_
      refine o_no rfl rfl rfl rfl ?_
      refine o_no rfl rfl rfl rfl ?_
      refine o_no rfl rfl rfl rfl ?_
      refine o_no rfl rfl rfl rfl ?_
      refine o_pick_true rfl rfl rfl ?_
      refine o_move rfl rfl ?_
      refine o_no rfl rfl rfl rfl ?_
      refine o_no rfl rfl rfl rfl ?_
      refine o_no rfl rfl rfl rfl ?_
      refine o_no rfl rfl rfl rfl ?_
      refine o_no rfl rfl rfl rfl ?_
      refine o_no rfl rfl rfl rfl ?_
      refine o_no rfl rfl rfl rfl ?_
      refine o_pick_true rfl rfl rfl ?_
      refine l_nil ?_
      refine q_then ?_
      refine c_true rfl ?_
      refine c_seq ?_
      refine c_region ?_
      refine o_assign rfl rfl ?_
      refine l_nil ?_
      refine q_then ?_
      refine c_ret ?_
      refine q_pass_ret ?_
      refine q_conv (fun w S => S.tail) ?_
      refine q_conv (fun w S => S.tail) ?_
      exact f_ret (r_one rfl rfl) (⟨vfalse (fun h9 => by obtain ⟨e1, e2, e3, e4, e5, e6, e7, e8⟩ := h9; simp_all), rfl⟩) (fun w S => S)
     · -- h5F
      have h5b := h5
      try simp only [Bool.not_eq_false', decide_eq_true_eq] at h5
      refine o_yes rfl rfl rfl ?_
      refine o_fieldAddr (q := ⟨b2, 5, none⟩) rfl rfl Try.underlying35 rfl ti23 rfl ?_
      refine o_yes rfl rfl rfl ?_
      refine o_load1 rfl rfl Try.underlying23 rfl (rd_mem 1 rfl rfl) ?_
      refine o_yes rfl rfl rfl ?_
      refine o_fieldAddr (q := ⟨b3, 5, none⟩) rfl rfl Try.underlying35 rfl ti23 rfl ?_
      refine o_yes rfl rfl rfl ?_
      refine o_load1 rfl rfl Try.underlying23 rfl (rd_mem 0 rfl rfl) ?_
      refine o_yes rfl rfl rfl ?_
      refine o_bin rfl rfl rfl b_neq ?_
      refine o_pick_false rfl rfl rfl ?_
      refine o_move rfl rfl ?_
      refine l_split (t := 46) rfl (fun h6 => ?_) (fun h6 => ?_)
      · -- h6T
       have h6b := h6
       try simp only [Bool.not_eq_true', decide_eq_false_iff_not, Int.not_lt, Int.not_le] at h6
       refine o_no rfl rfl rfl rfl ?_
       refine o_no rfl rfl rfl rfl ?_
       refine o_no rfl rfl rfl rfl ?_
       refine o_no rfl rfl rfl rfl ?_
       refine o_no rfl rfl rfl rfl ?_
       refine o_pick_true rfl rfl rfl ?_
       refine o_move rfl rfl ?_
       refine o_no rfl rfl rfl rfl ?_
       refine o_no rfl rfl rfl rfl ?_
       refine o_no rfl rfl rfl rfl ?_
       refine o_no rfl rfl rfl rfl ?_
       refine o_no rfl rfl rfl rfl ?_
       refine o_no rfl rfl rfl rfl ?_
       refine o_no rfl rfl rfl rfl ?_
       refine o_pick_true rfl rfl rfl ?_
       refine l_nil ?_
       refine q_then ?_
       refine c_true rfl ?_
       refine c_seq ?_
       refine c_region ?_
       refine o_assign rfl rfl ?_
       refine l_nil ?_
       refine q_then ?_
       refine c_ret ?_
       refine q_pass_ret ?_
       refine q_conv (fun w S => S.tail) ?_
       refine q_conv (fun w S => S.tail) ?_
       exact f_ret (r_one rfl rfl) (⟨vfalse (fun h9 => by obtain ⟨e1, e2, e3, e4, e5, e6, e7, e8⟩ := h9; simp_all), rfl⟩) (fun w S => S)
      · -- h6F
       have h6b := h6
       try simp only [Bool.not_eq_false', decide_eq_true_eq] at h6
       refine o_yes rfl rfl rfl ?_
       refine o_fieldAddr (q := ⟨b2, 6, none⟩) rfl rfl Try.underlying35 rfl ti9 rfl ?_
       refine o_yes rfl rfl rfl ?_
       refine o_load1 rfl rfl Try.underlying9 rfl (rd_mem 1 rfl rfl) ?_
       refine o_yes rfl rfl rfl ?_
       refine o_fieldAddr (q := ⟨b3, 6, none⟩) rfl rfl Try.underlying35 rfl ti9 rfl ?_
       refine o_yes rfl rfl rfl ?_
       refine o_load1 rfl rfl Try.underlying9 rfl (rd_mem 0 rfl rfl) ?_
       refine o_yes rfl rfl rfl ?_
       refine o_bin rfl rfl rfl b_sneq ?_
       refine o_pick_false rfl rfl rfl ?_
       refine o_move rfl rfl ?_
       refine l_split (t := 53) rfl (fun h7 => ?_) (fun h7 => ?_)
       · -- h7T
        have h7b := h7
        try simp only [Bool.not_eq_true', decide_eq_false_iff_not, Int.not_lt, Int.not_le] at h7
        refine o_no rfl rfl rfl rfl ?_
        refine o_no rfl rfl rfl rfl ?_
        refine o_no rfl rfl rfl rfl ?_
        refine o_no rfl rfl rfl rfl ?_
        refine o_no rfl rfl rfl rfl ?_
        refine o_no rfl rfl rfl rfl ?_
        refine o_no rfl rfl rfl rfl ?_
        refine o_pick_true rfl rfl rfl ?_
        refine l_nil ?_
        refine q_then ?_
        refine c_true rfl ?_
        refine c_seq ?_
        refine c_region ?_
        refine o_assign rfl rfl ?_
        refine l_nil ?_
        refine q_then ?_
        refine c_ret ?_
        refine q_pass_ret ?_
        refine q_conv (fun w S => S.tail) ?_
        refine q_conv (fun w S => S.tail) ?_
        exact f_ret (r_one rfl rfl) (⟨vfalse (fun h9 => by obtain ⟨e1, e2, e3, e4, e5, e6, e7, e8⟩ := h9; simp_all), rfl⟩) (fun w S => S)
       · -- h7F
        have h7b := h7
        try simp only [Bool.not_eq_false', decide_eq_true_eq] at h7
        refine o_yes rfl rfl rfl ?_
        refine o_fieldAddr (q := ⟨b2, 7, none⟩) rfl rfl Try.underlying35 rfl ti33 rfl ?_
        refine o_yes rfl rfl rfl ?_
        refine o_load1 rfl rfl Try.underlying33 rfl (rd_mem 1 rfl rfl) ?_
        refine o_yes rfl rfl rfl ?_
        refine o_len rfl rfl Try.underlying33 ?_
        refine o_yes rfl rfl rfl ?_
        refine o_fieldAddr (q := ⟨b3, 7, none⟩) rfl rfl Try.underlying35 rfl ti33 rfl ?_
        refine o_yes rfl rfl rfl ?_
        refine o_load1 rfl rfl Try.underlying33 rfl (rd_mem 0 rfl rfl) ?_
        refine o_yes rfl rfl rfl ?_
        refine o_len rfl rfl Try.underlying33 ?_
        refine o_yes rfl rfl rfl ?_
        refine o_bin rfl rfl rfl b_neq ?_
        refine o_pick_false rfl rfl rfl ?_
        refine l_nil ?_
        refine q_then ?_
        refine c_cond rfl (fun h8 => ?_) (fun h8 => ?_)
        · -- h8T
         have h8b := h8
         try simp only [Bool.not_eq_true', decide_eq_false_iff_not, Int.not_lt, Int.not_le] at h8
         refine c_seq ?_
         refine c_region ?_
         refine o_assign rfl rfl ?_
         refine l_nil ?_
         refine q_then ?_
         refine c_ret ?_
         refine q_pass_ret ?_
         refine q_conv (fun w S => S.tail) ?_
         refine q_conv (fun w S => S.tail) ?_
         exact f_ret (r_one rfl rfl) (⟨vfalse (fun h9 => by obtain ⟨e1, e2, e3, e4, e5, e6, e7, e8⟩ := h9; simp_all), rfl⟩) (fun w S => S)
        · -- h8F
         have h8b := h8
         try simp only [Bool.not_eq_false', decide_eq_true_eq] at h8
         refine c_skip ?_
         refine q_then ?_
         refine c_seq ?_
         refine c_seq ?_
         refine c_region ?_
         refine o_assign rfl rfl ?_
         refine l_nil ?_
         refine q_then ?_
         refine c_block ?_
         refine c_loop (α := Nat) (fun z => [(2, .pointer (some ⟨b2, 0, none⟩)), (3, .pointer (some ⟨b3, 0, none⟩)), (5, .int .i64 (z : Int))]) (fun z => blk b3 (.cells #[.int .i64 q.f_Kind, .int .i64 q.f_From, .int .i64 q.f_To, .int .i64 q.f_Group, .int .i64 q.f_Slot, .int .u64 q.f_Ballot, .string q.f_Value, .slice q.f_Votes.a (q.f_Votes.xs).length q.f_Votes.c] 35 (0, 0)) :: blk b2 (.cells #[.int .i64 p.f_Kind, .int .i64 p.f_From, .int .i64 p.f_To, .int .i64 p.f_Group, .int .i64 p.f_Slot, .int .u64 p.f_Ballot, .string p.f_Value, .slice p.f_Votes.a (p.f_Votes.xs).length p.f_Votes.c] 35 (0, 0)) :: F) (fun z => z ≤ p.f_Votes.xs.length ∧ ∀ j, j < z → p.f_Votes.xs[j]? = q.f_Votes.xs[j]?) (fun z => p.f_Votes.xs.length - z) (0) (by exact ⟨Nat.zero_le _, fun j h => absurd h (by omega)⟩) ⟨(by first | rfl | exact vint (by omega)), (by first | rfl | exact vint (by omega)), (by first | rfl | exact vint (by omega)), trivial⟩ (fun w S => S) ?_
         rintro i ⟨hi, heq⟩
         try dsimp only at *
         refine c_seq ?_
         refine c_seq ?_
         refine c_region ?_
         refine o_move rfl rfl ?_
         refine o_fieldAddr (q := ⟨b2, 7, none⟩) rfl rfl Try.underlying35 rfl ti33 rfl ?_
         refine o_load1 rfl rfl Try.underlying33 rfl (rd_mem 1 rfl rfl) ?_
         refine o_len rfl rfl Try.underlying33 ?_
         refine o_bin rfl rfl rfl b_lss ?_
         refine l_nil ?_
         refine q_then ?_
         refine c_cond rfl (fun h9 => ?_) (fun h9 => ?_)
         · -- h9T
          have h9b := h9
          try simp only [decide_eq_true_eq] at h9
          refine c_skip ?_
          refine q_then ?_
          refine c_seq ?_
          refine c_block ?_
          refine c_seq ?_
          refine c_fact (p := ∃ ad, p.f_Votes.a = some ad) (rds_some (e := e_RVote) (xs := p.f_Votes.xs) (rds_c (rds_c R_p)) (by intro h0; have h00 := congrArg List.length h0; simp only [List.length_nil] at h00; omega)) ?_
          rintro ⟨adx, eadx⟩
          refine c_fact (p := ∃ ad, q.f_Votes.a = some ad) (rds_some (e := e_RVote) (xs := q.f_Votes.xs) (rds_c (rds_c R_q)) (by intro h0; have h00 := congrArg List.length h0; simp only [List.length_nil] at h00; omega)) ?_
          rintro ⟨ady, eady⟩
          refine c_quiet (by kernel_rfl) (by kernel_rfl) ?_
          refine Qt.o_val rfl (v_fieldAddr (q := ⟨b2, 7, none⟩) rfl rfl Try.underlying35 rfl ti33 rfl) ?_
          refine Qt.o_val rfl (v_load1 rfl rfl Try.underlying33 rfl (rd_mem 1 rfl rfl)) ?_
          refine Qt.o_val rfl (v_move rfl rfl) ?_
          refine Qt.o_val rfl (v_indexK e_RVote_ok eadx rfl rfl rfl Try.underlying33 (by omega) (by omega)) ?_
          obtain ⟨x72, hx72⟩ : ∃ x, (p.f_Votes.xs)[((i : Int)).toNat]? = some x := ⟨_, List.getElem?_eq_getElem (by omega)⟩
          refine Qt.o_val rfl (v_loadn (vs := e_RVote.cells x72) rfl rfl Try.underlying58 rfl ti58 (rdn_sl e_RVote_ok eadx (rds_c (rds_c R_p)) hx72)) ?_
          refine Qt.o_val rfl (v_fieldAddr (q := ⟨b3, 7, none⟩) rfl rfl Try.underlying35 rfl ti33 rfl) ?_
          refine Qt.o_val rfl (v_load1 rfl rfl Try.underlying33 rfl (rd_mem 0 rfl rfl)) ?_
          refine Qt.o_val rfl (v_move rfl rfl) ?_
          refine Qt.o_val rfl (v_indexK e_RVote_ok eady rfl rfl rfl Try.underlying33 (by omega) (by omega)) ?_
          obtain ⟨x77, hx77⟩ : ∃ x, (q.f_Votes.xs)[((i : Int)).toNat]? = some x := ⟨_, List.getElem?_eq_getElem (by omega)⟩
          refine Qt.o_val rfl (v_loadn (vs := e_RVote.cells x77) rfl rfl Try.underlying58 rfl ti58 (rdn_sl e_RVote_ok eady (rds_c (rds_c R_q)) hx77)) ?_
          have hxA : p.f_Votes.xs[i]? = some x72 := hx72
          have hxB : q.f_Votes.xs[i]? = some x77 := hx77
          refine Qt.o_val rfl (v_bin rfl rfl rfl (b_neqS58 x72 x77)) ?_
          refine Qt.l_nil ?_
          refine q_then ?_
          refine c_cond rfl (fun h10 => ?_) (fun h10 => ?_)
          · -- h10T
           have h10b := h10
           try simp only [Bool.not_eq_true', decide_eq_false_iff_not, Int.not_lt, Int.not_le] at h10
           refine c_seq ?_
           refine c_region ?_
           refine o_assign rfl rfl ?_
           refine l_nil ?_
           refine q_then ?_
           refine c_ret ?_
           refine q_block_ret ?_
           refine q_pass_ret ?_
           refine q_pass_ret ?_
           refine q_block_ret ?_
           refine q_pass_ret ?_
           refine q_conv (fun w S => S.tail) ?_
           refine q_conv (fun w S => S.tail) ?_
           exact f_ret (r_one rfl rfl) (⟨vfalse (fun h9 => by have h8 := h9.2.2.2.2.2.2.2; rw [h8] at hxA; rw [hxA] at hxB; exact h10 (Option.some.inj hxB)), rfl⟩) (fun w S => S)
          · -- h10F
           have h10b := h10
           try simp only [Bool.not_eq_false', decide_eq_true_eq] at h10
           refine c_skip ?_
           refine q_block ?_
           refine q_then ?_
           refine c_region ?_
           refine o_move rfl rfl ?_
           refine o_bin rfl rfl rfl (b_add (wrap_i64 (by omega) (by omega))) ?_
           refine o_assign rfl rfl ?_
           refine l_nil ?_
           exact q_round (i + 1) (by exact ⟨by omega, eqTo_on heq hxA hxB (by first | assumption | exact Classical.byContradiction (by assumption))⟩) (by (try dsimp only); omega) ⟨(by first | rfl | exact vint (by omega)), (by first | rfl | exact vint (by omega)), (by first | rfl | exact vint (by omega)), trivial⟩ (fun w S => S)
         · -- h9F
          have h9b := h9
          try simp only [decide_eq_false_iff_not, Int.not_lt, Int.not_le] at h9
          refine c_exit ?_
          refine q_pass_exit ?_
          refine q_pass_exit ?_
          refine q_hit ?_
          refine q_then ?_
          refine c_seq ?_
          refine c_region ?_
          refine o_assign rfl rfl ?_
          refine l_nil ?_
          refine q_then ?_
          refine c_ret ?_
          refine q_conv (fun w S => S.tail) ?_
          refine q_conv (fun w S => S.tail) ?_
          exact f_ret (r_one rfl rfl) (⟨vtrue ⟨by omega, by omega, by omega, by omega, by omega, by omega, by first | assumption | (exact Classical.byContradiction (by assumption)), eqTo_all heq (by omega) (by omega)⟩, rfl⟩) (fun w S => S)

end Go.Proofs.Ytoigakfglgdjdaa
