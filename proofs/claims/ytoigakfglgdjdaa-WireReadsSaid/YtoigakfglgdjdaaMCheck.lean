/- Printed by eng2.py out of 18/spec.py. -/
import Derived.Test.YtoigakfglgdjdaaVotes
set_option linter.unusedVariables false
set_option linter.unusedSimpArgs false
set_option maxRecDepth 10000
namespace Go.Proofs.Ytoigakfglgdjdaa
open Go.RowKit Classical
set_option maxHeartbeats 1000000 in
theorem check_ {W : World} {F : List Res} {m : Msg} (T_m : RdS W F e_Vote m.f_Votes.a m.f_Votes.xs) (hn_m : m.f_Votes.xs.length ≤ 9223372036854775807) : CS Try.prog 14 #[.agg #[.int .i64 m.f_Kind, .int .i64 m.f_From, .int .i64 m.f_To, .int .i64 m.f_Group, .int .i64 m.f_Slot, .int .u64 m.f_Ballot, .string m.f_Value, .slice m.f_Votes.a (m.f_Votes.xs).length m.f_Votes.c]] W (F) (fun r L' => r = .int .i64 (msgN m) ∧ F = L') := by
 have hba : (⟨#[]⟩ : ByteArray) = ByteArray.empty := rfl
 refine f_door (l0 := [(0, .agg #[.int .i64 m.f_Kind, .int .i64 m.f_From, .int .i64 m.f_To, .int .i64 m.f_Group, .int .i64 m.f_Slot, .int .u64 m.f_Ballot, .string m.f_Value, .slice m.f_Votes.a (m.f_Votes.xs).length m.f_Votes.c])]) Try.func14 Try.ntmps14 rfl rfl rfl ?_
 refine c_seq ?_
 refine c_region ?_
 refine o_box rfl rfl fun b1 => ?_
 refine o_assign rfl rfl ?_
 refine l_nil ?_
 refine q_then ?_
 refine c_seq ?_
 refine c_region ?_
 refine o_assign rfl rfl ?_
 refine l_nil ?_
 refine q_then ?_
 refine c_seq ?_
 refine c_region ?_
 refine o_fieldAddr (q := ⟨b1, 0, none⟩) rfl rfl Try.underlying26 rfl ti3 rfl ?_
 refine o_load1 rfl rfl Try.underlying3 rfl (rd_mem 0 rfl rfl) ?_
 refine o_bin rfl rfl rfl b_geq ?_
 refine o_move rfl rfl ?_
 refine l_split (t := 8) rfl (fun h1 => ?_) (fun h1 => ?_)
 · -- h1T
  have h1b := h1
  try simp only [decide_eq_true_eq] at h1
  refine o_yes rfl rfl rfl ?_
  refine o_fieldAddr (q := ⟨b1, 0, none⟩) rfl rfl Try.underlying26 rfl ti3 rfl ?_
  refine o_yes rfl rfl rfl ?_
  refine o_load1 rfl rfl Try.underlying3 rfl (rd_mem 0 rfl rfl) ?_
  refine o_yes rfl rfl rfl ?_
  refine o_bin rfl rfl rfl b_leq ?_
  refine o_pick_true rfl rfl rfl ?_
  refine o_move rfl rfl ?_
  refine l_split (t := 13) rfl (fun h2 => ?_) (fun h2 => ?_)
  · -- h2T
   have h2b := h2
   try simp only [decide_eq_true_eq] at h2
   refine o_yes rfl rfl rfl ?_
   refine o_move rfl rfl ?_
   refine o_yes rfl rfl rfl ?_
   refine o_fieldAddr (q := ⟨b1, 1, none⟩) rfl rfl Try.underlying26 rfl ti3 rfl ?_
   refine o_yes rfl rfl rfl ?_
   refine o_load1 rfl rfl Try.underlying3 rfl (rd_mem 0 rfl rfl) ?_
   refine o_yes rfl rfl rfl ?_
   refine o_callV rfl rfl rfl (FV.of_csL cal25 (within_ (n := m.f_From) (k := 8))) ?_
   rintro _ _ ⟨rfl, rfl⟩
   refine o_pick_true rfl rfl rfl ?_
   refine o_move rfl rfl ?_
   refine l_split (t := 19) rfl (fun h3 => ?_) (fun h3 => ?_)
   · -- h3T
    have h3b := h3
    try simp only [decide_eq_true_eq, decide_eq_false_iff_not, Bool.not_eq_eq_eq_not, Bool.not_true, Bool.not_false, Bool.not_eq_true', Bool.not_eq_false', Int.not_lt, Int.not_le, Bool.or_eq_true, Bool.and_eq_true] at h3
    refine o_yes rfl rfl rfl ?_
    refine o_move rfl rfl ?_
    refine o_yes rfl rfl rfl ?_
    refine o_fieldAddr (q := ⟨b1, 2, none⟩) rfl rfl Try.underlying26 rfl ti3 rfl ?_
    refine o_yes rfl rfl rfl ?_
    refine o_load1 rfl rfl Try.underlying3 rfl (rd_mem 0 rfl rfl) ?_
    refine o_yes rfl rfl rfl ?_
    refine o_callV rfl rfl rfl (FV.of_csL cal25 (within_ (n := m.f_To) (k := 8))) ?_
    rintro _ _ ⟨rfl, rfl⟩
    refine o_pick_true rfl rfl rfl ?_
    refine o_move rfl rfl ?_
    refine l_split (t := 25) rfl (fun h4 => ?_) (fun h4 => ?_)
    · -- h4T
     have h4b := h4
     try simp only [decide_eq_true_eq, decide_eq_false_iff_not, Bool.not_eq_eq_eq_not, Bool.not_true, Bool.not_false, Bool.not_eq_true', Bool.not_eq_false', Int.not_lt, Int.not_le, Bool.or_eq_true, Bool.and_eq_true] at h4
     refine o_yes rfl rfl rfl ?_
     refine o_move rfl rfl ?_
     refine o_yes rfl rfl rfl ?_
     refine o_fieldAddr (q := ⟨b1, 3, none⟩) rfl rfl Try.underlying26 rfl ti3 rfl ?_
     refine o_yes rfl rfl rfl ?_
     refine o_load1 rfl rfl Try.underlying3 rfl (rd_mem 0 rfl rfl) ?_
     refine o_yes rfl rfl rfl ?_
     refine o_callV rfl rfl rfl (FV.of_csL cal25 (within_ (n := m.f_Group) (k := 3))) ?_
     rintro _ _ ⟨rfl, rfl⟩
     refine o_pick_true rfl rfl rfl ?_
     refine o_move rfl rfl ?_
     refine l_split (t := 31) rfl (fun h5 => ?_) (fun h5 => ?_)
     · -- h5T
      have h5b := h5
      try simp only [decide_eq_true_eq, decide_eq_false_iff_not, Bool.not_eq_eq_eq_not, Bool.not_true, Bool.not_false, Bool.not_eq_true', Bool.not_eq_false', Int.not_lt, Int.not_le, Bool.or_eq_true, Bool.and_eq_true] at h5
      refine o_yes rfl rfl rfl ?_
      refine o_move rfl rfl ?_
      refine o_yes rfl rfl rfl ?_
      refine o_fieldAddr (q := ⟨b1, 4, none⟩) rfl rfl Try.underlying26 rfl ti3 rfl ?_
      refine o_yes rfl rfl rfl ?_
      refine o_load1 rfl rfl Try.underlying3 rfl (rd_mem 0 rfl rfl) ?_
      refine o_yes rfl rfl rfl ?_
      refine o_callV rfl rfl rfl (FV.of_csL cal25 (within_ (n := m.f_Slot) (k := 64))) ?_
      rintro _ _ ⟨rfl, rfl⟩
      refine o_pick_true rfl rfl rfl ?_
      refine o_assign rfl rfl ?_
      refine l_nil ?_
      refine q_then ?_
      refine c_seq ?_
      refine c_region ?_
      refine o_move rfl rfl ?_
      refine o_move rfl rfl ?_
      refine l_split (t := 38) rfl (fun h6 => ?_) (fun h6 => ?_)
      · -- h6T
       have h6b := h6
       try simp only [decide_eq_true_eq, decide_eq_false_iff_not, Bool.not_eq_eq_eq_not, Bool.not_true, Bool.not_false, Bool.not_eq_true', Bool.not_eq_false', Int.not_lt, Int.not_le, Bool.or_eq_true, Bool.and_eq_true] at h6
       refine o_yes rfl rfl rfl ?_
       refine o_fieldAddr (q := ⟨b1, 6, none⟩) rfl rfl Try.underlying26 rfl ti9 rfl ?_
       refine o_yes rfl rfl rfl ?_
       refine o_load1 rfl rfl Try.underlying9 rfl (rd_mem 0 rfl rfl) ?_
       refine o_yes rfl rfl rfl ?_
       refine o_lenStr rfl rfl Try.underlying9 ?_
       refine o_yes rfl rfl rfl ?_
       refine o_bin rfl rfl rfl b_leq ?_
       refine o_pick_true rfl rfl rfl ?_
       refine o_move rfl rfl ?_
       refine l_split (t := 44) rfl (fun h7 => ?_) (fun h7 => ?_)
       · -- h7T
        have h7b := h7
        try simp only [decide_eq_true_eq] at h7
        refine o_yes rfl rfl rfl ?_
        refine o_fieldAddr (q := ⟨b1, 6, none⟩) rfl rfl Try.underlying26 rfl ti9 rfl ?_
        refine o_yes rfl rfl rfl ?_
        refine o_load1 rfl rfl Try.underlying9 rfl (rd_mem 0 rfl rfl) ?_
        refine o_yes rfl rfl rfl ?_
        refine o_bin rfl rfl rfl b_seql ?_
        refine o_yes rfl rfl rfl ?_
        refine o_move rfl rfl ?_
        refine l_split (t := 48) rfl (fun h8 => ?_) (fun h8 => ?_)
        · -- h8T
         have h8b := h8
         try simp only [decide_eq_true_eq] at h8
         refine o_no rfl rfl rfl rfl ?_
         refine o_no rfl rfl rfl rfl ?_
         refine o_no rfl rfl rfl rfl ?_
         refine o_yes rfl rfl rfl ?_
         refine o_pick_true rfl rfl rfl ?_
         refine o_pick_true rfl rfl rfl ?_
         refine o_move rfl rfl ?_
         refine o_yes rfl rfl rfl ?_
         refine o_fieldAddr (q := ⟨b1, 7, none⟩) rfl rfl Try.underlying26 rfl ti24 rfl ?_
         refine o_yes rfl rfl rfl ?_
         refine o_load1 rfl rfl Try.underlying24 rfl (rd_mem 0 rfl rfl) ?_
         refine o_yes rfl rfl rfl ?_
         refine o_len rfl rfl Try.underlying24 ?_
         refine o_yes rfl rfl rfl ?_
         refine o_bin rfl rfl rfl b_eql ?_
         refine o_yes rfl rfl rfl ?_
         refine o_move rfl rfl ?_
         refine l_split (t := 59) rfl (fun h9 => ?_) (fun h9 => ?_)
         · -- h9T
          have h9b := h9
          try simp only [decide_eq_true_eq] at h9
          refine o_no rfl rfl rfl rfl ?_
          refine o_no rfl rfl rfl rfl ?_
          refine o_no rfl rfl rfl rfl ?_
          refine o_yes rfl rfl rfl ?_
          refine o_pick_true rfl rfl rfl ?_
          refine o_pick_true rfl rfl rfl ?_
          refine o_assign rfl rfl ?_
          refine l_nil ?_
          refine q_then ?_
          refine c_seq ?_
          refine c_seq ?_
          refine c_region ?_
          refine o_move rfl rfl ?_
          refine o_not rfl rfl ?_
          refine o_move rfl rfl ?_
          refine o_yes rfl rfl rfl ?_
          refine o_fieldAddr (q := ⟨b1, 7, none⟩) rfl rfl Try.underlying26 rfl ti24 rfl ?_
          refine o_yes rfl rfl rfl ?_
          refine o_load1 rfl rfl Try.underlying24 rfl (rd_mem 0 rfl rfl) ?_
          refine o_yes rfl rfl rfl ?_
          refine o_call rfl cal27 rfl (votes_ (rds_c T_m) (by omega)) ?_
          rintro _ _ ⟨rfl, rfl⟩
          refine o_yes rfl rfl rfl ?_
          refine o_not rfl rfl ?_
          refine o_pick_false rfl rfl rfl ?_
          refine l_nil ?_
          refine q_then ?_
          refine c_cond rfl (fun h10 => ?_) (fun h10 => ?_)
          · -- h10T
           have h10b := h10
           try simp only [Bool.not_eq_true', decide_eq_false_iff_not, Int.not_lt, Int.not_le] at h10
           refine c_seq ?_
           refine c_region ?_
           refine o_assign rfl rfl ?_
           refine l_nil ?_
           refine q_then ?_
           refine c_ret ?_
           refine q_pass_ret ?_
           refine q_conv (fun w S => S.tail) ?_
           exact f_ret (r_one rfl rfl) (⟨by (first | rw [show msgN m = 1 from if_neg (by unfold MsgOk; grind)] | rw [show msgN m = 0 from if_pos (by unfold MsgOk; grind)]), rfl⟩) (fun w S => S)
          · -- h10F
           have h10b := h10
           try simp only [Bool.not_eq_false', decide_eq_true_eq] at h10
           refine c_skip ?_
           refine q_then ?_
           refine c_seq ?_
           refine c_region ?_
           refine o_assign rfl rfl ?_
           refine l_nil ?_
           refine q_then ?_
           refine c_ret ?_
           refine q_conv (fun w S => S.tail) ?_
           exact f_ret (r_one rfl rfl) (⟨by (first | rw [show msgN m = 1 from if_neg (by unfold MsgOk; grind)] | rw [show msgN m = 0 from if_pos (by unfold MsgOk; grind)]), rfl⟩) (fun w S => S)
         · -- h9F
          have h9b := h9
          try simp only [decide_eq_false_iff_not, Int.not_lt, Int.not_le] at h9
          refine o_yes rfl rfl rfl ?_
          refine o_fieldAddr (q := ⟨b1, 0, none⟩) rfl rfl Try.underlying26 rfl ti3 rfl ?_
          refine o_yes rfl rfl rfl ?_
          refine o_load1 rfl rfl Try.underlying3 rfl (rd_mem 0 rfl rfl) ?_
          refine o_yes rfl rfl rfl ?_
          refine o_bin rfl rfl rfl b_eql ?_
          refine o_yes rfl rfl rfl ?_
          refine o_pick_false rfl rfl rfl ?_
          refine o_pick_true rfl rfl rfl ?_
          refine o_assign rfl rfl ?_
          refine l_nil ?_
          refine q_then ?_
          refine c_seq ?_
          refine c_seq ?_
          refine c_region ?_
          refine o_move rfl rfl ?_
          refine o_not rfl rfl ?_
          refine o_move rfl rfl ?_
          refine l_split (t := 67) rfl (fun h11 => ?_) (fun h11 => ?_)
          · -- h11T
           have h11b := h11
           try simp only [Bool.not_eq_true', decide_eq_false_iff_not, Int.not_lt, Int.not_le] at h11
           refine o_no rfl rfl rfl rfl ?_
           refine o_no rfl rfl rfl rfl ?_
           refine o_no rfl rfl rfl rfl ?_
           refine o_no rfl rfl rfl rfl ?_
           refine o_pick_true rfl rfl rfl ?_
           refine l_nil ?_
           refine q_then ?_
           refine c_true rfl ?_
           refine c_seq ?_
           refine c_region ?_
           refine o_assign rfl rfl ?_
           refine l_nil ?_
           refine q_then ?_
           refine c_ret ?_
           refine q_pass_ret ?_
           refine q_conv (fun w S => S.tail) ?_
           exact f_ret (r_one rfl rfl) (⟨by (first | rw [show msgN m = 1 from if_neg (by unfold MsgOk; grind)] | rw [show msgN m = 0 from if_pos (by unfold MsgOk; grind)]), rfl⟩) (fun w S => S)
          · -- h11F
           have h11b := h11
           try simp only [Bool.not_eq_false', decide_eq_true_eq] at h11
           refine o_yes rfl rfl rfl ?_
           refine o_fieldAddr (q := ⟨b1, 7, none⟩) rfl rfl Try.underlying26 rfl ti24 rfl ?_
           refine o_yes rfl rfl rfl ?_
           refine o_load1 rfl rfl Try.underlying24 rfl (rd_mem 0 rfl rfl) ?_
           refine o_yes rfl rfl rfl ?_
           refine o_call rfl cal27 rfl (votes_ (rds_c T_m) (by omega)) ?_
           rintro _ _ ⟨rfl, rfl⟩
           refine o_yes rfl rfl rfl ?_
           refine o_not rfl rfl ?_
           refine o_pick_false rfl rfl rfl ?_
           refine l_nil ?_
           refine q_then ?_
           refine c_cond rfl (fun h12 => ?_) (fun h12 => ?_)
           · -- h12T
            have h12b := h12
            try simp only [Bool.not_eq_true', decide_eq_false_iff_not, Int.not_lt, Int.not_le] at h12
            refine c_seq ?_
            refine c_region ?_
            refine o_assign rfl rfl ?_
            refine l_nil ?_
            refine q_then ?_
            refine c_ret ?_
            refine q_pass_ret ?_
            refine q_conv (fun w S => S.tail) ?_
            exact f_ret (r_one rfl rfl) (⟨by (first | rw [show msgN m = 1 from if_neg (by unfold MsgOk; grind)] | rw [show msgN m = 0 from if_pos (by unfold MsgOk; grind)]), rfl⟩) (fun w S => S)
           · -- h12F
            have h12b := h12
            try simp only [Bool.not_eq_false', decide_eq_true_eq] at h12
            refine c_skip ?_
            refine q_then ?_
            refine c_seq ?_
            refine c_region ?_
            refine o_assign rfl rfl ?_
            refine l_nil ?_
            refine q_then ?_
            refine c_ret ?_
            refine q_conv (fun w S => S.tail) ?_
            exact f_ret (r_one rfl rfl) (⟨by (first | rw [show msgN m = 1 from if_neg (by unfold MsgOk; grind)] | rw [show msgN m = 0 from if_pos (by unfold MsgOk; grind)]), rfl⟩) (fun w S => S)
        · -- h8F
         have h8b := h8
         try simp only [decide_eq_false_iff_not, Int.not_lt, Int.not_le] at h8
         refine o_yes rfl rfl rfl ?_
         refine o_fieldAddr (q := ⟨b1, 0, none⟩) rfl rfl Try.underlying26 rfl ti3 rfl ?_
         refine o_yes rfl rfl rfl ?_
         refine o_load1 rfl rfl Try.underlying3 rfl (rd_mem 0 rfl rfl) ?_
         refine o_yes rfl rfl rfl ?_
         refine o_call rfl cal26 rfl (valued_ (n := m.f_Kind)) ?_
         rintro _ _ ⟨rfl, rfl⟩
         refine o_yes rfl rfl rfl ?_
         refine o_pick_false rfl rfl rfl ?_
         refine o_pick_true rfl rfl rfl ?_
         refine o_move rfl rfl ?_
         refine l_split (t := 54) rfl (fun h13 => ?_) (fun h13 => ?_)
         · -- h13T
          have h13b := h13
          try simp only [decide_eq_true_eq] at h13
          refine o_yes rfl rfl rfl ?_
          refine o_fieldAddr (q := ⟨b1, 7, none⟩) rfl rfl Try.underlying26 rfl ti24 rfl ?_
          refine o_yes rfl rfl rfl ?_
          refine o_load1 rfl rfl Try.underlying24 rfl (rd_mem 0 rfl rfl) ?_
          refine o_yes rfl rfl rfl ?_
          refine o_len rfl rfl Try.underlying24 ?_
          refine o_yes rfl rfl rfl ?_
          refine o_bin rfl rfl rfl b_eql ?_
          refine o_yes rfl rfl rfl ?_
          refine o_move rfl rfl ?_
          refine l_split (t := 59) rfl (fun h14 => ?_) (fun h14 => ?_)
          · -- h14T
           have h14b := h14
           try simp only [decide_eq_true_eq] at h14
           refine o_no rfl rfl rfl rfl ?_
           refine o_no rfl rfl rfl rfl ?_
           refine o_no rfl rfl rfl rfl ?_
           refine o_yes rfl rfl rfl ?_
           refine o_pick_true rfl rfl rfl ?_
           refine o_pick_true rfl rfl rfl ?_
           refine o_assign rfl rfl ?_
           refine l_nil ?_
           refine q_then ?_
           refine c_seq ?_
           refine c_seq ?_
           refine c_region ?_
           refine o_move rfl rfl ?_
           refine o_not rfl rfl ?_
           refine o_move rfl rfl ?_
           refine o_yes rfl rfl rfl ?_
           refine o_fieldAddr (q := ⟨b1, 7, none⟩) rfl rfl Try.underlying26 rfl ti24 rfl ?_
           refine o_yes rfl rfl rfl ?_
           refine o_load1 rfl rfl Try.underlying24 rfl (rd_mem 0 rfl rfl) ?_
           refine o_yes rfl rfl rfl ?_
           refine o_call rfl cal27 rfl (votes_ (rds_c T_m) (by omega)) ?_
           rintro _ _ ⟨rfl, rfl⟩
           refine o_yes rfl rfl rfl ?_
           refine o_not rfl rfl ?_
           refine o_pick_false rfl rfl rfl ?_
           refine l_nil ?_
           refine q_then ?_
           refine c_cond rfl (fun h15 => ?_) (fun h15 => ?_)
           · -- h15T
            have h15b := h15
            try simp only [Bool.not_eq_true', decide_eq_false_iff_not, Int.not_lt, Int.not_le] at h15
            refine c_seq ?_
            refine c_region ?_
            refine o_assign rfl rfl ?_
            refine l_nil ?_
            refine q_then ?_
            refine c_ret ?_
            refine q_pass_ret ?_
            refine q_conv (fun w S => S.tail) ?_
            exact f_ret (r_one rfl rfl) (⟨by (first | rw [show msgN m = 1 from if_neg (by unfold MsgOk; grind)] | rw [show msgN m = 0 from if_pos (by unfold MsgOk; grind)]), rfl⟩) (fun w S => S)
           · -- h15F
            have h15b := h15
            try simp only [Bool.not_eq_false', decide_eq_true_eq] at h15
            refine c_skip ?_
            refine q_then ?_
            refine c_seq ?_
            refine c_region ?_
            refine o_assign rfl rfl ?_
            refine l_nil ?_
            refine q_then ?_
            refine c_ret ?_
            refine q_conv (fun w S => S.tail) ?_
            exact f_ret (r_one rfl rfl) (⟨by (first | rw [show msgN m = 1 from if_neg (by unfold MsgOk; grind)] | rw [show msgN m = 0 from if_pos (by unfold MsgOk; grind)]), rfl⟩) (fun w S => S)
          · -- h14F
           have h14b := h14
           try simp only [decide_eq_false_iff_not, Int.not_lt, Int.not_le] at h14
           refine o_yes rfl rfl rfl ?_
           refine o_fieldAddr (q := ⟨b1, 0, none⟩) rfl rfl Try.underlying26 rfl ti3 rfl ?_
           refine o_yes rfl rfl rfl ?_
           refine o_load1 rfl rfl Try.underlying3 rfl (rd_mem 0 rfl rfl) ?_
           refine o_yes rfl rfl rfl ?_
           refine o_bin rfl rfl rfl b_eql ?_
           refine o_yes rfl rfl rfl ?_
           refine o_pick_false rfl rfl rfl ?_
           refine o_pick_true rfl rfl rfl ?_
           refine o_assign rfl rfl ?_
           refine l_nil ?_
           refine q_then ?_
           refine c_seq ?_
           refine c_seq ?_
           refine c_region ?_
           refine o_move rfl rfl ?_
           refine o_not rfl rfl ?_
           refine o_move rfl rfl ?_
           refine l_split (t := 67) rfl (fun h16 => ?_) (fun h16 => ?_)
           · -- h16T
            have h16b := h16
            try simp only [Bool.not_eq_true', decide_eq_false_iff_not, Int.not_lt, Int.not_le] at h16
            refine o_no rfl rfl rfl rfl ?_
            refine o_no rfl rfl rfl rfl ?_
            refine o_no rfl rfl rfl rfl ?_
            refine o_no rfl rfl rfl rfl ?_
            refine o_pick_true rfl rfl rfl ?_
            refine l_nil ?_
            refine q_then ?_
            refine c_true rfl ?_
            refine c_seq ?_
            refine c_region ?_
            refine o_assign rfl rfl ?_
            refine l_nil ?_
            refine q_then ?_
            refine c_ret ?_
            refine q_pass_ret ?_
            refine q_conv (fun w S => S.tail) ?_
            exact f_ret (r_one rfl rfl) (⟨by (first | rw [show msgN m = 1 from if_neg (by unfold MsgOk; grind)] | rw [show msgN m = 0 from if_pos (by unfold MsgOk; grind)]), rfl⟩) (fun w S => S)
           · -- h16F
            have h16b := h16
            try simp only [Bool.not_eq_false', decide_eq_true_eq] at h16
            refine o_yes rfl rfl rfl ?_
            refine o_fieldAddr (q := ⟨b1, 7, none⟩) rfl rfl Try.underlying26 rfl ti24 rfl ?_
            refine o_yes rfl rfl rfl ?_
            refine o_load1 rfl rfl Try.underlying24 rfl (rd_mem 0 rfl rfl) ?_
            refine o_yes rfl rfl rfl ?_
            refine o_call rfl cal27 rfl (votes_ (rds_c T_m) (by omega)) ?_
            rintro _ _ ⟨rfl, rfl⟩
            refine o_yes rfl rfl rfl ?_
            refine o_not rfl rfl ?_
            refine o_pick_false rfl rfl rfl ?_
            refine l_nil ?_
            refine q_then ?_
            refine c_cond rfl (fun h17 => ?_) (fun h17 => ?_)
            · -- h17T
             have h17b := h17
             try simp only [Bool.not_eq_true', decide_eq_false_iff_not, Int.not_lt, Int.not_le] at h17
             refine c_seq ?_
             refine c_region ?_
             refine o_assign rfl rfl ?_
             refine l_nil ?_
             refine q_then ?_
             refine c_ret ?_
             refine q_pass_ret ?_
             refine q_conv (fun w S => S.tail) ?_
             exact f_ret (r_one rfl rfl) (⟨by (first | rw [show msgN m = 1 from if_neg (by unfold MsgOk; grind)] | rw [show msgN m = 0 from if_pos (by unfold MsgOk; grind)]), rfl⟩) (fun w S => S)
            · -- h17F
             have h17b := h17
             try simp only [Bool.not_eq_false', decide_eq_true_eq] at h17
             refine c_skip ?_
             refine q_then ?_
             refine c_seq ?_
             refine c_region ?_
             refine o_assign rfl rfl ?_
             refine l_nil ?_
             refine q_then ?_
             refine c_ret ?_
             refine q_conv (fun w S => S.tail) ?_
             exact f_ret (r_one rfl rfl) (⟨by (first | rw [show msgN m = 1 from if_neg (by unfold MsgOk; grind)] | rw [show msgN m = 0 from if_pos (by unfold MsgOk; grind)]), rfl⟩) (fun w S => S)
         · -- h13F
          have h13b := h13
          try simp only [decide_eq_false_iff_not, Int.not_lt, Int.not_le] at h13
          refine o_no rfl rfl rfl rfl ?_
          refine o_no rfl rfl rfl rfl ?_
          refine o_no rfl rfl rfl rfl ?_
          refine o_no rfl rfl rfl rfl ?_
          refine o_no rfl rfl rfl rfl ?_
          refine o_no rfl rfl rfl rfl ?_
          refine o_no rfl rfl rfl rfl ?_
          refine o_no rfl rfl rfl rfl ?_
          refine o_no rfl rfl rfl rfl ?_
          refine o_pick_false rfl rfl rfl ?_
          refine o_assign rfl rfl ?_
          refine l_nil ?_
          refine q_then ?_
          refine c_seq ?_
          refine c_seq ?_
          refine c_region ?_
          refine o_move rfl rfl ?_
          refine o_not rfl rfl ?_
          refine o_move rfl rfl ?_
          refine o_no rfl rfl rfl rfl ?_
          refine o_no rfl rfl rfl rfl ?_
          refine o_no rfl rfl rfl rfl ?_
          refine o_no rfl rfl rfl rfl ?_
          refine o_pick_true rfl rfl rfl ?_
          refine l_nil ?_
          refine q_then ?_
          refine c_true rfl ?_
          refine c_seq ?_
          refine c_region ?_
          refine o_assign rfl rfl ?_
          refine l_nil ?_
          refine q_then ?_
          refine c_ret ?_
          refine q_pass_ret ?_
          refine q_conv (fun w S => S.tail) ?_
          exact f_ret (r_one rfl rfl) (⟨by (first | rw [show msgN m = 1 from if_neg (by unfold MsgOk; grind)] | rw [show msgN m = 0 from if_pos (by unfold MsgOk; grind)]), rfl⟩) (fun w S => S)
       · -- h7F
        have h7b := h7
        try simp only [decide_eq_false_iff_not, Int.not_lt, Int.not_le] at h7
        refine o_no rfl rfl rfl rfl ?_
        refine o_no rfl rfl rfl rfl ?_
        refine o_no rfl rfl rfl rfl ?_
        refine o_no rfl rfl rfl rfl ?_
        refine o_no rfl rfl rfl rfl ?_
        refine o_no rfl rfl rfl rfl ?_
        refine o_no rfl rfl rfl rfl ?_
        refine o_no rfl rfl rfl rfl ?_
        refine o_pick_false rfl rfl rfl ?_
        refine o_move rfl rfl ?_
        refine o_no rfl rfl rfl rfl ?_
        refine o_no rfl rfl rfl rfl ?_
        refine o_no rfl rfl rfl rfl ?_
        refine o_no rfl rfl rfl rfl ?_
        refine o_no rfl rfl rfl rfl ?_
        refine o_no rfl rfl rfl rfl ?_
        refine o_no rfl rfl rfl rfl ?_
        refine o_no rfl rfl rfl rfl ?_
        refine o_no rfl rfl rfl rfl ?_
        refine o_pick_false rfl rfl rfl ?_
        refine o_assign rfl rfl ?_
        refine l_nil ?_
        refine q_then ?_
        refine c_seq ?_
        refine c_seq ?_
        refine c_region ?_
        refine o_move rfl rfl ?_
        refine o_not rfl rfl ?_
        refine o_move rfl rfl ?_
        refine o_no rfl rfl rfl rfl ?_
        refine o_no rfl rfl rfl rfl ?_
        refine o_no rfl rfl rfl rfl ?_
        refine o_no rfl rfl rfl rfl ?_
        refine o_pick_true rfl rfl rfl ?_
        refine l_nil ?_
        refine q_then ?_
        refine c_true rfl ?_
        refine c_seq ?_
        refine c_region ?_
        refine o_assign rfl rfl ?_
        refine l_nil ?_
        refine q_then ?_
        refine c_ret ?_
        refine q_pass_ret ?_
        refine q_conv (fun w S => S.tail) ?_
        exact f_ret (r_one rfl rfl) (⟨by (first | rw [show msgN m = 1 from if_neg (by unfold MsgOk; grind)] | rw [show msgN m = 0 from if_pos (by unfold MsgOk; grind)]), rfl⟩) (fun w S => S)
      · -- h6F
       have h6b := h6
       try simp only [decide_eq_true_eq, decide_eq_false_iff_not, Bool.not_eq_eq_eq_not, Bool.not_true, Bool.not_false, Bool.not_eq_true', Bool.not_eq_false', Int.not_lt, Int.not_le, Bool.or_eq_true, Bool.and_eq_true] at h6
       refine o_no rfl rfl rfl rfl ?_
       refine o_no rfl rfl rfl rfl ?_
       refine o_no rfl rfl rfl rfl ?_
       refine o_no rfl rfl rfl rfl ?_
       refine o_pick_false rfl rfl rfl ?_
       refine o_move rfl rfl ?_
       refine o_no rfl rfl rfl rfl ?_
       refine o_no rfl rfl rfl rfl ?_
       refine o_no rfl rfl rfl rfl ?_
       refine o_no rfl rfl rfl rfl ?_
       refine o_no rfl rfl rfl rfl ?_
       refine o_no rfl rfl rfl rfl ?_
       refine o_no rfl rfl rfl rfl ?_
       refine o_no rfl rfl rfl rfl ?_
       refine o_pick_false rfl rfl rfl ?_
       refine o_move rfl rfl ?_
       refine o_no rfl rfl rfl rfl ?_
       refine o_no rfl rfl rfl rfl ?_
       refine o_no rfl rfl rfl rfl ?_
       refine o_no rfl rfl rfl rfl ?_
       refine o_no rfl rfl rfl rfl ?_
       refine o_no rfl rfl rfl rfl ?_
       refine o_no rfl rfl rfl rfl ?_
       refine o_no rfl rfl rfl rfl ?_
       refine o_no rfl rfl rfl rfl ?_
       refine o_pick_false rfl rfl rfl ?_
       refine o_assign rfl rfl ?_
       refine l_nil ?_
       refine q_then ?_
       refine c_seq ?_
       refine c_seq ?_
       refine c_region ?_
       refine o_move rfl rfl ?_
       refine o_not rfl rfl ?_
       refine o_move rfl rfl ?_
       refine o_no rfl rfl rfl rfl ?_
       refine o_no rfl rfl rfl rfl ?_
       refine o_no rfl rfl rfl rfl ?_
       refine o_no rfl rfl rfl rfl ?_
       refine o_pick_true rfl rfl rfl ?_
       refine l_nil ?_
       refine q_then ?_
       refine c_true rfl ?_
       refine c_seq ?_
       refine c_region ?_
       refine o_assign rfl rfl ?_
       refine l_nil ?_
       refine q_then ?_
       refine c_ret ?_
       refine q_pass_ret ?_
       refine q_conv (fun w S => S.tail) ?_
       exact f_ret (r_one rfl rfl) (⟨by (first | rw [show msgN m = 1 from if_neg (by unfold MsgOk; grind)] | rw [show msgN m = 0 from if_pos (by unfold MsgOk; grind)]), rfl⟩) (fun w S => S)
     · -- h5F
      have h5b := h5
      try simp only [decide_eq_true_eq, decide_eq_false_iff_not, Bool.not_eq_eq_eq_not, Bool.not_true, Bool.not_false, Bool.not_eq_true', Bool.not_eq_false', Int.not_lt, Int.not_le, Bool.or_eq_true, Bool.and_eq_true] at h5
      refine o_no rfl rfl rfl rfl ?_
      refine o_no rfl rfl rfl rfl ?_
      refine o_no rfl rfl rfl rfl ?_
      refine o_no rfl rfl rfl rfl ?_
      refine o_pick_false rfl rfl rfl ?_
      refine o_assign rfl rfl ?_
      refine l_nil ?_
      refine q_then ?_
      refine c_seq ?_
      refine c_region ?_
      refine o_move rfl rfl ?_
      refine o_move rfl rfl ?_
      refine o_no rfl rfl rfl rfl ?_
      refine o_no rfl rfl rfl rfl ?_
      refine o_no rfl rfl rfl rfl ?_
      refine o_no rfl rfl rfl rfl ?_
      refine o_pick_false rfl rfl rfl ?_
      refine o_move rfl rfl ?_
      refine o_no rfl rfl rfl rfl ?_
      refine o_no rfl rfl rfl rfl ?_
      refine o_no rfl rfl rfl rfl ?_
      refine o_no rfl rfl rfl rfl ?_
      refine o_no rfl rfl rfl rfl ?_
      refine o_no rfl rfl rfl rfl ?_
      refine o_no rfl rfl rfl rfl ?_
      refine o_no rfl rfl rfl rfl ?_
      refine o_pick_false rfl rfl rfl ?_
      refine o_move rfl rfl ?_
      refine o_no rfl rfl rfl rfl ?_
      refine o_no rfl rfl rfl rfl ?_
      refine o_no rfl rfl rfl rfl ?_
      refine o_no rfl rfl rfl rfl ?_
      refine o_no rfl rfl rfl rfl ?_
      refine o_no rfl rfl rfl rfl ?_
      refine o_no rfl rfl rfl rfl ?_
      refine o_no rfl rfl rfl rfl ?_
      refine o_no rfl rfl rfl rfl ?_
      refine o_pick_false rfl rfl rfl ?_
      refine o_assign rfl rfl ?_
      refine l_nil ?_
      refine q_then ?_
      refine c_seq ?_
      refine c_seq ?_
      refine c_region ?_
      refine o_move rfl rfl ?_
      refine o_not rfl rfl ?_
      refine o_move rfl rfl ?_
      refine o_no rfl rfl rfl rfl ?_
      refine o_no rfl rfl rfl rfl ?_
      refine o_no rfl rfl rfl rfl ?_
      refine o_no rfl rfl rfl rfl ?_
      refine o_pick_true rfl rfl rfl ?_
      refine l_nil ?_
      refine q_then ?_
      refine c_true rfl ?_
      refine c_seq ?_
      refine c_region ?_
      refine o_assign rfl rfl ?_
      refine l_nil ?_
      refine q_then ?_
      refine c_ret ?_
      refine q_pass_ret ?_
      refine q_conv (fun w S => S.tail) ?_
      exact f_ret (r_one rfl rfl) (⟨by (first | rw [show msgN m = 1 from if_neg (by unfold MsgOk; grind)] | rw [show msgN m = 0 from if_pos (by unfold MsgOk; grind)]), rfl⟩) (fun w S => S)
    · -- h4F
     have h4b := h4
     try simp only [decide_eq_true_eq, decide_eq_false_iff_not, Bool.not_eq_eq_eq_not, Bool.not_true, Bool.not_false, Bool.not_eq_true', Bool.not_eq_false', Int.not_lt, Int.not_le, Bool.or_eq_true, Bool.and_eq_true] at h4
     refine o_no rfl rfl rfl rfl ?_
     refine o_no rfl rfl rfl rfl ?_
     refine o_no rfl rfl rfl rfl ?_
     refine o_no rfl rfl rfl rfl ?_
     refine o_pick_false rfl rfl rfl ?_
     refine o_move rfl rfl ?_
     refine o_no rfl rfl rfl rfl ?_
     refine o_no rfl rfl rfl rfl ?_
     refine o_no rfl rfl rfl rfl ?_
     refine o_no rfl rfl rfl rfl ?_
     refine o_pick_false rfl rfl rfl ?_
     refine o_assign rfl rfl ?_
     refine l_nil ?_
     refine q_then ?_
     refine c_seq ?_
     refine c_region ?_
     refine o_move rfl rfl ?_
     refine o_move rfl rfl ?_
     refine o_no rfl rfl rfl rfl ?_
     refine o_no rfl rfl rfl rfl ?_
     refine o_no rfl rfl rfl rfl ?_
     refine o_no rfl rfl rfl rfl ?_
     refine o_pick_false rfl rfl rfl ?_
     refine o_move rfl rfl ?_
     refine o_no rfl rfl rfl rfl ?_
     refine o_no rfl rfl rfl rfl ?_
     refine o_no rfl rfl rfl rfl ?_
     refine o_no rfl rfl rfl rfl ?_
     refine o_no rfl rfl rfl rfl ?_
     refine o_no rfl rfl rfl rfl ?_
     refine o_no rfl rfl rfl rfl ?_
     refine o_no rfl rfl rfl rfl ?_
     refine o_pick_false rfl rfl rfl ?_
     refine o_move rfl rfl ?_
     refine o_no rfl rfl rfl rfl ?_
     refine o_no rfl rfl rfl rfl ?_
     refine o_no rfl rfl rfl rfl ?_
     refine o_no rfl rfl rfl rfl ?_
     refine o_no rfl rfl rfl rfl ?_
     refine o_no rfl rfl rfl rfl ?_
     refine o_no rfl rfl rfl rfl ?_
     refine o_no rfl rfl rfl rfl ?_
     refine o_no rfl rfl rfl rfl ?_
     refine o_pick_false rfl rfl rfl ?_
     refine o_assign rfl rfl ?_
     refine l_nil ?_
     refine q_then ?_
     refine c_seq ?_
     refine c_seq ?_
     refine c_region ?_
     refine o_move rfl rfl ?_
     refine o_not rfl rfl ?_
     refine o_move rfl rfl ?_
     refine o_no rfl rfl rfl rfl ?_
     refine o_no rfl rfl rfl rfl ?_
     refine o_no rfl rfl rfl rfl ?_
     refine o_no rfl rfl rfl rfl ?_
     refine o_pick_true rfl rfl rfl ?_
     refine l_nil ?_
     refine q_then ?_
     refine c_true rfl ?_
     refine c_seq ?_
     refine c_region ?_
     refine o_assign rfl rfl ?_
     refine l_nil ?_
     refine q_then ?_
     refine c_ret ?_
     refine q_pass_ret ?_
     refine q_conv (fun w S => S.tail) ?_
     exact f_ret (r_one rfl rfl) (⟨by (first | rw [show msgN m = 1 from if_neg (by unfold MsgOk; grind)] | rw [show msgN m = 0 from if_pos (by unfold MsgOk; grind)]), rfl⟩) (fun w S => S)
   · -- h3F
    have h3b := h3
    try simp only [decide_eq_true_eq, decide_eq_false_iff_not, Bool.not_eq_eq_eq_not, Bool.not_true, Bool.not_false, Bool.not_eq_true', Bool.not_eq_false', Int.not_lt, Int.not_le, Bool.or_eq_true, Bool.and_eq_true] at h3
    refine o_no rfl rfl rfl rfl ?_
    refine o_no rfl rfl rfl rfl ?_
    refine o_no rfl rfl rfl rfl ?_
    refine o_no rfl rfl rfl rfl ?_
    refine o_pick_false rfl rfl rfl ?_
    refine o_move rfl rfl ?_
    refine o_no rfl rfl rfl rfl ?_
    refine o_no rfl rfl rfl rfl ?_
    refine o_no rfl rfl rfl rfl ?_
    refine o_no rfl rfl rfl rfl ?_
    refine o_pick_false rfl rfl rfl ?_
    refine o_move rfl rfl ?_
    refine o_no rfl rfl rfl rfl ?_
    refine o_no rfl rfl rfl rfl ?_
    refine o_no rfl rfl rfl rfl ?_
    refine o_no rfl rfl rfl rfl ?_
    refine o_pick_false rfl rfl rfl ?_
    refine o_assign rfl rfl ?_
    refine l_nil ?_
    refine q_then ?_
    refine c_seq ?_
    refine c_region ?_
    refine o_move rfl rfl ?_
    refine o_move rfl rfl ?_
    refine o_no rfl rfl rfl rfl ?_
    refine o_no rfl rfl rfl rfl ?_
    refine o_no rfl rfl rfl rfl ?_
    refine o_no rfl rfl rfl rfl ?_
    refine o_pick_false rfl rfl rfl ?_
    refine o_move rfl rfl ?_
    refine o_no rfl rfl rfl rfl ?_
    refine o_no rfl rfl rfl rfl ?_
    refine o_no rfl rfl rfl rfl ?_
    refine o_no rfl rfl rfl rfl ?_
    refine o_no rfl rfl rfl rfl ?_
    refine o_no rfl rfl rfl rfl ?_
    refine o_no rfl rfl rfl rfl ?_
    refine o_no rfl rfl rfl rfl ?_
    refine o_pick_false rfl rfl rfl ?_
    refine o_move rfl rfl ?_
    refine o_no rfl rfl rfl rfl ?_
    refine o_no rfl rfl rfl rfl ?_
    refine o_no rfl rfl rfl rfl ?_
    refine o_no rfl rfl rfl rfl ?_
    refine o_no rfl rfl rfl rfl ?_
    refine o_no rfl rfl rfl rfl ?_
    refine o_no rfl rfl rfl rfl ?_
    refine o_no rfl rfl rfl rfl ?_
    refine o_no rfl rfl rfl rfl ?_
    refine o_pick_false rfl rfl rfl ?_
    refine o_assign rfl rfl ?_
    refine l_nil ?_
    refine q_then ?_
    refine c_seq ?_
    refine c_seq ?_
    refine c_region ?_
    refine o_move rfl rfl ?_
    refine o_not rfl rfl ?_
    refine o_move rfl rfl ?_
    refine o_no rfl rfl rfl rfl ?_
    refine o_no rfl rfl rfl rfl ?_
    refine o_no rfl rfl rfl rfl ?_
    refine o_no rfl rfl rfl rfl ?_
    refine o_pick_true rfl rfl rfl ?_
    refine l_nil ?_
    refine q_then ?_
    refine c_true rfl ?_
    refine c_seq ?_
    refine c_region ?_
    refine o_assign rfl rfl ?_
    refine l_nil ?_
    refine q_then ?_
    refine c_ret ?_
    refine q_pass_ret ?_
    refine q_conv (fun w S => S.tail) ?_
    exact f_ret (r_one rfl rfl) (⟨by (first | rw [show msgN m = 1 from if_neg (by unfold MsgOk; grind)] | rw [show msgN m = 0 from if_pos (by unfold MsgOk; grind)]), rfl⟩) (fun w S => S)
  · -- h2F
   have h2b := h2
   try simp only [decide_eq_false_iff_not, Int.not_lt, Int.not_le] at h2
   refine o_no rfl rfl rfl rfl ?_
   refine o_no rfl rfl rfl rfl ?_
   refine o_no rfl rfl rfl rfl ?_
   refine o_no rfl rfl rfl rfl ?_
   refine o_pick_false rfl rfl rfl ?_
   refine o_move rfl rfl ?_
   refine o_no rfl rfl rfl rfl ?_
   refine o_no rfl rfl rfl rfl ?_
   refine o_no rfl rfl rfl rfl ?_
   refine o_no rfl rfl rfl rfl ?_
   refine o_pick_false rfl rfl rfl ?_
   refine o_move rfl rfl ?_
   refine o_no rfl rfl rfl rfl ?_
   refine o_no rfl rfl rfl rfl ?_
   refine o_no rfl rfl rfl rfl ?_
   refine o_no rfl rfl rfl rfl ?_
   refine o_pick_false rfl rfl rfl ?_
   refine o_move rfl rfl ?_
   refine o_no rfl rfl rfl rfl ?_
   refine o_no rfl rfl rfl rfl ?_
   refine o_no rfl rfl rfl rfl ?_
   refine o_no rfl rfl rfl rfl ?_
   refine o_pick_false rfl rfl rfl ?_
   refine o_assign rfl rfl ?_
   refine l_nil ?_
   refine q_then ?_
   refine c_seq ?_
   refine c_region ?_
   refine o_move rfl rfl ?_
   refine o_move rfl rfl ?_
   refine o_no rfl rfl rfl rfl ?_
   refine o_no rfl rfl rfl rfl ?_
   refine o_no rfl rfl rfl rfl ?_
   refine o_no rfl rfl rfl rfl ?_
   refine o_pick_false rfl rfl rfl ?_
   refine o_move rfl rfl ?_
   refine o_no rfl rfl rfl rfl ?_
   refine o_no rfl rfl rfl rfl ?_
   refine o_no rfl rfl rfl rfl ?_
   refine o_no rfl rfl rfl rfl ?_
   refine o_no rfl rfl rfl rfl ?_
   refine o_no rfl rfl rfl rfl ?_
   refine o_no rfl rfl rfl rfl ?_
   refine o_no rfl rfl rfl rfl ?_
   refine o_pick_false rfl rfl rfl ?_
   refine o_move rfl rfl ?_
   refine o_no rfl rfl rfl rfl ?_
   refine o_no rfl rfl rfl rfl ?_
   refine o_no rfl rfl rfl rfl ?_
   refine o_no rfl rfl rfl rfl ?_
   refine o_no rfl rfl rfl rfl ?_
   refine o_no rfl rfl rfl rfl ?_
   refine o_no rfl rfl rfl rfl ?_
   refine o_no rfl rfl rfl rfl ?_
   refine o_no rfl rfl rfl rfl ?_
   refine o_pick_false rfl rfl rfl ?_
   refine o_assign rfl rfl ?_
   refine l_nil ?_
   refine q_then ?_
   refine c_seq ?_
   refine c_seq ?_
   refine c_region ?_
   refine o_move rfl rfl ?_
   refine o_not rfl rfl ?_
   refine o_move rfl rfl ?_
   refine o_no rfl rfl rfl rfl ?_
   refine o_no rfl rfl rfl rfl ?_
   refine o_no rfl rfl rfl rfl ?_
   refine o_no rfl rfl rfl rfl ?_
   refine o_pick_true rfl rfl rfl ?_
   refine l_nil ?_
   refine q_then ?_
   refine c_true rfl ?_
   refine c_seq ?_
   refine c_region ?_
   refine o_assign rfl rfl ?_
   refine l_nil ?_
   refine q_then ?_
   refine c_ret ?_
   refine q_pass_ret ?_
   refine q_conv (fun w S => S.tail) ?_
   exact f_ret (r_one rfl rfl) (⟨by (first | rw [show msgN m = 1 from if_neg (by unfold MsgOk; grind)] | rw [show msgN m = 0 from if_pos (by unfold MsgOk; grind)]), rfl⟩) (fun w S => S)
 · -- h1F
  have h1b := h1
  try simp only [decide_eq_false_iff_not, Int.not_lt, Int.not_le] at h1
  refine o_no rfl rfl rfl rfl ?_
  refine o_no rfl rfl rfl rfl ?_
  refine o_no rfl rfl rfl rfl ?_
  refine o_pick_false rfl rfl rfl ?_
  refine o_move rfl rfl ?_
  refine o_no rfl rfl rfl rfl ?_
  refine o_no rfl rfl rfl rfl ?_
  refine o_no rfl rfl rfl rfl ?_
  refine o_no rfl rfl rfl rfl ?_
  refine o_pick_false rfl rfl rfl ?_
  refine o_move rfl rfl ?_
  refine o_no rfl rfl rfl rfl ?_
  refine o_no rfl rfl rfl rfl ?_
  refine o_no rfl rfl rfl rfl ?_
  refine o_no rfl rfl rfl rfl ?_
  refine o_pick_false rfl rfl rfl ?_
  refine o_move rfl rfl ?_
  refine o_no rfl rfl rfl rfl ?_
  refine o_no rfl rfl rfl rfl ?_
  refine o_no rfl rfl rfl rfl ?_
  refine o_no rfl rfl rfl rfl ?_
  refine o_pick_false rfl rfl rfl ?_
  refine o_move rfl rfl ?_
  refine o_no rfl rfl rfl rfl ?_
  refine o_no rfl rfl rfl rfl ?_
  refine o_no rfl rfl rfl rfl ?_
  refine o_no rfl rfl rfl rfl ?_
  refine o_pick_false rfl rfl rfl ?_
  refine o_assign rfl rfl ?_
  refine l_nil ?_
  refine q_then ?_
  refine c_seq ?_
  refine c_region ?_
  refine o_move rfl rfl ?_
  refine o_move rfl rfl ?_
  refine o_no rfl rfl rfl rfl ?_
  refine o_no rfl rfl rfl rfl ?_
  refine o_no rfl rfl rfl rfl ?_
  refine o_no rfl rfl rfl rfl ?_
  refine o_pick_false rfl rfl rfl ?_
  refine o_move rfl rfl ?_
  refine o_no rfl rfl rfl rfl ?_
  refine o_no rfl rfl rfl rfl ?_
  refine o_no rfl rfl rfl rfl ?_
  refine o_no rfl rfl rfl rfl ?_
  refine o_no rfl rfl rfl rfl ?_
  refine o_no rfl rfl rfl rfl ?_
  refine o_no rfl rfl rfl rfl ?_
  refine o_no rfl rfl rfl rfl ?_
  refine o_pick_false rfl rfl rfl ?_
  refine o_move rfl rfl ?_
  refine o_no rfl rfl rfl rfl ?_
  refine o_no rfl rfl rfl rfl ?_
  refine o_no rfl rfl rfl rfl ?_
  refine o_no rfl rfl rfl rfl ?_
  refine o_no rfl rfl rfl rfl ?_
  refine o_no rfl rfl rfl rfl ?_
  refine o_no rfl rfl rfl rfl ?_
  refine o_no rfl rfl rfl rfl ?_
  refine o_no rfl rfl rfl rfl ?_
  refine o_pick_false rfl rfl rfl ?_
  refine o_assign rfl rfl ?_
  refine l_nil ?_
  refine q_then ?_
  refine c_seq ?_
  refine c_seq ?_
  refine c_region ?_
  refine o_move rfl rfl ?_
  refine o_not rfl rfl ?_
  refine o_move rfl rfl ?_
  refine o_no rfl rfl rfl rfl ?_
  refine o_no rfl rfl rfl rfl ?_
  refine o_no rfl rfl rfl rfl ?_
  refine o_no rfl rfl rfl rfl ?_
  refine o_pick_true rfl rfl rfl ?_
  refine l_nil ?_
  refine q_then ?_
  refine c_true rfl ?_
  refine c_seq ?_
  refine c_region ?_
  refine o_assign rfl rfl ?_
  refine l_nil ?_
  refine q_then ?_
  refine c_ret ?_
  refine q_pass_ret ?_
  refine q_conv (fun w S => S.tail) ?_
  exact f_ret (r_one rfl rfl) (⟨by (first | rw [show msgN m = 1 from if_neg (by unfold MsgOk; grind)] | rw [show msgN m = 0 from if_pos (by unfold MsgOk; grind)]), rfl⟩) (fun w S => S)

end Go.Proofs.Ytoigakfglgdjdaa
