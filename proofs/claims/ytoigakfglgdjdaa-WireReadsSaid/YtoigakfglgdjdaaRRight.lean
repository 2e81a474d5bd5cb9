/- Printed by eng2.py out of 18/spec.py. -/
import Derived.Test.YtoigakfglgdjdaaRRight0
set_option linter.unusedVariables false
set_option linter.unusedSimpArgs false
set_option maxRecDepth 10000
namespace Go.Proofs.Ytoigakfglgdjdaa
open Go.RowKit Classical
set_option maxHeartbeats 4000000 in
theorem right_ {W : World} {F : List Res} {p : RMsg} (R_p : RdS W F e_RVote p.f_Votes.a p.f_Votes.xs) (rn_p : p.f_Votes.xs.length ≤ 9223372036854775807) : CS Try.prog 21 #[.agg #[.int .i64 p.f_Kind, .int .i64 p.f_From, .int .i64 p.f_To, .int .i64 p.f_Group, .int .i64 p.f_Slot, .int .u64 p.f_Ballot, .string p.f_Value, .slice p.f_Votes.a (p.f_Votes.xs).length p.f_Votes.c]] W (F) (fun r L' => r = .bool (decide (RightM p)) ∧ F = L') := by
 refine f_door (l0 := [(0, .agg #[.int .i64 p.f_Kind, .int .i64 p.f_From, .int .i64 p.f_To, .int .i64 p.f_Group, .int .i64 p.f_Slot, .int .u64 p.f_Ballot, .string p.f_Value, .slice p.f_Votes.a (p.f_Votes.xs).length p.f_Votes.c])]) Try.func21 Try.ntmps21 rfl rfl rfl ?_
 refine c_seq ?_
 refine c_region ?_
 refine o_box rfl rfl fun b1 => ?_
 refine o_assign rfl rfl ?_
 refine l_nil ?_
 refine q_then ?_
 refine c_seq ?_
 refine c_seq ?_
 refine c_region ?_
 refine o_fieldAddr (q := ⟨b1, 0, none⟩) rfl rfl Try.underlying35 rfl ti3 rfl ?_
 refine o_load1 rfl rfl Try.underlying3 rfl (rd_mem 0 rfl rfl) ?_
 refine o_bin rfl rfl rfl b_lss ?_
 refine o_move rfl rfl ?_
 refine l_split (t := 7) rfl (fun h1 => ?_) (fun h1 => ?_)
 · -- h1T
  have h1b := h1
  try simp only [decide_eq_true_eq] at h1
  refine o_no rfl rfl rfl rfl ?_
  refine o_no rfl rfl rfl rfl ?_
  refine o_no rfl rfl rfl rfl ?_
  refine o_pick_true rfl rfl rfl ?_
  refine o_move rfl rfl ?_
  refine o_no rfl rfl rfl rfl ?_
  refine o_no rfl rfl rfl rfl ?_
  refine o_no rfl rfl rfl rfl ?_
  refine o_no rfl rfl rfl rfl ?_
  refine o_pick_true rfl rfl rfl ?_
  refine o_move rfl rfl ?_
  refine o_no rfl rfl rfl rfl ?_
  refine o_no rfl rfl rfl rfl ?_
  refine o_no rfl rfl rfl rfl ?_
  refine o_no rfl rfl rfl rfl ?_
  refine o_pick_true rfl rfl rfl ?_
  refine o_move rfl rfl ?_
  refine o_no rfl rfl rfl rfl ?_
  refine o_no rfl rfl rfl rfl ?_
  refine o_no rfl rfl rfl rfl ?_
  refine o_no rfl rfl rfl rfl ?_
  refine o_pick_true rfl rfl rfl ?_
  refine o_move rfl rfl ?_
  refine o_no rfl rfl rfl rfl ?_
  refine o_no rfl rfl rfl rfl ?_
  refine o_no rfl rfl rfl rfl ?_
  refine o_no rfl rfl rfl rfl ?_
  refine o_pick_true rfl rfl rfl ?_
  refine o_move rfl rfl ?_
  refine o_no rfl rfl rfl rfl ?_
  refine o_no rfl rfl rfl rfl ?_
  refine o_no rfl rfl rfl rfl ?_
  refine o_no rfl rfl rfl rfl ?_
  refine o_pick_true rfl rfl rfl ?_
  refine l_nil ?_
  refine q_then ?_
  refine c_true rfl ?_
  refine c_seq ?_
  refine c_region ?_
  refine o_assign rfl rfl ?_
  refine l_nil ?_
  refine q_then ?_
  refine c_ret ?_
  refine q_pass_ret ?_
  refine q_conv (fun w S => S.tail) ?_
  exact f_ret (r_one rfl rfl) (⟨by first | exact vfalse (by unfold RightM; grind) | exact vtrue (by unfold RightM; grind), rfl⟩) (fun w S => S)
 · -- h1F
  have h1b := h1
  try simp only [decide_eq_false_iff_not, Int.not_lt, Int.not_le] at h1
  refine o_yes rfl rfl rfl ?_
  refine o_fieldAddr (q := ⟨b1, 0, none⟩) rfl rfl Try.underlying35 rfl ti3 rfl ?_
  refine o_yes rfl rfl rfl ?_
  refine o_load1 rfl rfl Try.underlying3 rfl (rd_mem 0 rfl rfl) ?_
  refine o_yes rfl rfl rfl ?_
  refine o_bin rfl rfl rfl b_gtr ?_
  refine o_pick_false rfl rfl rfl ?_
  refine o_move rfl rfl ?_
  refine l_split (t := 12) rfl (fun h2 => ?_) (fun h2 => ?_)
  · -- h2T
   have h2b := h2
   try simp only [decide_eq_true_eq] at h2
   refine o_no rfl rfl rfl rfl ?_
   refine o_no rfl rfl rfl rfl ?_
   refine o_no rfl rfl rfl rfl ?_
   refine o_no rfl rfl rfl rfl ?_
   refine o_pick_true rfl rfl rfl ?_
   refine o_move rfl rfl ?_
   refine o_no rfl rfl rfl rfl ?_
   refine o_no rfl rfl rfl rfl ?_
   refine o_no rfl rfl rfl rfl ?_
   refine o_no rfl rfl rfl rfl ?_
   refine o_pick_true rfl rfl rfl ?_
   refine o_move rfl rfl ?_
   refine o_no rfl rfl rfl rfl ?_
   refine o_no rfl rfl rfl rfl ?_
   refine o_no rfl rfl rfl rfl ?_
   refine o_no rfl rfl rfl rfl ?_
   refine o_pick_true rfl rfl rfl ?_
   refine o_move rfl rfl ?_
   refine o_no rfl rfl rfl rfl ?_
   refine o_no rfl rfl rfl rfl ?_
   refine o_no rfl rfl rfl rfl ?_
   refine o_no rfl rfl rfl rfl ?_
   refine o_pick_true rfl rfl rfl ?_
   refine o_move rfl rfl ?_
   refine o_no rfl rfl rfl rfl ?_
   refine o_no rfl rfl rfl rfl ?_
   refine o_no rfl rfl rfl rfl ?_
   refine o_no rfl rfl rfl rfl ?_
   refine o_pick_true rfl rfl rfl ?_
   refine l_nil ?_
   refine q_then ?_
   refine c_true rfl ?_
   refine c_seq ?_
   refine c_region ?_
   refine o_assign rfl rfl ?_
   refine l_nil ?_
   refine q_then ?_
   refine c_ret ?_
   refine q_pass_ret ?_
   refine q_conv (fun w S => S.tail) ?_
   exact f_ret (r_one rfl rfl) (⟨by first | exact vfalse (by unfold RightM; grind) | exact vtrue (by unfold RightM; grind), rfl⟩) (fun w S => S)
  · -- h2F
   have h2b := h2
   try simp only [decide_eq_false_iff_not, Int.not_lt, Int.not_le] at h2
   refine o_yes rfl rfl rfl ?_
   refine o_fieldAddr (q := ⟨b1, 1, none⟩) rfl rfl Try.underlying35 rfl ti3 rfl ?_
   refine o_yes rfl rfl rfl ?_
   refine o_load1 rfl rfl Try.underlying3 rfl (rd_mem 0 rfl rfl) ?_
   refine o_yes rfl rfl rfl ?_
   refine o_call rfl cal38 rfl (rwithin_ (n := p.f_From) (k := 8)) ?_
   rintro _ _ ⟨rfl, rfl⟩
   refine o_yes rfl rfl rfl ?_
   refine o_not rfl rfl ?_
   refine o_pick_false rfl rfl rfl ?_
   refine o_move rfl rfl ?_
   refine l_split (t := 18) rfl (fun h3 => ?_) (fun h3 => ?_)
   · -- h3T
    have h3b := h3
    try simp only [decide_eq_true_eq, decide_eq_false_iff_not, Bool.not_eq_eq_eq_not, Bool.not_true, Bool.not_false, Bool.not_eq_true', Bool.not_eq_false', Int.not_lt, Int.not_le, Bool.or_eq_true, Bool.and_eq_true] at h3
    refine o_no rfl rfl rfl rfl ?_
    refine o_no rfl rfl rfl rfl ?_
    refine o_no rfl rfl rfl rfl ?_
    refine o_no rfl rfl rfl rfl ?_
    refine o_pick_true rfl rfl rfl ?_
    refine o_move rfl rfl ?_
    refine o_no rfl rfl rfl rfl ?_
    refine o_no rfl rfl rfl rfl ?_
    refine o_no rfl rfl rfl rfl ?_
    refine o_no rfl rfl rfl rfl ?_
    refine o_pick_true rfl rfl rfl ?_
    refine o_move rfl rfl ?_
    refine o_no rfl rfl rfl rfl ?_
    refine o_no rfl rfl rfl rfl ?_
    refine o_no rfl rfl rfl rfl ?_
    refine o_no rfl rfl rfl rfl ?_
    refine o_pick_true rfl rfl rfl ?_
    refine o_move rfl rfl ?_
    refine o_no rfl rfl rfl rfl ?_
    refine o_no rfl rfl rfl rfl ?_
    refine o_no rfl rfl rfl rfl ?_
    refine o_no rfl rfl rfl rfl ?_
    refine o_pick_true rfl rfl rfl ?_
    refine l_nil ?_
    refine q_then ?_
    refine c_true rfl ?_
    refine c_seq ?_
    refine c_region ?_
    refine o_assign rfl rfl ?_
    refine l_nil ?_
    refine q_then ?_
    refine c_ret ?_
    refine q_pass_ret ?_
    refine q_conv (fun w S => S.tail) ?_
    exact f_ret (r_one rfl rfl) (⟨by first | exact vfalse (by unfold RightM; grind) | exact vtrue (by unfold RightM; grind), rfl⟩) (fun w S => S)
   · -- h3F
    have h3b := h3
    try simp only [decide_eq_true_eq, decide_eq_false_iff_not, Bool.not_eq_eq_eq_not, Bool.not_true, Bool.not_false, Bool.not_eq_true', Bool.not_eq_false', Int.not_lt, Int.not_le, Bool.or_eq_true, Bool.and_eq_true] at h3
    refine o_yes rfl rfl rfl ?_
    refine o_fieldAddr (q := ⟨b1, 2, none⟩) rfl rfl Try.underlying35 rfl ti3 rfl ?_
    refine o_yes rfl rfl rfl ?_
    refine o_load1 rfl rfl Try.underlying3 rfl (rd_mem 0 rfl rfl) ?_
    refine o_yes rfl rfl rfl ?_
    refine o_call rfl cal38 rfl (rwithin_ (n := p.f_To) (k := 8)) ?_
    rintro _ _ ⟨rfl, rfl⟩
    refine o_yes rfl rfl rfl ?_
    refine o_not rfl rfl ?_
    refine o_pick_false rfl rfl rfl ?_
    refine o_move rfl rfl ?_
    refine l_split (t := 24) rfl (fun h4 => ?_) (fun h4 => ?_)
    · -- h4T
     have h4b := h4
     try simp only [decide_eq_true_eq, decide_eq_false_iff_not, Bool.not_eq_eq_eq_not, Bool.not_true, Bool.not_false, Bool.not_eq_true', Bool.not_eq_false', Int.not_lt, Int.not_le, Bool.or_eq_true, Bool.and_eq_true] at h4
     refine o_no rfl rfl rfl rfl ?_
     refine o_no rfl rfl rfl rfl ?_
     refine o_no rfl rfl rfl rfl ?_
     refine o_no rfl rfl rfl rfl ?_
     refine o_pick_true rfl rfl rfl ?_
     refine o_move rfl rfl ?_
     refine o_no rfl rfl rfl rfl ?_
     refine o_no rfl rfl rfl rfl ?_
     refine o_no rfl rfl rfl rfl ?_
     refine o_no rfl rfl rfl rfl ?_
     refine o_pick_true rfl rfl rfl ?_
     refine o_move rfl rfl ?_
     refine o_no rfl rfl rfl rfl ?_
     refine o_no rfl rfl rfl rfl ?_
     refine o_no rfl rfl rfl rfl ?_
     refine o_no rfl rfl rfl rfl ?_
     refine o_pick_true rfl rfl rfl ?_
     refine l_nil ?_
     refine q_then ?_
     refine c_true rfl ?_
     refine c_seq ?_
     refine c_region ?_
     refine o_assign rfl rfl ?_
     refine l_nil ?_
     refine q_then ?_
     refine c_ret ?_
     refine q_pass_ret ?_
     refine q_conv (fun w S => S.tail) ?_
     exact f_ret (r_one rfl rfl) (⟨by first | exact vfalse (by unfold RightM; grind) | exact vtrue (by unfold RightM; grind), rfl⟩) (fun w S => S)
    · -- h4F
     have h4b := h4
     try simp only [decide_eq_true_eq, decide_eq_false_iff_not, Bool.not_eq_eq_eq_not, Bool.not_true, Bool.not_false, Bool.not_eq_true', Bool.not_eq_false', Int.not_lt, Int.not_le, Bool.or_eq_true, Bool.and_eq_true] at h4
     refine o_yes rfl rfl rfl ?_
     refine o_fieldAddr (q := ⟨b1, 3, none⟩) rfl rfl Try.underlying35 rfl ti3 rfl ?_
     refine o_yes rfl rfl rfl ?_
     refine o_load1 rfl rfl Try.underlying3 rfl (rd_mem 0 rfl rfl) ?_
     refine o_yes rfl rfl rfl ?_
     refine o_call rfl cal38 rfl (rwithin_ (n := p.f_Group) (k := 3)) ?_
     rintro _ _ ⟨rfl, rfl⟩
     refine o_yes rfl rfl rfl ?_
     refine o_not rfl rfl ?_
     refine o_pick_false rfl rfl rfl ?_
     refine o_move rfl rfl ?_
     refine l_split (t := 30) rfl (fun h5 => ?_) (fun h5 => ?_)
     · -- h5T
      have h5b := h5
      try simp only [decide_eq_true_eq, decide_eq_false_iff_not, Bool.not_eq_eq_eq_not, Bool.not_true, Bool.not_false, Bool.not_eq_true', Bool.not_eq_false', Int.not_lt, Int.not_le, Bool.or_eq_true, Bool.and_eq_true] at h5
      refine o_no rfl rfl rfl rfl ?_
      refine o_no rfl rfl rfl rfl ?_
      refine o_no rfl rfl rfl rfl ?_
      refine o_no rfl rfl rfl rfl ?_
      refine o_pick_true rfl rfl rfl ?_
      refine o_move rfl rfl ?_
      refine o_no rfl rfl rfl rfl ?_
      refine o_no rfl rfl rfl rfl ?_
      refine o_no rfl rfl rfl rfl ?_
      refine o_no rfl rfl rfl rfl ?_
      refine o_pick_true rfl rfl rfl ?_
      refine l_nil ?_
      refine q_then ?_
      refine c_true rfl ?_
      refine c_seq ?_
      refine c_region ?_
      refine o_assign rfl rfl ?_
      refine l_nil ?_
      refine q_then ?_
      refine c_ret ?_
      refine q_pass_ret ?_
      refine q_conv (fun w S => S.tail) ?_
      exact f_ret (r_one rfl rfl) (⟨by first | exact vfalse (by unfold RightM; grind) | exact vtrue (by unfold RightM; grind), rfl⟩) (fun w S => S)
     · -- h5F
      have h5b := h5
      try simp only [decide_eq_true_eq, decide_eq_false_iff_not, Bool.not_eq_eq_eq_not, Bool.not_true, Bool.not_false, Bool.not_eq_true', Bool.not_eq_false', Int.not_lt, Int.not_le, Bool.or_eq_true, Bool.and_eq_true] at h5
      refine o_yes rfl rfl rfl ?_
      refine o_fieldAddr (q := ⟨b1, 4, none⟩) rfl rfl Try.underlying35 rfl ti3 rfl ?_
      refine o_yes rfl rfl rfl ?_
      refine o_load1 rfl rfl Try.underlying3 rfl (rd_mem 0 rfl rfl) ?_
      refine o_yes rfl rfl rfl ?_
      refine o_call rfl cal38 rfl (rwithin_ (n := p.f_Slot) (k := 64)) ?_
      rintro _ _ ⟨rfl, rfl⟩
      refine o_yes rfl rfl rfl ?_
      refine o_not rfl rfl ?_
      refine o_pick_false rfl rfl rfl ?_
      refine o_move rfl rfl ?_
      refine l_split (t := 36) rfl (fun h6 => ?_) (fun h6 => ?_)
      · -- h6T
       have h6b := h6
       try simp only [decide_eq_true_eq, decide_eq_false_iff_not, Bool.not_eq_eq_eq_not, Bool.not_true, Bool.not_false, Bool.not_eq_true', Bool.not_eq_false', Int.not_lt, Int.not_le, Bool.or_eq_true, Bool.and_eq_true] at h6
       refine o_no rfl rfl rfl rfl ?_
       refine o_no rfl rfl rfl rfl ?_
       refine o_no rfl rfl rfl rfl ?_
       refine o_no rfl rfl rfl rfl ?_
       refine o_pick_true rfl rfl rfl ?_
       refine l_nil ?_
       refine q_then ?_
       refine c_true rfl ?_
       refine c_seq ?_
       refine c_region ?_
       refine o_assign rfl rfl ?_
       refine l_nil ?_
       refine q_then ?_
       refine c_ret ?_
       refine q_pass_ret ?_
       refine q_conv (fun w S => S.tail) ?_
       exact f_ret (r_one rfl rfl) (⟨by first | exact vfalse (by unfold RightM; grind) | exact vtrue (by unfold RightM; grind), rfl⟩) (fun w S => S)
      · -- h6F
       have h6b := h6
       try simp only [decide_eq_true_eq, decide_eq_false_iff_not, Bool.not_eq_eq_eq_not, Bool.not_true, Bool.not_false, Bool.not_eq_true', Bool.not_eq_false', Int.not_lt, Int.not_le, Bool.or_eq_true, Bool.and_eq_true] at h6
       refine o_yes rfl rfl rfl ?_
       refine o_fieldAddr (q := ⟨b1, 6, none⟩) rfl rfl Try.underlying35 rfl ti9 rfl ?_
       refine o_yes rfl rfl rfl ?_
       refine o_load1 rfl rfl Try.underlying9 rfl (rd_mem 0 rfl rfl) ?_
       refine o_yes rfl rfl rfl ?_
       refine o_lenStr rfl rfl Try.underlying9 ?_
       refine o_yes rfl rfl rfl ?_
       refine o_bin rfl rfl rfl b_gtr ?_
       refine o_pick_false rfl rfl rfl ?_
       refine l_nil ?_
       refine q_then ?_
       refine c_cond rfl (fun h7 => ?_) (fun h7 => ?_)
       · -- h7T
        have h7b := h7
        try simp only [decide_eq_true_eq] at h7
        refine c_seq ?_
        refine c_region ?_
        refine o_assign rfl rfl ?_
        refine l_nil ?_
        refine q_then ?_
        refine c_ret ?_
        refine q_pass_ret ?_
        refine q_conv (fun w S => S.tail) ?_
        exact f_ret (r_one rfl rfl) (⟨by first | exact vfalse (by unfold RightM; grind) | exact vtrue (by unfold RightM; grind), rfl⟩) (fun w S => S)
       · -- h7F
        have h7b := h7
        try simp only [decide_eq_false_iff_not, Int.not_lt, Int.not_le] at h7
        refine c_skip ?_
        refine q_then ?_
        refine c_seq ?_
        refine c_seq ?_
        refine c_region ?_
        refine o_fieldAddr (q := ⟨b1, 6, none⟩) rfl rfl Try.underlying35 rfl ti9 rfl ?_
        refine o_load1 rfl rfl Try.underlying9 rfl (rd_mem 0 rfl rfl) ?_
        refine o_lenStr rfl rfl Try.underlying9 ?_
        refine o_bin rfl rfl rfl b_gtr ?_
        refine o_move rfl rfl ?_
        refine l_split (t := 46) rfl (fun h8 => ?_) (fun h8 => ?_)
        · -- h8T
         have h8b := h8
         try simp only [decide_eq_true_eq] at h8
         refine o_yes rfl rfl rfl ?_
         refine o_fieldAddr (q := ⟨b1, 0, none⟩) rfl rfl Try.underlying35 rfl ti3 rfl ?_
         refine o_yes rfl rfl rfl ?_
         refine o_load1 rfl rfl Try.underlying3 rfl (rd_mem 0 rfl rfl) ?_
         refine o_yes rfl rfl rfl ?_
         refine o_bin rfl rfl rfl b_neq ?_
         refine o_pick_true rfl rfl rfl ?_
         refine o_move rfl rfl ?_
         refine l_split (t := 51) rfl (fun h9 => ?_) (fun h9 => ?_)
         · -- h9T
          have h9b := h9
          try simp only [Bool.not_eq_true', decide_eq_false_iff_not, Int.not_lt, Int.not_le] at h9
          refine o_yes rfl rfl rfl ?_
          refine o_fieldAddr (q := ⟨b1, 0, none⟩) rfl rfl Try.underlying35 rfl ti3 rfl ?_
          refine o_yes rfl rfl rfl ?_
          refine o_load1 rfl rfl Try.underlying3 rfl (rd_mem 0 rfl rfl) ?_
          refine o_yes rfl rfl rfl ?_
          refine o_bin rfl rfl rfl b_neq ?_
          refine o_pick_true rfl rfl rfl ?_
          refine o_move rfl rfl ?_
          refine l_split (t := 56) rfl (fun h10 => ?_) (fun h10 => ?_)
          · -- h10T
           have h10b := h10
           try simp only [Bool.not_eq_true', decide_eq_false_iff_not, Int.not_lt, Int.not_le] at h10
           refine o_yes rfl rfl rfl ?_
           refine o_fieldAddr (q := ⟨b1, 0, none⟩) rfl rfl Try.underlying35 rfl ti3 rfl ?_
           refine o_yes rfl rfl rfl ?_
           refine o_load1 rfl rfl Try.underlying3 rfl (rd_mem 0 rfl rfl) ?_
           refine o_yes rfl rfl rfl ?_
           refine o_bin rfl rfl rfl b_neq ?_
           refine o_pick_true rfl rfl rfl ?_
           refine o_move rfl rfl ?_
           refine l_split (t := 61) rfl (fun h11 => ?_) (fun h11 => ?_)
           · -- h11T
            have h11b := h11
            try simp only [Bool.not_eq_true', decide_eq_false_iff_not, Int.not_lt, Int.not_le] at h11
            refine o_yes rfl rfl rfl ?_
            refine o_fieldAddr (q := ⟨b1, 0, none⟩) rfl rfl Try.underlying35 rfl ti3 rfl ?_
            refine o_yes rfl rfl rfl ?_
            refine o_load1 rfl rfl Try.underlying3 rfl (rd_mem 0 rfl rfl) ?_
            refine o_yes rfl rfl rfl ?_
            refine o_bin rfl rfl rfl b_neq ?_
            refine o_pick_true rfl rfl rfl ?_
            refine l_nil ?_
            refine q_then ?_
            refine c_cond rfl (fun h12 => ?_) (fun h12 => ?_)
            · -- h12T
             have h12b := h12
             try simp only [Bool.not_eq_true', decide_eq_false_iff_not, Int.not_lt, Int.not_le] at h12
             refine c_seq ?_
             refine c_region ?_
             refine o_assign rfl rfl ?_
             refine l_nil ?_
             refine q_then ?_
             refine c_ret ?_
             refine q_pass_ret ?_
             refine q_conv (fun w S => S.tail) ?_
             exact f_ret (r_one rfl rfl) (⟨by first | exact vfalse (by unfold RightM; grind) | exact vtrue (by unfold RightM; grind), rfl⟩) (fun w S => S)
            · -- h12F
             have h12b := h12
             try simp only [Bool.not_eq_false', decide_eq_true_eq] at h12
             refine c_skip ?_
             refine q_then ?_
             refine c_seq ?_
             refine c_seq ?_
             refine c_region ?_
             refine o_fieldAddr (q := ⟨b1, 7, none⟩) rfl rfl Try.underlying35 rfl ti33 rfl ?_
             refine o_load1 rfl rfl Try.underlying33 rfl (rd_mem 0 rfl rfl) ?_
             refine o_len rfl rfl Try.underlying33 ?_
             refine o_bin rfl rfl rfl b_gtr ?_
             refine o_move rfl rfl ?_
             refine l_split (t := 70) rfl (fun h13 => ?_) (fun h13 => ?_)
             · -- h13T
              have h13b := h13
              try simp only [decide_eq_true_eq] at h13
              refine o_yes rfl rfl rfl ?_
              refine o_fieldAddr (q := ⟨b1, 0, none⟩) rfl rfl Try.underlying35 rfl ti3 rfl ?_
              refine o_yes rfl rfl rfl ?_
              refine o_load1 rfl rfl Try.underlying3 rfl (rd_mem 0 rfl rfl) ?_
              refine o_yes rfl rfl rfl ?_
              refine o_bin rfl rfl rfl b_neq ?_
              refine o_pick_true rfl rfl rfl ?_
              refine l_nil ?_
              refine q_then ?_
              refine c_cond rfl (fun h14 => ?_) (fun h14 => ?_)
              · -- h14T
               have h14b := h14
               try simp only [Bool.not_eq_true', decide_eq_false_iff_not, Int.not_lt, Int.not_le] at h14
               refine c_seq ?_
               refine c_region ?_
               refine o_assign rfl rfl ?_
               refine l_nil ?_
               refine q_then ?_
               refine c_ret ?_
               refine q_pass_ret ?_
               refine q_conv (fun w S => S.tail) ?_
               exact f_ret (r_one rfl rfl) (⟨by first | exact vfalse (by unfold RightM; grind) | exact vtrue (by unfold RightM; grind), rfl⟩) (fun w S => S)
              · -- h14F
               have h14b := h14
               try simp only [Bool.not_eq_false', decide_eq_true_eq] at h14
               refine c_skip ?_
               refine q_then ?_
               refine c_seq ?_
               refine c_seq ?_
               refine c_region ?_
               refine o_assign rfl rfl ?_
               refine l_nil ?_
               refine q_then ?_
               refine c_block ?_
               refine c_loop (α := Nat) (fun z => [(1, .pointer (some ⟨b1, 0, none⟩)), (3, .int .i64 (z : Int))]) (fun z => blk b1 (.cells #[.int .i64 p.f_Kind, .int .i64 p.f_From, .int .i64 p.f_To, .int .i64 p.f_Group, .int .i64 p.f_Slot, .int .u64 p.f_Ballot, .string p.f_Value, .slice p.f_Votes.a (p.f_Votes.xs).length p.f_Votes.c] 35 (0, 0)) :: F) (fun z => z ≤ p.f_Votes.xs.length ∧ RVotesTo p.f_Votes.xs z) (fun z => p.f_Votes.xs.length - z) (0) (by exact ⟨Nat.zero_le _, rvotesTo_0⟩) ⟨(by first | rfl | exact vint (by omega)), (by first | rfl | exact vint (by omega)), trivial⟩ (fun w S => S) ?_
               rintro i ⟨hi, hv⟩
               try dsimp only at *
               refine c_seq ?_
               refine c_seq ?_
               refine c_region ?_
               refine o_move rfl rfl ?_
               refine o_fieldAddr (q := ⟨b1, 7, none⟩) rfl rfl Try.underlying35 rfl ti33 rfl ?_
               refine o_load1 rfl rfl Try.underlying33 rfl (rd_mem 0 rfl rfl) ?_
               refine o_len rfl rfl Try.underlying33 ?_
               refine o_bin rfl rfl rfl b_lss ?_
               refine l_nil ?_
               refine q_then ?_
               refine c_cond rfl (fun h15 => ?_) (fun h15 => ?_)
               · -- h15T
                have h15b := h15
                try simp only [decide_eq_true_eq] at h15
                refine c_skip ?_
                refine q_then ?_
                refine c_seq ?_
                refine c_block ?_
                refine c_seq ?_
                refine c_fact (p := ∃ ad, p.f_Votes.a = some ad) (rds_some (e := e_RVote) (xs := p.f_Votes.xs) (rds_c R_p) (by intro h0; have h00 := congrArg List.length h0; simp only [List.length_nil] at h00; omega)) ?_
                rintro ⟨adx, eadx⟩
                refine c_heldF [] (blk b1 (.cells #[.int .i64 p.f_Kind, .int .i64 p.f_From, .int .i64 p.f_To, .int .i64 p.f_Group, .int .i64 p.f_Slot, .int .u64 p.f_Ballot, .string p.f_Value, .slice p.f_Votes.a (p.f_Votes.xs).length p.f_Votes.c] 35 (0, 0)) :: F) (by kernel_rfl) ?_
                refine h_take 0 rfl rfl (by kernel_rfl) (by kernel_rfl) (by kernel_rfl) (fun L0 => v_fieldAddr (q := ⟨b1, 7, none⟩) rfl rfl Try.underlying35 rfl ti33 rfl) ?_
                refine h_take 1 rfl rfl (by kernel_rfl) (by kernel_rfl) (by kernel_rfl) (fun L0 => v_load1 rfl rfl Try.underlying33 rfl (rd_mem 0 rfl rfl)) ?_
                refine h_take 2 rfl rfl (by kernel_rfl) (by kernel_rfl) (by kernel_rfl) (fun L0 => v_move rfl rfl) ?_
                refine h_take 3 rfl rfl (by kernel_rfl) (by kernel_rfl) (by kernel_rfl) (fun L0 => v_indexK e_RVote_ok eadx rfl rfl rfl Try.underlying33 (by omega) (by omega)) ?_
                obtain ⟨x85, hx85⟩ : ∃ x, (p.f_Votes.xs)[((i : Int)).toNat]? = some x := ⟨_, List.getElem?_eq_getElem (by omega)⟩
                refine h_take 4 rfl rfl (by kernel_rfl) (by kernel_rfl) (by kernel_rfl) (fun L0 => v_fieldAddr rfl rfl Try.underlying58 rfl ti3 (Addr.add_add' _ _ _)) ?_
                refine h_take 5 rfl rfl (by kernel_rfl) (by kernel_rfl) (by kernel_rfl) (fun L0 => v_load1 rfl rfl Try.underlying3 rfl (rd_sl e_RVote_ok eadx (rds_app (rds_c R_p)) hx85 rfl)) ?_
                refine h_one 6 rfl (by kernel_rfl) ?_
                refine l_conv (L' := blk b1 (.cells #[.int .i64 p.f_Kind, .int .i64 p.f_From, .int .i64 p.f_To, .int .i64 p.f_Group, .int .i64 p.f_Slot, .int .u64 p.f_Ballot, .string p.f_Value, .slice p.f_Votes.a (p.f_Votes.xs).length p.f_Votes.c] 35 (0, 0)) :: F) (fun w S => S.perm List.perm_append_comm) ?_
                refine o_call rfl cal38 rfl (rwithin_ (n := x85.f_Slot) (k := 63)) ?_
                rintro _ _ ⟨rfl, rfl⟩
                refine l_nil ?_
                refine q_conv (L' := (blk b1 (.cells #[.int .i64 p.f_Kind, .int .i64 p.f_From, .int .i64 p.f_To, .int .i64 p.f_Group, .int .i64 p.f_Slot, .int .u64 p.f_Ballot, .string p.f_Value, .slice p.f_Votes.a (p.f_Votes.xs).length p.f_Votes.c] 35 (0, 0)) :: F) ++ []) (fun w S => S.perm (List.perm_append_comm (l₁ := []) (l₂ := blk b1 (.cells #[.int .i64 p.f_Kind, .int .i64 p.f_From, .int .i64 p.f_To, .int .i64 p.f_Group, .int .i64 p.f_Slot, .int .u64 p.f_Ballot, .string p.f_Value, .slice p.f_Votes.a (p.f_Votes.xs).length p.f_Votes.c] 35 (0, 0)) :: F))) ?_
                refine h_next ?_
                refine h_take 7 rfl rfl (by kernel_rfl) (by kernel_rfl) (by kernel_rfl) (fun L0 => v_not rfl rfl) ?_
                refine h_take 8 rfl rfl (by kernel_rfl) (by kernel_rfl) (by kernel_rfl) (fun L0 => v_move rfl rfl) ?_
                refine h_split (t := 90) rfl (fun h16 => ?_) (fun h16 => ?_)
                · -- h16T
                 have h16b := h16
                 try simp only [decide_eq_true_eq, decide_eq_false_iff_not, Bool.not_eq_eq_eq_not, Bool.not_true, Bool.not_false, Bool.not_eq_true', Bool.not_eq_false', Int.not_lt, Int.not_le, Bool.or_eq_true, Bool.and_eq_true] at h16
                 refine h_take_no 9 rfl rfl rfl rfl rfl (by kernel_rfl) (by kernel_rfl) (by kernel_rfl) ?_
                 refine h_take_no 10 rfl rfl rfl rfl rfl (by kernel_rfl) (by kernel_rfl) (by kernel_rfl) ?_
                 refine h_take_no 11 rfl rfl rfl rfl rfl (by kernel_rfl) (by kernel_rfl) (by kernel_rfl) ?_
                 refine h_take_no 12 rfl rfl rfl rfl rfl (by kernel_rfl) (by kernel_rfl) (by kernel_rfl) ?_
                 refine h_take_no 13 rfl rfl rfl rfl rfl (by kernel_rfl) (by kernel_rfl) (by kernel_rfl) ?_
                 refine h_take_no 14 rfl rfl rfl rfl rfl (by kernel_rfl) (by kernel_rfl) (by kernel_rfl) ?_
                 refine h_take_no 15 rfl rfl rfl rfl rfl (by kernel_rfl) (by kernel_rfl) (by kernel_rfl) ?_
                 refine h_take_no 16 rfl rfl rfl rfl rfl (by kernel_rfl) (by kernel_rfl) (by kernel_rfl) ?_
                 refine h_take 17 rfl rfl (by kernel_rfl) (by kernel_rfl) (by kernel_rfl) (fun L0 => v_pick_true rfl rfl rfl) ?_
                 refine h_take 18 rfl rfl (by kernel_rfl) (by kernel_rfl) (by kernel_rfl) (fun L0 => v_move rfl rfl) ?_
                 refine h_take_no 19 rfl rfl rfl rfl rfl (by kernel_rfl) (by kernel_rfl) (by kernel_rfl) ?_
                 refine h_take_no 20 rfl rfl rfl rfl rfl (by kernel_rfl) (by kernel_rfl) (by kernel_rfl) ?_
                 refine h_take_no 21 rfl rfl rfl rfl rfl (by kernel_rfl) (by kernel_rfl) (by kernel_rfl) ?_
                 refine h_take_no 22 rfl rfl rfl rfl rfl (by kernel_rfl) (by kernel_rfl) (by kernel_rfl) ?_
                 refine h_take_no 23 rfl rfl rfl rfl rfl (by kernel_rfl) (by kernel_rfl) (by kernel_rfl) ?_
                 refine h_take_no 24 rfl rfl rfl rfl rfl (by kernel_rfl) (by kernel_rfl) (by kernel_rfl) ?_
                 refine h_take_no 25 rfl rfl rfl rfl rfl (by kernel_rfl) (by kernel_rfl) (by kernel_rfl) ?_
                 refine h_take_no 26 rfl rfl rfl rfl rfl (by kernel_rfl) (by kernel_rfl) (by kernel_rfl) ?_
                 refine h_take_no 27 rfl rfl rfl rfl rfl (by kernel_rfl) (by kernel_rfl) (by kernel_rfl) ?_
                 refine h_take_no 28 rfl rfl rfl rfl rfl (by kernel_rfl) (by kernel_rfl) (by kernel_rfl) ?_
                 refine h_take_no 29 rfl rfl rfl rfl rfl (by kernel_rfl) (by kernel_rfl) (by kernel_rfl) ?_
                 refine h_take_no 30 rfl rfl rfl rfl rfl (by kernel_rfl) (by kernel_rfl) (by kernel_rfl) ?_
                 refine h_take_no 31 rfl rfl rfl rfl rfl (by kernel_rfl) (by kernel_rfl) (by kernel_rfl) ?_
                 refine h_take_no 32 rfl rfl rfl rfl rfl (by kernel_rfl) (by kernel_rfl) (by kernel_rfl) ?_
                 refine h_take_no 33 rfl rfl rfl rfl rfl (by kernel_rfl) (by kernel_rfl) (by kernel_rfl) ?_
                 refine h_take_no 34 rfl rfl rfl rfl rfl (by kernel_rfl) (by kernel_rfl) (by kernel_rfl) ?_
                 refine h_take_no 35 rfl rfl rfl rfl rfl (by kernel_rfl) (by kernel_rfl) (by kernel_rfl) ?_
                 refine h_take_no 36 rfl rfl rfl rfl rfl (by kernel_rfl) (by kernel_rfl) (by kernel_rfl) ?_
                 refine h_take 37 rfl rfl (by kernel_rfl) (by kernel_rfl) (by kernel_rfl) (fun L0 => v_pick_true rfl rfl rfl) ?_
                 refine h_done (by kernel_rfl) ?_
                 refine q_conv (L' := blk b1 (.cells #[.int .i64 p.f_Kind, .int .i64 p.f_From, .int .i64 p.f_To, .int .i64 p.f_Group, .int .i64 p.f_Slot, .int .u64 p.f_Ballot, .string p.f_Value, .slice p.f_Votes.a (p.f_Votes.xs).length p.f_Votes.c] 35 (0, 0)) :: F) (fun w S => S.perm List.perm_append_comm) ?_
                 refine q_then ?_
                 refine c_true rfl ?_
                 refine c_seq ?_
                 have hno : ¬ RVotesTo p.f_Votes.xs p.f_Votes.xs.length := by first | exact rvotesTo_no hx85 (by omega) | exact rvotesTo_no2 (by omega) hx108 hx85 (by omega)
                 refine c_region ?_
                 refine o_assign rfl rfl ?_
                 refine l_nil ?_
                 refine q_then ?_
                 refine c_ret ?_
                 refine q_block_ret ?_
                 refine q_pass_ret ?_
                 refine q_pass_ret ?_
                 refine q_block_ret ?_
                 refine q_pass_ret ?_
                 refine q_conv (fun w S => S.tail) ?_
                 exact f_ret (r_one rfl rfl) (⟨by first | exact vfalse (by unfold RightM; grind) | exact vtrue (by unfold RightM; grind), rfl⟩) (fun w S => S)
                · -- h16F
                 have h16b := h16
                 try simp only [decide_eq_true_eq, decide_eq_false_iff_not, Bool.not_eq_eq_eq_not, Bool.not_true, Bool.not_false, Bool.not_eq_true', Bool.not_eq_false', Int.not_lt, Int.not_le, Bool.or_eq_true, Bool.and_eq_true] at h16
                 refine h_take_yes 9 rfl rfl rfl rfl rfl (by kernel_rfl) (by kernel_rfl) (by kernel_rfl) (fun L0 => v_fieldAddr (q := ⟨b1, 7, none⟩) rfl rfl Try.underlying35 rfl ti33 rfl) ?_
                 refine h_take_yes 10 rfl rfl rfl rfl rfl (by kernel_rfl) (by kernel_rfl) (by kernel_rfl) (fun L0 => v_load1 rfl rfl Try.underlying33 rfl (rd_mem 0 rfl rfl)) ?_
                 refine h_take_yes 11 rfl rfl rfl rfl rfl (by kernel_rfl) (by kernel_rfl) (by kernel_rfl) (fun L0 => v_move rfl rfl) ?_
                 refine h_take_yes 12 rfl rfl rfl rfl rfl (by kernel_rfl) (by kernel_rfl) (by kernel_rfl) (fun L0 => v_indexK e_RVote_ok eadx rfl rfl rfl Try.underlying33 (by omega) (by omega)) ?_
                 obtain ⟨x94, hx94⟩ : ∃ x, (p.f_Votes.xs)[((i : Int)).toNat]? = some x := ⟨_, List.getElem?_eq_getElem (by omega)⟩
                 have e94 : x94 = x85 := by rw [hx85] at hx94; exact (Option.some.inj hx94).symm
                 have e94' : x94.f_Value.size = x85.f_Value.size := by rw [e94]
                 refine h_take_yes 13 rfl rfl rfl rfl rfl (by kernel_rfl) (by kernel_rfl) (by kernel_rfl) (fun L0 => v_fieldAddr rfl rfl Try.underlying58 rfl ti9 (Addr.add_add' _ _ _)) ?_
                 refine h_take_yes 14 rfl rfl rfl rfl rfl (by kernel_rfl) (by kernel_rfl) (by kernel_rfl) (fun L0 => v_load1 rfl rfl Try.underlying9 rfl (rd_sl e_RVote_ok eadx (rds_app (rds_c R_p)) hx94 rfl)) ?_
                 refine h_take_yes 15 rfl rfl rfl rfl rfl (by kernel_rfl) (by kernel_rfl) (by kernel_rfl) (fun L0 => v_lenStr rfl rfl Try.underlying9) ?_
                 refine h_take_yes 16 rfl rfl rfl rfl rfl (by kernel_rfl) (by kernel_rfl) (by kernel_rfl) (fun L0 => v_bin rfl rfl rfl b_gtr) ?_
                 refine h_take 17 rfl rfl (by kernel_rfl) (by kernel_rfl) (by kernel_rfl) (fun L0 => v_pick_false rfl rfl rfl) ?_
                 refine h_take 18 rfl rfl (by kernel_rfl) (by kernel_rfl) (by kernel_rfl) (fun L0 => v_move rfl rfl) ?_
                 refine h_split (t := 100) rfl (fun h17 => ?_) (fun h17 => ?_)
                 · -- h17T
                  have h17b := h17
                  try simp only [decide_eq_true_eq] at h17
                  refine h_take_no 19 rfl rfl rfl rfl rfl (by kernel_rfl) (by kernel_rfl) (by kernel_rfl) ?_
                  refine h_take_no 20 rfl rfl rfl rfl rfl (by kernel_rfl) (by kernel_rfl) (by kernel_rfl) ?_
                  refine h_take_no 21 rfl rfl rfl rfl rfl (by kernel_rfl) (by kernel_rfl) (by kernel_rfl) ?_
                  refine h_take_no 22 rfl rfl rfl rfl rfl (by kernel_rfl) (by kernel_rfl) (by kernel_rfl) ?_
                  refine h_take_no 23 rfl rfl rfl rfl rfl (by kernel_rfl) (by kernel_rfl) (by kernel_rfl) ?_
                  refine h_take_no 24 rfl rfl rfl rfl rfl (by kernel_rfl) (by kernel_rfl) (by kernel_rfl) ?_
                  refine h_take_no 25 rfl rfl rfl rfl rfl (by kernel_rfl) (by kernel_rfl) (by kernel_rfl) ?_
                  refine h_take_no 26 rfl rfl rfl rfl rfl (by kernel_rfl) (by kernel_rfl) (by kernel_rfl) ?_
                  refine h_take_no 27 rfl rfl rfl rfl rfl (by kernel_rfl) (by kernel_rfl) (by kernel_rfl) ?_
                  refine h_take_no 28 rfl rfl rfl rfl rfl (by kernel_rfl) (by kernel_rfl) (by kernel_rfl) ?_
                  refine h_take_no 29 rfl rfl rfl rfl rfl (by kernel_rfl) (by kernel_rfl) (by kernel_rfl) ?_
                  refine h_take_no 30 rfl rfl rfl rfl rfl (by kernel_rfl) (by kernel_rfl) (by kernel_rfl) ?_
                  refine h_take_no 31 rfl rfl rfl rfl rfl (by kernel_rfl) (by kernel_rfl) (by kernel_rfl) ?_
                  refine h_take_no 32 rfl rfl rfl rfl rfl (by kernel_rfl) (by kernel_rfl) (by kernel_rfl) ?_
                  refine h_take_no 33 rfl rfl rfl rfl rfl (by kernel_rfl) (by kernel_rfl) (by kernel_rfl) ?_
                  refine h_take_no 34 rfl rfl rfl rfl rfl (by kernel_rfl) (by kernel_rfl) (by kernel_rfl) ?_
                  refine h_take_no 35 rfl rfl rfl rfl rfl (by kernel_rfl) (by kernel_rfl) (by kernel_rfl) ?_
                  refine h_take_no 36 rfl rfl rfl rfl rfl (by kernel_rfl) (by kernel_rfl) (by kernel_rfl) ?_
                  refine h_take 37 rfl rfl (by kernel_rfl) (by kernel_rfl) (by kernel_rfl) (fun L0 => v_pick_true rfl rfl rfl) ?_
                  refine h_done (by kernel_rfl) ?_
                  refine q_conv (L' := blk b1 (.cells #[.int .i64 p.f_Kind, .int .i64 p.f_From, .int .i64 p.f_To, .int .i64 p.f_Group, .int .i64 p.f_Slot, .int .u64 p.f_Ballot, .string p.f_Value, .slice p.f_Votes.a (p.f_Votes.xs).length p.f_Votes.c] 35 (0, 0)) :: F) (fun w S => S.perm List.perm_append_comm) ?_
                  refine q_then ?_
                  refine c_true rfl ?_
                  refine c_seq ?_
                  have hno : ¬ RVotesTo p.f_Votes.xs p.f_Votes.xs.length := by first | exact rvotesTo_no hx85 (by omega) | exact rvotesTo_no2 (by omega) hx108 hx85 (by omega)
                  refine c_region ?_
                  refine o_assign rfl rfl ?_
                  refine l_nil ?_
                  refine q_then ?_
                  refine c_ret ?_
                  refine q_block_ret ?_
                  refine q_pass_ret ?_
                  refine q_pass_ret ?_
                  refine q_block_ret ?_
                  refine q_pass_ret ?_
                  refine q_conv (fun w S => S.tail) ?_
                  exact f_ret (r_one rfl rfl) (⟨by first | exact vfalse (by unfold RightM; grind) | exact vtrue (by unfold RightM; grind), rfl⟩) (fun w S => S)
                 · -- h17F
                  have h17b := h17
                  try simp only [decide_eq_false_iff_not, Int.not_lt, Int.not_le] at h17
                  refine h_take_yes 19 rfl rfl rfl rfl rfl (by kernel_rfl) (by kernel_rfl) (by kernel_rfl) (fun L0 => v_move rfl rfl) ?_
                  refine h_take_yes 20 rfl rfl rfl rfl rfl (by kernel_rfl) (by kernel_rfl) (by kernel_rfl) (fun L0 => v_bin rfl rfl rfl b_gtr) ?_
                  refine h_take_yes 21 rfl rfl rfl rfl rfl (by kernel_rfl) (by kernel_rfl) (by kernel_rfl) (fun L0 => v_move rfl rfl) ?_
                  refine h_split (t := 103) rfl (fun h18 => ?_) (fun h18 => ?_)
                  · -- h18T
                   have h18b := h18
                   try simp only [decide_eq_true_eq] at h18
                   refine h_take_yes 22 rfl rfl rfl rfl rfl (by kernel_rfl) (by kernel_rfl) (by kernel_rfl) (fun L0 => v_fieldAddr (q := ⟨b1, 7, none⟩) rfl rfl Try.underlying35 rfl ti33 rfl) ?_
                   refine h_take_yes 23 rfl rfl rfl rfl rfl (by kernel_rfl) (by kernel_rfl) (by kernel_rfl) (fun L0 => v_load1 rfl rfl Try.underlying33 rfl (rd_mem 0 rfl rfl)) ?_
                   refine h_take_yes 24 rfl rfl rfl rfl rfl (by kernel_rfl) (by kernel_rfl) (by kernel_rfl) (fun L0 => v_move rfl rfl) ?_
                   refine h_take_yes 25 rfl rfl rfl rfl rfl (by kernel_rfl) (by kernel_rfl) (by kernel_rfl) (fun L0 => v_bin rfl rfl rfl (b_sub (wrap_i64 (by omega) (by omega)))) ?_
                   refine h_take_yes 26 rfl rfl rfl rfl rfl (by kernel_rfl) (by kernel_rfl) (by kernel_rfl) (fun L0 => v_indexK e_RVote_ok eadx rfl rfl rfl Try.underlying33 (by omega) (by omega)) ?_
                   obtain ⟨x108, hx108⟩ : ∃ x, (p.f_Votes.xs)[(((i : Int) - 1)).toNat]? = some x := ⟨_, List.getElem?_eq_getElem (by omega)⟩
                   refine h_take_yes 27 rfl rfl rfl rfl rfl (by kernel_rfl) (by kernel_rfl) (by kernel_rfl) (fun L0 => v_fieldAddr rfl rfl Try.underlying58 rfl ti3 (Addr.add_add' _ _ _)) ?_
                   refine h_take_yes 28 rfl rfl rfl rfl rfl (by kernel_rfl) (by kernel_rfl) (by kernel_rfl) (fun L0 => v_load1 rfl rfl Try.underlying3 rfl (rd_sl e_RVote_ok eadx (rds_app (rds_c R_p)) hx108 rfl)) ?_
                   refine h_take_yes 29 rfl rfl rfl rfl rfl (by kernel_rfl) (by kernel_rfl) (by kernel_rfl) (fun L0 => v_fieldAddr (q := ⟨b1, 7, none⟩) rfl rfl Try.underlying35 rfl ti33 rfl) ?_
                   refine h_take_yes 30 rfl rfl rfl rfl rfl (by kernel_rfl) (by kernel_rfl) (by kernel_rfl) (fun L0 => v_load1 rfl rfl Try.underlying33 rfl (rd_mem 0 rfl rfl)) ?_
                   refine h_take_yes 31 rfl rfl rfl rfl rfl (by kernel_rfl) (by kernel_rfl) (by kernel_rfl) (fun L0 => v_move rfl rfl) ?_
                   refine h_take_yes 32 rfl rfl rfl rfl rfl (by kernel_rfl) (by kernel_rfl) (by kernel_rfl) (fun L0 => v_indexK e_RVote_ok eadx rfl rfl rfl Try.underlying33 (by omega) (by omega)) ?_
                   obtain ⟨x114, hx114⟩ : ∃ x, (p.f_Votes.xs)[((i : Int)).toNat]? = some x := ⟨_, List.getElem?_eq_getElem (by omega)⟩
                   have e114 : x114 = x85 := by rw [hx85] at hx114; exact (Option.some.inj hx114).symm
                   have e114' : x114.f_Slot = x85.f_Slot := by rw [e114]
                   refine h_take_yes 33 rfl rfl rfl rfl rfl (by kernel_rfl) (by kernel_rfl) (by kernel_rfl) (fun L0 => v_fieldAddr rfl rfl Try.underlying58 rfl ti3 (Addr.add_add' _ _ _)) ?_
                   refine h_take_yes 34 rfl rfl rfl rfl rfl (by kernel_rfl) (by kernel_rfl) (by kernel_rfl) (fun L0 => v_load1 rfl rfl Try.underlying3 rfl (rd_sl e_RVote_ok eadx (rds_app (rds_c R_p)) hx114 rfl)) ?_
                   refine h_take_yes 35 rfl rfl rfl rfl rfl (by kernel_rfl) (by kernel_rfl) (by kernel_rfl) (fun L0 => v_bin rfl rfl rfl b_geq) ?_
                   refine h_take_yes 36 rfl rfl rfl rfl rfl (by kernel_rfl) (by kernel_rfl) (by kernel_rfl) (fun L0 => v_pick_true rfl rfl rfl) ?_
                   refine h_take 37 rfl rfl (by kernel_rfl) (by kernel_rfl) (by kernel_rfl) (fun L0 => v_pick_false rfl rfl rfl) ?_
                   refine h_done (by kernel_rfl) ?_
                   refine q_conv (L' := blk b1 (.cells #[.int .i64 p.f_Kind, .int .i64 p.f_From, .int .i64 p.f_To, .int .i64 p.f_Group, .int .i64 p.f_Slot, .int .u64 p.f_Ballot, .string p.f_Value, .slice p.f_Votes.a (p.f_Votes.xs).length p.f_Votes.c] 35 (0, 0)) :: F) (fun w S => S.perm List.perm_append_comm) ?_
                   refine q_then ?_
                   refine c_cond rfl (fun h19 => ?_) (fun h19 => ?_)
                   · -- h19T
                    have h19b := h19
                    try simp only [decide_eq_true_eq] at h19
                    refine c_seq ?_
                    have hno : ¬ RVotesTo p.f_Votes.xs p.f_Votes.xs.length := by first | exact rvotesTo_no hx85 (by omega) | exact rvotesTo_no2 (by omega) hx108 hx85 (by omega)
                    refine c_region ?_
                    refine o_assign rfl rfl ?_
                    refine l_nil ?_
                    refine q_then ?_
                    refine c_ret ?_
                    refine q_block_ret ?_
                    refine q_pass_ret ?_
                    refine q_pass_ret ?_
                    refine q_block_ret ?_
                    refine q_pass_ret ?_
                    refine q_conv (fun w S => S.tail) ?_
                    exact f_ret (r_one rfl rfl) (⟨by first | exact vfalse (by unfold RightM; grind) | exact vtrue (by unfold RightM; grind), rfl⟩) (fun w S => S)
                   · -- h19F
                    have h19b := h19
                    try simp only [decide_eq_false_iff_not, Int.not_lt, Int.not_le] at h19
                    refine c_skip ?_
                    refine q_block ?_
                    refine q_then ?_
                    refine c_region ?_
                    refine o_move rfl rfl ?_
                    refine o_bin rfl rfl rfl (b_add (wrap_i64 (by omega) (by omega))) ?_
                    refine o_assign rfl rfl ?_
                    refine l_nil ?_
                    exact q_round (i + 1) (by exact ⟨by omega, rvotesTo_on hv hx85 (by omega) (by omega) (by omega) (fun j u hj hu => by first | omega | (have h9 := hx108; rw [show ((i : Int) - 1).toNat = j by omega, hu] at h9; cases h9; omega))⟩) (by (try dsimp only); omega) ⟨(by first | rfl | exact vint (by omega)), (by first | rfl | exact vint (by omega)), trivial⟩ (fun w S => S)
                  · -- h18F
                   have h18b := h18
                   try simp only [decide_eq_false_iff_not, Int.not_lt, Int.not_le] at h18
                   refine h_take_no 22 rfl rfl rfl rfl rfl (by kernel_rfl) (by kernel_rfl) (by kernel_rfl) ?_
                   refine h_take_no 23 rfl rfl rfl rfl rfl (by kernel_rfl) (by kernel_rfl) (by kernel_rfl) ?_
                   refine h_take_no 24 rfl rfl rfl rfl rfl (by kernel_rfl) (by kernel_rfl) (by kernel_rfl) ?_
                   refine h_take_no 25 rfl rfl rfl rfl rfl (by kernel_rfl) (by kernel_rfl) (by kernel_rfl) ?_
                   refine h_take_no 26 rfl rfl rfl rfl rfl (by kernel_rfl) (by kernel_rfl) (by kernel_rfl) ?_
                   refine h_take_no 27 rfl rfl rfl rfl rfl (by kernel_rfl) (by kernel_rfl) (by kernel_rfl) ?_
                   refine h_take_no 28 rfl rfl rfl rfl rfl (by kernel_rfl) (by kernel_rfl) (by kernel_rfl) ?_
                   refine h_take_no 29 rfl rfl rfl rfl rfl (by kernel_rfl) (by kernel_rfl) (by kernel_rfl) ?_
                   refine h_take_no 30 rfl rfl rfl rfl rfl (by kernel_rfl) (by kernel_rfl) (by kernel_rfl) ?_
                   refine h_take_no 31 rfl rfl rfl rfl rfl (by kernel_rfl) (by kernel_rfl) (by kernel_rfl) ?_
                   refine h_take_no 32 rfl rfl rfl rfl rfl (by kernel_rfl) (by kernel_rfl) (by kernel_rfl) ?_
                   refine h_take_no 33 rfl rfl rfl rfl rfl (by kernel_rfl) (by kernel_rfl) (by kernel_rfl) ?_
                   refine h_take_no 34 rfl rfl rfl rfl rfl (by kernel_rfl) (by kernel_rfl) (by kernel_rfl) ?_
                   refine h_take_no 35 rfl rfl rfl rfl rfl (by kernel_rfl) (by kernel_rfl) (by kernel_rfl) ?_
                   refine h_take_yes 36 rfl rfl rfl rfl rfl (by kernel_rfl) (by kernel_rfl) (by kernel_rfl) (fun L0 => v_pick_false rfl rfl rfl) ?_
                   refine h_take 37 rfl rfl (by kernel_rfl) (by kernel_rfl) (by kernel_rfl) (fun L0 => v_pick_false rfl rfl rfl) ?_
                   refine h_done (by kernel_rfl) ?_
                   refine q_conv (L' := blk b1 (.cells #[.int .i64 p.f_Kind, .int .i64 p.f_From, .int .i64 p.f_To, .int .i64 p.f_Group, .int .i64 p.f_Slot, .int .u64 p.f_Ballot, .string p.f_Value, .slice p.f_Votes.a (p.f_Votes.xs).length p.f_Votes.c] 35 (0, 0)) :: F) (fun w S => S.perm List.perm_append_comm) ?_
                   refine q_then ?_
                   refine c_false rfl ?_
                   refine c_skip ?_
                   refine q_block ?_
                   refine q_then ?_
                   refine c_region ?_
                   refine o_move rfl rfl ?_
                   refine o_bin rfl rfl rfl (b_add (wrap_i64 (by omega) (by omega))) ?_
                   refine o_assign rfl rfl ?_
                   refine l_nil ?_
                   exact q_round (i + 1) (by exact ⟨by omega, rvotesTo_on hv hx85 (by omega) (by omega) (by omega) (fun j u hj hu => by first | omega | (have h9 := hx108; rw [show ((i : Int) - 1).toNat = j by omega, hu] at h9; cases h9; omega))⟩) (by (try dsimp only); omega) ⟨(by first | rfl | exact vint (by omega)), (by first | rfl | exact vint (by omega)), trivial⟩ (fun w S => S)
               · -- h15F
                have h15b := h15
                try simp only [decide_eq_false_iff_not, Int.not_lt, Int.not_le] at h15
                refine c_exit ?_
                refine q_pass_exit ?_
                refine q_pass_exit ?_
                refine q_hit ?_
                refine q_then ?_
                refine c_seq ?_
                have hyes : RVotesTo p.f_Votes.xs p.f_Votes.xs.length := by rw [show p.f_Votes.xs.length = i by omega]; exact hv
                refine c_region ?_
                refine o_assign rfl rfl ?_
                refine l_nil ?_
                refine q_then ?_
                refine c_ret ?_
                refine q_conv (fun w S => S.tail) ?_
                exact f_ret (r_one rfl rfl) (⟨by first | exact vfalse (by unfold RightM; grind) | exact vtrue (by unfold RightM; grind), rfl⟩) (fun w S => S)
             · -- h13F
              have h13b := h13
              try simp only [decide_eq_false_iff_not, Int.not_lt, Int.not_le] at h13
              refine o_no rfl rfl rfl rfl ?_
              refine o_no rfl rfl rfl rfl ?_
              refine o_no rfl rfl rfl rfl ?_
              refine o_pick_false rfl rfl rfl ?_
              refine l_nil ?_
              refine q_then ?_
              refine c_false rfl ?_
              refine c_skip ?_
              refine q_then ?_
              refine c_seq ?_
              refine c_seq ?_
              refine c_region ?_
              refine o_assign rfl rfl ?_
              refine l_nil ?_
              refine q_then ?_
              refine c_block ?_
              refine c_loop (α := Nat) (fun z => [(1, .pointer (some ⟨b1, 0, none⟩)), (3, .int .i64 (z : Int))]) (fun z => blk b1 (.cells #[.int .i64 p.f_Kind, .int .i64 p.f_From, .int .i64 p.f_To, .int .i64 p.f_Group, .int .i64 p.f_Slot, .int .u64 p.f_Ballot, .string p.f_Value, .slice p.f_Votes.a (p.f_Votes.xs).length p.f_Votes.c] 35 (0, 0)) :: F) (fun z => z ≤ p.f_Votes.xs.length ∧ RVotesTo p.f_Votes.xs z) (fun z => p.f_Votes.xs.length - z) (0) (by exact ⟨Nat.zero_le _, rvotesTo_0⟩) ⟨(by first | rfl | exact vint (by omega)), (by first | rfl | exact vint (by omega)), trivial⟩ (fun w S => S) ?_
              rintro i ⟨hi, hv⟩
              try dsimp only at *
              refine c_seq ?_
              refine c_seq ?_
              refine c_region ?_
              refine o_move rfl rfl ?_
              refine o_fieldAddr (q := ⟨b1, 7, none⟩) rfl rfl Try.underlying35 rfl ti33 rfl ?_
              refine o_load1 rfl rfl Try.underlying33 rfl (rd_mem 0 rfl rfl) ?_
              refine o_len rfl rfl Try.underlying33 ?_
              refine o_bin rfl rfl rfl b_lss ?_
              refine l_nil ?_
              refine q_then ?_
              refine c_cond rfl (fun h20 => ?_) (fun h20 => ?_)
              · -- h20T
               have h20b := h20
               try simp only [decide_eq_true_eq] at h20
               refine c_skip ?_
               refine q_then ?_
               refine c_seq ?_
               refine c_block ?_
               refine c_seq ?_
               refine c_fact (p := ∃ ad, p.f_Votes.a = some ad) (rds_some (e := e_RVote) (xs := p.f_Votes.xs) (rds_c R_p) (by intro h0; have h00 := congrArg List.length h0; simp only [List.length_nil] at h00; omega)) ?_
               rintro ⟨adx, eadx⟩
               refine c_heldF [] (blk b1 (.cells #[.int .i64 p.f_Kind, .int .i64 p.f_From, .int .i64 p.f_To, .int .i64 p.f_Group, .int .i64 p.f_Slot, .int .u64 p.f_Ballot, .string p.f_Value, .slice p.f_Votes.a (p.f_Votes.xs).length p.f_Votes.c] 35 (0, 0)) :: F) (by kernel_rfl) ?_
               refine h_take 0 rfl rfl (by kernel_rfl) (by kernel_rfl) (by kernel_rfl) (fun L0 => v_fieldAddr (q := ⟨b1, 7, none⟩) rfl rfl Try.underlying35 rfl ti33 rfl) ?_
               refine h_take 1 rfl rfl (by kernel_rfl) (by kernel_rfl) (by kernel_rfl) (fun L0 => v_load1 rfl rfl Try.underlying33 rfl (rd_mem 0 rfl rfl)) ?_
               refine h_take 2 rfl rfl (by kernel_rfl) (by kernel_rfl) (by kernel_rfl) (fun L0 => v_move rfl rfl) ?_
               refine h_take 3 rfl rfl (by kernel_rfl) (by kernel_rfl) (by kernel_rfl) (fun L0 => v_indexK e_RVote_ok eadx rfl rfl rfl Try.underlying33 (by omega) (by omega)) ?_
               obtain ⟨x85, hx85⟩ : ∃ x, (p.f_Votes.xs)[((i : Int)).toNat]? = some x := ⟨_, List.getElem?_eq_getElem (by omega)⟩
               refine h_take 4 rfl rfl (by kernel_rfl) (by kernel_rfl) (by kernel_rfl) (fun L0 => v_fieldAddr rfl rfl Try.underlying58 rfl ti3 (Addr.add_add' _ _ _)) ?_
               refine h_take 5 rfl rfl (by kernel_rfl) (by kernel_rfl) (by kernel_rfl) (fun L0 => v_load1 rfl rfl Try.underlying3 rfl (rd_sl e_RVote_ok eadx (rds_app (rds_c R_p)) hx85 rfl)) ?_
               refine h_one 6 rfl (by kernel_rfl) ?_
               refine l_conv (L' := blk b1 (.cells #[.int .i64 p.f_Kind, .int .i64 p.f_From, .int .i64 p.f_To, .int .i64 p.f_Group, .int .i64 p.f_Slot, .int .u64 p.f_Ballot, .string p.f_Value, .slice p.f_Votes.a (p.f_Votes.xs).length p.f_Votes.c] 35 (0, 0)) :: F) (fun w S => S.perm List.perm_append_comm) ?_
               refine o_call rfl cal38 rfl (rwithin_ (n := x85.f_Slot) (k := 63)) ?_
               rintro _ _ ⟨rfl, rfl⟩
               refine l_nil ?_
               refine q_conv (L' := (blk b1 (.cells #[.int .i64 p.f_Kind, .int .i64 p.f_From, .int .i64 p.f_To, .int .i64 p.f_Group, .int .i64 p.f_Slot, .int .u64 p.f_Ballot, .string p.f_Value, .slice p.f_Votes.a (p.f_Votes.xs).length p.f_Votes.c] 35 (0, 0)) :: F) ++ []) (fun w S => S.perm (List.perm_append_comm (l₁ := []) (l₂ := blk b1 (.cells #[.int .i64 p.f_Kind, .int .i64 p.f_From, .int .i64 p.f_To, .int .i64 p.f_Group, .int .i64 p.f_Slot, .int .u64 p.f_Ballot, .string p.f_Value, .slice p.f_Votes.a (p.f_Votes.xs).length p.f_Votes.c] 35 (0, 0)) :: F))) ?_
               refine h_next ?_
               refine h_take 7 rfl rfl (by kernel_rfl) (by kernel_rfl) (by kernel_rfl) (fun L0 => v_not rfl rfl) ?_
               refine h_take 8 rfl rfl (by kernel_rfl) (by kernel_rfl) (by kernel_rfl) (fun L0 => v_move rfl rfl) ?_
               refine h_split (t := 90) rfl (fun h21 => ?_) (fun h21 => ?_)
               · -- h21T
                have h21b := h21
                try simp only [decide_eq_true_eq, decide_eq_false_iff_not, Bool.not_eq_eq_eq_not, Bool.not_true, Bool.not_false, Bool.not_eq_true', Bool.not_eq_false', Int.not_lt, Int.not_le, Bool.or_eq_true, Bool.and_eq_true] at h21
                refine h_take_no 9 rfl rfl rfl rfl rfl (by kernel_rfl) (by kernel_rfl) (by kernel_rfl) ?_
                refine h_take_no 10 rfl rfl rfl rfl rfl (by kernel_rfl) (by kernel_rfl) (by kernel_rfl) ?_
                refine h_take_no 11 rfl rfl rfl rfl rfl (by kernel_rfl) (by kernel_rfl) (by kernel_rfl) ?_
                refine h_take_no 12 rfl rfl rfl rfl rfl (by kernel_rfl) (by kernel_rfl) (by kernel_rfl) ?_
                refine h_take_no 13 rfl rfl rfl rfl rfl (by kernel_rfl) (by kernel_rfl) (by kernel_rfl) ?_
                refine h_take_no 14 rfl rfl rfl rfl rfl (by kernel_rfl) (by kernel_rfl) (by kernel_rfl) ?_
                refine h_take_no 15 rfl rfl rfl rfl rfl (by kernel_rfl) (by kernel_rfl) (by kernel_rfl) ?_
                refine h_take_no 16 rfl rfl rfl rfl rfl (by kernel_rfl) (by kernel_rfl) (by kernel_rfl) ?_
                refine h_take 17 rfl rfl (by kernel_rfl) (by kernel_rfl) (by kernel_rfl) (fun L0 => v_pick_true rfl rfl rfl) ?_
                refine h_take 18 rfl rfl (by kernel_rfl) (by kernel_rfl) (by kernel_rfl) (fun L0 => v_move rfl rfl) ?_
                refine h_take_no 19 rfl rfl rfl rfl rfl (by kernel_rfl) (by kernel_rfl) (by kernel_rfl) ?_
                refine h_take_no 20 rfl rfl rfl rfl rfl (by kernel_rfl) (by kernel_rfl) (by kernel_rfl) ?_
                refine h_take_no 21 rfl rfl rfl rfl rfl (by kernel_rfl) (by kernel_rfl) (by kernel_rfl) ?_
                refine h_take_no 22 rfl rfl rfl rfl rfl (by kernel_rfl) (by kernel_rfl) (by kernel_rfl) ?_
                refine h_take_no 23 rfl rfl rfl rfl rfl (by kernel_rfl) (by kernel_rfl) (by kernel_rfl) ?_
                refine h_take_no 24 rfl rfl rfl rfl rfl (by kernel_rfl) (by kernel_rfl) (by kernel_rfl) ?_
                refine h_take_no 25 rfl rfl rfl rfl rfl (by kernel_rfl) (by kernel_rfl) (by kernel_rfl) ?_
                refine h_take_no 26 rfl rfl rfl rfl rfl (by kernel_rfl) (by kernel_rfl) (by kernel_rfl) ?_
                refine h_take_no 27 rfl rfl rfl rfl rfl (by kernel_rfl) (by kernel_rfl) (by kernel_rfl) ?_
                refine h_take_no 28 rfl rfl rfl rfl rfl (by kernel_rfl) (by kernel_rfl) (by kernel_rfl) ?_
                refine h_take_no 29 rfl rfl rfl rfl rfl (by kernel_rfl) (by kernel_rfl) (by kernel_rfl) ?_
                refine h_take_no 30 rfl rfl rfl rfl rfl (by kernel_rfl) (by kernel_rfl) (by kernel_rfl) ?_
                refine h_take_no 31 rfl rfl rfl rfl rfl (by kernel_rfl) (by kernel_rfl) (by kernel_rfl) ?_
                refine h_take_no 32 rfl rfl rfl rfl rfl (by kernel_rfl) (by kernel_rfl) (by kernel_rfl) ?_
                refine h_take_no 33 rfl rfl rfl rfl rfl (by kernel_rfl) (by kernel_rfl) (by kernel_rfl) ?_
                refine h_take_no 34 rfl rfl rfl rfl rfl (by kernel_rfl) (by kernel_rfl) (by kernel_rfl) ?_
                refine h_take_no 35 rfl rfl rfl rfl rfl (by kernel_rfl) (by kernel_rfl) (by kernel_rfl) ?_
                refine h_take_no 36 rfl rfl rfl rfl rfl (by kernel_rfl) (by kernel_rfl) (by kernel_rfl) ?_
                refine h_take 37 rfl rfl (by kernel_rfl) (by kernel_rfl) (by kernel_rfl) (fun L0 => v_pick_true rfl rfl rfl) ?_
                refine h_done (by kernel_rfl) ?_
                refine q_conv (L' := blk b1 (.cells #[.int .i64 p.f_Kind, .int .i64 p.f_From, .int .i64 p.f_To, .int .i64 p.f_Group, .int .i64 p.f_Slot, .int .u64 p.f_Ballot, .string p.f_Value, .slice p.f_Votes.a (p.f_Votes.xs).length p.f_Votes.c] 35 (0, 0)) :: F) (fun w S => S.perm List.perm_append_comm) ?_
                refine q_then ?_
                refine c_true rfl ?_
                refine c_seq ?_
                have hno : ¬ RVotesTo p.f_Votes.xs p.f_Votes.xs.length := by first | exact rvotesTo_no hx85 (by omega) | exact rvotesTo_no2 (by omega) hx108 hx85 (by omega)
                refine c_region ?_
                refine o_assign rfl rfl ?_
                refine l_nil ?_
                refine q_then ?_
                refine c_ret ?_
                refine q_block_ret ?_
                refine q_pass_ret ?_
                refine q_pass_ret ?_
                refine q_block_ret ?_
                refine q_pass_ret ?_
                refine q_conv (fun w S => S.tail) ?_
                exact f_ret (r_one rfl rfl) (⟨by first | exact vfalse (by unfold RightM; grind) | exact vtrue (by unfold RightM; grind), rfl⟩) (fun w S => S)
               · -- h21F
                have h21b := h21
                try simp only [decide_eq_true_eq, decide_eq_false_iff_not, Bool.not_eq_eq_eq_not, Bool.not_true, Bool.not_false, Bool.not_eq_true', Bool.not_eq_false', Int.not_lt, Int.not_le, Bool.or_eq_true, Bool.and_eq_true] at h21
                refine h_take_yes 9 rfl rfl rfl rfl rfl (by kernel_rfl) (by kernel_rfl) (by kernel_rfl) (fun L0 => v_fieldAddr (q := ⟨b1, 7, none⟩) rfl rfl Try.underlying35 rfl ti33 rfl) ?_
                refine h_take_yes 10 rfl rfl rfl rfl rfl (by kernel_rfl) (by kernel_rfl) (by kernel_rfl) (fun L0 => v_load1 rfl rfl Try.underlying33 rfl (rd_mem 0 rfl rfl)) ?_
                refine h_take_yes 11 rfl rfl rfl rfl rfl (by kernel_rfl) (by kernel_rfl) (by kernel_rfl) (fun L0 => v_move rfl rfl) ?_
                refine h_take_yes 12 rfl rfl rfl rfl rfl (by kernel_rfl) (by kernel_rfl) (by kernel_rfl) (fun L0 => v_indexK e_RVote_ok eadx rfl rfl rfl Try.underlying33 (by omega) (by omega)) ?_
                obtain ⟨x94, hx94⟩ : ∃ x, (p.f_Votes.xs)[((i : Int)).toNat]? = some x := ⟨_, List.getElem?_eq_getElem (by omega)⟩
                have e94 : x94 = x85 := by rw [hx85] at hx94; exact (Option.some.inj hx94).symm
                have e94' : x94.f_Value.size = x85.f_Value.size := by rw [e94]
                refine h_take_yes 13 rfl rfl rfl rfl rfl (by kernel_rfl) (by kernel_rfl) (by kernel_rfl) (fun L0 => v_fieldAddr rfl rfl Try.underlying58 rfl ti9 (Addr.add_add' _ _ _)) ?_
                refine h_take_yes 14 rfl rfl rfl rfl rfl (by kernel_rfl) (by kernel_rfl) (by kernel_rfl) (fun L0 => v_load1 rfl rfl Try.underlying9 rfl (rd_sl e_RVote_ok eadx (rds_app (rds_c R_p)) hx94 rfl)) ?_
                refine h_take_yes 15 rfl rfl rfl rfl rfl (by kernel_rfl) (by kernel_rfl) (by kernel_rfl) (fun L0 => v_lenStr rfl rfl Try.underlying9) ?_
                refine h_take_yes 16 rfl rfl rfl rfl rfl (by kernel_rfl) (by kernel_rfl) (by kernel_rfl) (fun L0 => v_bin rfl rfl rfl b_gtr) ?_
                refine h_take 17 rfl rfl (by kernel_rfl) (by kernel_rfl) (by kernel_rfl) (fun L0 => v_pick_false rfl rfl rfl) ?_
                refine h_take 18 rfl rfl (by kernel_rfl) (by kernel_rfl) (by kernel_rfl) (fun L0 => v_move rfl rfl) ?_
                refine h_split (t := 100) rfl (fun h22 => ?_) (fun h22 => ?_)
                · -- h22T
                 have h22b := h22
                 try simp only [decide_eq_true_eq] at h22
                 refine h_take_no 19 rfl rfl rfl rfl rfl (by kernel_rfl) (by kernel_rfl) (by kernel_rfl) ?_
                 refine h_take_no 20 rfl rfl rfl rfl rfl (by kernel_rfl) (by kernel_rfl) (by kernel_rfl) ?_
                 refine h_take_no 21 rfl rfl rfl rfl rfl (by kernel_rfl) (by kernel_rfl) (by kernel_rfl) ?_
                 refine h_take_no 22 rfl rfl rfl rfl rfl (by kernel_rfl) (by kernel_rfl) (by kernel_rfl) ?_
                 refine h_take_no 23 rfl rfl rfl rfl rfl (by kernel_rfl) (by kernel_rfl) (by kernel_rfl) ?_
                 refine h_take_no 24 rfl rfl rfl rfl rfl (by kernel_rfl) (by kernel_rfl) (by kernel_rfl) ?_
                 refine h_take_no 25 rfl rfl rfl rfl rfl (by kernel_rfl) (by kernel_rfl) (by kernel_rfl) ?_
                 refine h_take_no 26 rfl rfl rfl rfl rfl (by kernel_rfl) (by kernel_rfl) (by kernel_rfl) ?_
                 refine h_take_no 27 rfl rfl rfl rfl rfl (by kernel_rfl) (by kernel_rfl) (by kernel_rfl) ?_
                 refine h_take_no 28 rfl rfl rfl rfl rfl (by kernel_rfl) (by kernel_rfl) (by kernel_rfl) ?_
                 refine h_take_no 29 rfl rfl rfl rfl rfl (by kernel_rfl) (by kernel_rfl) (by kernel_rfl) ?_
                 refine h_take_no 30 rfl rfl rfl rfl rfl (by kernel_rfl) (by kernel_rfl) (by kernel_rfl) ?_
                 refine h_take_no 31 rfl rfl rfl rfl rfl (by kernel_rfl) (by kernel_rfl) (by kernel_rfl) ?_
                 refine h_take_no 32 rfl rfl rfl rfl rfl (by kernel_rfl) (by kernel_rfl) (by kernel_rfl) ?_
                 refine h_take_no 33 rfl rfl rfl rfl rfl (by kernel_rfl) (by kernel_rfl) (by kernel_rfl) ?_
                 refine h_take_no 34 rfl rfl rfl rfl rfl (by kernel_rfl) (by kernel_rfl) (by kernel_rfl) ?_
                 refine h_take_no 35 rfl rfl rfl rfl rfl (by kernel_rfl) (by kernel_rfl) (by kernel_rfl) ?_
                 refine h_take_no 36 rfl rfl rfl rfl rfl (by kernel_rfl) (by kernel_rfl) (by kernel_rfl) ?_
                 refine h_take 37 rfl rfl (by kernel_rfl) (by kernel_rfl) (by kernel_rfl) (fun L0 => v_pick_true rfl rfl rfl) ?_
                 refine h_done (by kernel_rfl) ?_
                 refine q_conv (L' := blk b1 (.cells #[.int .i64 p.f_Kind, .int .i64 p.f_From, .int .i64 p.f_To, .int .i64 p.f_Group, .int .i64 p.f_Slot, .int .u64 p.f_Ballot, .string p.f_Value, .slice p.f_Votes.a (p.f_Votes.xs).length p.f_Votes.c] 35 (0, 0)) :: F) (fun w S => S.perm List.perm_append_comm) ?_
                 refine q_then ?_
                 refine c_true rfl ?_
                 refine c_seq ?_
                 have hno : ¬ RVotesTo p.f_Votes.xs p.f_Votes.xs.length := by first | exact rvotesTo_no hx85 (by omega) | exact rvotesTo_no2 (by omega) hx108 hx85 (by omega)
                 refine c_region ?_
                 refine o_assign rfl rfl ?_
                 refine l_nil ?_
                 refine q_then ?_
                 refine c_ret ?_
                 refine q_block_ret ?_
                 refine q_pass_ret ?_
                 refine q_pass_ret ?_
                 refine q_block_ret ?_
                 refine q_pass_ret ?_
                 refine q_conv (fun w S => S.tail) ?_
                 exact f_ret (r_one rfl rfl) (⟨by first | exact vfalse (by unfold RightM; grind) | exact vtrue (by unfold RightM; grind), rfl⟩) (fun w S => S)
                · -- h22F
                 have h22b := h22
                 try simp only [decide_eq_false_iff_not, Int.not_lt, Int.not_le] at h22
                 refine h_take_yes 19 rfl rfl rfl rfl rfl (by kernel_rfl) (by kernel_rfl) (by kernel_rfl) (fun L0 => v_move rfl rfl) ?_
                 refine h_take_yes 20 rfl rfl rfl rfl rfl (by kernel_rfl) (by kernel_rfl) (by kernel_rfl) (fun L0 => v_bin rfl rfl rfl b_gtr) ?_
                 refine h_take_yes 21 rfl rfl rfl rfl rfl (by kernel_rfl) (by kernel_rfl) (by kernel_rfl) (fun L0 => v_move rfl rfl) ?_
                 refine h_split (t := 103) rfl (fun h23 => ?_) (fun h23 => ?_)
                 · -- h23T
                  have h23b := h23
                  try simp only [decide_eq_true_eq] at h23
                  refine h_take_yes 22 rfl rfl rfl rfl rfl (by kernel_rfl) (by kernel_rfl) (by kernel_rfl) (fun L0 => v_fieldAddr (q := ⟨b1, 7, none⟩) rfl rfl Try.underlying35 rfl ti33 rfl) ?_
                  refine h_take_yes 23 rfl rfl rfl rfl rfl (by kernel_rfl) (by kernel_rfl) (by kernel_rfl) (fun L0 => v_load1 rfl rfl Try.underlying33 rfl (rd_mem 0 rfl rfl)) ?_
                  refine h_take_yes 24 rfl rfl rfl rfl rfl (by kernel_rfl) (by kernel_rfl) (by kernel_rfl) (fun L0 => v_move rfl rfl) ?_
                  refine h_take_yes 25 rfl rfl rfl rfl rfl (by kernel_rfl) (by kernel_rfl) (by kernel_rfl) (fun L0 => v_bin rfl rfl rfl (b_sub (wrap_i64 (by omega) (by omega)))) ?_
                  refine h_take_yes 26 rfl rfl rfl rfl rfl (by kernel_rfl) (by kernel_rfl) (by kernel_rfl) (fun L0 => v_indexK e_RVote_ok eadx rfl rfl rfl Try.underlying33 (by omega) (by omega)) ?_
                  obtain ⟨x108, hx108⟩ : ∃ x, (p.f_Votes.xs)[(((i : Int) - 1)).toNat]? = some x := ⟨_, List.getElem?_eq_getElem (by omega)⟩
                  refine h_take_yes 27 rfl rfl rfl rfl rfl (by kernel_rfl) (by kernel_rfl) (by kernel_rfl) (fun L0 => v_fieldAddr rfl rfl Try.underlying58 rfl ti3 (Addr.add_add' _ _ _)) ?_
                  refine h_take_yes 28 rfl rfl rfl rfl rfl (by kernel_rfl) (by kernel_rfl) (by kernel_rfl) (fun L0 => v_load1 rfl rfl Try.underlying3 rfl (rd_sl e_RVote_ok eadx (rds_app (rds_c R_p)) hx108 rfl)) ?_
                  refine h_take_yes 29 rfl rfl rfl rfl rfl (by kernel_rfl) (by kernel_rfl) (by kernel_rfl) (fun L0 => v_fieldAddr (q := ⟨b1, 7, none⟩) rfl rfl Try.underlying35 rfl ti33 rfl) ?_
                  refine h_take_yes 30 rfl rfl rfl rfl rfl (by kernel_rfl) (by kernel_rfl) (by kernel_rfl) (fun L0 => v_load1 rfl rfl Try.underlying33 rfl (rd_mem 0 rfl rfl)) ?_
                  refine h_take_yes 31 rfl rfl rfl rfl rfl (by kernel_rfl) (by kernel_rfl) (by kernel_rfl) (fun L0 => v_move rfl rfl) ?_
                  refine h_take_yes 32 rfl rfl rfl rfl rfl (by kernel_rfl) (by kernel_rfl) (by kernel_rfl) (fun L0 => v_indexK e_RVote_ok eadx rfl rfl rfl Try.underlying33 (by omega) (by omega)) ?_
                  obtain ⟨x114, hx114⟩ : ∃ x, (p.f_Votes.xs)[((i : Int)).toNat]? = some x := ⟨_, List.getElem?_eq_getElem (by omega)⟩
                  have e114 : x114 = x85 := by rw [hx85] at hx114; exact (Option.some.inj hx114).symm
                  have e114' : x114.f_Slot = x85.f_Slot := by rw [e114]
                  refine h_take_yes 33 rfl rfl rfl rfl rfl (by kernel_rfl) (by kernel_rfl) (by kernel_rfl) (fun L0 => v_fieldAddr rfl rfl Try.underlying58 rfl ti3 (Addr.add_add' _ _ _)) ?_
                  refine h_take_yes 34 rfl rfl rfl rfl rfl (by kernel_rfl) (by kernel_rfl) (by kernel_rfl) (fun L0 => v_load1 rfl rfl Try.underlying3 rfl (rd_sl e_RVote_ok eadx (rds_app (rds_c R_p)) hx114 rfl)) ?_
                  refine h_take_yes 35 rfl rfl rfl rfl rfl (by kernel_rfl) (by kernel_rfl) (by kernel_rfl) (fun L0 => v_bin rfl rfl rfl b_geq) ?_
                  refine h_take_yes 36 rfl rfl rfl rfl rfl (by kernel_rfl) (by kernel_rfl) (by kernel_rfl) (fun L0 => v_pick_true rfl rfl rfl) ?_
                  refine h_take 37 rfl rfl (by kernel_rfl) (by kernel_rfl) (by kernel_rfl) (fun L0 => v_pick_false rfl rfl rfl) ?_
                  refine h_done (by kernel_rfl) ?_
                  refine q_conv (L' := blk b1 (.cells #[.int .i64 p.f_Kind, .int .i64 p.f_From, .int .i64 p.f_To, .int .i64 p.f_Group, .int .i64 p.f_Slot, .int .u64 p.f_Ballot, .string p.f_Value, .slice p.f_Votes.a (p.f_Votes.xs).length p.f_Votes.c] 35 (0, 0)) :: F) (fun w S => S.perm List.perm_append_comm) ?_
                  refine q_then ?_
                  refine c_cond rfl (fun h24 => ?_) (fun h24 => ?_)
                  · -- h24T
                   have h24b := h24
                   try simp only [decide_eq_true_eq] at h24
                   refine c_seq ?_
                   have hno : ¬ RVotesTo p.f_Votes.xs p.f_Votes.xs.length := by first | exact rvotesTo_no hx85 (by omega) | exact rvotesTo_no2 (by omega) hx108 hx85 (by omega)
                   refine c_region ?_
                   refine o_assign rfl rfl ?_
                   refine l_nil ?_
                   refine q_then ?_
                   refine c_ret ?_
                   refine q_block_ret ?_
                   refine q_pass_ret ?_
                   refine q_pass_ret ?_
                   refine q_block_ret ?_
                   refine q_pass_ret ?_
                   refine q_conv (fun w S => S.tail) ?_
                   exact f_ret (r_one rfl rfl) (⟨by first | exact vfalse (by unfold RightM; grind) | exact vtrue (by unfold RightM; grind), rfl⟩) (fun w S => S)
                  · -- h24F
                   have h24b := h24
                   try simp only [decide_eq_false_iff_not, Int.not_lt, Int.not_le] at h24
                   refine c_skip ?_
                   refine q_block ?_
                   refine q_then ?_
                   refine c_region ?_
                   refine o_move rfl rfl ?_
                   refine o_bin rfl rfl rfl (b_add (wrap_i64 (by omega) (by omega))) ?_
                   refine o_assign rfl rfl ?_
                   refine l_nil ?_
                   exact q_round (i + 1) (by exact ⟨by omega, rvotesTo_on hv hx85 (by omega) (by omega) (by omega) (fun j u hj hu => by first | omega | (have h9 := hx108; rw [show ((i : Int) - 1).toNat = j by omega, hu] at h9; cases h9; omega))⟩) (by (try dsimp only); omega) ⟨(by first | rfl | exact vint (by omega)), (by first | rfl | exact vint (by omega)), trivial⟩ (fun w S => S)
                 · -- h23F
                  have h23b := h23
                  try simp only [decide_eq_false_iff_not, Int.not_lt, Int.not_le] at h23
                  refine h_take_no 22 rfl rfl rfl rfl rfl (by kernel_rfl) (by kernel_rfl) (by kernel_rfl) ?_
                  refine h_take_no 23 rfl rfl rfl rfl rfl (by kernel_rfl) (by kernel_rfl) (by kernel_rfl) ?_
                  refine h_take_no 24 rfl rfl rfl rfl rfl (by kernel_rfl) (by kernel_rfl) (by kernel_rfl) ?_
                  refine h_take_no 25 rfl rfl rfl rfl rfl (by kernel_rfl) (by kernel_rfl) (by kernel_rfl) ?_
                  refine h_take_no 26 rfl rfl rfl rfl rfl (by kernel_rfl) (by kernel_rfl) (by kernel_rfl) ?_
                  refine h_take_no 27 rfl rfl rfl rfl rfl (by kernel_rfl) (by kernel_rfl) (by kernel_rfl) ?_
                  refine h_take_no 28 rfl rfl rfl rfl rfl (by kernel_rfl) (by kernel_rfl) (by kernel_rfl) ?_
                  refine h_take_no 29 rfl rfl rfl rfl rfl (by kernel_rfl) (by kernel_rfl) (by kernel_rfl) ?_
                  refine h_take_no 30 rfl rfl rfl rfl rfl (by kernel_rfl) (by kernel_rfl) (by kernel_rfl) ?_
                  refine h_take_no 31 rfl rfl rfl rfl rfl (by kernel_rfl) (by kernel_rfl) (by kernel_rfl) ?_
                  refine h_take_no 32 rfl rfl rfl rfl rfl (by kernel_rfl) (by kernel_rfl) (by kernel_rfl) ?_
                  refine h_take_no 33 rfl rfl rfl rfl rfl (by kernel_rfl) (by kernel_rfl) (by kernel_rfl) ?_
                  refine h_take_no 34 rfl rfl rfl rfl rfl (by kernel_rfl) (by kernel_rfl) (by kernel_rfl) ?_
                  refine h_take_no 35 rfl rfl rfl rfl rfl (by kernel_rfl) (by kernel_rfl) (by kernel_rfl) ?_
                  refine h_take_yes 36 rfl rfl rfl rfl rfl (by kernel_rfl) (by kernel_rfl) (by kernel_rfl) (fun L0 => v_pick_false rfl rfl rfl) ?_
                  refine h_take 37 rfl rfl (by kernel_rfl) (by kernel_rfl) (by kernel_rfl) (fun L0 => v_pick_false rfl rfl rfl) ?_
                  refine h_done (by kernel_rfl) ?_
                  refine q_conv (L' := blk b1 (.cells #[.int .i64 p.f_Kind, .int .i64 p.f_From, .int .i64 p.f_To, .int .i64 p.f_Group, .int .i64 p.f_Slot, .int .u64 p.f_Ballot, .string p.f_Value, .slice p.f_Votes.a (p.f_Votes.xs).length p.f_Votes.c] 35 (0, 0)) :: F) (fun w S => S.perm List.perm_append_comm) ?_
                  refine q_then ?_
                  refine c_false rfl ?_
                  refine c_skip ?_
                  refine q_block ?_
                  refine q_then ?_
                  refine c_region ?_
                  refine o_move rfl rfl ?_
                  refine o_bin rfl rfl rfl (b_add (wrap_i64 (by omega) (by omega))) ?_
                  refine o_assign rfl rfl ?_
                  refine l_nil ?_
                  exact q_round (i + 1) (by exact ⟨by omega, rvotesTo_on hv hx85 (by omega) (by omega) (by omega) (fun j u hj hu => by first | omega | (have h9 := hx108; rw [show ((i : Int) - 1).toNat = j by omega, hu] at h9; cases h9; omega))⟩) (by (try dsimp only); omega) ⟨(by first | rfl | exact vint (by omega)), (by first | rfl | exact vint (by omega)), trivial⟩ (fun w S => S)
              · -- h20F
               have h20b := h20
               try simp only [decide_eq_false_iff_not, Int.not_lt, Int.not_le] at h20
               refine c_exit ?_
               refine q_pass_exit ?_
               refine q_pass_exit ?_
               refine q_hit ?_
               refine q_then ?_
               refine c_seq ?_
               have hyes : RVotesTo p.f_Votes.xs p.f_Votes.xs.length := by rw [show p.f_Votes.xs.length = i by omega]; exact hv
               refine c_region ?_
               refine o_assign rfl rfl ?_
               refine l_nil ?_
               refine q_then ?_
               refine c_ret ?_
               refine q_conv (fun w S => S.tail) ?_
               exact f_ret (r_one rfl rfl) (⟨by first | exact vfalse (by unfold RightM; grind) | exact vtrue (by unfold RightM; grind), rfl⟩) (fun w S => S)
           · -- h11F
            have h11b := h11
            try simp only [Bool.not_eq_false', decide_eq_true_eq] at h11
            refine o_no rfl rfl rfl rfl ?_
            refine o_no rfl rfl rfl rfl ?_
            refine o_no rfl rfl rfl rfl ?_
            refine o_pick_false rfl rfl rfl ?_
            refine l_nil ?_
            refine q_then ?_
            refine c_false rfl ?_
            refine c_skip ?_
            refine q_then ?_
            refine c_seq ?_
            refine c_seq ?_
            refine c_region ?_
            refine o_fieldAddr (q := ⟨b1, 7, none⟩) rfl rfl Try.underlying35 rfl ti33 rfl ?_
            refine o_load1 rfl rfl Try.underlying33 rfl (rd_mem 0 rfl rfl) ?_
            refine o_len rfl rfl Try.underlying33 ?_
            refine o_bin rfl rfl rfl b_gtr ?_
            refine o_move rfl rfl ?_
            refine l_split (t := 70) rfl (fun h25 => ?_) (fun h25 => ?_)
            · -- h25T
             have h25b := h25
             try simp only [decide_eq_true_eq] at h25
             refine o_yes rfl rfl rfl ?_
             refine o_fieldAddr (q := ⟨b1, 0, none⟩) rfl rfl Try.underlying35 rfl ti3 rfl ?_
             refine o_yes rfl rfl rfl ?_
             refine o_load1 rfl rfl Try.underlying3 rfl (rd_mem 0 rfl rfl) ?_
             refine o_yes rfl rfl rfl ?_
             refine o_bin rfl rfl rfl b_neq ?_
             refine o_pick_true rfl rfl rfl ?_
             refine l_nil ?_
             refine q_then ?_
             refine c_cond rfl (fun h26 => ?_) (fun h26 => ?_)
             · -- h26T
              have h26b := h26
              try simp only [Bool.not_eq_true', decide_eq_false_iff_not, Int.not_lt, Int.not_le] at h26
              refine c_seq ?_
              refine c_region ?_
              refine o_assign rfl rfl ?_
              refine l_nil ?_
              refine q_then ?_
              refine c_ret ?_
              refine q_pass_ret ?_
              refine q_conv (fun w S => S.tail) ?_
              exact f_ret (r_one rfl rfl) (⟨by first | exact vfalse (by unfold RightM; grind) | exact vtrue (by unfold RightM; grind), rfl⟩) (fun w S => S)
             · -- h26F
              have h26b := h26
              try simp only [Bool.not_eq_false', decide_eq_true_eq] at h26
              refine c_skip ?_
              refine q_then ?_
              refine c_seq ?_
              refine c_seq ?_
              refine c_region ?_
              refine o_assign rfl rfl ?_
              refine l_nil ?_
              refine q_then ?_
              refine c_block ?_
              refine c_loop (α := Nat) (fun z => [(1, .pointer (some ⟨b1, 0, none⟩)), (3, .int .i64 (z : Int))]) (fun z => blk b1 (.cells #[.int .i64 p.f_Kind, .int .i64 p.f_From, .int .i64 p.f_To, .int .i64 p.f_Group, .int .i64 p.f_Slot, .int .u64 p.f_Ballot, .string p.f_Value, .slice p.f_Votes.a (p.f_Votes.xs).length p.f_Votes.c] 35 (0, 0)) :: F) (fun z => z ≤ p.f_Votes.xs.length ∧ RVotesTo p.f_Votes.xs z) (fun z => p.f_Votes.xs.length - z) (0) (by exact ⟨Nat.zero_le _, rvotesTo_0⟩) ⟨(by first | rfl | exact vint (by omega)), (by first | rfl | exact vint (by omega)), trivial⟩ (fun w S => S) ?_
              rintro i ⟨hi, hv⟩
              try dsimp only at *
              refine c_seq ?_
              refine c_seq ?_
              refine c_region ?_
              refine o_move rfl rfl ?_
              refine o_fieldAddr (q := ⟨b1, 7, none⟩) rfl rfl Try.underlying35 rfl ti33 rfl ?_
              refine o_load1 rfl rfl Try.underlying33 rfl (rd_mem 0 rfl rfl) ?_
              refine o_len rfl rfl Try.underlying33 ?_
              refine o_bin rfl rfl rfl b_lss ?_
              refine l_nil ?_
              refine q_then ?_
              refine c_cond rfl (fun h27 => ?_) (fun h27 => ?_)
              · -- h27T
               have h27b := h27
               try simp only [decide_eq_true_eq] at h27
               refine c_skip ?_
               refine q_then ?_
               refine c_seq ?_
               refine c_block ?_
               refine c_seq ?_
               refine c_fact (p := ∃ ad, p.f_Votes.a = some ad) (rds_some (e := e_RVote) (xs := p.f_Votes.xs) (rds_c R_p) (by intro h0; have h00 := congrArg List.length h0; simp only [List.length_nil] at h00; omega)) ?_
               rintro ⟨adx, eadx⟩
               refine c_heldF [] (blk b1 (.cells #[.int .i64 p.f_Kind, .int .i64 p.f_From, .int .i64 p.f_To, .int .i64 p.f_Group, .int .i64 p.f_Slot, .int .u64 p.f_Ballot, .string p.f_Value, .slice p.f_Votes.a (p.f_Votes.xs).length p.f_Votes.c] 35 (0, 0)) :: F) (by kernel_rfl) ?_
               refine h_take 0 rfl rfl (by kernel_rfl) (by kernel_rfl) (by kernel_rfl) (fun L0 => v_fieldAddr (q := ⟨b1, 7, none⟩) rfl rfl Try.underlying35 rfl ti33 rfl) ?_
               refine h_take 1 rfl rfl (by kernel_rfl) (by kernel_rfl) (by kernel_rfl) (fun L0 => v_load1 rfl rfl Try.underlying33 rfl (rd_mem 0 rfl rfl)) ?_
               refine h_take 2 rfl rfl (by kernel_rfl) (by kernel_rfl) (by kernel_rfl) (fun L0 => v_move rfl rfl) ?_
               refine h_take 3 rfl rfl (by kernel_rfl) (by kernel_rfl) (by kernel_rfl) (fun L0 => v_indexK e_RVote_ok eadx rfl rfl rfl Try.underlying33 (by omega) (by omega)) ?_
               obtain ⟨x85, hx85⟩ : ∃ x, (p.f_Votes.xs)[((i : Int)).toNat]? = some x := ⟨_, List.getElem?_eq_getElem (by omega)⟩
               refine h_take 4 rfl rfl (by kernel_rfl) (by kernel_rfl) (by kernel_rfl) (fun L0 => v_fieldAddr rfl rfl Try.underlying58 rfl ti3 (Addr.add_add' _ _ _)) ?_
               refine h_take 5 rfl rfl (by kernel_rfl) (by kernel_rfl) (by kernel_rfl) (fun L0 => v_load1 rfl rfl Try.underlying3 rfl (rd_sl e_RVote_ok eadx (rds_app (rds_c R_p)) hx85 rfl)) ?_
               refine h_one 6 rfl (by kernel_rfl) ?_
               refine l_conv (L' := blk b1 (.cells #[.int .i64 p.f_Kind, .int .i64 p.f_From, .int .i64 p.f_To, .int .i64 p.f_Group, .int .i64 p.f_Slot, .int .u64 p.f_Ballot, .string p.f_Value, .slice p.f_Votes.a (p.f_Votes.xs).length p.f_Votes.c] 35 (0, 0)) :: F) (fun w S => S.perm List.perm_append_comm) ?_
               refine o_call rfl cal38 rfl (rwithin_ (n := x85.f_Slot) (k := 63)) ?_
               rintro _ _ ⟨rfl, rfl⟩
               refine l_nil ?_
               refine q_conv (L' := (blk b1 (.cells #[.int .i64 p.f_Kind, .int .i64 p.f_From, .int .i64 p.f_To, .int .i64 p.f_Group, .int .i64 p.f_Slot, .int .u64 p.f_Ballot, .string p.f_Value, .slice p.f_Votes.a (p.f_Votes.xs).length p.f_Votes.c] 35 (0, 0)) :: F) ++ []) (fun w S => S.perm (List.perm_append_comm (l₁ := []) (l₂ := blk b1 (.cells #[.int .i64 p.f_Kind, .int .i64 p.f_From, .int .i64 p.f_To, .int .i64 p.f_Group, .int .i64 p.f_Slot, .int .u64 p.f_Ballot, .string p.f_Value, .slice p.f_Votes.a (p.f_Votes.xs).length p.f_Votes.c] 35 (0, 0)) :: F))) ?_
               refine h_next ?_
               refine h_take 7 rfl rfl (by kernel_rfl) (by kernel_rfl) (by kernel_rfl) (fun L0 => v_not rfl rfl) ?_
               refine h_take 8 rfl rfl (by kernel_rfl) (by kernel_rfl) (by kernel_rfl) (fun L0 => v_move rfl rfl) ?_
               refine h_split (t := 90) rfl (fun h28 => ?_) (fun h28 => ?_)
               · -- h28T
                have h28b := h28
                try simp only [decide_eq_true_eq, decide_eq_false_iff_not, Bool.not_eq_eq_eq_not, Bool.not_true, Bool.not_false, Bool.not_eq_true', Bool.not_eq_false', Int.not_lt, Int.not_le, Bool.or_eq_true, Bool.and_eq_true] at h28
                refine h_take_no 9 rfl rfl rfl rfl rfl (by kernel_rfl) (by kernel_rfl) (by kernel_rfl) ?_
                refine h_take_no 10 rfl rfl rfl rfl rfl (by kernel_rfl) (by kernel_rfl) (by kernel_rfl) ?_
                refine h_take_no 11 rfl rfl rfl rfl rfl (by kernel_rfl) (by kernel_rfl) (by kernel_rfl) ?_
                refine h_take_no 12 rfl rfl rfl rfl rfl (by kernel_rfl) (by kernel_rfl) (by kernel_rfl) ?_
                refine h_take_no 13 rfl rfl rfl rfl rfl (by kernel_rfl) (by kernel_rfl) (by kernel_rfl) ?_
                refine h_take_no 14 rfl rfl rfl rfl rfl (by kernel_rfl) (by kernel_rfl) (by kernel_rfl) ?_
                refine h_take_no 15 rfl rfl rfl rfl rfl (by kernel_rfl) (by kernel_rfl) (by kernel_rfl) ?_
                refine h_take_no 16 rfl rfl rfl rfl rfl (by kernel_rfl) (by kernel_rfl) (by kernel_rfl) ?_
                refine h_take 17 rfl rfl (by kernel_rfl) (by kernel_rfl) (by kernel_rfl) (fun L0 => v_pick_true rfl rfl rfl) ?_
                refine h_take 18 rfl rfl (by kernel_rfl) (by kernel_rfl) (by kernel_rfl) (fun L0 => v_move rfl rfl) ?_
                refine h_take_no 19 rfl rfl rfl rfl rfl (by kernel_rfl) (by kernel_rfl) (by kernel_rfl) ?_
                refine h_take_no 20 rfl rfl rfl rfl rfl (by kernel_rfl) (by kernel_rfl) (by kernel_rfl) ?_
                refine h_take_no 21 rfl rfl rfl rfl rfl (by kernel_rfl) (by kernel_rfl) (by kernel_rfl) ?_
                refine h_take_no 22 rfl rfl rfl rfl rfl (by kernel_rfl) (by kernel_rfl) (by kernel_rfl) ?_
                refine h_take_no 23 rfl rfl rfl rfl rfl (by kernel_rfl) (by kernel_rfl) (by kernel_rfl) ?_
                refine h_take_no 24 rfl rfl rfl rfl rfl (by kernel_rfl) (by kernel_rfl) (by kernel_rfl) ?_
                refine h_take_no 25 rfl rfl rfl rfl rfl (by kernel_rfl) (by kernel_rfl) (by kernel_rfl) ?_
                refine h_take_no 26 rfl rfl rfl rfl rfl (by kernel_rfl) (by kernel_rfl) (by kernel_rfl) ?_
                refine h_take_no 27 rfl rfl rfl rfl rfl (by kernel_rfl) (by kernel_rfl) (by kernel_rfl) ?_
                refine h_take_no 28 rfl rfl rfl rfl rfl (by kernel_rfl) (by kernel_rfl) (by kernel_rfl) ?_
                refine h_take_no 29 rfl rfl rfl rfl rfl (by kernel_rfl) (by kernel_rfl) (by kernel_rfl) ?_
                refine h_take_no 30 rfl rfl rfl rfl rfl (by kernel_rfl) (by kernel_rfl) (by kernel_rfl) ?_
                refine h_take_no 31 rfl rfl rfl rfl rfl (by kernel_rfl) (by kernel_rfl) (by kernel_rfl) ?_
                refine h_take_no 32 rfl rfl rfl rfl rfl (by kernel_rfl) (by kernel_rfl) (by kernel_rfl) ?_
                refine h_take_no 33 rfl rfl rfl rfl rfl (by kernel_rfl) (by kernel_rfl) (by kernel_rfl) ?_
                refine h_take_no 34 rfl rfl rfl rfl rfl (by kernel_rfl) (by kernel_rfl) (by kernel_rfl) ?_
                refine h_take_no 35 rfl rfl rfl rfl rfl (by kernel_rfl) (by kernel_rfl) (by kernel_rfl) ?_
                refine h_take_no 36 rfl rfl rfl rfl rfl (by kernel_rfl) (by kernel_rfl) (by kernel_rfl) ?_
                refine h_take 37 rfl rfl (by kernel_rfl) (by kernel_rfl) (by kernel_rfl) (fun L0 => v_pick_true rfl rfl rfl) ?_
                refine h_done (by kernel_rfl) ?_
                refine q_conv (L' := blk b1 (.cells #[.int .i64 p.f_Kind, .int .i64 p.f_From, .int .i64 p.f_To, .int .i64 p.f_Group, .int .i64 p.f_Slot, .int .u64 p.f_Ballot, .string p.f_Value, .slice p.f_Votes.a (p.f_Votes.xs).length p.f_Votes.c] 35 (0, 0)) :: F) (fun w S => S.perm List.perm_append_comm) ?_
                refine q_then ?_
                refine c_true rfl ?_
                refine c_seq ?_
                have hno : ¬ RVotesTo p.f_Votes.xs p.f_Votes.xs.length := by first | exact rvotesTo_no hx85 (by omega) | exact rvotesTo_no2 (by omega) hx108 hx85 (by omega)
                refine c_region ?_
                refine o_assign rfl rfl ?_
                refine l_nil ?_
                refine q_then ?_
                refine c_ret ?_
                refine q_block_ret ?_
                refine q_pass_ret ?_
                refine q_pass_ret ?_
                refine q_block_ret ?_
                refine q_pass_ret ?_
                refine q_conv (fun w S => S.tail) ?_
                exact f_ret (r_one rfl rfl) (⟨by first | exact vfalse (by unfold RightM; grind) | exact vtrue (by unfold RightM; grind), rfl⟩) (fun w S => S)
               · -- h28F
                have h28b := h28
                try simp only [decide_eq_true_eq, decide_eq_false_iff_not, Bool.not_eq_eq_eq_not, Bool.not_true, Bool.not_false, Bool.not_eq_true', Bool.not_eq_false', Int.not_lt, Int.not_le, Bool.or_eq_true, Bool.and_eq_true] at h28
                refine h_take_yes 9 rfl rfl rfl rfl rfl (by kernel_rfl) (by kernel_rfl) (by kernel_rfl) (fun L0 => v_fieldAddr (q := ⟨b1, 7, none⟩) rfl rfl Try.underlying35 rfl ti33 rfl) ?_
                refine h_take_yes 10 rfl rfl rfl rfl rfl (by kernel_rfl) (by kernel_rfl) (by kernel_rfl) (fun L0 => v_load1 rfl rfl Try.underlying33 rfl (rd_mem 0 rfl rfl)) ?_
                refine h_take_yes 11 rfl rfl rfl rfl rfl (by kernel_rfl) (by kernel_rfl) (by kernel_rfl) (fun L0 => v_move rfl rfl) ?_
                refine h_take_yes 12 rfl rfl rfl rfl rfl (by kernel_rfl) (by kernel_rfl) (by kernel_rfl) (fun L0 => v_indexK e_RVote_ok eadx rfl rfl rfl Try.underlying33 (by omega) (by omega)) ?_
                obtain ⟨x94, hx94⟩ : ∃ x, (p.f_Votes.xs)[((i : Int)).toNat]? = some x := ⟨_, List.getElem?_eq_getElem (by omega)⟩
                have e94 : x94 = x85 := by rw [hx85] at hx94; exact (Option.some.inj hx94).symm
                have e94' : x94.f_Value.size = x85.f_Value.size := by rw [e94]
                refine h_take_yes 13 rfl rfl rfl rfl rfl (by kernel_rfl) (by kernel_rfl) (by kernel_rfl) (fun L0 => v_fieldAddr rfl rfl Try.underlying58 rfl ti9 (Addr.add_add' _ _ _)) ?_
                refine h_take_yes 14 rfl rfl rfl rfl rfl (by kernel_rfl) (by kernel_rfl) (by kernel_rfl) (fun L0 => v_load1 rfl rfl Try.underlying9 rfl (rd_sl e_RVote_ok eadx (rds_app (rds_c R_p)) hx94 rfl)) ?_
                refine h_take_yes 15 rfl rfl rfl rfl rfl (by kernel_rfl) (by kernel_rfl) (by kernel_rfl) (fun L0 => v_lenStr rfl rfl Try.underlying9) ?_
                refine h_take_yes 16 rfl rfl rfl rfl rfl (by kernel_rfl) (by kernel_rfl) (by kernel_rfl) (fun L0 => v_bin rfl rfl rfl b_gtr) ?_
                refine h_take 17 rfl rfl (by kernel_rfl) (by kernel_rfl) (by kernel_rfl) (fun L0 => v_pick_false rfl rfl rfl) ?_
                refine h_take 18 rfl rfl (by kernel_rfl) (by kernel_rfl) (by kernel_rfl) (fun L0 => v_move rfl rfl) ?_
                refine h_split (t := 100) rfl (fun h29 => ?_) (fun h29 => ?_)
                · -- h29T
                 have h29b := h29
                 try simp only [decide_eq_true_eq] at h29
                 refine h_take_no 19 rfl rfl rfl rfl rfl (by kernel_rfl) (by kernel_rfl) (by kernel_rfl) ?_
                 refine h_take_no 20 rfl rfl rfl rfl rfl (by kernel_rfl) (by kernel_rfl) (by kernel_rfl) ?_
                 refine h_take_no 21 rfl rfl rfl rfl rfl (by kernel_rfl) (by kernel_rfl) (by kernel_rfl) ?_
                 refine h_take_no 22 rfl rfl rfl rfl rfl (by kernel_rfl) (by kernel_rfl) (by kernel_rfl) ?_
                 refine h_take_no 23 rfl rfl rfl rfl rfl (by kernel_rfl) (by kernel_rfl) (by kernel_rfl) ?_
                 refine h_take_no 24 rfl rfl rfl rfl rfl (by kernel_rfl) (by kernel_rfl) (by kernel_rfl) ?_
                 refine h_take_no 25 rfl rfl rfl rfl rfl (by kernel_rfl) (by kernel_rfl) (by kernel_rfl) ?_
                 refine h_take_no 26 rfl rfl rfl rfl rfl (by kernel_rfl) (by kernel_rfl) (by kernel_rfl) ?_
                 refine h_take_no 27 rfl rfl rfl rfl rfl (by kernel_rfl) (by kernel_rfl) (by kernel_rfl) ?_
                 refine h_take_no 28 rfl rfl rfl rfl rfl (by kernel_rfl) (by kernel_rfl) (by kernel_rfl) ?_
                 refine h_take_no 29 rfl rfl rfl rfl rfl (by kernel_rfl) (by kernel_rfl) (by kernel_rfl) ?_
                 refine h_take_no 30 rfl rfl rfl rfl rfl (by kernel_rfl) (by kernel_rfl) (by kernel_rfl) ?_
                 refine h_take_no 31 rfl rfl rfl rfl rfl (by kernel_rfl) (by kernel_rfl) (by kernel_rfl) ?_
                 refine h_take_no 32 rfl rfl rfl rfl rfl (by kernel_rfl) (by kernel_rfl) (by kernel_rfl) ?_
                 refine h_take_no 33 rfl rfl rfl rfl rfl (by kernel_rfl) (by kernel_rfl) (by kernel_rfl) ?_
                 refine h_take_no 34 rfl rfl rfl rfl rfl (by kernel_rfl) (by kernel_rfl) (by kernel_rfl) ?_
                 refine h_take_no 35 rfl rfl rfl rfl rfl (by kernel_rfl) (by kernel_rfl) (by kernel_rfl) ?_
                 refine h_take_no 36 rfl rfl rfl rfl rfl (by kernel_rfl) (by kernel_rfl) (by kernel_rfl) ?_
                 refine h_take 37 rfl rfl (by kernel_rfl) (by kernel_rfl) (by kernel_rfl) (fun L0 => v_pick_true rfl rfl rfl) ?_
                 refine h_done (by kernel_rfl) ?_
                 refine q_conv (L' := blk b1 (.cells #[.int .i64 p.f_Kind, .int .i64 p.f_From, .int .i64 p.f_To, .int .i64 p.f_Group, .int .i64 p.f_Slot, .int .u64 p.f_Ballot, .string p.f_Value, .slice p.f_Votes.a (p.f_Votes.xs).length p.f_Votes.c] 35 (0, 0)) :: F) (fun w S => S.perm List.perm_append_comm) ?_
                 refine q_then ?_
                 refine c_true rfl ?_
                 refine c_seq ?_
                 have hno : ¬ RVotesTo p.f_Votes.xs p.f_Votes.xs.length := by first | exact rvotesTo_no hx85 (by omega) | exact rvotesTo_no2 (by omega) hx108 hx85 (by omega)
                 refine c_region ?_
                 refine o_assign rfl rfl ?_
                 refine l_nil ?_
                 refine q_then ?_
                 refine c_ret ?_
                 refine q_block_ret ?_
                 refine q_pass_ret ?_
                 refine q_pass_ret ?_
                 refine q_block_ret ?_
                 refine q_pass_ret ?_
                 refine q_conv (fun w S => S.tail) ?_
                 exact f_ret (r_one rfl rfl) (⟨by first | exact vfalse (by unfold RightM; grind) | exact vtrue (by unfold RightM; grind), rfl⟩) (fun w S => S)
                · -- h29F
                 have h29b := h29
                 try simp only [decide_eq_false_iff_not, Int.not_lt, Int.not_le] at h29
                 refine h_take_yes 19 rfl rfl rfl rfl rfl (by kernel_rfl) (by kernel_rfl) (by kernel_rfl) (fun L0 => v_move rfl rfl) ?_
                 refine h_take_yes 20 rfl rfl rfl rfl rfl (by kernel_rfl) (by kernel_rfl) (by kernel_rfl) (fun L0 => v_bin rfl rfl rfl b_gtr) ?_
                 refine h_take_yes 21 rfl rfl rfl rfl rfl (by kernel_rfl) (by kernel_rfl) (by kernel_rfl) (fun L0 => v_move rfl rfl) ?_
                 refine h_split (t := 103) rfl (fun h30 => ?_) (fun h30 => ?_)
                 · -- h30T
                  have h30b := h30
                  try simp only [decide_eq_true_eq] at h30
                  refine h_take_yes 22 rfl rfl rfl rfl rfl (by kernel_rfl) (by kernel_rfl) (by kernel_rfl) (fun L0 => v_fieldAddr (q := ⟨b1, 7, none⟩) rfl rfl Try.underlying35 rfl ti33 rfl) ?_
                  refine h_take_yes 23 rfl rfl rfl rfl rfl (by kernel_rfl) (by kernel_rfl) (by kernel_rfl) (fun L0 => v_load1 rfl rfl Try.underlying33 rfl (rd_mem 0 rfl rfl)) ?_
                  refine h_take_yes 24 rfl rfl rfl rfl rfl (by kernel_rfl) (by kernel_rfl) (by kernel_rfl) (fun L0 => v_move rfl rfl) ?_
                  refine h_take_yes 25 rfl rfl rfl rfl rfl (by kernel_rfl) (by kernel_rfl) (by kernel_rfl) (fun L0 => v_bin rfl rfl rfl (b_sub (wrap_i64 (by omega) (by omega)))) ?_
                  refine h_take_yes 26 rfl rfl rfl rfl rfl (by kernel_rfl) (by kernel_rfl) (by kernel_rfl) (fun L0 => v_indexK e_RVote_ok eadx rfl rfl rfl Try.underlying33 (by omega) (by omega)) ?_
                  obtain ⟨x108, hx108⟩ : ∃ x, (p.f_Votes.xs)[(((i : Int) - 1)).toNat]? = some x := ⟨_, List.getElem?_eq_getElem (by omega)⟩
                  refine h_take_yes 27 rfl rfl rfl rfl rfl (by kernel_rfl) (by kernel_rfl) (by kernel_rfl) (fun L0 => v_fieldAddr rfl rfl Try.underlying58 rfl ti3 (Addr.add_add' _ _ _)) ?_
                  refine h_take_yes 28 rfl rfl rfl rfl rfl (by kernel_rfl) (by kernel_rfl) (by kernel_rfl) (fun L0 => v_load1 rfl rfl Try.underlying3 rfl (rd_sl e_RVote_ok eadx (rds_app (rds_c R_p)) hx108 rfl)) ?_
                  refine h_take_yes 29 rfl rfl rfl rfl rfl (by kernel_rfl) (by kernel_rfl) (by kernel_rfl) (fun L0 => v_fieldAddr (q := ⟨b1, 7, none⟩) rfl rfl Try.underlying35 rfl ti33 rfl) ?_
                  refine h_take_yes 30 rfl rfl rfl rfl rfl (by kernel_rfl) (by kernel_rfl) (by kernel_rfl) (fun L0 => v_load1 rfl rfl Try.underlying33 rfl (rd_mem 0 rfl rfl)) ?_
                  refine h_take_yes 31 rfl rfl rfl rfl rfl (by kernel_rfl) (by kernel_rfl) (by kernel_rfl) (fun L0 => v_move rfl rfl) ?_
                  refine h_take_yes 32 rfl rfl rfl rfl rfl (by kernel_rfl) (by kernel_rfl) (by kernel_rfl) (fun L0 => v_indexK e_RVote_ok eadx rfl rfl rfl Try.underlying33 (by omega) (by omega)) ?_
                  obtain ⟨x114, hx114⟩ : ∃ x, (p.f_Votes.xs)[((i : Int)).toNat]? = some x := ⟨_, List.getElem?_eq_getElem (by omega)⟩
                  have e114 : x114 = x85 := by rw [hx85] at hx114; exact (Option.some.inj hx114).symm
                  have e114' : x114.f_Slot = x85.f_Slot := by rw [e114]
                  refine h_take_yes 33 rfl rfl rfl rfl rfl (by kernel_rfl) (by kernel_rfl) (by kernel_rfl) (fun L0 => v_fieldAddr rfl rfl Try.underlying58 rfl ti3 (Addr.add_add' _ _ _)) ?_
                  refine h_take_yes 34 rfl rfl rfl rfl rfl (by kernel_rfl) (by kernel_rfl) (by kernel_rfl) (fun L0 => v_load1 rfl rfl Try.underlying3 rfl (rd_sl e_RVote_ok eadx (rds_app (rds_c R_p)) hx114 rfl)) ?_
                  refine h_take_yes 35 rfl rfl rfl rfl rfl (by kernel_rfl) (by kernel_rfl) (by kernel_rfl) (fun L0 => v_bin rfl rfl rfl b_geq) ?_
                  refine h_take_yes 36 rfl rfl rfl rfl rfl (by kernel_rfl) (by kernel_rfl) (by kernel_rfl) (fun L0 => v_pick_true rfl rfl rfl) ?_
                  refine h_take 37 rfl rfl (by kernel_rfl) (by kernel_rfl) (by kernel_rfl) (fun L0 => v_pick_false rfl rfl rfl) ?_
                  refine h_done (by kernel_rfl) ?_
                  refine q_conv (L' := blk b1 (.cells #[.int .i64 p.f_Kind, .int .i64 p.f_From, .int .i64 p.f_To, .int .i64 p.f_Group, .int .i64 p.f_Slot, .int .u64 p.f_Ballot, .string p.f_Value, .slice p.f_Votes.a (p.f_Votes.xs).length p.f_Votes.c] 35 (0, 0)) :: F) (fun w S => S.perm List.perm_append_comm) ?_
                  refine q_then ?_
                  refine c_cond rfl (fun h31 => ?_) (fun h31 => ?_)
                  · -- h31T
                   have h31b := h31
                   try simp only [decide_eq_true_eq] at h31
                   refine c_seq ?_
                   have hno : ¬ RVotesTo p.f_Votes.xs p.f_Votes.xs.length := by first | exact rvotesTo_no hx85 (by omega) | exact rvotesTo_no2 (by omega) hx108 hx85 (by omega)
                   refine c_region ?_
                   refine o_assign rfl rfl ?_
                   refine l_nil ?_
                   refine q_then ?_
                   refine c_ret ?_
                   refine q_block_ret ?_
                   refine q_pass_ret ?_
                   refine q_pass_ret ?_
                   refine q_block_ret ?_
                   refine q_pass_ret ?_
                   refine q_conv (fun w S => S.tail) ?_
                   exact f_ret (r_one rfl rfl) (⟨by first | exact vfalse (by unfold RightM; grind) | exact vtrue (by unfold RightM; grind), rfl⟩) (fun w S => S)
                  · -- h31F
                   have h31b := h31
                   try simp only [decide_eq_false_iff_not, Int.not_lt, Int.not_le] at h31
                   refine c_skip ?_
                   refine q_block ?_
                   refine q_then ?_
                   refine c_region ?_
                   refine o_move rfl rfl ?_
                   refine o_bin rfl rfl rfl (b_add (wrap_i64 (by omega) (by omega))) ?_
                   refine o_assign rfl rfl ?_
                   refine l_nil ?_
                   exact q_round (i + 1) (by exact ⟨by omega, rvotesTo_on hv hx85 (by omega) (by omega) (by omega) (fun j u hj hu => by first | omega | (have h9 := hx108; rw [show ((i : Int) - 1).toNat = j by omega, hu] at h9; cases h9; omega))⟩) (by (try dsimp only); omega) ⟨(by first | rfl | exact vint (by omega)), (by first | rfl | exact vint (by omega)), trivial⟩ (fun w S => S)
                 · -- h30F
                  have h30b := h30
                  try simp only [decide_eq_false_iff_not, Int.not_lt, Int.not_le] at h30
                  refine h_take_no 22 rfl rfl rfl rfl rfl (by kernel_rfl) (by kernel_rfl) (by kernel_rfl) ?_
                  refine h_take_no 23 rfl rfl rfl rfl rfl (by kernel_rfl) (by kernel_rfl) (by kernel_rfl) ?_
                  refine h_take_no 24 rfl rfl rfl rfl rfl (by kernel_rfl) (by kernel_rfl) (by kernel_rfl) ?_
                  refine h_take_no 25 rfl rfl rfl rfl rfl (by kernel_rfl) (by kernel_rfl) (by kernel_rfl) ?_
                  refine h_take_no 26 rfl rfl rfl rfl rfl (by kernel_rfl) (by kernel_rfl) (by kernel_rfl) ?_
                  refine h_take_no 27 rfl rfl rfl rfl rfl (by kernel_rfl) (by kernel_rfl) (by kernel_rfl) ?_
                  refine h_take_no 28 rfl rfl rfl rfl rfl (by kernel_rfl) (by kernel_rfl) (by kernel_rfl) ?_
                  refine h_take_no 29 rfl rfl rfl rfl rfl (by kernel_rfl) (by kernel_rfl) (by kernel_rfl) ?_
                  refine h_take_no 30 rfl rfl rfl rfl rfl (by kernel_rfl) (by kernel_rfl) (by kernel_rfl) ?_
                  refine h_take_no 31 rfl rfl rfl rfl rfl (by kernel_rfl) (by kernel_rfl) (by kernel_rfl) ?_
                  refine h_take_no 32 rfl rfl rfl rfl rfl (by kernel_rfl) (by kernel_rfl) (by kernel_rfl) ?_
                  refine h_take_no 33 rfl rfl rfl rfl rfl (by kernel_rfl) (by kernel_rfl) (by kernel_rfl) ?_
                  refine h_take_no 34 rfl rfl rfl rfl rfl (by kernel_rfl) (by kernel_rfl) (by kernel_rfl) ?_
                  refine h_take_no 35 rfl rfl rfl rfl rfl (by kernel_rfl) (by kernel_rfl) (by kernel_rfl) ?_
                  refine h_take_yes 36 rfl rfl rfl rfl rfl (by kernel_rfl) (by kernel_rfl) (by kernel_rfl) (fun L0 => v_pick_false rfl rfl rfl) ?_
                  refine h_take 37 rfl rfl (by kernel_rfl) (by kernel_rfl) (by kernel_rfl) (fun L0 => v_pick_false rfl rfl rfl) ?_
                  refine h_done (by kernel_rfl) ?_
                  refine q_conv (L' := blk b1 (.cells #[.int .i64 p.f_Kind, .int .i64 p.f_From, .int .i64 p.f_To, .int .i64 p.f_Group, .int .i64 p.f_Slot, .int .u64 p.f_Ballot, .string p.f_Value, .slice p.f_Votes.a (p.f_Votes.xs).length p.f_Votes.c] 35 (0, 0)) :: F) (fun w S => S.perm List.perm_append_comm) ?_
                  refine q_then ?_
                  refine c_false rfl ?_
                  refine c_skip ?_
                  refine q_block ?_
                  refine q_then ?_
                  refine c_region ?_
                  refine o_move rfl rfl ?_
                  refine o_bin rfl rfl rfl (b_add (wrap_i64 (by omega) (by omega))) ?_
                  refine o_assign rfl rfl ?_
                  refine l_nil ?_
                  exact q_round (i + 1) (by exact ⟨by omega, rvotesTo_on hv hx85 (by omega) (by omega) (by omega) (fun j u hj hu => by first | omega | (have h9 := hx108; rw [show ((i : Int) - 1).toNat = j by omega, hu] at h9; cases h9; omega))⟩) (by (try dsimp only); omega) ⟨(by first | rfl | exact vint (by omega)), (by first | rfl | exact vint (by omega)), trivial⟩ (fun w S => S)
              · -- h27F
               have h27b := h27
               try simp only [decide_eq_false_iff_not, Int.not_lt, Int.not_le] at h27
               refine c_exit ?_
               refine q_pass_exit ?_
               refine q_pass_exit ?_
               refine q_hit ?_
               refine q_then ?_
               refine c_seq ?_
               have hyes : RVotesTo p.f_Votes.xs p.f_Votes.xs.length := by rw [show p.f_Votes.xs.length = i by omega]; exact hv
               refine c_region ?_
               refine o_assign rfl rfl ?_
               refine l_nil ?_
               refine q_then ?_
               refine c_ret ?_
               refine q_conv (fun w S => S.tail) ?_
               exact f_ret (r_one rfl rfl) (⟨by first | exact vfalse (by unfold RightM; grind) | exact vtrue (by unfold RightM; grind), rfl⟩) (fun w S => S)
            · -- h25F
             have h25b := h25
             try simp only [decide_eq_false_iff_not, Int.not_lt, Int.not_le] at h25
             refine o_no rfl rfl rfl rfl ?_
             refine o_no rfl rfl rfl rfl ?_
             refine o_no rfl rfl rfl rfl ?_
             refine o_pick_false rfl rfl rfl ?_
             refine l_nil ?_
             refine q_then ?_
             refine c_false rfl ?_
             refine c_skip ?_
             refine q_then ?_
             refine c_seq ?_
             refine c_seq ?_
             refine c_region ?_
             refine o_assign rfl rfl ?_
             refine l_nil ?_
             refine q_then ?_
             refine c_block ?_
             refine c_loop (α := Nat) (fun z => [(1, .pointer (some ⟨b1, 0, none⟩)), (3, .int .i64 (z : Int))]) (fun z => blk b1 (.cells #[.int .i64 p.f_Kind, .int .i64 p.f_From, .int .i64 p.f_To, .int .i64 p.f_Group, .int .i64 p.f_Slot, .int .u64 p.f_Ballot, .string p.f_Value, .slice p.f_Votes.a (p.f_Votes.xs).length p.f_Votes.c] 35 (0, 0)) :: F) (fun z => z ≤ p.f_Votes.xs.length ∧ RVotesTo p.f_Votes.xs z) (fun z => p.f_Votes.xs.length - z) (0) (by exact ⟨Nat.zero_le _, rvotesTo_0⟩) ⟨(by first | rfl | exact vint (by omega)), (by first | rfl | exact vint (by omega)), trivial⟩ (fun w S => S) ?_
             rintro i ⟨hi, hv⟩
             try dsimp only at *
             refine c_seq ?_
             refine c_seq ?_
             refine c_region ?_
             refine o_move rfl rfl ?_
             refine o_fieldAddr (q := ⟨b1, 7, none⟩) rfl rfl Try.underlying35 rfl ti33 rfl ?_
             refine o_load1 rfl rfl Try.underlying33 rfl (rd_mem 0 rfl rfl) ?_
             refine o_len rfl rfl Try.underlying33 ?_
             refine o_bin rfl rfl rfl b_lss ?_
             refine l_nil ?_
             refine q_then ?_
             refine c_cond rfl (fun h32 => ?_) (fun h32 => ?_)
             · -- h32T
              have h32b := h32
              try simp only [decide_eq_true_eq] at h32
              refine c_skip ?_
              refine q_then ?_
              refine c_seq ?_
              refine c_block ?_
              refine c_seq ?_
              refine c_fact (p := ∃ ad, p.f_Votes.a = some ad) (rds_some (e := e_RVote) (xs := p.f_Votes.xs) (rds_c R_p) (by intro h0; have h00 := congrArg List.length h0; simp only [List.length_nil] at h00; omega)) ?_
              rintro ⟨adx, eadx⟩
              refine c_heldF [] (blk b1 (.cells #[.int .i64 p.f_Kind, .int .i64 p.f_From, .int .i64 p.f_To, .int .i64 p.f_Group, .int .i64 p.f_Slot, .int .u64 p.f_Ballot, .string p.f_Value, .slice p.f_Votes.a (p.f_Votes.xs).length p.f_Votes.c] 35 (0, 0)) :: F) (by kernel_rfl) ?_
              refine h_take 0 rfl rfl (by kernel_rfl) (by kernel_rfl) (by kernel_rfl) (fun L0 => v_fieldAddr (q := ⟨b1, 7, none⟩) rfl rfl Try.underlying35 rfl ti33 rfl) ?_
              refine h_take 1 rfl rfl (by kernel_rfl) (by kernel_rfl) (by kernel_rfl) (fun L0 => v_load1 rfl rfl Try.underlying33 rfl (rd_mem 0 rfl rfl)) ?_
              refine h_take 2 rfl rfl (by kernel_rfl) (by kernel_rfl) (by kernel_rfl) (fun L0 => v_move rfl rfl) ?_
              refine h_take 3 rfl rfl (by kernel_rfl) (by kernel_rfl) (by kernel_rfl) (fun L0 => v_indexK e_RVote_ok eadx rfl rfl rfl Try.underlying33 (by omega) (by omega)) ?_
              obtain ⟨x85, hx85⟩ : ∃ x, (p.f_Votes.xs)[((i : Int)).toNat]? = some x := ⟨_, List.getElem?_eq_getElem (by omega)⟩
              refine h_take 4 rfl rfl (by kernel_rfl) (by kernel_rfl) (by kernel_rfl) (fun L0 => v_fieldAddr rfl rfl Try.underlying58 rfl ti3 (Addr.add_add' _ _ _)) ?_
              refine h_take 5 rfl rfl (by kernel_rfl) (by kernel_rfl) (by kernel_rfl) (fun L0 => v_load1 rfl rfl Try.underlying3 rfl (rd_sl e_RVote_ok eadx (rds_app (rds_c R_p)) hx85 rfl)) ?_
              refine h_one 6 rfl (by kernel_rfl) ?_
              refine l_conv (L' := blk b1 (.cells #[.int .i64 p.f_Kind, .int .i64 p.f_From, .int .i64 p.f_To, .int .i64 p.f_Group, .int .i64 p.f_Slot, .int .u64 p.f_Ballot, .string p.f_Value, .slice p.f_Votes.a (p.f_Votes.xs).length p.f_Votes.c] 35 (0, 0)) :: F) (fun w S => S.perm List.perm_append_comm) ?_
              refine o_call rfl cal38 rfl (rwithin_ (n := x85.f_Slot) (k := 63)) ?_
              rintro _ _ ⟨rfl, rfl⟩
              refine l_nil ?_
              refine q_conv (L' := (blk b1 (.cells #[.int .i64 p.f_Kind, .int .i64 p.f_From, .int .i64 p.f_To, .int .i64 p.f_Group, .int .i64 p.f_Slot, .int .u64 p.f_Ballot, .string p.f_Value, .slice p.f_Votes.a (p.f_Votes.xs).length p.f_Votes.c] 35 (0, 0)) :: F) ++ []) (fun w S => S.perm (List.perm_append_comm (l₁ := []) (l₂ := blk b1 (.cells #[.int .i64 p.f_Kind, .int .i64 p.f_From, .int .i64 p.f_To, .int .i64 p.f_Group, .int .i64 p.f_Slot, .int .u64 p.f_Ballot, .string p.f_Value, .slice p.f_Votes.a (p.f_Votes.xs).length p.f_Votes.c] 35 (0, 0)) :: F))) ?_
              refine h_next ?_
              refine h_take 7 rfl rfl (by kernel_rfl) (by kernel_rfl) (by kernel_rfl) (fun L0 => v_not rfl rfl) ?_
              refine h_take 8 rfl rfl (by kernel_rfl) (by kernel_rfl) (by kernel_rfl) (fun L0 => v_move rfl rfl) ?_
              refine h_split (t := 90) rfl (fun h33 => ?_) (fun h33 => ?_)
              · -- h33T
               have h33b := h33
               try simp only [decide_eq_true_eq, decide_eq_false_iff_not, Bool.not_eq_eq_eq_not, Bool.not_true, Bool.not_false, Bool.not_eq_true', Bool.not_eq_false', Int.not_lt, Int.not_le, Bool.or_eq_true, Bool.and_eq_true] at h33
               refine h_take_no 9 rfl rfl rfl rfl rfl (by kernel_rfl) (by kernel_rfl) (by kernel_rfl) ?_
               refine h_take_no 10 rfl rfl rfl rfl rfl (by kernel_rfl) (by kernel_rfl) (by kernel_rfl) ?_
               refine h_take_no 11 rfl rfl rfl rfl rfl (by kernel_rfl) (by kernel_rfl) (by kernel_rfl) ?_
               refine h_take_no 12 rfl rfl rfl rfl rfl (by kernel_rfl) (by kernel_rfl) (by kernel_rfl) ?_
               refine h_take_no 13 rfl rfl rfl rfl rfl (by kernel_rfl) (by kernel_rfl) (by kernel_rfl) ?_
               refine h_take_no 14 rfl rfl rfl rfl rfl (by kernel_rfl) (by kernel_rfl) (by kernel_rfl) ?_
               refine h_take_no 15 rfl rfl rfl rfl rfl (by kernel_rfl) (by kernel_rfl) (by kernel_rfl) ?_
               refine h_take_no 16 rfl rfl rfl rfl rfl (by kernel_rfl) (by kernel_rfl) (by kernel_rfl) ?_
               refine h_take 17 rfl rfl (by kernel_rfl) (by kernel_rfl) (by kernel_rfl) (fun L0 => v_pick_true rfl rfl rfl) ?_
               refine h_take 18 rfl rfl (by kernel_rfl) (by kernel_rfl) (by kernel_rfl) (fun L0 => v_move rfl rfl) ?_
               refine h_take_no 19 rfl rfl rfl rfl rfl (by kernel_rfl) (by kernel_rfl) (by kernel_rfl) ?_
               refine h_take_no 20 rfl rfl rfl rfl rfl (by kernel_rfl) (by kernel_rfl) (by kernel_rfl) ?_
               refine h_take_no 21 rfl rfl rfl rfl rfl (by kernel_rfl) (by kernel_rfl) (by kernel_rfl) ?_
               refine h_take_no 22 rfl rfl rfl rfl rfl (by kernel_rfl) (by kernel_rfl) (by kernel_rfl) ?_
               refine h_take_no 23 rfl rfl rfl rfl rfl (by kernel_rfl) (by kernel_rfl) (by kernel_rfl) ?_
               refine h_take_no 24 rfl rfl rfl rfl rfl (by kernel_rfl) (by kernel_rfl) (by kernel_rfl) ?_
               refine h_take_no 25 rfl rfl rfl rfl rfl (by kernel_rfl) (by kernel_rfl) (by kernel_rfl) ?_
               refine h_take_no 26 rfl rfl rfl rfl rfl (by kernel_rfl) (by kernel_rfl) (by kernel_rfl) ?_
               refine h_take_no 27 rfl rfl rfl rfl rfl (by kernel_rfl) (by kernel_rfl) (by kernel_rfl) ?_
               refine h_take_no 28 rfl rfl rfl rfl rfl (by kernel_rfl) (by kernel_rfl) (by kernel_rfl) ?_
               refine h_take_no 29 rfl rfl rfl rfl rfl (by kernel_rfl) (by kernel_rfl) (by kernel_rfl) ?_
               refine h_take_no 30 rfl rfl rfl rfl rfl (by kernel_rfl) (by kernel_rfl) (by kernel_rfl) ?_
               refine h_take_no 31 rfl rfl rfl rfl rfl (by kernel_rfl) (by kernel_rfl) (by kernel_rfl) ?_
               refine h_take_no 32 rfl rfl rfl rfl rfl (by kernel_rfl) (by kernel_rfl) (by kernel_rfl) ?_
               refine h_take_no 33 rfl rfl rfl rfl rfl (by kernel_rfl) (by kernel_rfl) (by kernel_rfl) ?_
               refine h_take_no 34 rfl rfl rfl rfl rfl (by kernel_rfl) (by kernel_rfl) (by kernel_rfl) ?_
               refine h_take_no 35 rfl rfl rfl rfl rfl (by kernel_rfl) (by kernel_rfl) (by kernel_rfl) ?_
               refine h_take_no 36 rfl rfl rfl rfl rfl (by kernel_rfl) (by kernel_rfl) (by kernel_rfl) ?_
               refine h_take 37 rfl rfl (by kernel_rfl) (by kernel_rfl) (by kernel_rfl) (fun L0 => v_pick_true rfl rfl rfl) ?_
               refine h_done (by kernel_rfl) ?_
               refine q_conv (L' := blk b1 (.cells #[.int .i64 p.f_Kind, .int .i64 p.f_From, .int .i64 p.f_To, .int .i64 p.f_Group, .int .i64 p.f_Slot, .int .u64 p.f_Ballot, .string p.f_Value, .slice p.f_Votes.a (p.f_Votes.xs).length p.f_Votes.c] 35 (0, 0)) :: F) (fun w S => S.perm List.perm_append_comm) ?_
               refine q_then ?_
               refine c_true rfl ?_
               refine c_seq ?_
               have hno : ¬ RVotesTo p.f_Votes.xs p.f_Votes.xs.length := by first | exact rvotesTo_no hx85 (by omega) | exact rvotesTo_no2 (by omega) hx108 hx85 (by omega)
               refine c_region ?_
               refine o_assign rfl rfl ?_
               refine l_nil ?_
               refine q_then ?_
               refine c_ret ?_
               refine q_block_ret ?_
               refine q_pass_ret ?_
               refine q_pass_ret ?_
               refine q_block_ret ?_
               refine q_pass_ret ?_
               refine q_conv (fun w S => S.tail) ?_
               exact f_ret (r_one rfl rfl) (⟨by first | exact vfalse (by unfold RightM; grind) | exact vtrue (by unfold RightM; grind), rfl⟩) (fun w S => S)
              · -- h33F
               have h33b := h33
               try simp only [decide_eq_true_eq, decide_eq_false_iff_not, Bool.not_eq_eq_eq_not, Bool.not_true, Bool.not_false, Bool.not_eq_true', Bool.not_eq_false', Int.not_lt, Int.not_le, Bool.or_eq_true, Bool.and_eq_true] at h33
               refine h_take_yes 9 rfl rfl rfl rfl rfl (by kernel_rfl) (by kernel_rfl) (by kernel_rfl) (fun L0 => v_fieldAddr (q := ⟨b1, 7, none⟩) rfl rfl Try.underlying35 rfl ti33 rfl) ?_
               refine h_take_yes 10 rfl rfl rfl rfl rfl (by kernel_rfl) (by kernel_rfl) (by kernel_rfl) (fun L0 => v_load1 rfl rfl Try.underlying33 rfl (rd_mem 0 rfl rfl)) ?_
               refine h_take_yes 11 rfl rfl rfl rfl rfl (by kernel_rfl) (by kernel_rfl) (by kernel_rfl) (fun L0 => v_move rfl rfl) ?_
               refine h_take_yes 12 rfl rfl rfl rfl rfl (by kernel_rfl) (by kernel_rfl) (by kernel_rfl) (fun L0 => v_indexK e_RVote_ok eadx rfl rfl rfl Try.underlying33 (by omega) (by omega)) ?_
               obtain ⟨x94, hx94⟩ : ∃ x, (p.f_Votes.xs)[((i : Int)).toNat]? = some x := ⟨_, List.getElem?_eq_getElem (by omega)⟩
               have e94 : x94 = x85 := by rw [hx85] at hx94; exact (Option.some.inj hx94).symm
               have e94' : x94.f_Value.size = x85.f_Value.size := by rw [e94]
               refine h_take_yes 13 rfl rfl rfl rfl rfl (by kernel_rfl) (by kernel_rfl) (by kernel_rfl) (fun L0 => v_fieldAddr rfl rfl Try.underlying58 rfl ti9 (Addr.add_add' _ _ _)) ?_
               refine h_take_yes 14 rfl rfl rfl rfl rfl (by kernel_rfl) (by kernel_rfl) (by kernel_rfl) (fun L0 => v_load1 rfl rfl Try.underlying9 rfl (rd_sl e_RVote_ok eadx (rds_app (rds_c R_p)) hx94 rfl)) ?_
               refine h_take_yes 15 rfl rfl rfl rfl rfl (by kernel_rfl) (by kernel_rfl) (by kernel_rfl) (fun L0 => v_lenStr rfl rfl Try.underlying9) ?_
               refine h_take_yes 16 rfl rfl rfl rfl rfl (by kernel_rfl) (by kernel_rfl) (by kernel_rfl) (fun L0 => v_bin rfl rfl rfl b_gtr) ?_
               refine h_take 17 rfl rfl (by kernel_rfl) (by kernel_rfl) (by kernel_rfl) (fun L0 => v_pick_false rfl rfl rfl) ?_
               refine h_take 18 rfl rfl (by kernel_rfl) (by kernel_rfl) (by kernel_rfl) (fun L0 => v_move rfl rfl) ?_
               refine h_split (t := 100) rfl (fun h34 => ?_) (fun h34 => ?_)
               · -- h34T
                have h34b := h34
                try simp only [decide_eq_true_eq] at h34
                refine h_take_no 19 rfl rfl rfl rfl rfl (by kernel_rfl) (by kernel_rfl) (by kernel_rfl) ?_
                refine h_take_no 20 rfl rfl rfl rfl rfl (by kernel_rfl) (by kernel_rfl) (by kernel_rfl) ?_
                refine h_take_no 21 rfl rfl rfl rfl rfl (by kernel_rfl) (by kernel_rfl) (by kernel_rfl) ?_
                refine h_take_no 22 rfl rfl rfl rfl rfl (by kernel_rfl) (by kernel_rfl) (by kernel_rfl) ?_
                refine h_take_no 23 rfl rfl rfl rfl rfl (by kernel_rfl) (by kernel_rfl) (by kernel_rfl) ?_
                refine h_take_no 24 rfl rfl rfl rfl rfl (by kernel_rfl) (by kernel_rfl) (by kernel_rfl) ?_
                refine h_take_no 25 rfl rfl rfl rfl rfl (by kernel_rfl) (by kernel_rfl) (by kernel_rfl) ?_
                refine h_take_no 26 rfl rfl rfl rfl rfl (by kernel_rfl) (by kernel_rfl) (by kernel_rfl) ?_
                refine h_take_no 27 rfl rfl rfl rfl rfl (by kernel_rfl) (by kernel_rfl) (by kernel_rfl) ?_
                refine h_take_no 28 rfl rfl rfl rfl rfl (by kernel_rfl) (by kernel_rfl) (by kernel_rfl) ?_
                refine h_take_no 29 rfl rfl rfl rfl rfl (by kernel_rfl) (by kernel_rfl) (by kernel_rfl) ?_
                refine h_take_no 30 rfl rfl rfl rfl rfl (by kernel_rfl) (by kernel_rfl) (by kernel_rfl) ?_
                refine h_take_no 31 rfl rfl rfl rfl rfl (by kernel_rfl) (by kernel_rfl) (by kernel_rfl) ?_
                refine h_take_no 32 rfl rfl rfl rfl rfl (by kernel_rfl) (by kernel_rfl) (by kernel_rfl) ?_
                refine h_take_no 33 rfl rfl rfl rfl rfl (by kernel_rfl) (by kernel_rfl) (by kernel_rfl) ?_
                refine h_take_no 34 rfl rfl rfl rfl rfl (by kernel_rfl) (by kernel_rfl) (by kernel_rfl) ?_
                refine h_take_no 35 rfl rfl rfl rfl rfl (by kernel_rfl) (by kernel_rfl) (by kernel_rfl) ?_
                refine h_take_no 36 rfl rfl rfl rfl rfl (by kernel_rfl) (by kernel_rfl) (by kernel_rfl) ?_
                refine h_take 37 rfl rfl (by kernel_rfl) (by kernel_rfl) (by kernel_rfl) (fun L0 => v_pick_true rfl rfl rfl) ?_
                refine h_done (by kernel_rfl) ?_
                refine q_conv (L' := blk b1 (.cells #[.int .i64 p.f_Kind, .int .i64 p.f_From, .int .i64 p.f_To, .int .i64 p.f_Group, .int .i64 p.f_Slot, .int .u64 p.f_Ballot, .string p.f_Value, .slice p.f_Votes.a (p.f_Votes.xs).length p.f_Votes.c] 35 (0, 0)) :: F) (fun w S => S.perm List.perm_append_comm) ?_
                refine q_then ?_
                refine c_true rfl ?_
                refine c_seq ?_
                have hno : ¬ RVotesTo p.f_Votes.xs p.f_Votes.xs.length := by first | exact rvotesTo_no hx85 (by omega) | exact rvotesTo_no2 (by omega) hx108 hx85 (by omega)
                refine c_region ?_
                refine o_assign rfl rfl ?_
                refine l_nil ?_
                refine q_then ?_
                refine c_ret ?_
                refine q_block_ret ?_
                refine q_pass_ret ?_
                refine q_pass_ret ?_
                refine q_block_ret ?_
                refine q_pass_ret ?_
                refine q_conv (fun w S => S.tail) ?_
                exact f_ret (r_one rfl rfl) (⟨by first | exact vfalse (by unfold RightM; grind) | exact vtrue (by unfold RightM; grind), rfl⟩) (fun w S => S)
               · -- h34F
                have h34b := h34
                try simp only [decide_eq_false_iff_not, Int.not_lt, Int.not_le] at h34
                refine h_take_yes 19 rfl rfl rfl rfl rfl (by kernel_rfl) (by kernel_rfl) (by kernel_rfl) (fun L0 => v_move rfl rfl) ?_
                refine h_take_yes 20 rfl rfl rfl rfl rfl (by kernel_rfl) (by kernel_rfl) (by kernel_rfl) (fun L0 => v_bin rfl rfl rfl b_gtr) ?_
                refine h_take_yes 21 rfl rfl rfl rfl rfl (by kernel_rfl) (by kernel_rfl) (by kernel_rfl) (fun L0 => v_move rfl rfl) ?_
                refine h_split (t := 103) rfl (fun h35 => ?_) (fun h35 => ?_)
                · -- h35T
                 have h35b := h35
                 try simp only [decide_eq_true_eq] at h35
                 refine h_take_yes 22 rfl rfl rfl rfl rfl (by kernel_rfl) (by kernel_rfl) (by kernel_rfl) (fun L0 => v_fieldAddr (q := ⟨b1, 7, none⟩) rfl rfl Try.underlying35 rfl ti33 rfl) ?_
                 refine h_take_yes 23 rfl rfl rfl rfl rfl (by kernel_rfl) (by kernel_rfl) (by kernel_rfl) (fun L0 => v_load1 rfl rfl Try.underlying33 rfl (rd_mem 0 rfl rfl)) ?_
                 refine h_take_yes 24 rfl rfl rfl rfl rfl (by kernel_rfl) (by kernel_rfl) (by kernel_rfl) (fun L0 => v_move rfl rfl) ?_
                 refine h_take_yes 25 rfl rfl rfl rfl rfl (by kernel_rfl) (by kernel_rfl) (by kernel_rfl) (fun L0 => v_bin rfl rfl rfl (b_sub (wrap_i64 (by omega) (by omega)))) ?_
                 refine h_take_yes 26 rfl rfl rfl rfl rfl (by kernel_rfl) (by kernel_rfl) (by kernel_rfl) (fun L0 => v_indexK e_RVote_ok eadx rfl rfl rfl Try.underlying33 (by omega) (by omega)) ?_
                 obtain ⟨x108, hx108⟩ : ∃ x, (p.f_Votes.xs)[(((i : Int) - 1)).toNat]? = some x := ⟨_, List.getElem?_eq_getElem (by omega)⟩
                 refine h_take_yes 27 rfl rfl rfl rfl rfl (by kernel_rfl) (by kernel_rfl) (by kernel_rfl) (fun L0 => v_fieldAddr rfl rfl Try.underlying58 rfl ti3 (Addr.add_add' _ _ _)) ?_
                 refine h_take_yes 28 rfl rfl rfl rfl rfl (by kernel_rfl) (by kernel_rfl) (by kernel_rfl) (fun L0 => v_load1 rfl rfl Try.underlying3 rfl (rd_sl e_RVote_ok eadx (rds_app (rds_c R_p)) hx108 rfl)) ?_
                 refine h_take_yes 29 rfl rfl rfl rfl rfl (by kernel_rfl) (by kernel_rfl) (by kernel_rfl) (fun L0 => v_fieldAddr (q := ⟨b1, 7, none⟩) rfl rfl Try.underlying35 rfl ti33 rfl) ?_
                 refine h_take_yes 30 rfl rfl rfl rfl rfl (by kernel_rfl) (by kernel_rfl) (by kernel_rfl) (fun L0 => v_load1 rfl rfl Try.underlying33 rfl (rd_mem 0 rfl rfl)) ?_
                 refine h_take_yes 31 rfl rfl rfl rfl rfl (by kernel_rfl) (by kernel_rfl) (by kernel_rfl) (fun L0 => v_move rfl rfl) ?_
                 refine h_take_yes 32 rfl rfl rfl rfl rfl (by kernel_rfl) (by kernel_rfl) (by kernel_rfl) (fun L0 => v_indexK e_RVote_ok eadx rfl rfl rfl Try.underlying33 (by omega) (by omega)) ?_
                 obtain ⟨x114, hx114⟩ : ∃ x, (p.f_Votes.xs)[((i : Int)).toNat]? = some x := ⟨_, List.getElem?_eq_getElem (by omega)⟩
                 have e114 : x114 = x85 := by rw [hx85] at hx114; exact (Option.some.inj hx114).symm
                 have e114' : x114.f_Slot = x85.f_Slot := by rw [e114]
                 refine h_take_yes 33 rfl rfl rfl rfl rfl (by kernel_rfl) (by kernel_rfl) (by kernel_rfl) (fun L0 => v_fieldAddr rfl rfl Try.underlying58 rfl ti3 (Addr.add_add' _ _ _)) ?_
                 refine h_take_yes 34 rfl rfl rfl rfl rfl (by kernel_rfl) (by kernel_rfl) (by kernel_rfl) (fun L0 => v_load1 rfl rfl Try.underlying3 rfl (rd_sl e_RVote_ok eadx (rds_app (rds_c R_p)) hx114 rfl)) ?_
                 refine h_take_yes 35 rfl rfl rfl rfl rfl (by kernel_rfl) (by kernel_rfl) (by kernel_rfl) (fun L0 => v_bin rfl rfl rfl b_geq) ?_
                 refine h_take_yes 36 rfl rfl rfl rfl rfl (by kernel_rfl) (by kernel_rfl) (by kernel_rfl) (fun L0 => v_pick_true rfl rfl rfl) ?_
                 refine h_take 37 rfl rfl (by kernel_rfl) (by kernel_rfl) (by kernel_rfl) (fun L0 => v_pick_false rfl rfl rfl) ?_
                 refine h_done (by kernel_rfl) ?_
                 refine q_conv (L' := blk b1 (.cells #[.int .i64 p.f_Kind, .int .i64 p.f_From, .int .i64 p.f_To, .int .i64 p.f_Group, .int .i64 p.f_Slot, .int .u64 p.f_Ballot, .string p.f_Value, .slice p.f_Votes.a (p.f_Votes.xs).length p.f_Votes.c] 35 (0, 0)) :: F) (fun w S => S.perm List.perm_append_comm) ?_
                 refine q_then ?_
                 refine c_cond rfl (fun h36 => ?_) (fun h36 => ?_)
                 · -- h36T
                  have h36b := h36
                  try simp only [decide_eq_true_eq] at h36
                  refine c_seq ?_
                  have hno : ¬ RVotesTo p.f_Votes.xs p.f_Votes.xs.length := by first | exact rvotesTo_no hx85 (by omega) | exact rvotesTo_no2 (by omega) hx108 hx85 (by omega)
                  refine c_region ?_
                  refine o_assign rfl rfl ?_
                  refine l_nil ?_
                  refine q_then ?_
                  refine c_ret ?_
                  refine q_block_ret ?_
                  refine q_pass_ret ?_
                  refine q_pass_ret ?_
                  refine q_block_ret ?_
                  refine q_pass_ret ?_
                  refine q_conv (fun w S => S.tail) ?_
                  exact f_ret (r_one rfl rfl) (⟨by first | exact vfalse (by unfold RightM; grind) | exact vtrue (by unfold RightM; grind), rfl⟩) (fun w S => S)
                 · -- h36F
                  have h36b := h36
                  try simp only [decide_eq_false_iff_not, Int.not_lt, Int.not_le] at h36
                  refine c_skip ?_
                  refine q_block ?_
                  refine q_then ?_
                  refine c_region ?_
                  refine o_move rfl rfl ?_
                  refine o_bin rfl rfl rfl (b_add (wrap_i64 (by omega) (by omega))) ?_
                  refine o_assign rfl rfl ?_
                  refine l_nil ?_
                  exact q_round (i + 1) (by exact ⟨by omega, rvotesTo_on hv hx85 (by omega) (by omega) (by omega) (fun j u hj hu => by first | omega | (have h9 := hx108; rw [show ((i : Int) - 1).toNat = j by omega, hu] at h9; cases h9; omega))⟩) (by (try dsimp only); omega) ⟨(by first | rfl | exact vint (by omega)), (by first | rfl | exact vint (by omega)), trivial⟩ (fun w S => S)
                · -- h35F
                 have h35b := h35
                 try simp only [decide_eq_false_iff_not, Int.not_lt, Int.not_le] at h35
                 refine h_take_no 22 rfl rfl rfl rfl rfl (by kernel_rfl) (by kernel_rfl) (by kernel_rfl) ?_
                 refine h_take_no 23 rfl rfl rfl rfl rfl (by kernel_rfl) (by kernel_rfl) (by kernel_rfl) ?_
                 refine h_take_no 24 rfl rfl rfl rfl rfl (by kernel_rfl) (by kernel_rfl) (by kernel_rfl) ?_
                 refine h_take_no 25 rfl rfl rfl rfl rfl (by kernel_rfl) (by kernel_rfl) (by kernel_rfl) ?_
                 refine h_take_no 26 rfl rfl rfl rfl rfl (by kernel_rfl) (by kernel_rfl) (by kernel_rfl) ?_
                 refine h_take_no 27 rfl rfl rfl rfl rfl (by kernel_rfl) (by kernel_rfl) (by kernel_rfl) ?_
                 refine h_take_no 28 rfl rfl rfl rfl rfl (by kernel_rfl) (by kernel_rfl) (by kernel_rfl) ?_
                 refine h_take_no 29 rfl rfl rfl rfl rfl (by kernel_rfl) (by kernel_rfl) (by kernel_rfl) ?_
                 refine h_take_no 30 rfl rfl rfl rfl rfl (by kernel_rfl) (by kernel_rfl) (by kernel_rfl) ?_
                 refine h_take_no 31 rfl rfl rfl rfl rfl (by kernel_rfl) (by kernel_rfl) (by kernel_rfl) ?_
                 refine h_take_no 32 rfl rfl rfl rfl rfl (by kernel_rfl) (by kernel_rfl) (by kernel_rfl) ?_
                 refine h_take_no 33 rfl rfl rfl rfl rfl (by kernel_rfl) (by kernel_rfl) (by kernel_rfl) ?_
                 refine h_take_no 34 rfl rfl rfl rfl rfl (by kernel_rfl) (by kernel_rfl) (by kernel_rfl) ?_
                 refine h_take_no 35 rfl rfl rfl rfl rfl (by kernel_rfl) (by kernel_rfl) (by kernel_rfl) ?_
                 refine h_take_yes 36 rfl rfl rfl rfl rfl (by kernel_rfl) (by kernel_rfl) (by kernel_rfl) (fun L0 => v_pick_false rfl rfl rfl) ?_
                 refine h_take 37 rfl rfl (by kernel_rfl) (by kernel_rfl) (by kernel_rfl) (fun L0 => v_pick_false rfl rfl rfl) ?_
                 refine h_done (by kernel_rfl) ?_
                 refine q_conv (L' := blk b1 (.cells #[.int .i64 p.f_Kind, .int .i64 p.f_From, .int .i64 p.f_To, .int .i64 p.f_Group, .int .i64 p.f_Slot, .int .u64 p.f_Ballot, .string p.f_Value, .slice p.f_Votes.a (p.f_Votes.xs).length p.f_Votes.c] 35 (0, 0)) :: F) (fun w S => S.perm List.perm_append_comm) ?_
                 refine q_then ?_
                 refine c_false rfl ?_
                 refine c_skip ?_
                 refine q_block ?_
                 refine q_then ?_
                 refine c_region ?_
                 refine o_move rfl rfl ?_
                 refine o_bin rfl rfl rfl (b_add (wrap_i64 (by omega) (by omega))) ?_
                 refine o_assign rfl rfl ?_
                 refine l_nil ?_
                 exact q_round (i + 1) (by exact ⟨by omega, rvotesTo_on hv hx85 (by omega) (by omega) (by omega) (fun j u hj hu => by first | omega | (have h9 := hx108; rw [show ((i : Int) - 1).toNat = j by omega, hu] at h9; cases h9; omega))⟩) (by (try dsimp only); omega) ⟨(by first | rfl | exact vint (by omega)), (by first | rfl | exact vint (by omega)), trivial⟩ (fun w S => S)
             · -- h32F
              have h32b := h32
              try simp only [decide_eq_false_iff_not, Int.not_lt, Int.not_le] at h32
              refine c_exit ?_
              refine q_pass_exit ?_
              refine q_pass_exit ?_
              refine q_hit ?_
              refine q_then ?_
              refine c_seq ?_
              have hyes : RVotesTo p.f_Votes.xs p.f_Votes.xs.length := by rw [show p.f_Votes.xs.length = i by omega]; exact hv
              refine c_region ?_
              refine o_assign rfl rfl ?_
              refine l_nil ?_
              refine q_then ?_
              refine c_ret ?_
              refine q_conv (fun w S => S.tail) ?_
              exact f_ret (r_one rfl rfl) (⟨by first | exact vfalse (by unfold RightM; grind) | exact vtrue (by unfold RightM; grind), rfl⟩) (fun w S => S)
          · -- h10F
           have h10b := h10
           try simp only [Bool.not_eq_false', decide_eq_true_eq] at h10
           refine o_no rfl rfl rfl rfl ?_
           refine o_no rfl rfl rfl rfl ?_
           refine o_no rfl rfl rfl rfl ?_
           refine o_pick_false rfl rfl rfl ?_
           refine o_move rfl rfl ?_
           refine o_no rfl rfl rfl rfl ?_
           refine o_no rfl rfl rfl rfl ?_
           refine o_no rfl rfl rfl rfl ?_
           refine o_pick_false rfl rfl rfl ?_
           refine l_nil ?_
           refine q_then ?_
           refine c_false rfl ?_
           refine c_skip ?_
           refine q_then ?_
           refine c_seq ?_
           refine c_seq ?_
           refine c_region ?_
           refine o_fieldAddr (q := ⟨b1, 7, none⟩) rfl rfl Try.underlying35 rfl ti33 rfl ?_
           refine o_load1 rfl rfl Try.underlying33 rfl (rd_mem 0 rfl rfl) ?_
           refine o_len rfl rfl Try.underlying33 ?_
           refine o_bin rfl rfl rfl b_gtr ?_
           refine o_move rfl rfl ?_
           refine l_split (t := 70) rfl (fun h37 => ?_) (fun h37 => ?_)
           · -- h37T
            have h37b := h37
            try simp only [decide_eq_true_eq] at h37
            refine o_yes rfl rfl rfl ?_
            refine o_fieldAddr (q := ⟨b1, 0, none⟩) rfl rfl Try.underlying35 rfl ti3 rfl ?_
            refine o_yes rfl rfl rfl ?_
            refine o_load1 rfl rfl Try.underlying3 rfl (rd_mem 0 rfl rfl) ?_
            refine o_yes rfl rfl rfl ?_
            refine o_bin rfl rfl rfl b_neq ?_
            refine o_pick_true rfl rfl rfl ?_
            refine l_nil ?_
            refine q_then ?_
            refine c_cond rfl (fun h38 => ?_) (fun h38 => ?_)
            · -- h38T
             have h38b := h38
             try simp only [Bool.not_eq_true', decide_eq_false_iff_not, Int.not_lt, Int.not_le] at h38
             refine c_seq ?_
             refine c_region ?_
             refine o_assign rfl rfl ?_
             refine l_nil ?_
             refine q_then ?_
             refine c_ret ?_
             refine q_pass_ret ?_
             refine q_conv (fun w S => S.tail) ?_
             exact f_ret (r_one rfl rfl) (⟨by first | exact vfalse (by unfold RightM; grind) | exact vtrue (by unfold RightM; grind), rfl⟩) (fun w S => S)
            · -- h38F
             have h38b := h38
             try simp only [Bool.not_eq_false', decide_eq_true_eq] at h38
             refine c_skip ?_
             refine q_then ?_
             refine c_seq ?_
             refine c_seq ?_
             refine c_region ?_
             refine o_assign rfl rfl ?_
             refine l_nil ?_
             refine q_then ?_
             refine c_block ?_
             refine c_loop (α := Nat) (fun z => [(1, .pointer (some ⟨b1, 0, none⟩)), (3, .int .i64 (z : Int))]) (fun z => blk b1 (.cells #[.int .i64 p.f_Kind, .int .i64 p.f_From, .int .i64 p.f_To, .int .i64 p.f_Group, .int .i64 p.f_Slot, .int .u64 p.f_Ballot, .string p.f_Value, .slice p.f_Votes.a (p.f_Votes.xs).length p.f_Votes.c] 35 (0, 0)) :: F) (fun z => z ≤ p.f_Votes.xs.length ∧ RVotesTo p.f_Votes.xs z) (fun z => p.f_Votes.xs.length - z) (0) (by exact ⟨Nat.zero_le _, rvotesTo_0⟩) ⟨(by first | rfl | exact vint (by omega)), (by first | rfl | exact vint (by omega)), trivial⟩ (fun w S => S) ?_
             rintro i ⟨hi, hv⟩
             try dsimp only at *
             refine c_seq ?_
             refine c_seq ?_
             refine c_region ?_
             refine o_move rfl rfl ?_
             refine o_fieldAddr (q := ⟨b1, 7, none⟩) rfl rfl Try.underlying35 rfl ti33 rfl ?_
             refine o_load1 rfl rfl Try.underlying33 rfl (rd_mem 0 rfl rfl) ?_
             refine o_len rfl rfl Try.underlying33 ?_
             refine o_bin rfl rfl rfl b_lss ?_
             refine l_nil ?_
             refine q_then ?_
             refine c_cond rfl (fun h39 => ?_) (fun h39 => ?_)
             · -- h39T
              have h39b := h39
              try simp only [decide_eq_true_eq] at h39
              refine c_skip ?_
              refine q_then ?_
              refine c_seq ?_
              refine c_block ?_
              refine c_seq ?_
              refine c_fact (p := ∃ ad, p.f_Votes.a = some ad) (rds_some (e := e_RVote) (xs := p.f_Votes.xs) (rds_c R_p) (by intro h0; have h00 := congrArg List.length h0; simp only [List.length_nil] at h00; omega)) ?_
              rintro ⟨adx, eadx⟩
              refine c_heldF [] (blk b1 (.cells #[.int .i64 p.f_Kind, .int .i64 p.f_From, .int .i64 p.f_To, .int .i64 p.f_Group, .int .i64 p.f_Slot, .int .u64 p.f_Ballot, .string p.f_Value, .slice p.f_Votes.a (p.f_Votes.xs).length p.f_Votes.c] 35 (0, 0)) :: F) (by kernel_rfl) ?_
              refine h_take 0 rfl rfl (by kernel_rfl) (by kernel_rfl) (by kernel_rfl) (fun L0 => v_fieldAddr (q := ⟨b1, 7, none⟩) rfl rfl Try.underlying35 rfl ti33 rfl) ?_
              refine h_take 1 rfl rfl (by kernel_rfl) (by kernel_rfl) (by kernel_rfl) (fun L0 => v_load1 rfl rfl Try.underlying33 rfl (rd_mem 0 rfl rfl)) ?_
              refine h_take 2 rfl rfl (by kernel_rfl) (by kernel_rfl) (by kernel_rfl) (fun L0 => v_move rfl rfl) ?_
              refine h_take 3 rfl rfl (by kernel_rfl) (by kernel_rfl) (by kernel_rfl) (fun L0 => v_indexK e_RVote_ok eadx rfl rfl rfl Try.underlying33 (by omega) (by omega)) ?_
              obtain ⟨x85, hx85⟩ : ∃ x, (p.f_Votes.xs)[((i : Int)).toNat]? = some x := ⟨_, List.getElem?_eq_getElem (by omega)⟩
              refine h_take 4 rfl rfl (by kernel_rfl) (by kernel_rfl) (by kernel_rfl) (fun L0 => v_fieldAddr rfl rfl Try.underlying58 rfl ti3 (Addr.add_add' _ _ _)) ?_
              refine h_take 5 rfl rfl (by kernel_rfl) (by kernel_rfl) (by kernel_rfl) (fun L0 => v_load1 rfl rfl Try.underlying3 rfl (rd_sl e_RVote_ok eadx (rds_app (rds_c R_p)) hx85 rfl)) ?_
              refine h_one 6 rfl (by kernel_rfl) ?_
              refine l_conv (L' := blk b1 (.cells #[.int .i64 p.f_Kind, .int .i64 p.f_From, .int .i64 p.f_To, .int .i64 p.f_Group, .int .i64 p.f_Slot, .int .u64 p.f_Ballot, .string p.f_Value, .slice p.f_Votes.a (p.f_Votes.xs).length p.f_Votes.c] 35 (0, 0)) :: F) (fun w S => S.perm List.perm_append_comm) ?_
              refine o_call rfl cal38 rfl (rwithin_ (n := x85.f_Slot) (k := 63)) ?_
              rintro _ _ ⟨rfl, rfl⟩
              refine l_nil ?_
              refine q_conv (L' := (blk b1 (.cells #[.int .i64 p.f_Kind, .int .i64 p.f_From, .int .i64 p.f_To, .int .i64 p.f_Group, .int .i64 p.f_Slot, .int .u64 p.f_Ballot, .string p.f_Value, .slice p.f_Votes.a (p.f_Votes.xs).length p.f_Votes.c] 35 (0, 0)) :: F) ++ []) (fun w S => S.perm (List.perm_append_comm (l₁ := []) (l₂ := blk b1 (.cells #[.int .i64 p.f_Kind, .int .i64 p.f_From, .int .i64 p.f_To, .int .i64 p.f_Group, .int .i64 p.f_Slot, .int .u64 p.f_Ballot, .string p.f_Value, .slice p.f_Votes.a (p.f_Votes.xs).length p.f_Votes.c] 35 (0, 0)) :: F))) ?_
              refine h_next ?_
              refine h_take 7 rfl rfl (by kernel_rfl) (by kernel_rfl) (by kernel_rfl) (fun L0 => v_not rfl rfl) ?_
              refine h_take 8 rfl rfl (by kernel_rfl) (by kernel_rfl) (by kernel_rfl) (fun L0 => v_move rfl rfl) ?_
              refine h_split (t := 90) rfl (fun h40 => ?_) (fun h40 => ?_)
              · -- h40T
               have h40b := h40
               try simp only [decide_eq_true_eq, decide_eq_false_iff_not, Bool.not_eq_eq_eq_not, Bool.not_true, Bool.not_false, Bool.not_eq_true', Bool.not_eq_false', Int.not_lt, Int.not_le, Bool.or_eq_true, Bool.and_eq_true] at h40
               refine h_take_no 9 rfl rfl rfl rfl rfl (by kernel_rfl) (by kernel_rfl) (by kernel_rfl) ?_
               refine h_take_no 10 rfl rfl rfl rfl rfl (by kernel_rfl) (by kernel_rfl) (by kernel_rfl) ?_
               refine h_take_no 11 rfl rfl rfl rfl rfl (by kernel_rfl) (by kernel_rfl) (by kernel_rfl) ?_
               refine h_take_no 12 rfl rfl rfl rfl rfl (by kernel_rfl) (by kernel_rfl) (by kernel_rfl) ?_
               refine h_take_no 13 rfl rfl rfl rfl rfl (by kernel_rfl) (by kernel_rfl) (by kernel_rfl) ?_
               refine h_take_no 14 rfl rfl rfl rfl rfl (by kernel_rfl) (by kernel_rfl) (by kernel_rfl) ?_
               refine h_take_no 15 rfl rfl rfl rfl rfl (by kernel_rfl) (by kernel_rfl) (by kernel_rfl) ?_
               refine h_take_no 16 rfl rfl rfl rfl rfl (by kernel_rfl) (by kernel_rfl) (by kernel_rfl) ?_
               refine h_take 17 rfl rfl (by kernel_rfl) (by kernel_rfl) (by kernel_rfl) (fun L0 => v_pick_true rfl rfl rfl) ?_
               refine h_take 18 rfl rfl (by kernel_rfl) (by kernel_rfl) (by kernel_rfl) (fun L0 => v_move rfl rfl) ?_
               refine h_take_no 19 rfl rfl rfl rfl rfl (by kernel_rfl) (by kernel_rfl) (by kernel_rfl) ?_
               refine h_take_no 20 rfl rfl rfl rfl rfl (by kernel_rfl) (by kernel_rfl) (by kernel_rfl) ?_
               refine h_take_no 21 rfl rfl rfl rfl rfl (by kernel_rfl) (by kernel_rfl) (by kernel_rfl) ?_
               refine h_take_no 22 rfl rfl rfl rfl rfl (by kernel_rfl) (by kernel_rfl) (by kernel_rfl) ?_
               refine h_take_no 23 rfl rfl rfl rfl rfl (by kernel_rfl) (by kernel_rfl) (by kernel_rfl) ?_
               refine h_take_no 24 rfl rfl rfl rfl rfl (by kernel_rfl) (by kernel_rfl) (by kernel_rfl) ?_
               refine h_take_no 25 rfl rfl rfl rfl rfl (by kernel_rfl) (by kernel_rfl) (by kernel_rfl) ?_
               refine h_take_no 26 rfl rfl rfl rfl rfl (by kernel_rfl) (by kernel_rfl) (by kernel_rfl) ?_
               refine h_take_no 27 rfl rfl rfl rfl rfl (by kernel_rfl) (by kernel_rfl) (by kernel_rfl) ?_
               refine h_take_no 28 rfl rfl rfl rfl rfl (by kernel_rfl) (by kernel_rfl) (by kernel_rfl) ?_
               refine h_take_no 29 rfl rfl rfl rfl rfl (by kernel_rfl) (by kernel_rfl) (by kernel_rfl) ?_
               refine h_take_no 30 rfl rfl rfl rfl rfl (by kernel_rfl) (by kernel_rfl) (by kernel_rfl) ?_
               refine h_take_no 31 rfl rfl rfl rfl rfl (by kernel_rfl) (by kernel_rfl) (by kernel_rfl) ?_
               refine h_take_no 32 rfl rfl rfl rfl rfl (by kernel_rfl) (by kernel_rfl) (by kernel_rfl) ?_
               refine h_take_no 33 rfl rfl rfl rfl rfl (by kernel_rfl) (by kernel_rfl) (by kernel_rfl) ?_
               refine h_take_no 34 rfl rfl rfl rfl rfl (by kernel_rfl) (by kernel_rfl) (by kernel_rfl) ?_
               refine h_take_no 35 rfl rfl rfl rfl rfl (by kernel_rfl) (by kernel_rfl) (by kernel_rfl) ?_
               refine h_take_no 36 rfl rfl rfl rfl rfl (by kernel_rfl) (by kernel_rfl) (by kernel_rfl) ?_
               refine h_take 37 rfl rfl (by kernel_rfl) (by kernel_rfl) (by kernel_rfl) (fun L0 => v_pick_true rfl rfl rfl) ?_
               refine h_done (by kernel_rfl) ?_
               refine q_conv (L' := blk b1 (.cells #[.int .i64 p.f_Kind, .int .i64 p.f_From, .int .i64 p.f_To, .int .i64 p.f_Group, .int .i64 p.f_Slot, .int .u64 p.f_Ballot, .string p.f_Value, .slice p.f_Votes.a (p.f_Votes.xs).length p.f_Votes.c] 35 (0, 0)) :: F) (fun w S => S.perm List.perm_append_comm) ?_
               refine q_then ?_
               refine c_true rfl ?_
               refine c_seq ?_
               have hno : ¬ RVotesTo p.f_Votes.xs p.f_Votes.xs.length := by first | exact rvotesTo_no hx85 (by omega) | exact rvotesTo_no2 (by omega) hx108 hx85 (by omega)
               refine c_region ?_
               refine o_assign rfl rfl ?_
               refine l_nil ?_
               refine q_then ?_
               refine c_ret ?_
               refine q_block_ret ?_
               refine q_pass_ret ?_
               refine q_pass_ret ?_
               refine q_block_ret ?_
               refine q_pass_ret ?_
               refine q_conv (fun w S => S.tail) ?_
               exact f_ret (r_one rfl rfl) (⟨by first | exact vfalse (by unfold RightM; grind) | exact vtrue (by unfold RightM; grind), rfl⟩) (fun w S => S)
              · -- h40F
               have h40b := h40
               try simp only [decide_eq_true_eq, decide_eq_false_iff_not, Bool.not_eq_eq_eq_not, Bool.not_true, Bool.not_false, Bool.not_eq_true', Bool.not_eq_false', Int.not_lt, Int.not_le, Bool.or_eq_true, Bool.and_eq_true] at h40
               refine h_take_yes 9 rfl rfl rfl rfl rfl (by kernel_rfl) (by kernel_rfl) (by kernel_rfl) (fun L0 => v_fieldAddr (q := ⟨b1, 7, none⟩) rfl rfl Try.underlying35 rfl ti33 rfl) ?_
               refine h_take_yes 10 rfl rfl rfl rfl rfl (by kernel_rfl) (by kernel_rfl) (by kernel_rfl) (fun L0 => v_load1 rfl rfl Try.underlying33 rfl (rd_mem 0 rfl rfl)) ?_
               refine h_take_yes 11 rfl rfl rfl rfl rfl (by kernel_rfl) (by kernel_rfl) (by kernel_rfl) (fun L0 => v_move rfl rfl) ?_
               refine h_take_yes 12 rfl rfl rfl rfl rfl (by kernel_rfl) (by kernel_rfl) (by kernel_rfl) (fun L0 => v_indexK e_RVote_ok eadx rfl rfl rfl Try.underlying33 (by omega) (by omega)) ?_
               obtain ⟨x94, hx94⟩ : ∃ x, (p.f_Votes.xs)[((i : Int)).toNat]? = some x := ⟨_, List.getElem?_eq_getElem (by omega)⟩
               have e94 : x94 = x85 := by rw [hx85] at hx94; exact (Option.some.inj hx94).symm
               have e94' : x94.f_Value.size = x85.f_Value.size := by rw [e94]
               refine h_take_yes 13 rfl rfl rfl rfl rfl (by kernel_rfl) (by kernel_rfl) (by kernel_rfl) (fun L0 => v_fieldAddr rfl rfl Try.underlying58 rfl ti9 (Addr.add_add' _ _ _)) ?_
               refine h_take_yes 14 rfl rfl rfl rfl rfl (by kernel_rfl) (by kernel_rfl) (by kernel_rfl) (fun L0 => v_load1 rfl rfl Try.underlying9 rfl (rd_sl e_RVote_ok eadx (rds_app (rds_c R_p)) hx94 rfl)) ?_
               refine h_take_yes 15 rfl rfl rfl rfl rfl (by kernel_rfl) (by kernel_rfl) (by kernel_rfl) (fun L0 => v_lenStr rfl rfl Try.underlying9) ?_
               refine h_take_yes 16 rfl rfl rfl rfl rfl (by kernel_rfl) (by kernel_rfl) (by kernel_rfl) (fun L0 => v_bin rfl rfl rfl b_gtr) ?_
               refine h_take 17 rfl rfl (by kernel_rfl) (by kernel_rfl) (by kernel_rfl) (fun L0 => v_pick_false rfl rfl rfl) ?_
               refine h_take 18 rfl rfl (by kernel_rfl) (by kernel_rfl) (by kernel_rfl) (fun L0 => v_move rfl rfl) ?_
               refine h_split (t := 100) rfl (fun h41 => ?_) (fun h41 => ?_)
               · -- h41T
                have h41b := h41
                try simp only [decide_eq_true_eq] at h41
                refine h_take_no 19 rfl rfl rfl rfl rfl (by kernel_rfl) (by kernel_rfl) (by kernel_rfl) ?_
                refine h_take_no 20 rfl rfl rfl rfl rfl (by kernel_rfl) (by kernel_rfl) (by kernel_rfl) ?_
                refine h_take_no 21 rfl rfl rfl rfl rfl (by kernel_rfl) (by kernel_rfl) (by kernel_rfl) ?_
                refine h_take_no 22 rfl rfl rfl rfl rfl (by kernel_rfl) (by kernel_rfl) (by kernel_rfl) ?_
                refine h_take_no 23 rfl rfl rfl rfl rfl (by kernel_rfl) (by kernel_rfl) (by kernel_rfl) ?_
                refine h_take_no 24 rfl rfl rfl rfl rfl (by kernel_rfl) (by kernel_rfl) (by kernel_rfl) ?_
                refine h_take_no 25 rfl rfl rfl rfl rfl (by kernel_rfl) (by kernel_rfl) (by kernel_rfl) ?_
                refine h_take_no 26 rfl rfl rfl rfl rfl (by kernel_rfl) (by kernel_rfl) (by kernel_rfl) ?_
                refine h_take_no 27 rfl rfl rfl rfl rfl (by kernel_rfl) (by kernel_rfl) (by kernel_rfl) ?_
                refine h_take_no 28 rfl rfl rfl rfl rfl (by kernel_rfl) (by kernel_rfl) (by kernel_rfl) ?_
                refine h_take_no 29 rfl rfl rfl rfl rfl (by kernel_rfl) (by kernel_rfl) (by kernel_rfl) ?_
                refine h_take_no 30 rfl rfl rfl rfl rfl (by kernel_rfl) (by kernel_rfl) (by kernel_rfl) ?_
                refine h_take_no 31 rfl rfl rfl rfl rfl (by kernel_rfl) (by kernel_rfl) (by kernel_rfl) ?_
                refine h_take_no 32 rfl rfl rfl rfl rfl (by kernel_rfl) (by kernel_rfl) (by kernel_rfl) ?_
                refine h_take_no 33 rfl rfl rfl rfl rfl (by kernel_rfl) (by kernel_rfl) (by kernel_rfl) ?_
                refine h_take_no 34 rfl rfl rfl rfl rfl (by kernel_rfl) (by kernel_rfl) (by kernel_rfl) ?_
                refine h_take_no 35 rfl rfl rfl rfl rfl (by kernel_rfl) (by kernel_rfl) (by kernel_rfl) ?_
                refine h_take_no 36 rfl rfl rfl rfl rfl (by kernel_rfl) (by kernel_rfl) (by kernel_rfl) ?_
                refine h_take 37 rfl rfl (by kernel_rfl) (by kernel_rfl) (by kernel_rfl) (fun L0 => v_pick_true rfl rfl rfl) ?_
                refine h_done (by kernel_rfl) ?_
                refine q_conv (L' := blk b1 (.cells #[.int .i64 p.f_Kind, .int .i64 p.f_From, .int .i64 p.f_To, .int .i64 p.f_Group, .int .i64 p.f_Slot, .int .u64 p.f_Ballot, .string p.f_Value, .slice p.f_Votes.a (p.f_Votes.xs).length p.f_Votes.c] 35 (0, 0)) :: F) (fun w S => S.perm List.perm_append_comm) ?_
                refine q_then ?_
                refine c_true rfl ?_
                refine c_seq ?_
                have hno : ¬ RVotesTo p.f_Votes.xs p.f_Votes.xs.length := by first | exact rvotesTo_no hx85 (by omega) | exact rvotesTo_no2 (by omega) hx108 hx85 (by omega)
                refine c_region ?_
                refine o_assign rfl rfl ?_
                refine l_nil ?_
                refine q_then ?_
                refine c_ret ?_
                refine q_block_ret ?_
                refine q_pass_ret ?_
                refine q_pass_ret ?_
                refine q_block_ret ?_
                refine q_pass_ret ?_
                refine q_conv (fun w S => S.tail) ?_
                exact f_ret (r_one rfl rfl) (⟨by first | exact vfalse (by unfold RightM; grind) | exact vtrue (by unfold RightM; grind), rfl⟩) (fun w S => S)
               · -- h41F
                have h41b := h41
                try simp only [decide_eq_false_iff_not, Int.not_lt, Int.not_le] at h41
                refine h_take_yes 19 rfl rfl rfl rfl rfl (by kernel_rfl) (by kernel_rfl) (by kernel_rfl) (fun L0 => v_move rfl rfl) ?_
                refine h_take_yes 20 rfl rfl rfl rfl rfl (by kernel_rfl) (by kernel_rfl) (by kernel_rfl) (fun L0 => v_bin rfl rfl rfl b_gtr) ?_
                refine h_take_yes 21 rfl rfl rfl rfl rfl (by kernel_rfl) (by kernel_rfl) (by kernel_rfl) (fun L0 => v_move rfl rfl) ?_
                refine h_split (t := 103) rfl (fun h42 => ?_) (fun h42 => ?_)
                · -- h42T
                 have h42b := h42
                 try simp only [decide_eq_true_eq] at h42
                 refine h_take_yes 22 rfl rfl rfl rfl rfl (by kernel_rfl) (by kernel_rfl) (by kernel_rfl) (fun L0 => v_fieldAddr (q := ⟨b1, 7, none⟩) rfl rfl Try.underlying35 rfl ti33 rfl) ?_
                 refine h_take_yes 23 rfl rfl rfl rfl rfl (by kernel_rfl) (by kernel_rfl) (by kernel_rfl) (fun L0 => v_load1 rfl rfl Try.underlying33 rfl (rd_mem 0 rfl rfl)) ?_
                 refine h_take_yes 24 rfl rfl rfl rfl rfl (by kernel_rfl) (by kernel_rfl) (by kernel_rfl) (fun L0 => v_move rfl rfl) ?_
                 refine h_take_yes 25 rfl rfl rfl rfl rfl (by kernel_rfl) (by kernel_rfl) (by kernel_rfl) (fun L0 => v_bin rfl rfl rfl (b_sub (wrap_i64 (by omega) (by omega)))) ?_
                 refine h_take_yes 26 rfl rfl rfl rfl rfl (by kernel_rfl) (by kernel_rfl) (by kernel_rfl) (fun L0 => v_indexK e_RVote_ok eadx rfl rfl rfl Try.underlying33 (by omega) (by omega)) ?_
                 obtain ⟨x108, hx108⟩ : ∃ x, (p.f_Votes.xs)[(((i : Int) - 1)).toNat]? = some x := ⟨_, List.getElem?_eq_getElem (by omega)⟩
                 refine h_take_yes 27 rfl rfl rfl rfl rfl (by kernel_rfl) (by kernel_rfl) (by kernel_rfl) (fun L0 => v_fieldAddr rfl rfl Try.underlying58 rfl ti3 (Addr.add_add' _ _ _)) ?_
                 refine h_take_yes 28 rfl rfl rfl rfl rfl (by kernel_rfl) (by kernel_rfl) (by kernel_rfl) (fun L0 => v_load1 rfl rfl Try.underlying3 rfl (rd_sl e_RVote_ok eadx (rds_app (rds_c R_p)) hx108 rfl)) ?_
                 refine h_take_yes 29 rfl rfl rfl rfl rfl (by kernel_rfl) (by kernel_rfl) (by kernel_rfl) (fun L0 => v_fieldAddr (q := ⟨b1, 7, none⟩) rfl rfl Try.underlying35 rfl ti33 rfl) ?_
                 refine h_take_yes 30 rfl rfl rfl rfl rfl (by kernel_rfl) (by kernel_rfl) (by kernel_rfl) (fun L0 => v_load1 rfl rfl Try.underlying33 rfl (rd_mem 0 rfl rfl)) ?_
                 refine h_take_yes 31 rfl rfl rfl rfl rfl (by kernel_rfl) (by kernel_rfl) (by kernel_rfl) (fun L0 => v_move rfl rfl) ?_
                 refine h_take_yes 32 rfl rfl rfl rfl rfl (by kernel_rfl) (by kernel_rfl) (by kernel_rfl) (fun L0 => v_indexK e_RVote_ok eadx rfl rfl rfl Try.underlying33 (by omega) (by omega)) ?_
                 obtain ⟨x114, hx114⟩ : ∃ x, (p.f_Votes.xs)[((i : Int)).toNat]? = some x := ⟨_, List.getElem?_eq_getElem (by omega)⟩
                 have e114 : x114 = x85 := by rw [hx85] at hx114; exact (Option.some.inj hx114).symm
                 have e114' : x114.f_Slot = x85.f_Slot := by rw [e114]
                 refine h_take_yes 33 rfl rfl rfl rfl rfl (by kernel_rfl) (by kernel_rfl) (by kernel_rfl) (fun L0 => v_fieldAddr rfl rfl Try.underlying58 rfl ti3 (Addr.add_add' _ _ _)) ?_
                 refine h_take_yes 34 rfl rfl rfl rfl rfl (by kernel_rfl) (by kernel_rfl) (by kernel_rfl) (fun L0 => v_load1 rfl rfl Try.underlying3 rfl (rd_sl e_RVote_ok eadx (rds_app (rds_c R_p)) hx114 rfl)) ?_
                 refine h_take_yes 35 rfl rfl rfl rfl rfl (by kernel_rfl) (by kernel_rfl) (by kernel_rfl) (fun L0 => v_bin rfl rfl rfl b_geq) ?_
                 refine h_take_yes 36 rfl rfl rfl rfl rfl (by kernel_rfl) (by kernel_rfl) (by kernel_rfl) (fun L0 => v_pick_true rfl rfl rfl) ?_
                 refine h_take 37 rfl rfl (by kernel_rfl) (by kernel_rfl) (by kernel_rfl) (fun L0 => v_pick_false rfl rfl rfl) ?_
                 refine h_done (by kernel_rfl) ?_
                 refine q_conv (L' := blk b1 (.cells #[.int .i64 p.f_Kind, .int .i64 p.f_From, .int .i64 p.f_To, .int .i64 p.f_Group, .int .i64 p.f_Slot, .int .u64 p.f_Ballot, .string p.f_Value, .slice p.f_Votes.a (p.f_Votes.xs).length p.f_Votes.c] 35 (0, 0)) :: F) (fun w S => S.perm List.perm_append_comm) ?_
                 refine q_then ?_
                 refine c_cond rfl (fun h43 => ?_) (fun h43 => ?_)
                 · -- h43T
                  have h43b := h43
                  try simp only [decide_eq_true_eq] at h43
                  refine c_seq ?_
                  have hno : ¬ RVotesTo p.f_Votes.xs p.f_Votes.xs.length := by first | exact rvotesTo_no hx85 (by omega) | exact rvotesTo_no2 (by omega) hx108 hx85 (by omega)
                  refine c_region ?_
                  refine o_assign rfl rfl ?_
                  refine l_nil ?_
                  refine q_then ?_
                  refine c_ret ?_
                  refine q_block_ret ?_
                  refine q_pass_ret ?_
                  refine q_pass_ret ?_
                  refine q_block_ret ?_
                  refine q_pass_ret ?_
                  refine q_conv (fun w S => S.tail) ?_
                  exact f_ret (r_one rfl rfl) (⟨by first | exact vfalse (by unfold RightM; grind) | exact vtrue (by unfold RightM; grind), rfl⟩) (fun w S => S)
                 · -- h43F
                  have h43b := h43
                  try simp only [decide_eq_false_iff_not, Int.not_lt, Int.not_le] at h43
                  refine c_skip ?_
                  refine q_block ?_
                  refine q_then ?_
                  refine c_region ?_
                  refine o_move rfl rfl ?_
                  refine o_bin rfl rfl rfl (b_add (wrap_i64 (by omega) (by omega))) ?_
                  refine o_assign rfl rfl ?_
                  refine l_nil ?_
                  exact q_round (i + 1) (by exact ⟨by omega, rvotesTo_on hv hx85 (by omega) (by omega) (by omega) (fun j u hj hu => by first | omega | (have h9 := hx108; rw [show ((i : Int) - 1).toNat = j by omega, hu] at h9; cases h9; omega))⟩) (by (try dsimp only); omega) ⟨(by first | rfl | exact vint (by omega)), (by first | rfl | exact vint (by omega)), trivial⟩ (fun w S => S)
                · -- h42F
                 have h42b := h42
                 try simp only [decide_eq_false_iff_not, Int.not_lt, Int.not_le] at h42
                 refine h_take_no 22 rfl rfl rfl rfl rfl (by kernel_rfl) (by kernel_rfl) (by kernel_rfl) ?_
                 refine h_take_no 23 rfl rfl rfl rfl rfl (by kernel_rfl) (by kernel_rfl) (by kernel_rfl) ?_
                 refine h_take_no 24 rfl rfl rfl rfl rfl (by kernel_rfl) (by kernel_rfl) (by kernel_rfl) ?_
                 refine h_take_no 25 rfl rfl rfl rfl rfl (by kernel_rfl) (by kernel_rfl) (by kernel_rfl) ?_
                 refine h_take_no 26 rfl rfl rfl rfl rfl (by kernel_rfl) (by kernel_rfl) (by kernel_rfl) ?_
                 refine h_take_no 27 rfl rfl rfl rfl rfl (by kernel_rfl) (by kernel_rfl) (by kernel_rfl) ?_
                 refine h_take_no 28 rfl rfl rfl rfl rfl (by kernel_rfl) (by kernel_rfl) (by kernel_rfl) ?_
                 refine h_take_no 29 rfl rfl rfl rfl rfl (by kernel_rfl) (by kernel_rfl) (by kernel_rfl) ?_
                 refine h_take_no 30 rfl rfl rfl rfl rfl (by kernel_rfl) (by kernel_rfl) (by kernel_rfl) ?_
                 refine h_take_no 31 rfl rfl rfl rfl rfl (by kernel_rfl) (by kernel_rfl) (by kernel_rfl) ?_
                 refine h_take_no 32 rfl rfl rfl rfl rfl (by kernel_rfl) (by kernel_rfl) (by kernel_rfl) ?_
                 refine h_take_no 33 rfl rfl rfl rfl rfl (by kernel_rfl) (by kernel_rfl) (by kernel_rfl) ?_
                 refine h_take_no 34 rfl rfl rfl rfl rfl (by kernel_rfl) (by kernel_rfl) (by kernel_rfl) ?_
                 refine h_take_no 35 rfl rfl rfl rfl rfl (by kernel_rfl) (by kernel_rfl) (by kernel_rfl) ?_
                 refine h_take_yes 36 rfl rfl rfl rfl rfl (by kernel_rfl) (by kernel_rfl) (by kernel_rfl) (fun L0 => v_pick_false rfl rfl rfl) ?_
                 refine h_take 37 rfl rfl (by kernel_rfl) (by kernel_rfl) (by kernel_rfl) (fun L0 => v_pick_false rfl rfl rfl) ?_
                 refine h_done (by kernel_rfl) ?_
                 refine q_conv (L' := blk b1 (.cells #[.int .i64 p.f_Kind, .int .i64 p.f_From, .int .i64 p.f_To, .int .i64 p.f_Group, .int .i64 p.f_Slot, .int .u64 p.f_Ballot, .string p.f_Value, .slice p.f_Votes.a (p.f_Votes.xs).length p.f_Votes.c] 35 (0, 0)) :: F) (fun w S => S.perm List.perm_append_comm) ?_
                 refine q_then ?_
                 refine c_false rfl ?_
                 refine c_skip ?_
                 refine q_block ?_
                 refine q_then ?_
                 refine c_region ?_
                 refine o_move rfl rfl ?_
                 refine o_bin rfl rfl rfl (b_add (wrap_i64 (by omega) (by omega))) ?_
                 refine o_assign rfl rfl ?_
                 refine l_nil ?_
                 exact q_round (i + 1) (by exact ⟨by omega, rvotesTo_on hv hx85 (by omega) (by omega) (by omega) (fun j u hj hu => by first | omega | (have h9 := hx108; rw [show ((i : Int) - 1).toNat = j by omega, hu] at h9; cases h9; omega))⟩) (by (try dsimp only); omega) ⟨(by first | rfl | exact vint (by omega)), (by first | rfl | exact vint (by omega)), trivial⟩ (fun w S => S)
             · -- h39F
              have h39b := h39
              try simp only [decide_eq_false_iff_not, Int.not_lt, Int.not_le] at h39
              refine c_exit ?_
              refine q_pass_exit ?_
              refine q_pass_exit ?_
              refine q_hit ?_
              refine q_then ?_
              refine c_seq ?_
              have hyes : RVotesTo p.f_Votes.xs p.f_Votes.xs.length := by rw [show p.f_Votes.xs.length = i by omega]; exact hv
              refine c_region ?_
              refine o_assign rfl rfl ?_
              refine l_nil ?_
              refine q_then ?_
              refine c_ret ?_
              refine q_conv (fun w S => S.tail) ?_
              exact f_ret (r_one rfl rfl) (⟨by first | exact vfalse (by unfold RightM; grind) | exact vtrue (by unfold RightM; grind), rfl⟩) (fun w S => S)
           · -- h37F
            have h37b := h37
            try simp only [decide_eq_false_iff_not, Int.not_lt, Int.not_le] at h37
            refine o_no rfl rfl rfl rfl ?_
            refine o_no rfl rfl rfl rfl ?_
            refine o_no rfl rfl rfl rfl ?_
            refine o_pick_false rfl rfl rfl ?_
            refine l_nil ?_
            refine q_then ?_
            refine c_false rfl ?_
            refine c_skip ?_
            refine q_then ?_
            refine c_seq ?_
            refine c_seq ?_
            refine c_region ?_
            refine o_assign rfl rfl ?_
            refine l_nil ?_
            refine q_then ?_
            refine c_block ?_
            refine c_loop (α := Nat) (fun z => [(1, .pointer (some ⟨b1, 0, none⟩)), (3, .int .i64 (z : Int))]) (fun z => blk b1 (.cells #[.int .i64 p.f_Kind, .int .i64 p.f_From, .int .i64 p.f_To, .int .i64 p.f_Group, .int .i64 p.f_Slot, .int .u64 p.f_Ballot, .string p.f_Value, .slice p.f_Votes.a (p.f_Votes.xs).length p.f_Votes.c] 35 (0, 0)) :: F) (fun z => z ≤ p.f_Votes.xs.length ∧ RVotesTo p.f_Votes.xs z) (fun z => p.f_Votes.xs.length - z) (0) (by exact ⟨Nat.zero_le _, rvotesTo_0⟩) ⟨(by first | rfl | exact vint (by omega)), (by first | rfl | exact vint (by omega)), trivial⟩ (fun w S => S) ?_
            rintro i ⟨hi, hv⟩
            try dsimp only at *
            refine c_seq ?_
            refine c_seq ?_
            refine c_region ?_
            refine o_move rfl rfl ?_
            refine o_fieldAddr (q := ⟨b1, 7, none⟩) rfl rfl Try.underlying35 rfl ti33 rfl ?_
            refine o_load1 rfl rfl Try.underlying33 rfl (rd_mem 0 rfl rfl) ?_
            refine o_len rfl rfl Try.underlying33 ?_
            refine o_bin rfl rfl rfl b_lss ?_
            refine l_nil ?_
            refine q_then ?_
            refine c_cond rfl (fun h44 => ?_) (fun h44 => ?_)
            · -- h44T
             have h44b := h44
             try simp only [decide_eq_true_eq] at h44
             refine c_skip ?_
             refine q_then ?_
             refine c_seq ?_
             refine c_block ?_
             refine c_seq ?_
             refine c_fact (p := ∃ ad, p.f_Votes.a = some ad) (rds_some (e := e_RVote) (xs := p.f_Votes.xs) (rds_c R_p) (by intro h0; have h00 := congrArg List.length h0; simp only [List.length_nil] at h00; omega)) ?_
             rintro ⟨adx, eadx⟩
             refine c_heldF [] (blk b1 (.cells #[.int .i64 p.f_Kind, .int .i64 p.f_From, .int .i64 p.f_To, .int .i64 p.f_Group, .int .i64 p.f_Slot, .int .u64 p.f_Ballot, .string p.f_Value, .slice p.f_Votes.a (p.f_Votes.xs).length p.f_Votes.c] 35 (0, 0)) :: F) (by kernel_rfl) ?_
             refine h_take 0 rfl rfl (by kernel_rfl) (by kernel_rfl) (by kernel_rfl) (fun L0 => v_fieldAddr (q := ⟨b1, 7, none⟩) rfl rfl Try.underlying35 rfl ti33 rfl) ?_
             refine h_take 1 rfl rfl (by kernel_rfl) (by kernel_rfl) (by kernel_rfl) (fun L0 => v_load1 rfl rfl Try.underlying33 rfl (rd_mem 0 rfl rfl)) ?_
             refine h_take 2 rfl rfl (by kernel_rfl) (by kernel_rfl) (by kernel_rfl) (fun L0 => v_move rfl rfl) ?_
             refine h_take 3 rfl rfl (by kernel_rfl) (by kernel_rfl) (by kernel_rfl) (fun L0 => v_indexK e_RVote_ok eadx rfl rfl rfl Try.underlying33 (by omega) (by omega)) ?_
             obtain ⟨x85, hx85⟩ : ∃ x, (p.f_Votes.xs)[((i : Int)).toNat]? = some x := ⟨_, List.getElem?_eq_getElem (by omega)⟩
             refine h_take 4 rfl rfl (by kernel_rfl) (by kernel_rfl) (by kernel_rfl) (fun L0 => v_fieldAddr rfl rfl Try.underlying58 rfl ti3 (Addr.add_add' _ _ _)) ?_
             refine h_take 5 rfl rfl (by kernel_rfl) (by kernel_rfl) (by kernel_rfl) (fun L0 => v_load1 rfl rfl Try.underlying3 rfl (rd_sl e_RVote_ok eadx (rds_app (rds_c R_p)) hx85 rfl)) ?_
             refine h_one 6 rfl (by kernel_rfl) ?_
             refine l_conv (L' := blk b1 (.cells #[.int .i64 p.f_Kind, .int .i64 p.f_From, .int .i64 p.f_To, .int .i64 p.f_Group, .int .i64 p.f_Slot, .int .u64 p.f_Ballot, .string p.f_Value, .slice p.f_Votes.a (p.f_Votes.xs).length p.f_Votes.c] 35 (0, 0)) :: F) (fun w S => S.perm List.perm_append_comm) ?_
             refine o_call rfl cal38 rfl (rwithin_ (n := x85.f_Slot) (k := 63)) ?_
             rintro _ _ ⟨rfl, rfl⟩
             refine l_nil ?_
             refine q_conv (L' := (blk b1 (.cells #[.int .i64 p.f_Kind, .int .i64 p.f_From, .int .i64 p.f_To, .int .i64 p.f_Group, .int .i64 p.f_Slot, .int .u64 p.f_Ballot, .string p.f_Value, .slice p.f_Votes.a (p.f_Votes.xs).length p.f_Votes.c] 35 (0, 0)) :: F) ++ []) (fun w S => S.perm (List.perm_append_comm (l₁ := []) (l₂ := blk b1 (.cells #[.int .i64 p.f_Kind, .int .i64 p.f_From, .int .i64 p.f_To, .int .i64 p.f_Group, .int .i64 p.f_Slot, .int .u64 p.f_Ballot, .string p.f_Value, .slice p.f_Votes.a (p.f_Votes.xs).length p.f_Votes.c] 35 (0, 0)) :: F))) ?_
             refine h_next ?_
             refine h_take 7 rfl rfl (by kernel_rfl) (by kernel_rfl) (by kernel_rfl) (fun L0 => v_not rfl rfl) ?_
             refine h_take 8 rfl rfl (by kernel_rfl) (by kernel_rfl) (by kernel_rfl) (fun L0 => v_move rfl rfl) ?_
             refine h_split (t := 90) rfl (fun h45 => ?_) (fun h45 => ?_)
             · -- h45T
              have h45b := h45
              try simp only [decide_eq_true_eq, decide_eq_false_iff_not, Bool.not_eq_eq_eq_not, Bool.not_true, Bool.not_false, Bool.not_eq_true', Bool.not_eq_false', Int.not_lt, Int.not_le, Bool.or_eq_true, Bool.and_eq_true] at h45
              refine h_take_no 9 rfl rfl rfl rfl rfl (by kernel_rfl) (by kernel_rfl) (by kernel_rfl) ?_
              refine h_take_no 10 rfl rfl rfl rfl rfl (by kernel_rfl) (by kernel_rfl) (by kernel_rfl) ?_
              refine h_take_no 11 rfl rfl rfl rfl rfl (by kernel_rfl) (by kernel_rfl) (by kernel_rfl) ?_
              refine h_take_no 12 rfl rfl rfl rfl rfl (by kernel_rfl) (by kernel_rfl) (by kernel_rfl) ?_
              refine h_take_no 13 rfl rfl rfl rfl rfl (by kernel_rfl) (by kernel_rfl) (by kernel_rfl) ?_
              refine h_take_no 14 rfl rfl rfl rfl rfl (by kernel_rfl) (by kernel_rfl) (by kernel_rfl) ?_
              refine h_take_no 15 rfl rfl rfl rfl rfl (by kernel_rfl) (by kernel_rfl) (by kernel_rfl) ?_
              refine h_take_no 16 rfl rfl rfl rfl rfl (by kernel_rfl) (by kernel_rfl) (by kernel_rfl) ?_
              refine h_take 17 rfl rfl (by kernel_rfl) (by kernel_rfl) (by kernel_rfl) (fun L0 => v_pick_true rfl rfl rfl) ?_
              refine h_take 18 rfl rfl (by kernel_rfl) (by kernel_rfl) (by kernel_rfl) (fun L0 => v_move rfl rfl) ?_
              refine h_take_no 19 rfl rfl rfl rfl rfl (by kernel_rfl) (by kernel_rfl) (by kernel_rfl) ?_
              refine h_take_no 20 rfl rfl rfl rfl rfl (by kernel_rfl) (by kernel_rfl) (by kernel_rfl) ?_
              refine h_take_no 21 rfl rfl rfl rfl rfl (by kernel_rfl) (by kernel_rfl) (by kernel_rfl) ?_
              refine h_take_no 22 rfl rfl rfl rfl rfl (by kernel_rfl) (by kernel_rfl) (by kernel_rfl) ?_
              refine h_take_no 23 rfl rfl rfl rfl rfl (by kernel_rfl) (by kernel_rfl) (by kernel_rfl) ?_
              refine h_take_no 24 rfl rfl rfl rfl rfl (by kernel_rfl) (by kernel_rfl) (by kernel_rfl) ?_
              refine h_take_no 25 rfl rfl rfl rfl rfl (by kernel_rfl) (by kernel_rfl) (by kernel_rfl) ?_
              refine h_take_no 26 rfl rfl rfl rfl rfl (by kernel_rfl) (by kernel_rfl) (by kernel_rfl) ?_
              refine h_take_no 27 rfl rfl rfl rfl rfl (by kernel_rfl) (by kernel_rfl) (by kernel_rfl) ?_
              refine h_take_no 28 rfl rfl rfl rfl rfl (by kernel_rfl) (by kernel_rfl) (by kernel_rfl) ?_
              refine h_take_no 29 rfl rfl rfl rfl rfl (by kernel_rfl) (by kernel_rfl) (by kernel_rfl) ?_
              refine h_take_no 30 rfl rfl rfl rfl rfl (by kernel_rfl) (by kernel_rfl) (by kernel_rfl) ?_
              refine h_take_no 31 rfl rfl rfl rfl rfl (by kernel_rfl) (by kernel_rfl) (by kernel_rfl) ?_
              refine h_take_no 32 rfl rfl rfl rfl rfl (by kernel_rfl) (by kernel_rfl) (by kernel_rfl) ?_
              refine h_take_no 33 rfl rfl rfl rfl rfl (by kernel_rfl) (by kernel_rfl) (by kernel_rfl) ?_
              refine h_take_no 34 rfl rfl rfl rfl rfl (by kernel_rfl) (by kernel_rfl) (by kernel_rfl) ?_
              refine h_take_no 35 rfl rfl rfl rfl rfl (by kernel_rfl) (by kernel_rfl) (by kernel_rfl) ?_
              refine h_take_no 36 rfl rfl rfl rfl rfl (by kernel_rfl) (by kernel_rfl) (by kernel_rfl) ?_
              refine h_take 37 rfl rfl (by kernel_rfl) (by kernel_rfl) (by kernel_rfl) (fun L0 => v_pick_true rfl rfl rfl) ?_
              refine h_done (by kernel_rfl) ?_
              refine q_conv (L' := blk b1 (.cells #[.int .i64 p.f_Kind, .int .i64 p.f_From, .int .i64 p.f_To, .int .i64 p.f_Group, .int .i64 p.f_Slot, .int .u64 p.f_Ballot, .string p.f_Value, .slice p.f_Votes.a (p.f_Votes.xs).length p.f_Votes.c] 35 (0, 0)) :: F) (fun w S => S.perm List.perm_append_comm) ?_
              refine q_then ?_
              refine c_true rfl ?_
              refine c_seq ?_
              have hno : ¬ RVotesTo p.f_Votes.xs p.f_Votes.xs.length := by first | exact rvotesTo_no hx85 (by omega) | exact rvotesTo_no2 (by omega) hx108 hx85 (by omega)
              refine c_region ?_
              refine o_assign rfl rfl ?_
              refine l_nil ?_
              refine q_then ?_
              refine c_ret ?_
              refine q_block_ret ?_
              refine q_pass_ret ?_
              refine q_pass_ret ?_
              refine q_block_ret ?_
              refine q_pass_ret ?_
              refine q_conv (fun w S => S.tail) ?_
              exact f_ret (r_one rfl rfl) (⟨by first | exact vfalse (by unfold RightM; grind) | exact vtrue (by unfold RightM; grind), rfl⟩) (fun w S => S)
             · -- h45F
              have h45b := h45
              try simp only [decide_eq_true_eq, decide_eq_false_iff_not, Bool.not_eq_eq_eq_not, Bool.not_true, Bool.not_false, Bool.not_eq_true', Bool.not_eq_false', Int.not_lt, Int.not_le, Bool.or_eq_true, Bool.and_eq_true] at h45
              refine h_take_yes 9 rfl rfl rfl rfl rfl (by kernel_rfl) (by kernel_rfl) (by kernel_rfl) (fun L0 => v_fieldAddr (q := ⟨b1, 7, none⟩) rfl rfl Try.underlying35 rfl ti33 rfl) ?_
              refine h_take_yes 10 rfl rfl rfl rfl rfl (by kernel_rfl) (by kernel_rfl) (by kernel_rfl) (fun L0 => v_load1 rfl rfl Try.underlying33 rfl (rd_mem 0 rfl rfl)) ?_
              refine h_take_yes 11 rfl rfl rfl rfl rfl (by kernel_rfl) (by kernel_rfl) (by kernel_rfl) (fun L0 => v_move rfl rfl) ?_
              refine h_take_yes 12 rfl rfl rfl rfl rfl (by kernel_rfl) (by kernel_rfl) (by kernel_rfl) (fun L0 => v_indexK e_RVote_ok eadx rfl rfl rfl Try.underlying33 (by omega) (by omega)) ?_
              obtain ⟨x94, hx94⟩ : ∃ x, (p.f_Votes.xs)[((i : Int)).toNat]? = some x := ⟨_, List.getElem?_eq_getElem (by omega)⟩
              have e94 : x94 = x85 := by rw [hx85] at hx94; exact (Option.some.inj hx94).symm
              have e94' : x94.f_Value.size = x85.f_Value.size := by rw [e94]
              refine h_take_yes 13 rfl rfl rfl rfl rfl (by kernel_rfl) (by kernel_rfl) (by kernel_rfl) (fun L0 => v_fieldAddr rfl rfl Try.underlying58 rfl ti9 (Addr.add_add' _ _ _)) ?_
              refine h_take_yes 14 rfl rfl rfl rfl rfl (by kernel_rfl) (by kernel_rfl) (by kernel_rfl) (fun L0 => v_load1 rfl rfl Try.underlying9 rfl (rd_sl e_RVote_ok eadx (rds_app (rds_c R_p)) hx94 rfl)) ?_
              refine h_take_yes 15 rfl rfl rfl rfl rfl (by kernel_rfl) (by kernel_rfl) (by kernel_rfl) (fun L0 => v_lenStr rfl rfl Try.underlying9) ?_
              refine h_take_yes 16 rfl rfl rfl rfl rfl (by kernel_rfl) (by kernel_rfl) (by kernel_rfl) (fun L0 => v_bin rfl rfl rfl b_gtr) ?_
              refine h_take 17 rfl rfl (by kernel_rfl) (by kernel_rfl) (by kernel_rfl) (fun L0 => v_pick_false rfl rfl rfl) ?_
              refine h_take 18 rfl rfl (by kernel_rfl) (by kernel_rfl) (by kernel_rfl) (fun L0 => v_move rfl rfl) ?_
              refine h_split (t := 100) rfl (fun h46 => ?_) (fun h46 => ?_)
              · -- h46T
               have h46b := h46
               try simp only [decide_eq_true_eq] at h46
               refine h_take_no 19 rfl rfl rfl rfl rfl (by kernel_rfl) (by kernel_rfl) (by kernel_rfl) ?_
               refine h_take_no 20 rfl rfl rfl rfl rfl (by kernel_rfl) (by kernel_rfl) (by kernel_rfl) ?_
               refine h_take_no 21 rfl rfl rfl rfl rfl (by kernel_rfl) (by kernel_rfl) (by kernel_rfl) ?_
               refine h_take_no 22 rfl rfl rfl rfl rfl (by kernel_rfl) (by kernel_rfl) (by kernel_rfl) ?_
               refine h_take_no 23 rfl rfl rfl rfl rfl (by kernel_rfl) (by kernel_rfl) (by kernel_rfl) ?_
               refine h_take_no 24 rfl rfl rfl rfl rfl (by kernel_rfl) (by kernel_rfl) (by kernel_rfl) ?_
               refine h_take_no 25 rfl rfl rfl rfl rfl (by kernel_rfl) (by kernel_rfl) (by kernel_rfl) ?_
               refine h_take_no 26 rfl rfl rfl rfl rfl (by kernel_rfl) (by kernel_rfl) (by kernel_rfl) ?_
               refine h_take_no 27 rfl rfl rfl rfl rfl (by kernel_rfl) (by kernel_rfl) (by kernel_rfl) ?_
               refine h_take_no 28 rfl rfl rfl rfl rfl (by kernel_rfl) (by kernel_rfl) (by kernel_rfl) ?_
               refine h_take_no 29 rfl rfl rfl rfl rfl (by kernel_rfl) (by kernel_rfl) (by kernel_rfl) ?_
               refine h_take_no 30 rfl rfl rfl rfl rfl (by kernel_rfl) (by kernel_rfl) (by kernel_rfl) ?_
               refine h_take_no 31 rfl rfl rfl rfl rfl (by kernel_rfl) (by kernel_rfl) (by kernel_rfl) ?_
               refine h_take_no 32 rfl rfl rfl rfl rfl (by kernel_rfl) (by kernel_rfl) (by kernel_rfl) ?_
               refine h_take_no 33 rfl rfl rfl rfl rfl (by kernel_rfl) (by kernel_rfl) (by kernel_rfl) ?_
               refine h_take_no 34 rfl rfl rfl rfl rfl (by kernel_rfl) (by kernel_rfl) (by kernel_rfl) ?_
               refine h_take_no 35 rfl rfl rfl rfl rfl (by kernel_rfl) (by kernel_rfl) (by kernel_rfl) ?_
               refine h_take_no 36 rfl rfl rfl rfl rfl (by kernel_rfl) (by kernel_rfl) (by kernel_rfl) ?_
               refine h_take 37 rfl rfl (by kernel_rfl) (by kernel_rfl) (by kernel_rfl) (fun L0 => v_pick_true rfl rfl rfl) ?_
               refine h_done (by kernel_rfl) ?_
               refine q_conv (L' := blk b1 (.cells #[.int .i64 p.f_Kind, .int .i64 p.f_From, .int .i64 p.f_To, .int .i64 p.f_Group, .int .i64 p.f_Slot, .int .u64 p.f_Ballot, .string p.f_Value, .slice p.f_Votes.a (p.f_Votes.xs).length p.f_Votes.c] 35 (0, 0)) :: F) (fun w S => S.perm List.perm_append_comm) ?_
               refine q_then ?_
               refine c_true rfl ?_
               refine c_seq ?_
               have hno : ¬ RVotesTo p.f_Votes.xs p.f_Votes.xs.length := by first | exact rvotesTo_no hx85 (by omega) | exact rvotesTo_no2 (by omega) hx108 hx85 (by omega)
               refine c_region ?_
               refine o_assign rfl rfl ?_
               refine l_nil ?_
               refine q_then ?_
               refine c_ret ?_
               refine q_block_ret ?_
               refine q_pass_ret ?_
               refine q_pass_ret ?_
               refine q_block_ret ?_
               refine q_pass_ret ?_
               refine q_conv (fun w S => S.tail) ?_
               exact f_ret (r_one rfl rfl) (⟨by first | exact vfalse (by unfold RightM; grind) | exact vtrue (by unfold RightM; grind), rfl⟩) (fun w S => S)
              · -- h46F
               have h46b := h46
               try simp only [decide_eq_false_iff_not, Int.not_lt, Int.not_le] at h46
               refine h_take_yes 19 rfl rfl rfl rfl rfl (by kernel_rfl) (by kernel_rfl) (by kernel_rfl) (fun L0 => v_move rfl rfl) ?_
               refine h_take_yes 20 rfl rfl rfl rfl rfl (by kernel_rfl) (by kernel_rfl) (by kernel_rfl) (fun L0 => v_bin rfl rfl rfl b_gtr) ?_
               refine h_take_yes 21 rfl rfl rfl rfl rfl (by kernel_rfl) (by kernel_rfl) (by kernel_rfl) (fun L0 => v_move rfl rfl) ?_
               refine h_split (t := 103) rfl (fun h47 => ?_) (fun h47 => ?_)
               · -- h47T
                have h47b := h47
                try simp only [decide_eq_true_eq] at h47
                refine h_take_yes 22 rfl rfl rfl rfl rfl (by kernel_rfl) (by kernel_rfl) (by kernel_rfl) (fun L0 => v_fieldAddr (q := ⟨b1, 7, none⟩) rfl rfl Try.underlying35 rfl ti33 rfl) ?_
                refine h_take_yes 23 rfl rfl rfl rfl rfl (by kernel_rfl) (by kernel_rfl) (by kernel_rfl) (fun L0 => v_load1 rfl rfl Try.underlying33 rfl (rd_mem 0 rfl rfl)) ?_
                refine h_take_yes 24 rfl rfl rfl rfl rfl (by kernel_rfl) (by kernel_rfl) (by kernel_rfl) (fun L0 => v_move rfl rfl) ?_
                refine h_take_yes 25 rfl rfl rfl rfl rfl (by kernel_rfl) (by kernel_rfl) (by kernel_rfl) (fun L0 => v_bin rfl rfl rfl (b_sub (wrap_i64 (by omega) (by omega)))) ?_
                refine h_take_yes 26 rfl rfl rfl rfl rfl (by kernel_rfl) (by kernel_rfl) (by kernel_rfl) (fun L0 => v_indexK e_RVote_ok eadx rfl rfl rfl Try.underlying33 (by omega) (by omega)) ?_
                obtain ⟨x108, hx108⟩ : ∃ x, (p.f_Votes.xs)[(((i : Int) - 1)).toNat]? = some x := ⟨_, List.getElem?_eq_getElem (by omega)⟩
                refine h_take_yes 27 rfl rfl rfl rfl rfl (by kernel_rfl) (by kernel_rfl) (by kernel_rfl) (fun L0 => v_fieldAddr rfl rfl Try.underlying58 rfl ti3 (Addr.add_add' _ _ _)) ?_
                refine h_take_yes 28 rfl rfl rfl rfl rfl (by kernel_rfl) (by kernel_rfl) (by kernel_rfl) (fun L0 => v_load1 rfl rfl Try.underlying3 rfl (rd_sl e_RVote_ok eadx (rds_app (rds_c R_p)) hx108 rfl)) ?_
                refine h_take_yes 29 rfl rfl rfl rfl rfl (by kernel_rfl) (by kernel_rfl) (by kernel_rfl) (fun L0 => v_fieldAddr (q := ⟨b1, 7, none⟩) rfl rfl Try.underlying35 rfl ti33 rfl) ?_
                refine h_take_yes 30 rfl rfl rfl rfl rfl (by kernel_rfl) (by kernel_rfl) (by kernel_rfl) (fun L0 => v_load1 rfl rfl Try.underlying33 rfl (rd_mem 0 rfl rfl)) ?_
                refine h_take_yes 31 rfl rfl rfl rfl rfl (by kernel_rfl) (by kernel_rfl) (by kernel_rfl) (fun L0 => v_move rfl rfl) ?_
                refine h_take_yes 32 rfl rfl rfl rfl rfl (by kernel_rfl) (by kernel_rfl) (by kernel_rfl) (fun L0 => v_indexK e_RVote_ok eadx rfl rfl rfl Try.underlying33 (by omega) (by omega)) ?_
                obtain ⟨x114, hx114⟩ : ∃ x, (p.f_Votes.xs)[((i : Int)).toNat]? = some x := ⟨_, List.getElem?_eq_getElem (by omega)⟩
                have e114 : x114 = x85 := by rw [hx85] at hx114; exact (Option.some.inj hx114).symm
                have e114' : x114.f_Slot = x85.f_Slot := by rw [e114]
                refine h_take_yes 33 rfl rfl rfl rfl rfl (by kernel_rfl) (by kernel_rfl) (by kernel_rfl) (fun L0 => v_fieldAddr rfl rfl Try.underlying58 rfl ti3 (Addr.add_add' _ _ _)) ?_
                refine h_take_yes 34 rfl rfl rfl rfl rfl (by kernel_rfl) (by kernel_rfl) (by kernel_rfl) (fun L0 => v_load1 rfl rfl Try.underlying3 rfl (rd_sl e_RVote_ok eadx (rds_app (rds_c R_p)) hx114 rfl)) ?_
                refine h_take_yes 35 rfl rfl rfl rfl rfl (by kernel_rfl) (by kernel_rfl) (by kernel_rfl) (fun L0 => v_bin rfl rfl rfl b_geq) ?_
                refine h_take_yes 36 rfl rfl rfl rfl rfl (by kernel_rfl) (by kernel_rfl) (by kernel_rfl) (fun L0 => v_pick_true rfl rfl rfl) ?_
                refine h_take 37 rfl rfl (by kernel_rfl) (by kernel_rfl) (by kernel_rfl) (fun L0 => v_pick_false rfl rfl rfl) ?_
                refine h_done (by kernel_rfl) ?_
                refine q_conv (L' := blk b1 (.cells #[.int .i64 p.f_Kind, .int .i64 p.f_From, .int .i64 p.f_To, .int .i64 p.f_Group, .int .i64 p.f_Slot, .int .u64 p.f_Ballot, .string p.f_Value, .slice p.f_Votes.a (p.f_Votes.xs).length p.f_Votes.c] 35 (0, 0)) :: F) (fun w S => S.perm List.perm_append_comm) ?_
                refine q_then ?_
                refine c_cond rfl (fun h48 => ?_) (fun h48 => ?_)
                · -- h48T
                 have h48b := h48
                 try simp only [decide_eq_true_eq] at h48
                 refine c_seq ?_
                 have hno : ¬ RVotesTo p.f_Votes.xs p.f_Votes.xs.length := by first | exact rvotesTo_no hx85 (by omega) | exact rvotesTo_no2 (by omega) hx108 hx85 (by omega)
                 refine c_region ?_
                 refine o_assign rfl rfl ?_
                 refine l_nil ?_
                 refine q_then ?_
                 refine c_ret ?_
                 refine q_block_ret ?_
                 refine q_pass_ret ?_
                 refine q_pass_ret ?_
                 refine q_block_ret ?_
                 refine q_pass_ret ?_
                 refine q_conv (fun w S => S.tail) ?_
                 exact f_ret (r_one rfl rfl) (⟨by first | exact vfalse (by unfold RightM; grind) | exact vtrue (by unfold RightM; grind), rfl⟩) (fun w S => S)
                · -- h48F
                 have h48b := h48
                 try simp only [decide_eq_false_iff_not, Int.not_lt, Int.not_le] at h48
                 refine c_skip ?_
                 refine q_block ?_
                 refine q_then ?_
                 refine c_region ?_
                 refine o_move rfl rfl ?_
                 refine o_bin rfl rfl rfl (b_add (wrap_i64 (by omega) (by omega))) ?_
                 refine o_assign rfl rfl ?_
                 refine l_nil ?_
                 exact q_round (i + 1) (by exact ⟨by omega, rvotesTo_on hv hx85 (by omega) (by omega) (by omega) (fun j u hj hu => by first | omega | (have h9 := hx108; rw [show ((i : Int) - 1).toNat = j by omega, hu] at h9; cases h9; omega))⟩) (by (try dsimp only); omega) ⟨(by first | rfl | exact vint (by omega)), (by first | rfl | exact vint (by omega)), trivial⟩ (fun w S => S)
               · -- h47F
                have h47b := h47
                try simp only [decide_eq_false_iff_not, Int.not_lt, Int.not_le] at h47
                refine h_take_no 22 rfl rfl rfl rfl rfl (by kernel_rfl) (by kernel_rfl) (by kernel_rfl) ?_
                refine h_take_no 23 rfl rfl rfl rfl rfl (by kernel_rfl) (by kernel_rfl) (by kernel_rfl) ?_
                refine h_take_no 24 rfl rfl rfl rfl rfl (by kernel_rfl) (by kernel_rfl) (by kernel_rfl) ?_
                refine h_take_no 25 rfl rfl rfl rfl rfl (by kernel_rfl) (by kernel_rfl) (by kernel_rfl) ?_
                refine h_take_no 26 rfl rfl rfl rfl rfl (by kernel_rfl) (by kernel_rfl) (by kernel_rfl) ?_
                refine h_take_no 27 rfl rfl rfl rfl rfl (by kernel_rfl) (by kernel_rfl) (by kernel_rfl) ?_
                refine h_take_no 28 rfl rfl rfl rfl rfl (by kernel_rfl) (by kernel_rfl) (by kernel_rfl) ?_
                refine h_take_no 29 rfl rfl rfl rfl rfl (by kernel_rfl) (by kernel_rfl) (by kernel_rfl) ?_
                refine h_take_no 30 rfl rfl rfl rfl rfl (by kernel_rfl) (by kernel_rfl) (by kernel_rfl) ?_
                refine h_take_no 31 rfl rfl rfl rfl rfl (by kernel_rfl) (by kernel_rfl) (by kernel_rfl) ?_
                refine h_take_no 32 rfl rfl rfl rfl rfl (by kernel_rfl) (by kernel_rfl) (by kernel_rfl) ?_
                refine h_take_no 33 rfl rfl rfl rfl rfl (by kernel_rfl) (by kernel_rfl) (by kernel_rfl) ?_
                refine h_take_no 34 rfl rfl rfl rfl rfl (by kernel_rfl) (by kernel_rfl) (by kernel_rfl) ?_
                refine h_take_no 35 rfl rfl rfl rfl rfl (by kernel_rfl) (by kernel_rfl) (by kernel_rfl) ?_
                refine h_take_yes 36 rfl rfl rfl rfl rfl (by kernel_rfl) (by kernel_rfl) (by kernel_rfl) (fun L0 => v_pick_false rfl rfl rfl) ?_
                refine h_take 37 rfl rfl (by kernel_rfl) (by kernel_rfl) (by kernel_rfl) (fun L0 => v_pick_false rfl rfl rfl) ?_
                refine h_done (by kernel_rfl) ?_
                refine q_conv (L' := blk b1 (.cells #[.int .i64 p.f_Kind, .int .i64 p.f_From, .int .i64 p.f_To, .int .i64 p.f_Group, .int .i64 p.f_Slot, .int .u64 p.f_Ballot, .string p.f_Value, .slice p.f_Votes.a (p.f_Votes.xs).length p.f_Votes.c] 35 (0, 0)) :: F) (fun w S => S.perm List.perm_append_comm) ?_
                refine q_then ?_
                refine c_false rfl ?_
                refine c_skip ?_
                refine q_block ?_
                refine q_then ?_
                refine c_region ?_
                refine o_move rfl rfl ?_
                refine o_bin rfl rfl rfl (b_add (wrap_i64 (by omega) (by omega))) ?_
                refine o_assign rfl rfl ?_
                refine l_nil ?_
                exact q_round (i + 1) (by exact ⟨by omega, rvotesTo_on hv hx85 (by omega) (by omega) (by omega) (fun j u hj hu => by first | omega | (have h9 := hx108; rw [show ((i : Int) - 1).toNat = j by omega, hu] at h9; cases h9; omega))⟩) (by (try dsimp only); omega) ⟨(by first | rfl | exact vint (by omega)), (by first | rfl | exact vint (by omega)), trivial⟩ (fun w S => S)
            · -- h44F
             have h44b := h44
             try simp only [decide_eq_false_iff_not, Int.not_lt, Int.not_le] at h44
             refine c_exit ?_
             refine q_pass_exit ?_
             refine q_pass_exit ?_
             refine q_hit ?_
             refine q_then ?_
             refine c_seq ?_
             have hyes : RVotesTo p.f_Votes.xs p.f_Votes.xs.length := by rw [show p.f_Votes.xs.length = i by omega]; exact hv
             refine c_region ?_
             refine o_assign rfl rfl ?_
             refine l_nil ?_
             refine q_then ?_
             refine c_ret ?_
             refine q_conv (fun w S => S.tail) ?_
             exact f_ret (r_one rfl rfl) (⟨by first | exact vfalse (by unfold RightM; grind) | exact vtrue (by unfold RightM; grind), rfl⟩) (fun w S => S)
         · -- h9F
          have h9b := h9
          try simp only [Bool.not_eq_false', decide_eq_true_eq] at h9
          refine o_no rfl rfl rfl rfl ?_
          refine o_no rfl rfl rfl rfl ?_
          refine o_no rfl rfl rfl rfl ?_
          refine o_pick_false rfl rfl rfl ?_
          refine o_move rfl rfl ?_
          refine o_no rfl rfl rfl rfl ?_
          refine o_no rfl rfl rfl rfl ?_
          refine o_no rfl rfl rfl rfl ?_
          refine o_pick_false rfl rfl rfl ?_
          refine o_move rfl rfl ?_
          refine o_no rfl rfl rfl rfl ?_
          refine o_no rfl rfl rfl rfl ?_
          refine o_no rfl rfl rfl rfl ?_
          refine o_pick_false rfl rfl rfl ?_
          refine l_nil ?_
          refine q_then ?_
          refine c_false rfl ?_
          refine c_skip ?_
          refine q_then ?_
          refine c_seq ?_
          refine c_seq ?_
          refine c_region ?_
          refine o_fieldAddr (q := ⟨b1, 7, none⟩) rfl rfl Try.underlying35 rfl ti33 rfl ?_
          refine o_load1 rfl rfl Try.underlying33 rfl (rd_mem 0 rfl rfl) ?_
          refine o_len rfl rfl Try.underlying33 ?_
          refine o_bin rfl rfl rfl b_gtr ?_
          refine o_move rfl rfl ?_
          refine l_split (t := 70) rfl (fun h49 => ?_) (fun h49 => ?_)
          · -- h49T
           have h49b := h49
           try simp only [decide_eq_true_eq] at h49
           refine o_yes rfl rfl rfl ?_
           refine o_fieldAddr (q := ⟨b1, 0, none⟩) rfl rfl Try.underlying35 rfl ti3 rfl ?_
           refine o_yes rfl rfl rfl ?_
           refine o_load1 rfl rfl Try.underlying3 rfl (rd_mem 0 rfl rfl) ?_
           refine o_yes rfl rfl rfl ?_
           refine o_bin rfl rfl rfl b_neq ?_
           refine o_pick_true rfl rfl rfl ?_
           refine l_nil ?_
           refine q_then ?_
           refine c_cond rfl (fun h50 => ?_) (fun h50 => ?_)
           · -- h50T
            have h50b := h50
            try simp only [Bool.not_eq_true', decide_eq_false_iff_not, Int.not_lt, Int.not_le] at h50
            refine c_seq ?_
            refine c_region ?_
            refine o_assign rfl rfl ?_
            refine l_nil ?_
            refine q_then ?_
            refine c_ret ?_
            refine q_pass_ret ?_
            refine q_conv (fun w S => S.tail) ?_
            exact f_ret (r_one rfl rfl) (⟨by first | exact vfalse (by unfold RightM; grind) | exact vtrue (by unfold RightM; grind), rfl⟩) (fun w S => S)
           · -- h50F
            have h50b := h50
            try simp only [Bool.not_eq_false', decide_eq_true_eq] at h50
            refine c_skip ?_
            refine q_then ?_
            refine c_seq ?_
            refine c_seq ?_
            refine c_region ?_
            refine o_assign rfl rfl ?_
            refine l_nil ?_
            refine q_then ?_
            refine c_block ?_
            refine c_loop (α := Nat) (fun z => [(1, .pointer (some ⟨b1, 0, none⟩)), (3, .int .i64 (z : Int))]) (fun z => blk b1 (.cells #[.int .i64 p.f_Kind, .int .i64 p.f_From, .int .i64 p.f_To, .int .i64 p.f_Group, .int .i64 p.f_Slot, .int .u64 p.f_Ballot, .string p.f_Value, .slice p.f_Votes.a (p.f_Votes.xs).length p.f_Votes.c] 35 (0, 0)) :: F) (fun z => z ≤ p.f_Votes.xs.length ∧ RVotesTo p.f_Votes.xs z) (fun z => p.f_Votes.xs.length - z) (0) (by exact ⟨Nat.zero_le _, rvotesTo_0⟩) ⟨(by first | rfl | exact vint (by omega)), (by first | rfl | exact vint (by omega)), trivial⟩ (fun w S => S) ?_
            rintro i ⟨hi, hv⟩
            try dsimp only at *
            refine c_seq ?_
            refine c_seq ?_
            refine c_region ?_
            refine o_move rfl rfl ?_
            refine o_fieldAddr (q := ⟨b1, 7, none⟩) rfl rfl Try.underlying35 rfl ti33 rfl ?_
            refine o_load1 rfl rfl Try.underlying33 rfl (rd_mem 0 rfl rfl) ?_
            refine o_len rfl rfl Try.underlying33 ?_
            refine o_bin rfl rfl rfl b_lss ?_
            refine l_nil ?_
            refine q_then ?_
            refine c_cond rfl (fun h51 => ?_) (fun h51 => ?_)
            · -- h51T
             have h51b := h51
             try simp only [decide_eq_true_eq] at h51
             refine c_skip ?_
             refine q_then ?_
             refine c_seq ?_
             refine c_block ?_
             refine c_seq ?_
             refine c_fact (p := ∃ ad, p.f_Votes.a = some ad) (rds_some (e := e_RVote) (xs := p.f_Votes.xs) (rds_c R_p) (by intro h0; have h00 := congrArg List.length h0; simp only [List.length_nil] at h00; omega)) ?_
             rintro ⟨adx, eadx⟩
             refine c_heldF [] (blk b1 (.cells #[.int .i64 p.f_Kind, .int .i64 p.f_From, .int .i64 p.f_To, .int .i64 p.f_Group, .int .i64 p.f_Slot, .int .u64 p.f_Ballot, .string p.f_Value, .slice p.f_Votes.a (p.f_Votes.xs).length p.f_Votes.c] 35 (0, 0)) :: F) (by kernel_rfl) ?_
             refine h_take 0 rfl rfl (by kernel_rfl) (by kernel_rfl) (by kernel_rfl) (fun L0 => v_fieldAddr (q := ⟨b1, 7, none⟩) rfl rfl Try.underlying35 rfl ti33 rfl) ?_
             refine h_take 1 rfl rfl (by kernel_rfl) (by kernel_rfl) (by kernel_rfl) (fun L0 => v_load1 rfl rfl Try.underlying33 rfl (rd_mem 0 rfl rfl)) ?_
             refine h_take 2 rfl rfl (by kernel_rfl) (by kernel_rfl) (by kernel_rfl) (fun L0 => v_move rfl rfl) ?_
             refine h_take 3 rfl rfl (by kernel_rfl) (by kernel_rfl) (by kernel_rfl) (fun L0 => v_indexK e_RVote_ok eadx rfl rfl rfl Try.underlying33 (by omega) (by omega)) ?_
             obtain ⟨x85, hx85⟩ : ∃ x, (p.f_Votes.xs)[((i : Int)).toNat]? = some x := ⟨_, List.getElem?_eq_getElem (by omega)⟩
             refine h_take 4 rfl rfl (by kernel_rfl) (by kernel_rfl) (by kernel_rfl) (fun L0 => v_fieldAddr rfl rfl Try.underlying58 rfl ti3 (Addr.add_add' _ _ _)) ?_
             refine h_take 5 rfl rfl (by kernel_rfl) (by kernel_rfl) (by kernel_rfl) (fun L0 => v_load1 rfl rfl Try.underlying3 rfl (rd_sl e_RVote_ok eadx (rds_app (rds_c R_p)) hx85 rfl)) ?_
             refine h_one 6 rfl (by kernel_rfl) ?_
             refine l_conv (L' := blk b1 (.cells #[.int .i64 p.f_Kind, .int .i64 p.f_From, .int .i64 p.f_To, .int .i64 p.f_Group, .int .i64 p.f_Slot, .int .u64 p.f_Ballot, .string p.f_Value, .slice p.f_Votes.a (p.f_Votes.xs).length p.f_Votes.c] 35 (0, 0)) :: F) (fun w S => S.perm List.perm_append_comm) ?_
             refine o_call rfl cal38 rfl (rwithin_ (n := x85.f_Slot) (k := 63)) ?_
             rintro _ _ ⟨rfl, rfl⟩
             refine l_nil ?_
             refine q_conv (L' := (blk b1 (.cells #[.int .i64 p.f_Kind, .int .i64 p.f_From, .int .i64 p.f_To, .int .i64 p.f_Group, .int .i64 p.f_Slot, .int .u64 p.f_Ballot, .string p.f_Value, .slice p.f_Votes.a (p.f_Votes.xs).length p.f_Votes.c] 35 (0, 0)) :: F) ++ []) (fun w S => S.perm (List.perm_append_comm (l₁ := []) (l₂ := blk b1 (.cells #[.int .i64 p.f_Kind, .int .i64 p.f_From, .int .i64 p.f_To, .int .i64 p.f_Group, .int .i64 p.f_Slot, .int .u64 p.f_Ballot, .string p.f_Value, .slice p.f_Votes.a (p.f_Votes.xs).length p.f_Votes.c] 35 (0, 0)) :: F))) ?_
             refine h_next ?_
             refine h_take 7 rfl rfl (by kernel_rfl) (by kernel_rfl) (by kernel_rfl) (fun L0 => v_not rfl rfl) ?_
             refine h_take 8 rfl rfl (by kernel_rfl) (by kernel_rfl) (by kernel_rfl) (fun L0 => v_move rfl rfl) ?_
             refine h_split (t := 90) rfl (fun h52 => ?_) (fun h52 => ?_)
             · -- h52T
              have h52b := h52
              try simp only [decide_eq_true_eq, decide_eq_false_iff_not, Bool.not_eq_eq_eq_not, Bool.not_true, Bool.not_false, Bool.not_eq_true', Bool.not_eq_false', Int.not_lt, Int.not_le, Bool.or_eq_true, Bool.and_eq_true] at h52
              refine h_take_no 9 rfl rfl rfl rfl rfl (by kernel_rfl) (by kernel_rfl) (by kernel_rfl) ?_
              refine h_take_no 10 rfl rfl rfl rfl rfl (by kernel_rfl) (by kernel_rfl) (by kernel_rfl) ?_
              refine h_take_no 11 rfl rfl rfl rfl rfl (by kernel_rfl) (by kernel_rfl) (by kernel_rfl) ?_
              refine h_take_no 12 rfl rfl rfl rfl rfl (by kernel_rfl) (by kernel_rfl) (by kernel_rfl) ?_
              refine h_take_no 13 rfl rfl rfl rfl rfl (by kernel_rfl) (by kernel_rfl) (by kernel_rfl) ?_
              refine h_take_no 14 rfl rfl rfl rfl rfl (by kernel_rfl) (by kernel_rfl) (by kernel_rfl) ?_
              refine h_take_no 15 rfl rfl rfl rfl rfl (by kernel_rfl) (by kernel_rfl) (by kernel_rfl) ?_
              refine h_take_no 16 rfl rfl rfl rfl rfl (by kernel_rfl) (by kernel_rfl) (by kernel_rfl) ?_
              refine h_take 17 rfl rfl (by kernel_rfl) (by kernel_rfl) (by kernel_rfl) (fun L0 => v_pick_true rfl rfl rfl) ?_
              refine h_take 18 rfl rfl (by kernel_rfl) (by kernel_rfl) (by kernel_rfl) (fun L0 => v_move rfl rfl) ?_
              refine h_take_no 19 rfl rfl rfl rfl rfl (by kernel_rfl) (by kernel_rfl) (by kernel_rfl) ?_
              refine h_take_no 20 rfl rfl rfl rfl rfl (by kernel_rfl) (by kernel_rfl) (by kernel_rfl) ?_
              refine h_take_no 21 rfl rfl rfl rfl rfl (by kernel_rfl) (by kernel_rfl) (by kernel_rfl) ?_
              refine h_take_no 22 rfl rfl rfl rfl rfl (by kernel_rfl) (by kernel_rfl) (by kernel_rfl) ?_
              refine h_take_no 23 rfl rfl rfl rfl rfl (by kernel_rfl) (by kernel_rfl) (by kernel_rfl) ?_
              refine h_take_no 24 rfl rfl rfl rfl rfl (by kernel_rfl) (by kernel_rfl) (by kernel_rfl) ?_
              refine h_take_no 25 rfl rfl rfl rfl rfl (by kernel_rfl) (by kernel_rfl) (by kernel_rfl) ?_
              refine h_take_no 26 rfl rfl rfl rfl rfl (by kernel_rfl) (by kernel_rfl) (by kernel_rfl) ?_
              refine h_take_no 27 rfl rfl rfl rfl rfl (by kernel_rfl) (by kernel_rfl) (by kernel_rfl) ?_
              refine h_take_no 28 rfl rfl rfl rfl rfl (by kernel_rfl) (by kernel_rfl) (by kernel_rfl) ?_
              refine h_take_no 29 rfl rfl rfl rfl rfl (by kernel_rfl) (by kernel_rfl) (by kernel_rfl) ?_
              refine h_take_no 30 rfl rfl rfl rfl rfl (by kernel_rfl) (by kernel_rfl) (by kernel_rfl) ?_
              refine h_take_no 31 rfl rfl rfl rfl rfl (by kernel_rfl) (by kernel_rfl) (by kernel_rfl) ?_
              refine h_take_no 32 rfl rfl rfl rfl rfl (by kernel_rfl) (by kernel_rfl) (by kernel_rfl) ?_
              refine h_take_no 33 rfl rfl rfl rfl rfl (by kernel_rfl) (by kernel_rfl) (by kernel_rfl) ?_
              refine h_take_no 34 rfl rfl rfl rfl rfl (by kernel_rfl) (by kernel_rfl) (by kernel_rfl) ?_
              refine h_take_no 35 rfl rfl rfl rfl rfl (by kernel_rfl) (by kernel_rfl) (by kernel_rfl) ?_
              refine h_take_no 36 rfl rfl rfl rfl rfl (by kernel_rfl) (by kernel_rfl) (by kernel_rfl) ?_
              refine h_take 37 rfl rfl (by kernel_rfl) (by kernel_rfl) (by kernel_rfl) (fun L0 => v_pick_true rfl rfl rfl) ?_
              refine h_done (by kernel_rfl) ?_
              refine q_conv (L' := blk b1 (.cells #[.int .i64 p.f_Kind, .int .i64 p.f_From, .int .i64 p.f_To, .int .i64 p.f_Group, .int .i64 p.f_Slot, .int .u64 p.f_Ballot, .string p.f_Value, .slice p.f_Votes.a (p.f_Votes.xs).length p.f_Votes.c] 35 (0, 0)) :: F) (fun w S => S.perm List.perm_append_comm) ?_
              refine q_then ?_
              refine c_true rfl ?_
              refine c_seq ?_
              have hno : ¬ RVotesTo p.f_Votes.xs p.f_Votes.xs.length := by first | exact rvotesTo_no hx85 (by omega) | exact rvotesTo_no2 (by omega) hx108 hx85 (by omega)
              refine c_region ?_
              refine o_assign rfl rfl ?_
              refine l_nil ?_
              refine q_then ?_
              refine c_ret ?_
              refine q_block_ret ?_
              refine q_pass_ret ?_
              refine q_pass_ret ?_
              refine q_block_ret ?_
              refine q_pass_ret ?_
              refine q_conv (fun w S => S.tail) ?_
              exact f_ret (r_one rfl rfl) (⟨by first | exact vfalse (by unfold RightM; grind) | exact vtrue (by unfold RightM; grind), rfl⟩) (fun w S => S)
             · -- h52F
              have h52b := h52
              try simp only [decide_eq_true_eq, decide_eq_false_iff_not, Bool.not_eq_eq_eq_not, Bool.not_true, Bool.not_false, Bool.not_eq_true', Bool.not_eq_false', Int.not_lt, Int.not_le, Bool.or_eq_true, Bool.and_eq_true] at h52
              refine h_take_yes 9 rfl rfl rfl rfl rfl (by kernel_rfl) (by kernel_rfl) (by kernel_rfl) (fun L0 => v_fieldAddr (q := ⟨b1, 7, none⟩) rfl rfl Try.underlying35 rfl ti33 rfl) ?_
              refine h_take_yes 10 rfl rfl rfl rfl rfl (by kernel_rfl) (by kernel_rfl) (by kernel_rfl) (fun L0 => v_load1 rfl rfl Try.underlying33 rfl (rd_mem 0 rfl rfl)) ?_
              refine h_take_yes 11 rfl rfl rfl rfl rfl (by kernel_rfl) (by kernel_rfl) (by kernel_rfl) (fun L0 => v_move rfl rfl) ?_
              refine h_take_yes 12 rfl rfl rfl rfl rfl (by kernel_rfl) (by kernel_rfl) (by kernel_rfl) (fun L0 => v_indexK e_RVote_ok eadx rfl rfl rfl Try.underlying33 (by omega) (by omega)) ?_
              obtain ⟨x94, hx94⟩ : ∃ x, (p.f_Votes.xs)[((i : Int)).toNat]? = some x := ⟨_, List.getElem?_eq_getElem (by omega)⟩
              have e94 : x94 = x85 := by rw [hx85] at hx94; exact (Option.some.inj hx94).symm
              have e94' : x94.f_Value.size = x85.f_Value.size := by rw [e94]
              refine h_take_yes 13 rfl rfl rfl rfl rfl (by kernel_rfl) (by kernel_rfl) (by kernel_rfl) (fun L0 => v_fieldAddr rfl rfl Try.underlying58 rfl ti9 (Addr.add_add' _ _ _)) ?_
              refine h_take_yes 14 rfl rfl rfl rfl rfl (by kernel_rfl) (by kernel_rfl) (by kernel_rfl) (fun L0 => v_load1 rfl rfl Try.underlying9 rfl (rd_sl e_RVote_ok eadx (rds_app (rds_c R_p)) hx94 rfl)) ?_
              refine h_take_yes 15 rfl rfl rfl rfl rfl (by kernel_rfl) (by kernel_rfl) (by kernel_rfl) (fun L0 => v_lenStr rfl rfl Try.underlying9) ?_
              refine h_take_yes 16 rfl rfl rfl rfl rfl (by kernel_rfl) (by kernel_rfl) (by kernel_rfl) (fun L0 => v_bin rfl rfl rfl b_gtr) ?_
              refine h_take 17 rfl rfl (by kernel_rfl) (by kernel_rfl) (by kernel_rfl) (fun L0 => v_pick_false rfl rfl rfl) ?_
              refine h_take 18 rfl rfl (by kernel_rfl) (by kernel_rfl) (by kernel_rfl) (fun L0 => v_move rfl rfl) ?_
              refine h_split (t := 100) rfl (fun h53 => ?_) (fun h53 => ?_)
              · -- h53T
               have h53b := h53
               try simp only [decide_eq_true_eq] at h53
               refine h_take_no 19 rfl rfl rfl rfl rfl (by kernel_rfl) (by kernel_rfl) (by kernel_rfl) ?_
               refine h_take_no 20 rfl rfl rfl rfl rfl (by kernel_rfl) (by kernel_rfl) (by kernel_rfl) ?_
               refine h_take_no 21 rfl rfl rfl rfl rfl (by kernel_rfl) (by kernel_rfl) (by kernel_rfl) ?_
               refine h_take_no 22 rfl rfl rfl rfl rfl (by kernel_rfl) (by kernel_rfl) (by kernel_rfl) ?_
               refine h_take_no 23 rfl rfl rfl rfl rfl (by kernel_rfl) (by kernel_rfl) (by kernel_rfl) ?_
               refine h_take_no 24 rfl rfl rfl rfl rfl (by kernel_rfl) (by kernel_rfl) (by kernel_rfl) ?_
               refine h_take_no 25 rfl rfl rfl rfl rfl (by kernel_rfl) (by kernel_rfl) (by kernel_rfl) ?_
               refine h_take_no 26 rfl rfl rfl rfl rfl (by kernel_rfl) (by kernel_rfl) (by kernel_rfl) ?_
               refine h_take_no 27 rfl rfl rfl rfl rfl (by kernel_rfl) (by kernel_rfl) (by kernel_rfl) ?_
               refine h_take_no 28 rfl rfl rfl rfl rfl (by kernel_rfl) (by kernel_rfl) (by kernel_rfl) ?_
               refine h_take_no 29 rfl rfl rfl rfl rfl (by kernel_rfl) (by kernel_rfl) (by kernel_rfl) ?_
               refine h_take_no 30 rfl rfl rfl rfl rfl (by kernel_rfl) (by kernel_rfl) (by kernel_rfl) ?_
               refine h_take_no 31 rfl rfl rfl rfl rfl (by kernel_rfl) (by kernel_rfl) (by kernel_rfl) ?_
               refine h_take_no 32 rfl rfl rfl rfl rfl (by kernel_rfl) (by kernel_rfl) (by kernel_rfl) ?_
               refine h_take_no 33 rfl rfl rfl rfl rfl (by kernel_rfl) (by kernel_rfl) (by kernel_rfl) ?_
               refine h_take_no 34 rfl rfl rfl rfl rfl (by kernel_rfl) (by kernel_rfl) (by kernel_rfl) ?_
               refine h_take_no 35 rfl rfl rfl rfl rfl (by kernel_rfl) (by kernel_rfl) (by kernel_rfl) ?_
               refine h_take_no 36 rfl rfl rfl rfl rfl (by kernel_rfl) (by kernel_rfl) (by kernel_rfl) ?_
               refine h_take 37 rfl rfl (by kernel_rfl) (by kernel_rfl) (by kernel_rfl) (fun L0 => v_pick_true rfl rfl rfl) ?_
               refine h_done (by kernel_rfl) ?_
               refine q_conv (L' := blk b1 (.cells #[.int .i64 p.f_Kind, .int .i64 p.f_From, .int .i64 p.f_To, .int .i64 p.f_Group, .int .i64 p.f_Slot, .int .u64 p.f_Ballot, .string p.f_Value, .slice p.f_Votes.a (p.f_Votes.xs).length p.f_Votes.c] 35 (0, 0)) :: F) (fun w S => S.perm List.perm_append_comm) ?_
               refine q_then ?_
               refine c_true rfl ?_
               refine c_seq ?_
               have hno : ¬ RVotesTo p.f_Votes.xs p.f_Votes.xs.length := by first | exact rvotesTo_no hx85 (by omega) | exact rvotesTo_no2 (by omega) hx108 hx85 (by omega)
               refine c_region ?_
               refine o_assign rfl rfl ?_
               refine l_nil ?_
               refine q_then ?_
               refine c_ret ?_
               refine q_block_ret ?_
               refine q_pass_ret ?_
               refine q_pass_ret ?_
               refine q_block_ret ?_
               refine q_pass_ret ?_
               refine q_conv (fun w S => S.tail) ?_
               exact f_ret (r_one rfl rfl) (⟨by first | exact vfalse (by unfold RightM; grind) | exact vtrue (by unfold RightM; grind), rfl⟩) (fun w S => S)
              · -- h53F
               have h53b := h53
               try simp only [decide_eq_false_iff_not, Int.not_lt, Int.not_le] at h53
               refine h_take_yes 19 rfl rfl rfl rfl rfl (by kernel_rfl) (by kernel_rfl) (by kernel_rfl) (fun L0 => v_move rfl rfl) ?_
               refine h_take_yes 20 rfl rfl rfl rfl rfl (by kernel_rfl) (by kernel_rfl) (by kernel_rfl) (fun L0 => v_bin rfl rfl rfl b_gtr) ?_
               refine h_take_yes 21 rfl rfl rfl rfl rfl (by kernel_rfl) (by kernel_rfl) (by kernel_rfl) (fun L0 => v_move rfl rfl) ?_
               refine h_split (t := 103) rfl (fun h54 => ?_) (fun h54 => ?_)
               · -- h54T
                have h54b := h54
                try simp only [decide_eq_true_eq] at h54
                refine h_take_yes 22 rfl rfl rfl rfl rfl (by kernel_rfl) (by kernel_rfl) (by kernel_rfl) (fun L0 => v_fieldAddr (q := ⟨b1, 7, none⟩) rfl rfl Try.underlying35 rfl ti33 rfl) ?_
                refine h_take_yes 23 rfl rfl rfl rfl rfl (by kernel_rfl) (by kernel_rfl) (by kernel_rfl) (fun L0 => v_load1 rfl rfl Try.underlying33 rfl (rd_mem 0 rfl rfl)) ?_
                refine h_take_yes 24 rfl rfl rfl rfl rfl (by kernel_rfl) (by kernel_rfl) (by kernel_rfl) (fun L0 => v_move rfl rfl) ?_
                refine h_take_yes 25 rfl rfl rfl rfl rfl (by kernel_rfl) (by kernel_rfl) (by kernel_rfl) (fun L0 => v_bin rfl rfl rfl (b_sub (wrap_i64 (by omega) (by omega)))) ?_
                refine h_take_yes 26 rfl rfl rfl rfl rfl (by kernel_rfl) (by kernel_rfl) (by kernel_rfl) (fun L0 => v_indexK e_RVote_ok eadx rfl rfl rfl Try.underlying33 (by omega) (by omega)) ?_
                obtain ⟨x108, hx108⟩ : ∃ x, (p.f_Votes.xs)[(((i : Int) - 1)).toNat]? = some x := ⟨_, List.getElem?_eq_getElem (by omega)⟩
                refine h_take_yes 27 rfl rfl rfl rfl rfl (by kernel_rfl) (by kernel_rfl) (by kernel_rfl) (fun L0 => v_fieldAddr rfl rfl Try.underlying58 rfl ti3 (Addr.add_add' _ _ _)) ?_
                refine h_take_yes 28 rfl rfl rfl rfl rfl (by kernel_rfl) (by kernel_rfl) (by kernel_rfl) (fun L0 => v_load1 rfl rfl Try.underlying3 rfl (rd_sl e_RVote_ok eadx (rds_app (rds_c R_p)) hx108 rfl)) ?_
                refine h_take_yes 29 rfl rfl rfl rfl rfl (by kernel_rfl) (by kernel_rfl) (by kernel_rfl) (fun L0 => v_fieldAddr (q := ⟨b1, 7, none⟩) rfl rfl Try.underlying35 rfl ti33 rfl) ?_
                refine h_take_yes 30 rfl rfl rfl rfl rfl (by kernel_rfl) (by kernel_rfl) (by kernel_rfl) (fun L0 => v_load1 rfl rfl Try.underlying33 rfl (rd_mem 0 rfl rfl)) ?_
                refine h_take_yes 31 rfl rfl rfl rfl rfl (by kernel_rfl) (by kernel_rfl) (by kernel_rfl) (fun L0 => v_move rfl rfl) ?_
                refine h_take_yes 32 rfl rfl rfl rfl rfl (by kernel_rfl) (by kernel_rfl) (by kernel_rfl) (fun L0 => v_indexK e_RVote_ok eadx rfl rfl rfl Try.underlying33 (by omega) (by omega)) ?_
                obtain ⟨x114, hx114⟩ : ∃ x, (p.f_Votes.xs)[((i : Int)).toNat]? = some x := ⟨_, List.getElem?_eq_getElem (by omega)⟩
                have e114 : x114 = x85 := by rw [hx85] at hx114; exact (Option.some.inj hx114).symm
                have e114' : x114.f_Slot = x85.f_Slot := by rw [e114]
                refine h_take_yes 33 rfl rfl rfl rfl rfl (by kernel_rfl) (by kernel_rfl) (by kernel_rfl) (fun L0 => v_fieldAddr rfl rfl Try.underlying58 rfl ti3 (Addr.add_add' _ _ _)) ?_
                refine h_take_yes 34 rfl rfl rfl rfl rfl (by kernel_rfl) (by kernel_rfl) (by kernel_rfl) (fun L0 => v_load1 rfl rfl Try.underlying3 rfl (rd_sl e_RVote_ok eadx (rds_app (rds_c R_p)) hx114 rfl)) ?_
                refine h_take_yes 35 rfl rfl rfl rfl rfl (by kernel_rfl) (by kernel_rfl) (by kernel_rfl) (fun L0 => v_bin rfl rfl rfl b_geq) ?_
                refine h_take_yes 36 rfl rfl rfl rfl rfl (by kernel_rfl) (by kernel_rfl) (by kernel_rfl) (fun L0 => v_pick_true rfl rfl rfl) ?_
                refine h_take 37 rfl rfl (by kernel_rfl) (by kernel_rfl) (by kernel_rfl) (fun L0 => v_pick_false rfl rfl rfl) ?_
                refine h_done (by kernel_rfl) ?_
                refine q_conv (L' := blk b1 (.cells #[.int .i64 p.f_Kind, .int .i64 p.f_From, .int .i64 p.f_To, .int .i64 p.f_Group, .int .i64 p.f_Slot, .int .u64 p.f_Ballot, .string p.f_Value, .slice p.f_Votes.a (p.f_Votes.xs).length p.f_Votes.c] 35 (0, 0)) :: F) (fun w S => S.perm List.perm_append_comm) ?_
                refine q_then ?_
                refine c_cond rfl (fun h55 => ?_) (fun h55 => ?_)
                · -- h55T
                 have h55b := h55
                 try simp only [decide_eq_true_eq] at h55
                 refine c_seq ?_
                 have hno : ¬ RVotesTo p.f_Votes.xs p.f_Votes.xs.length := by first | exact rvotesTo_no hx85 (by omega) | exact rvotesTo_no2 (by omega) hx108 hx85 (by omega)
                 refine c_region ?_
                 refine o_assign rfl rfl ?_
                 refine l_nil ?_
                 refine q_then ?_
                 refine c_ret ?_
                 refine q_block_ret ?_
                 refine q_pass_ret ?_
                 refine q_pass_ret ?_
                 refine q_block_ret ?_
                 refine q_pass_ret ?_
                 refine q_conv (fun w S => S.tail) ?_
                 exact f_ret (r_one rfl rfl) (⟨by first | exact vfalse (by unfold RightM; grind) | exact vtrue (by unfold RightM; grind), rfl⟩) (fun w S => S)
                · -- h55F
                 have h55b := h55
                 try simp only [decide_eq_false_iff_not, Int.not_lt, Int.not_le] at h55
                 refine c_skip ?_
                 refine q_block ?_
                 refine q_then ?_
                 refine c_region ?_
                 refine o_move rfl rfl ?_
                 refine o_bin rfl rfl rfl (b_add (wrap_i64 (by omega) (by omega))) ?_
                 refine o_assign rfl rfl ?_
                 refine l_nil ?_
                 exact q_round (i + 1) (by exact ⟨by omega, rvotesTo_on hv hx85 (by omega) (by omega) (by omega) (fun j u hj hu => by first | omega | (have h9 := hx108; rw [show ((i : Int) - 1).toNat = j by omega, hu] at h9; cases h9; omega))⟩) (by (try dsimp only); omega) ⟨(by first | rfl | exact vint (by omega)), (by first | rfl | exact vint (by omega)), trivial⟩ (fun w S => S)
               · -- h54F
                have h54b := h54
                try simp only [decide_eq_false_iff_not, Int.not_lt, Int.not_le] at h54
                refine h_take_no 22 rfl rfl rfl rfl rfl (by kernel_rfl) (by kernel_rfl) (by kernel_rfl) ?_
                refine h_take_no 23 rfl rfl rfl rfl rfl (by kernel_rfl) (by kernel_rfl) (by kernel_rfl) ?_
                refine h_take_no 24 rfl rfl rfl rfl rfl (by kernel_rfl) (by kernel_rfl) (by kernel_rfl) ?_
                refine h_take_no 25 rfl rfl rfl rfl rfl (by kernel_rfl) (by kernel_rfl) (by kernel_rfl) ?_
                refine h_take_no 26 rfl rfl rfl rfl rfl (by kernel_rfl) (by kernel_rfl) (by kernel_rfl) ?_
                refine h_take_no 27 rfl rfl rfl rfl rfl (by kernel_rfl) (by kernel_rfl) (by kernel_rfl) ?_
                refine h_take_no 28 rfl rfl rfl rfl rfl (by kernel_rfl) (by kernel_rfl) (by kernel_rfl) ?_
                refine h_take_no 29 rfl rfl rfl rfl rfl (by kernel_rfl) (by kernel_rfl) (by kernel_rfl) ?_
                refine h_take_no 30 rfl rfl rfl rfl rfl (by kernel_rfl) (by kernel_rfl) (by kernel_rfl) ?_
                refine h_take_no 31 rfl rfl rfl rfl rfl (by kernel_rfl) (by kernel_rfl) (by kernel_rfl) ?_
                refine h_take_no 32 rfl rfl rfl rfl rfl (by kernel_rfl) (by kernel_rfl) (by kernel_rfl) ?_
                refine h_take_no 33 rfl rfl rfl rfl rfl (by kernel_rfl) (by kernel_rfl) (by kernel_rfl) ?_
                refine h_take_no 34 rfl rfl rfl rfl rfl (by kernel_rfl) (by kernel_rfl) (by kernel_rfl) ?_
                refine h_take_no 35 rfl rfl rfl rfl rfl (by kernel_rfl) (by kernel_rfl) (by kernel_rfl) ?_
                refine h_take_yes 36 rfl rfl rfl rfl rfl (by kernel_rfl) (by kernel_rfl) (by kernel_rfl) (fun L0 => v_pick_false rfl rfl rfl) ?_
                refine h_take 37 rfl rfl (by kernel_rfl) (by kernel_rfl) (by kernel_rfl) (fun L0 => v_pick_false rfl rfl rfl) ?_
                refine h_done (by kernel_rfl) ?_
                refine q_conv (L' := blk b1 (.cells #[.int .i64 p.f_Kind, .int .i64 p.f_From, .int .i64 p.f_To, .int .i64 p.f_Group, .int .i64 p.f_Slot, .int .u64 p.f_Ballot, .string p.f_Value, .slice p.f_Votes.a (p.f_Votes.xs).length p.f_Votes.c] 35 (0, 0)) :: F) (fun w S => S.perm List.perm_append_comm) ?_
                refine q_then ?_
                refine c_false rfl ?_
                refine c_skip ?_
                refine q_block ?_
                refine q_then ?_
                refine c_region ?_
                refine o_move rfl rfl ?_
                refine o_bin rfl rfl rfl (b_add (wrap_i64 (by omega) (by omega))) ?_
                refine o_assign rfl rfl ?_
                refine l_nil ?_
                exact q_round (i + 1) (by exact ⟨by omega, rvotesTo_on hv hx85 (by omega) (by omega) (by omega) (fun j u hj hu => by first | omega | (have h9 := hx108; rw [show ((i : Int) - 1).toNat = j by omega, hu] at h9; cases h9; omega))⟩) (by (try dsimp only); omega) ⟨(by first | rfl | exact vint (by omega)), (by first | rfl | exact vint (by omega)), trivial⟩ (fun w S => S)
            · -- h51F
             have h51b := h51
             try simp only [decide_eq_false_iff_not, Int.not_lt, Int.not_le] at h51
             refine c_exit ?_
             refine q_pass_exit ?_
             refine q_pass_exit ?_
             refine q_hit ?_
             refine q_then ?_
             refine c_seq ?_
             have hyes : RVotesTo p.f_Votes.xs p.f_Votes.xs.length := by rw [show p.f_Votes.xs.length = i by omega]; exact hv
             refine c_region ?_
             refine o_assign rfl rfl ?_
             refine l_nil ?_
             refine q_then ?_
             refine c_ret ?_
             refine q_conv (fun w S => S.tail) ?_
             exact f_ret (r_one rfl rfl) (⟨by first | exact vfalse (by unfold RightM; grind) | exact vtrue (by unfold RightM; grind), rfl⟩) (fun w S => S)
          · -- h49F
           have h49b := h49
           try simp only [decide_eq_false_iff_not, Int.not_lt, Int.not_le] at h49
           refine o_no rfl rfl rfl rfl ?_
           refine o_no rfl rfl rfl rfl ?_
           refine o_no rfl rfl rfl rfl ?_
           refine o_pick_false rfl rfl rfl ?_
           refine l_nil ?_
           refine q_then ?_
           refine c_false rfl ?_
           refine c_skip ?_
           refine q_then ?_
           refine c_seq ?_
           refine c_seq ?_
           refine c_region ?_
           refine o_assign rfl rfl ?_
           refine l_nil ?_
           refine q_then ?_
           refine c_block ?_
           refine c_loop (α := Nat) (fun z => [(1, .pointer (some ⟨b1, 0, none⟩)), (3, .int .i64 (z : Int))]) (fun z => blk b1 (.cells #[.int .i64 p.f_Kind, .int .i64 p.f_From, .int .i64 p.f_To, .int .i64 p.f_Group, .int .i64 p.f_Slot, .int .u64 p.f_Ballot, .string p.f_Value, .slice p.f_Votes.a (p.f_Votes.xs).length p.f_Votes.c] 35 (0, 0)) :: F) (fun z => z ≤ p.f_Votes.xs.length ∧ RVotesTo p.f_Votes.xs z) (fun z => p.f_Votes.xs.length - z) (0) (by exact ⟨Nat.zero_le _, rvotesTo_0⟩) ⟨(by first | rfl | exact vint (by omega)), (by first | rfl | exact vint (by omega)), trivial⟩ (fun w S => S) ?_
           rintro i ⟨hi, hv⟩
           try dsimp only at *
           refine c_seq ?_
           refine c_seq ?_
           refine c_region ?_
           refine o_move rfl rfl ?_
           refine o_fieldAddr (q := ⟨b1, 7, none⟩) rfl rfl Try.underlying35 rfl ti33 rfl ?_
           refine o_load1 rfl rfl Try.underlying33 rfl (rd_mem 0 rfl rfl) ?_
           refine o_len rfl rfl Try.underlying33 ?_
           refine o_bin rfl rfl rfl b_lss ?_
           refine l_nil ?_
           refine q_then ?_
           refine c_cond rfl (fun h56 => ?_) (fun h56 => ?_)
           · -- h56T
            have h56b := h56
            try simp only [decide_eq_true_eq] at h56
            refine c_skip ?_
            refine q_then ?_
            refine c_seq ?_
            refine c_block ?_
            refine c_seq ?_
            refine c_fact (p := ∃ ad, p.f_Votes.a = some ad) (rds_some (e := e_RVote) (xs := p.f_Votes.xs) (rds_c R_p) (by intro h0; have h00 := congrArg List.length h0; simp only [List.length_nil] at h00; omega)) ?_
            rintro ⟨adx, eadx⟩
            refine c_heldF [] (blk b1 (.cells #[.int .i64 p.f_Kind, .int .i64 p.f_From, .int .i64 p.f_To, .int .i64 p.f_Group, .int .i64 p.f_Slot, .int .u64 p.f_Ballot, .string p.f_Value, .slice p.f_Votes.a (p.f_Votes.xs).length p.f_Votes.c] 35 (0, 0)) :: F) (by kernel_rfl) ?_
            refine h_take 0 rfl rfl (by kernel_rfl) (by kernel_rfl) (by kernel_rfl) (fun L0 => v_fieldAddr (q := ⟨b1, 7, none⟩) rfl rfl Try.underlying35 rfl ti33 rfl) ?_
            refine h_take 1 rfl rfl (by kernel_rfl) (by kernel_rfl) (by kernel_rfl) (fun L0 => v_load1 rfl rfl Try.underlying33 rfl (rd_mem 0 rfl rfl)) ?_
            refine h_take 2 rfl rfl (by kernel_rfl) (by kernel_rfl) (by kernel_rfl) (fun L0 => v_move rfl rfl) ?_
            refine h_take 3 rfl rfl (by kernel_rfl) (by kernel_rfl) (by kernel_rfl) (fun L0 => v_indexK e_RVote_ok eadx rfl rfl rfl Try.underlying33 (by omega) (by omega)) ?_
            obtain ⟨x85, hx85⟩ : ∃ x, (p.f_Votes.xs)[((i : Int)).toNat]? = some x := ⟨_, List.getElem?_eq_getElem (by omega)⟩
            refine h_take 4 rfl rfl (by kernel_rfl) (by kernel_rfl) (by kernel_rfl) (fun L0 => v_fieldAddr rfl rfl Try.underlying58 rfl ti3 (Addr.add_add' _ _ _)) ?_
            refine h_take 5 rfl rfl (by kernel_rfl) (by kernel_rfl) (by kernel_rfl) (fun L0 => v_load1 rfl rfl Try.underlying3 rfl (rd_sl e_RVote_ok eadx (rds_app (rds_c R_p)) hx85 rfl)) ?_
            refine h_one 6 rfl (by kernel_rfl) ?_
            refine l_conv (L' := blk b1 (.cells #[.int .i64 p.f_Kind, .int .i64 p.f_From, .int .i64 p.f_To, .int .i64 p.f_Group, .int .i64 p.f_Slot, .int .u64 p.f_Ballot, .string p.f_Value, .slice p.f_Votes.a (p.f_Votes.xs).length p.f_Votes.c] 35 (0, 0)) :: F) (fun w S => S.perm List.perm_append_comm) ?_
            refine o_call rfl cal38 rfl (rwithin_ (n := x85.f_Slot) (k := 63)) ?_
            rintro _ _ ⟨rfl, rfl⟩
            refine l_nil ?_
            refine q_conv (L' := (blk b1 (.cells #[.int .i64 p.f_Kind, .int .i64 p.f_From, .int .i64 p.f_To, .int .i64 p.f_Group, .int .i64 p.f_Slot, .int .u64 p.f_Ballot, .string p.f_Value, .slice p.f_Votes.a (p.f_Votes.xs).length p.f_Votes.c] 35 (0, 0)) :: F) ++ []) (fun w S => S.perm (List.perm_append_comm (l₁ := []) (l₂ := blk b1 (.cells #[.int .i64 p.f_Kind, .int .i64 p.f_From, .int .i64 p.f_To, .int .i64 p.f_Group, .int .i64 p.f_Slot, .int .u64 p.f_Ballot, .string p.f_Value, .slice p.f_Votes.a (p.f_Votes.xs).length p.f_Votes.c] 35 (0, 0)) :: F))) ?_
            refine h_next ?_
            refine h_take 7 rfl rfl (by kernel_rfl) (by kernel_rfl) (by kernel_rfl) (fun L0 => v_not rfl rfl) ?_
            refine h_take 8 rfl rfl (by kernel_rfl) (by kernel_rfl) (by kernel_rfl) (fun L0 => v_move rfl rfl) ?_
            refine h_split (t := 90) rfl (fun h57 => ?_) (fun h57 => ?_)
            · -- h57T
             have h57b := h57
             try simp only [decide_eq_true_eq, decide_eq_false_iff_not, Bool.not_eq_eq_eq_not, Bool.not_true, Bool.not_false, Bool.not_eq_true', Bool.not_eq_false', Int.not_lt, Int.not_le, Bool.or_eq_true, Bool.and_eq_true] at h57
             refine h_take_no 9 rfl rfl rfl rfl rfl (by kernel_rfl) (by kernel_rfl) (by kernel_rfl) ?_
             refine h_take_no 10 rfl rfl rfl rfl rfl (by kernel_rfl) (by kernel_rfl) (by kernel_rfl) ?_
             refine h_take_no 11 rfl rfl rfl rfl rfl (by kernel_rfl) (by kernel_rfl) (by kernel_rfl) ?_
             refine h_take_no 12 rfl rfl rfl rfl rfl (by kernel_rfl) (by kernel_rfl) (by kernel_rfl) ?_
             refine h_take_no 13 rfl rfl rfl rfl rfl (by kernel_rfl) (by kernel_rfl) (by kernel_rfl) ?_
             refine h_take_no 14 rfl rfl rfl rfl rfl (by kernel_rfl) (by kernel_rfl) (by kernel_rfl) ?_
             refine h_take_no 15 rfl rfl rfl rfl rfl (by kernel_rfl) (by kernel_rfl) (by kernel_rfl) ?_
             refine h_take_no 16 rfl rfl rfl rfl rfl (by kernel_rfl) (by kernel_rfl) (by kernel_rfl) ?_
             refine h_take 17 rfl rfl (by kernel_rfl) (by kernel_rfl) (by kernel_rfl) (fun L0 => v_pick_true rfl rfl rfl) ?_
             refine h_take 18 rfl rfl (by kernel_rfl) (by kernel_rfl) (by kernel_rfl) (fun L0 => v_move rfl rfl) ?_
             refine h_take_no 19 rfl rfl rfl rfl rfl (by kernel_rfl) (by kernel_rfl) (by kernel_rfl) ?_
             refine h_take_no 20 rfl rfl rfl rfl rfl (by kernel_rfl) (by kernel_rfl) (by kernel_rfl) ?_
             refine h_take_no 21 rfl rfl rfl rfl rfl (by kernel_rfl) (by kernel_rfl) (by kernel_rfl) ?_
             refine h_take_no 22 rfl rfl rfl rfl rfl (by kernel_rfl) (by kernel_rfl) (by kernel_rfl) ?_
             refine h_take_no 23 rfl rfl rfl rfl rfl (by kernel_rfl) (by kernel_rfl) (by kernel_rfl) ?_
             refine h_take_no 24 rfl rfl rfl rfl rfl (by kernel_rfl) (by kernel_rfl) (by kernel_rfl) ?_
             refine h_take_no 25 rfl rfl rfl rfl rfl (by kernel_rfl) (by kernel_rfl) (by kernel_rfl) ?_
             refine h_take_no 26 rfl rfl rfl rfl rfl (by kernel_rfl) (by kernel_rfl) (by kernel_rfl) ?_
             refine h_take_no 27 rfl rfl rfl rfl rfl (by kernel_rfl) (by kernel_rfl) (by kernel_rfl) ?_
             refine h_take_no 28 rfl rfl rfl rfl rfl (by kernel_rfl) (by kernel_rfl) (by kernel_rfl) ?_
             refine h_take_no 29 rfl rfl rfl rfl rfl (by kernel_rfl) (by kernel_rfl) (by kernel_rfl) ?_
             refine h_take_no 30 rfl rfl rfl rfl rfl (by kernel_rfl) (by kernel_rfl) (by kernel_rfl) ?_
             refine h_take_no 31 rfl rfl rfl rfl rfl (by kernel_rfl) (by kernel_rfl) (by kernel_rfl) ?_
             refine h_take_no 32 rfl rfl rfl rfl rfl (by kernel_rfl) (by kernel_rfl) (by kernel_rfl) ?_
             refine h_take_no 33 rfl rfl rfl rfl rfl (by kernel_rfl) (by kernel_rfl) (by kernel_rfl) ?_
             refine h_take_no 34 rfl rfl rfl rfl rfl (by kernel_rfl) (by kernel_rfl) (by kernel_rfl) ?_
             refine h_take_no 35 rfl rfl rfl rfl rfl (by kernel_rfl) (by kernel_rfl) (by kernel_rfl) ?_
             refine h_take_no 36 rfl rfl rfl rfl rfl (by kernel_rfl) (by kernel_rfl) (by kernel_rfl) ?_
             refine h_take 37 rfl rfl (by kernel_rfl) (by kernel_rfl) (by kernel_rfl) (fun L0 => v_pick_true rfl rfl rfl) ?_
             refine h_done (by kernel_rfl) ?_
             refine q_conv (L' := blk b1 (.cells #[.int .i64 p.f_Kind, .int .i64 p.f_From, .int .i64 p.f_To, .int .i64 p.f_Group, .int .i64 p.f_Slot, .int .u64 p.f_Ballot, .string p.f_Value, .slice p.f_Votes.a (p.f_Votes.xs).length p.f_Votes.c] 35 (0, 0)) :: F) (fun w S => S.perm List.perm_append_comm) ?_
             refine q_then ?_
             refine c_true rfl ?_
             refine c_seq ?_
             have hno : ¬ RVotesTo p.f_Votes.xs p.f_Votes.xs.length := by first | exact rvotesTo_no hx85 (by omega) | exact rvotesTo_no2 (by omega) hx108 hx85 (by omega)
             refine c_region ?_
             refine o_assign rfl rfl ?_
             refine l_nil ?_
             refine q_then ?_
             refine c_ret ?_
             refine q_block_ret ?_
             refine q_pass_ret ?_
             refine q_pass_ret ?_
             refine q_block_ret ?_
             refine q_pass_ret ?_
             refine q_conv (fun w S => S.tail) ?_
             exact f_ret (r_one rfl rfl) (⟨by first | exact vfalse (by unfold RightM; grind) | exact vtrue (by unfold RightM; grind), rfl⟩) (fun w S => S)
            · -- h57F
             have h57b := h57
             try simp only [decide_eq_true_eq, decide_eq_false_iff_not, Bool.not_eq_eq_eq_not, Bool.not_true, Bool.not_false, Bool.not_eq_true', Bool.not_eq_false', Int.not_lt, Int.not_le, Bool.or_eq_true, Bool.and_eq_true] at h57
             refine h_take_yes 9 rfl rfl rfl rfl rfl (by kernel_rfl) (by kernel_rfl) (by kernel_rfl) (fun L0 => v_fieldAddr (q := ⟨b1, 7, none⟩) rfl rfl Try.underlying35 rfl ti33 rfl) ?_
             refine h_take_yes 10 rfl rfl rfl rfl rfl (by kernel_rfl) (by kernel_rfl) (by kernel_rfl) (fun L0 => v_load1 rfl rfl Try.underlying33 rfl (rd_mem 0 rfl rfl)) ?_
             refine h_take_yes 11 rfl rfl rfl rfl rfl (by kernel_rfl) (by kernel_rfl) (by kernel_rfl) (fun L0 => v_move rfl rfl) ?_
             refine h_take_yes 12 rfl rfl rfl rfl rfl (by kernel_rfl) (by kernel_rfl) (by kernel_rfl) (fun L0 => v_indexK e_RVote_ok eadx rfl rfl rfl Try.underlying33 (by omega) (by omega)) ?_
             obtain ⟨x94, hx94⟩ : ∃ x, (p.f_Votes.xs)[((i : Int)).toNat]? = some x := ⟨_, List.getElem?_eq_getElem (by omega)⟩
             have e94 : x94 = x85 := by rw [hx85] at hx94; exact (Option.some.inj hx94).symm
             have e94' : x94.f_Value.size = x85.f_Value.size := by rw [e94]
             refine h_take_yes 13 rfl rfl rfl rfl rfl (by kernel_rfl) (by kernel_rfl) (by kernel_rfl) (fun L0 => v_fieldAddr rfl rfl Try.underlying58 rfl ti9 (Addr.add_add' _ _ _)) ?_
             refine h_take_yes 14 rfl rfl rfl rfl rfl (by kernel_rfl) (by kernel_rfl) (by kernel_rfl) (fun L0 => v_load1 rfl rfl Try.underlying9 rfl (rd_sl e_RVote_ok eadx (rds_app (rds_c R_p)) hx94 rfl)) ?_
             refine h_take_yes 15 rfl rfl rfl rfl rfl (by kernel_rfl) (by kernel_rfl) (by kernel_rfl) (fun L0 => v_lenStr rfl rfl Try.underlying9) ?_
             refine h_take_yes 16 rfl rfl rfl rfl rfl (by kernel_rfl) (by kernel_rfl) (by kernel_rfl) (fun L0 => v_bin rfl rfl rfl b_gtr) ?_
             refine h_take 17 rfl rfl (by kernel_rfl) (by kernel_rfl) (by kernel_rfl) (fun L0 => v_pick_false rfl rfl rfl) ?_
             refine h_take 18 rfl rfl (by kernel_rfl) (by kernel_rfl) (by kernel_rfl) (fun L0 => v_move rfl rfl) ?_
             refine h_split (t := 100) rfl (fun h58 => ?_) (fun h58 => ?_)
             · -- h58T
              have h58b := h58
              try simp only [decide_eq_true_eq] at h58
              refine h_take_no 19 rfl rfl rfl rfl rfl (by kernel_rfl) (by kernel_rfl) (by kernel_rfl) ?_
              refine h_take_no 20 rfl rfl rfl rfl rfl (by kernel_rfl) (by kernel_rfl) (by kernel_rfl) ?_
              refine h_take_no 21 rfl rfl rfl rfl rfl (by kernel_rfl) (by kernel_rfl) (by kernel_rfl) ?_
              refine h_take_no 22 rfl rfl rfl rfl rfl (by kernel_rfl) (by kernel_rfl) (by kernel_rfl) ?_
              refine h_take_no 23 rfl rfl rfl rfl rfl (by kernel_rfl) (by kernel_rfl) (by kernel_rfl) ?_
              refine h_take_no 24 rfl rfl rfl rfl rfl (by kernel_rfl) (by kernel_rfl) (by kernel_rfl) ?_
              refine h_take_no 25 rfl rfl rfl rfl rfl (by kernel_rfl) (by kernel_rfl) (by kernel_rfl) ?_
              refine h_take_no 26 rfl rfl rfl rfl rfl (by kernel_rfl) (by kernel_rfl) (by kernel_rfl) ?_
              refine h_take_no 27 rfl rfl rfl rfl rfl (by kernel_rfl) (by kernel_rfl) (by kernel_rfl) ?_
              refine h_take_no 28 rfl rfl rfl rfl rfl (by kernel_rfl) (by kernel_rfl) (by kernel_rfl) ?_
              refine h_take_no 29 rfl rfl rfl rfl rfl (by kernel_rfl) (by kernel_rfl) (by kernel_rfl) ?_
              refine h_take_no 30 rfl rfl rfl rfl rfl (by kernel_rfl) (by kernel_rfl) (by kernel_rfl) ?_
              refine h_take_no 31 rfl rfl rfl rfl rfl (by kernel_rfl) (by kernel_rfl) (by kernel_rfl) ?_
              refine h_take_no 32 rfl rfl rfl rfl rfl (by kernel_rfl) (by kernel_rfl) (by kernel_rfl) ?_
              refine h_take_no 33 rfl rfl rfl rfl rfl (by kernel_rfl) (by kernel_rfl) (by kernel_rfl) ?_
              refine h_take_no 34 rfl rfl rfl rfl rfl (by kernel_rfl) (by kernel_rfl) (by kernel_rfl) ?_
              refine h_take_no 35 rfl rfl rfl rfl rfl (by kernel_rfl) (by kernel_rfl) (by kernel_rfl) ?_
              refine h_take_no 36 rfl rfl rfl rfl rfl (by kernel_rfl) (by kernel_rfl) (by kernel_rfl) ?_
              refine h_take 37 rfl rfl (by kernel_rfl) (by kernel_rfl) (by kernel_rfl) (fun L0 => v_pick_true rfl rfl rfl) ?_
              refine h_done (by kernel_rfl) ?_
              refine q_conv (L' := blk b1 (.cells #[.int .i64 p.f_Kind, .int .i64 p.f_From, .int .i64 p.f_To, .int .i64 p.f_Group, .int .i64 p.f_Slot, .int .u64 p.f_Ballot, .string p.f_Value, .slice p.f_Votes.a (p.f_Votes.xs).length p.f_Votes.c] 35 (0, 0)) :: F) (fun w S => S.perm List.perm_append_comm) ?_
              refine q_then ?_
              refine c_true rfl ?_
              refine c_seq ?_
              have hno : ¬ RVotesTo p.f_Votes.xs p.f_Votes.xs.length := by first | exact rvotesTo_no hx85 (by omega) | exact rvotesTo_no2 (by omega) hx108 hx85 (by omega)
              refine c_region ?_
              refine o_assign rfl rfl ?_
              refine l_nil ?_
              refine q_then ?_
              refine c_ret ?_
              refine q_block_ret ?_
              refine q_pass_ret ?_
              refine q_pass_ret ?_
              refine q_block_ret ?_
              refine q_pass_ret ?_
              refine q_conv (fun w S => S.tail) ?_
              exact f_ret (r_one rfl rfl) (⟨by first | exact vfalse (by unfold RightM; grind) | exact vtrue (by unfold RightM; grind), rfl⟩) (fun w S => S)
             · -- h58F
              have h58b := h58
              try simp only [decide_eq_false_iff_not, Int.not_lt, Int.not_le] at h58
              refine h_take_yes 19 rfl rfl rfl rfl rfl (by kernel_rfl) (by kernel_rfl) (by kernel_rfl) (fun L0 => v_move rfl rfl) ?_
              refine h_take_yes 20 rfl rfl rfl rfl rfl (by kernel_rfl) (by kernel_rfl) (by kernel_rfl) (fun L0 => v_bin rfl rfl rfl b_gtr) ?_
              refine h_take_yes 21 rfl rfl rfl rfl rfl (by kernel_rfl) (by kernel_rfl) (by kernel_rfl) (fun L0 => v_move rfl rfl) ?_
              refine h_split (t := 103) rfl (fun h59 => ?_) (fun h59 => ?_)
              · -- h59T
               have h59b := h59
               try simp only [decide_eq_true_eq] at h59
               refine h_take_yes 22 rfl rfl rfl rfl rfl (by kernel_rfl) (by kernel_rfl) (by kernel_rfl) (fun L0 => v_fieldAddr (q := ⟨b1, 7, none⟩) rfl rfl Try.underlying35 rfl ti33 rfl) ?_
               refine h_take_yes 23 rfl rfl rfl rfl rfl (by kernel_rfl) (by kernel_rfl) (by kernel_rfl) (fun L0 => v_load1 rfl rfl Try.underlying33 rfl (rd_mem 0 rfl rfl)) ?_
               refine h_take_yes 24 rfl rfl rfl rfl rfl (by kernel_rfl) (by kernel_rfl) (by kernel_rfl) (fun L0 => v_move rfl rfl) ?_
               refine h_take_yes 25 rfl rfl rfl rfl rfl (by kernel_rfl) (by kernel_rfl) (by kernel_rfl) (fun L0 => v_bin rfl rfl rfl (b_sub (wrap_i64 (by omega) (by omega)))) ?_
               refine h_take_yes 26 rfl rfl rfl rfl rfl (by kernel_rfl) (by kernel_rfl) (by kernel_rfl) (fun L0 => v_indexK e_RVote_ok eadx rfl rfl rfl Try.underlying33 (by omega) (by omega)) ?_
               obtain ⟨x108, hx108⟩ : ∃ x, (p.f_Votes.xs)[(((i : Int) - 1)).toNat]? = some x := ⟨_, List.getElem?_eq_getElem (by omega)⟩
               refine h_take_yes 27 rfl rfl rfl rfl rfl (by kernel_rfl) (by kernel_rfl) (by kernel_rfl) (fun L0 => v_fieldAddr rfl rfl Try.underlying58 rfl ti3 (Addr.add_add' _ _ _)) ?_
               refine h_take_yes 28 rfl rfl rfl rfl rfl (by kernel_rfl) (by kernel_rfl) (by kernel_rfl) (fun L0 => v_load1 rfl rfl Try.underlying3 rfl (rd_sl e_RVote_ok eadx (rds_app (rds_c R_p)) hx108 rfl)) ?_
               refine h_take_yes 29 rfl rfl rfl rfl rfl (by kernel_rfl) (by kernel_rfl) (by kernel_rfl) (fun L0 => v_fieldAddr (q := ⟨b1, 7, none⟩) rfl rfl Try.underlying35 rfl ti33 rfl) ?_
               refine h_take_yes 30 rfl rfl rfl rfl rfl (by kernel_rfl) (by kernel_rfl) (by kernel_rfl) (fun L0 => v_load1 rfl rfl Try.underlying33 rfl (rd_mem 0 rfl rfl)) ?_
               refine h_take_yes 31 rfl rfl rfl rfl rfl (by kernel_rfl) (by kernel_rfl) (by kernel_rfl) (fun L0 => v_move rfl rfl) ?_
               refine h_take_yes 32 rfl rfl rfl rfl rfl (by kernel_rfl) (by kernel_rfl) (by kernel_rfl) (fun L0 => v_indexK e_RVote_ok eadx rfl rfl rfl Try.underlying33 (by omega) (by omega)) ?_
               obtain ⟨x114, hx114⟩ : ∃ x, (p.f_Votes.xs)[((i : Int)).toNat]? = some x := ⟨_, List.getElem?_eq_getElem (by omega)⟩
               have e114 : x114 = x85 := by rw [hx85] at hx114; exact (Option.some.inj hx114).symm
               have e114' : x114.f_Slot = x85.f_Slot := by rw [e114]
               refine h_take_yes 33 rfl rfl rfl rfl rfl (by kernel_rfl) (by kernel_rfl) (by kernel_rfl) (fun L0 => v_fieldAddr rfl rfl Try.underlying58 rfl ti3 (Addr.add_add' _ _ _)) ?_
               refine h_take_yes 34 rfl rfl rfl rfl rfl (by kernel_rfl) (by kernel_rfl) (by kernel_rfl) (fun L0 => v_load1 rfl rfl Try.underlying3 rfl (rd_sl e_RVote_ok eadx (rds_app (rds_c R_p)) hx114 rfl)) ?_
               refine h_take_yes 35 rfl rfl rfl rfl rfl (by kernel_rfl) (by kernel_rfl) (by kernel_rfl) (fun L0 => v_bin rfl rfl rfl b_geq) ?_
               refine h_take_yes 36 rfl rfl rfl rfl rfl (by kernel_rfl) (by kernel_rfl) (by kernel_rfl) (fun L0 => v_pick_true rfl rfl rfl) ?_
               refine h_take 37 rfl rfl (by kernel_rfl) (by kernel_rfl) (by kernel_rfl) (fun L0 => v_pick_false rfl rfl rfl) ?_
               refine h_done (by kernel_rfl) ?_
               refine q_conv (L' := blk b1 (.cells #[.int .i64 p.f_Kind, .int .i64 p.f_From, .int .i64 p.f_To, .int .i64 p.f_Group, .int .i64 p.f_Slot, .int .u64 p.f_Ballot, .string p.f_Value, .slice p.f_Votes.a (p.f_Votes.xs).length p.f_Votes.c] 35 (0, 0)) :: F) (fun w S => S.perm List.perm_append_comm) ?_
               refine q_then ?_
               refine c_cond rfl (fun h60 => ?_) (fun h60 => ?_)
               · -- h60T
                have h60b := h60
                try simp only [decide_eq_true_eq] at h60
                refine c_seq ?_
                have hno : ¬ RVotesTo p.f_Votes.xs p.f_Votes.xs.length := by first | exact rvotesTo_no hx85 (by omega) | exact rvotesTo_no2 (by omega) hx108 hx85 (by omega)
                refine c_region ?_
                refine o_assign rfl rfl ?_
                refine l_nil ?_
                refine q_then ?_
                refine c_ret ?_
                refine q_block_ret ?_
                refine q_pass_ret ?_
                refine q_pass_ret ?_
                refine q_block_ret ?_
                refine q_pass_ret ?_
                refine q_conv (fun w S => S.tail) ?_
                exact f_ret (r_one rfl rfl) (⟨by first | exact vfalse (by unfold RightM; grind) | exact vtrue (by unfold RightM; grind), rfl⟩) (fun w S => S)
               · -- h60F
                have h60b := h60
                try simp only [decide_eq_false_iff_not, Int.not_lt, Int.not_le] at h60
                refine c_skip ?_
                refine q_block ?_
                refine q_then ?_
                refine c_region ?_
                refine o_move rfl rfl ?_
                refine o_bin rfl rfl rfl (b_add (wrap_i64 (by omega) (by omega))) ?_
                refine o_assign rfl rfl ?_
                refine l_nil ?_
                exact q_round (i + 1) (by exact ⟨by omega, rvotesTo_on hv hx85 (by omega) (by omega) (by omega) (fun j u hj hu => by first | omega | (have h9 := hx108; rw [show ((i : Int) - 1).toNat = j by omega, hu] at h9; cases h9; omega))⟩) (by (try dsimp only); omega) ⟨(by first | rfl | exact vint (by omega)), (by first | rfl | exact vint (by omega)), trivial⟩ (fun w S => S)
              · -- h59F
               have h59b := h59
               try simp only [decide_eq_false_iff_not, Int.not_lt, Int.not_le] at h59
               refine h_take_no 22 rfl rfl rfl rfl rfl (by kernel_rfl) (by kernel_rfl) (by kernel_rfl) ?_
               refine h_take_no 23 rfl rfl rfl rfl rfl (by kernel_rfl) (by kernel_rfl) (by kernel_rfl) ?_
               refine h_take_no 24 rfl rfl rfl rfl rfl (by kernel_rfl) (by kernel_rfl) (by kernel_rfl) ?_
               refine h_take_no 25 rfl rfl rfl rfl rfl (by kernel_rfl) (by kernel_rfl) (by kernel_rfl) ?_
               refine h_take_no 26 rfl rfl rfl rfl rfl (by kernel_rfl) (by kernel_rfl) (by kernel_rfl) ?_
               refine h_take_no 27 rfl rfl rfl rfl rfl (by kernel_rfl) (by kernel_rfl) (by kernel_rfl) ?_
               refine h_take_no 28 rfl rfl rfl rfl rfl (by kernel_rfl) (by kernel_rfl) (by kernel_rfl) ?_
               refine h_take_no 29 rfl rfl rfl rfl rfl (by kernel_rfl) (by kernel_rfl) (by kernel_rfl) ?_
               refine h_take_no 30 rfl rfl rfl rfl rfl (by kernel_rfl) (by kernel_rfl) (by kernel_rfl) ?_
               refine h_take_no 31 rfl rfl rfl rfl rfl (by kernel_rfl) (by kernel_rfl) (by kernel_rfl) ?_
               refine h_take_no 32 rfl rfl rfl rfl rfl (by kernel_rfl) (by kernel_rfl) (by kernel_rfl) ?_
               refine h_take_no 33 rfl rfl rfl rfl rfl (by kernel_rfl) (by kernel_rfl) (by kernel_rfl) ?_
               refine h_take_no 34 rfl rfl rfl rfl rfl (by kernel_rfl) (by kernel_rfl) (by kernel_rfl) ?_
               refine h_take_no 35 rfl rfl rfl rfl rfl (by kernel_rfl) (by kernel_rfl) (by kernel_rfl) ?_
               refine h_take_yes 36 rfl rfl rfl rfl rfl (by kernel_rfl) (by kernel_rfl) (by kernel_rfl) (fun L0 => v_pick_false rfl rfl rfl) ?_
               refine h_take 37 rfl rfl (by kernel_rfl) (by kernel_rfl) (by kernel_rfl) (fun L0 => v_pick_false rfl rfl rfl) ?_
               refine h_done (by kernel_rfl) ?_
               refine q_conv (L' := blk b1 (.cells #[.int .i64 p.f_Kind, .int .i64 p.f_From, .int .i64 p.f_To, .int .i64 p.f_Group, .int .i64 p.f_Slot, .int .u64 p.f_Ballot, .string p.f_Value, .slice p.f_Votes.a (p.f_Votes.xs).length p.f_Votes.c] 35 (0, 0)) :: F) (fun w S => S.perm List.perm_append_comm) ?_
               refine q_then ?_
               refine c_false rfl ?_
               refine c_skip ?_
               refine q_block ?_
               refine q_then ?_
               refine c_region ?_
               refine o_move rfl rfl ?_
               refine o_bin rfl rfl rfl (b_add (wrap_i64 (by omega) (by omega))) ?_
               refine o_assign rfl rfl ?_
               refine l_nil ?_
               exact q_round (i + 1) (by exact ⟨by omega, rvotesTo_on hv hx85 (by omega) (by omega) (by omega) (fun j u hj hu => by first | omega | (have h9 := hx108; rw [show ((i : Int) - 1).toNat = j by omega, hu] at h9; cases h9; omega))⟩) (by (try dsimp only); omega) ⟨(by first | rfl | exact vint (by omega)), (by first | rfl | exact vint (by omega)), trivial⟩ (fun w S => S)
           · -- h56F
            have h56b := h56
            try simp only [decide_eq_false_iff_not, Int.not_lt, Int.not_le] at h56
            refine c_exit ?_
            refine q_pass_exit ?_
            refine q_pass_exit ?_
            refine q_hit ?_
            refine q_then ?_
            refine c_seq ?_
            have hyes : RVotesTo p.f_Votes.xs p.f_Votes.xs.length := by rw [show p.f_Votes.xs.length = i by omega]; exact hv
            refine c_region ?_
            refine o_assign rfl rfl ?_
            refine l_nil ?_
            refine q_then ?_
            refine c_ret ?_
            refine q_conv (fun w S => S.tail) ?_
            exact f_ret (r_one rfl rfl) (⟨by first | exact vfalse (by unfold RightM; grind) | exact vtrue (by unfold RightM; grind), rfl⟩) (fun w S => S)
        · -- h8F
         have h8b := h8
         try simp only [decide_eq_false_iff_not, Int.not_lt, Int.not_le] at h8
         refine o_no rfl rfl rfl rfl ?_
         refine o_no rfl rfl rfl rfl ?_
         refine o_no rfl rfl rfl rfl ?_
         refine o_pick_false rfl rfl rfl ?_
         refine o_move rfl rfl ?_
         refine o_no rfl rfl rfl rfl ?_
         refine o_no rfl rfl rfl rfl ?_
         refine o_no rfl rfl rfl rfl ?_
         refine o_pick_false rfl rfl rfl ?_
         refine o_move rfl rfl ?_
         refine o_no rfl rfl rfl rfl ?_
         refine o_no rfl rfl rfl rfl ?_
         refine o_no rfl rfl rfl rfl ?_
         refine o_pick_false rfl rfl rfl ?_
         refine o_move rfl rfl ?_
         refine o_no rfl rfl rfl rfl ?_
         refine o_no rfl rfl rfl rfl ?_
         refine o_no rfl rfl rfl rfl ?_
         refine o_pick_false rfl rfl rfl ?_
         refine l_nil ?_
         refine q_then ?_
         refine c_false rfl ?_
         refine c_skip ?_
         refine q_then ?_
         refine c_seq ?_
         refine c_seq ?_
         refine c_region ?_
         refine o_fieldAddr (q := ⟨b1, 7, none⟩) rfl rfl Try.underlying35 rfl ti33 rfl ?_
         refine o_load1 rfl rfl Try.underlying33 rfl (rd_mem 0 rfl rfl) ?_
         refine o_len rfl rfl Try.underlying33 ?_
         refine o_bin rfl rfl rfl b_gtr ?_
         refine o_move rfl rfl ?_
         refine l_split (t := 70) rfl (fun h61 => ?_) (fun h61 => ?_)
         · -- h61T
          have h61b := h61
          try simp only [decide_eq_true_eq] at h61
          refine o_yes rfl rfl rfl ?_
          refine o_fieldAddr (q := ⟨b1, 0, none⟩) rfl rfl Try.underlying35 rfl ti3 rfl ?_
          refine o_yes rfl rfl rfl ?_
          refine o_load1 rfl rfl Try.underlying3 rfl (rd_mem 0 rfl rfl) ?_
          refine o_yes rfl rfl rfl ?_
          refine o_bin rfl rfl rfl b_neq ?_
          refine o_pick_true rfl rfl rfl ?_
          refine l_nil ?_
          refine q_then ?_
          refine c_cond rfl (fun h62 => ?_) (fun h62 => ?_)
          · -- h62T
           have h62b := h62
           try simp only [Bool.not_eq_true', decide_eq_false_iff_not, Int.not_lt, Int.not_le] at h62
           refine c_seq ?_
           refine c_region ?_
           refine o_assign rfl rfl ?_
           refine l_nil ?_
           refine q_then ?_
           refine c_ret ?_
           refine q_pass_ret ?_
           refine q_conv (fun w S => S.tail) ?_
           exact f_ret (r_one rfl rfl) (⟨by first | exact vfalse (by unfold RightM; grind) | exact vtrue (by unfold RightM; grind), rfl⟩) (fun w S => S)
          · -- h62F
           have h62b := h62
           try simp only [Bool.not_eq_false', decide_eq_true_eq] at h62
           refine c_skip ?_
           refine q_then ?_
           refine c_seq ?_
           refine c_seq ?_
           refine c_region ?_
           refine o_assign rfl rfl ?_
           refine l_nil ?_
           refine q_then ?_
           refine c_block ?_
           refine c_loop (α := Nat) (fun z => [(1, .pointer (some ⟨b1, 0, none⟩)), (3, .int .i64 (z : Int))]) (fun z => blk b1 (.cells #[.int .i64 p.f_Kind, .int .i64 p.f_From, .int .i64 p.f_To, .int .i64 p.f_Group, .int .i64 p.f_Slot, .int .u64 p.f_Ballot, .string p.f_Value, .slice p.f_Votes.a (p.f_Votes.xs).length p.f_Votes.c] 35 (0, 0)) :: F) (fun z => z ≤ p.f_Votes.xs.length ∧ RVotesTo p.f_Votes.xs z) (fun z => p.f_Votes.xs.length - z) (0) (by exact ⟨Nat.zero_le _, rvotesTo_0⟩) ⟨(by first | rfl | exact vint (by omega)), (by first | rfl | exact vint (by omega)), trivial⟩ (fun w S => S) ?_
           rintro i ⟨hi, hv⟩
           try dsimp only at *
           refine c_seq ?_
           refine c_seq ?_
           refine c_region ?_
           refine o_move rfl rfl ?_
           refine o_fieldAddr (q := ⟨b1, 7, none⟩) rfl rfl Try.underlying35 rfl ti33 rfl ?_
           refine o_load1 rfl rfl Try.underlying33 rfl (rd_mem 0 rfl rfl) ?_
           refine o_len rfl rfl Try.underlying33 ?_
           refine o_bin rfl rfl rfl b_lss ?_
           refine l_nil ?_
           refine q_then ?_
           refine c_cond rfl (fun h63 => ?_) (fun h63 => ?_)
           · -- h63T
            have h63b := h63
            try simp only [decide_eq_true_eq] at h63
            refine c_skip ?_
            refine q_then ?_
            refine c_seq ?_
            refine c_block ?_
            refine c_seq ?_
            refine c_fact (p := ∃ ad, p.f_Votes.a = some ad) (rds_some (e := e_RVote) (xs := p.f_Votes.xs) (rds_c R_p) (by intro h0; have h00 := congrArg List.length h0; simp only [List.length_nil] at h00; omega)) ?_
            rintro ⟨adx, eadx⟩
            refine c_heldF [] (blk b1 (.cells #[.int .i64 p.f_Kind, .int .i64 p.f_From, .int .i64 p.f_To, .int .i64 p.f_Group, .int .i64 p.f_Slot, .int .u64 p.f_Ballot, .string p.f_Value, .slice p.f_Votes.a (p.f_Votes.xs).length p.f_Votes.c] 35 (0, 0)) :: F) (by kernel_rfl) ?_
            refine h_take 0 rfl rfl (by kernel_rfl) (by kernel_rfl) (by kernel_rfl) (fun L0 => v_fieldAddr (q := ⟨b1, 7, none⟩) rfl rfl Try.underlying35 rfl ti33 rfl) ?_
            refine h_take 1 rfl rfl (by kernel_rfl) (by kernel_rfl) (by kernel_rfl) (fun L0 => v_load1 rfl rfl Try.underlying33 rfl (rd_mem 0 rfl rfl)) ?_
            refine h_take 2 rfl rfl (by kernel_rfl) (by kernel_rfl) (by kernel_rfl) (fun L0 => v_move rfl rfl) ?_
            refine h_take 3 rfl rfl (by kernel_rfl) (by kernel_rfl) (by kernel_rfl) (fun L0 => v_indexK e_RVote_ok eadx rfl rfl rfl Try.underlying33 (by omega) (by omega)) ?_
            obtain ⟨x85, hx85⟩ : ∃ x, (p.f_Votes.xs)[((i : Int)).toNat]? = some x := ⟨_, List.getElem?_eq_getElem (by omega)⟩
            refine h_take 4 rfl rfl (by kernel_rfl) (by kernel_rfl) (by kernel_rfl) (fun L0 => v_fieldAddr rfl rfl Try.underlying58 rfl ti3 (Addr.add_add' _ _ _)) ?_
            refine h_take 5 rfl rfl (by kernel_rfl) (by kernel_rfl) (by kernel_rfl) (fun L0 => v_load1 rfl rfl Try.underlying3 rfl (rd_sl e_RVote_ok eadx (rds_app (rds_c R_p)) hx85 rfl)) ?_
            refine h_one 6 rfl (by kernel_rfl) ?_
            refine l_conv (L' := blk b1 (.cells #[.int .i64 p.f_Kind, .int .i64 p.f_From, .int .i64 p.f_To, .int .i64 p.f_Group, .int .i64 p.f_Slot, .int .u64 p.f_Ballot, .string p.f_Value, .slice p.f_Votes.a (p.f_Votes.xs).length p.f_Votes.c] 35 (0, 0)) :: F) (fun w S => S.perm List.perm_append_comm) ?_
            refine o_call rfl cal38 rfl (rwithin_ (n := x85.f_Slot) (k := 63)) ?_
            rintro _ _ ⟨rfl, rfl⟩
            refine l_nil ?_
            refine q_conv (L' := (blk b1 (.cells #[.int .i64 p.f_Kind, .int .i64 p.f_From, .int .i64 p.f_To, .int .i64 p.f_Group, .int .i64 p.f_Slot, .int .u64 p.f_Ballot, .string p.f_Value, .slice p.f_Votes.a (p.f_Votes.xs).length p.f_Votes.c] 35 (0, 0)) :: F) ++ []) (fun w S => S.perm (List.perm_append_comm (l₁ := []) (l₂ := blk b1 (.cells #[.int .i64 p.f_Kind, .int .i64 p.f_From, .int .i64 p.f_To, .int .i64 p.f_Group, .int .i64 p.f_Slot, .int .u64 p.f_Ballot, .string p.f_Value, .slice p.f_Votes.a (p.f_Votes.xs).length p.f_Votes.c] 35 (0, 0)) :: F))) ?_
            refine h_next ?_
            refine h_take 7 rfl rfl (by kernel_rfl) (by kernel_rfl) (by kernel_rfl) (fun L0 => v_not rfl rfl) ?_
            refine h_take 8 rfl rfl (by kernel_rfl) (by kernel_rfl) (by kernel_rfl) (fun L0 => v_move rfl rfl) ?_
            refine h_split (t := 90) rfl (fun h64 => ?_) (fun h64 => ?_)
            · -- h64T
             have h64b := h64
             try simp only [decide_eq_true_eq, decide_eq_false_iff_not, Bool.not_eq_eq_eq_not, Bool.not_true, Bool.not_false, Bool.not_eq_true', Bool.not_eq_false', Int.not_lt, Int.not_le, Bool.or_eq_true, Bool.and_eq_true] at h64
             refine h_take_no 9 rfl rfl rfl rfl rfl (by kernel_rfl) (by kernel_rfl) (by kernel_rfl) ?_
             refine h_take_no 10 rfl rfl rfl rfl rfl (by kernel_rfl) (by kernel_rfl) (by kernel_rfl) ?_
             refine h_take_no 11 rfl rfl rfl rfl rfl (by kernel_rfl) (by kernel_rfl) (by kernel_rfl) ?_
             refine h_take_no 12 rfl rfl rfl rfl rfl (by kernel_rfl) (by kernel_rfl) (by kernel_rfl) ?_
             refine h_take_no 13 rfl rfl rfl rfl rfl (by kernel_rfl) (by kernel_rfl) (by kernel_rfl) ?_
             refine h_take_no 14 rfl rfl rfl rfl rfl (by kernel_rfl) (by kernel_rfl) (by kernel_rfl) ?_
             refine h_take_no 15 rfl rfl rfl rfl rfl (by kernel_rfl) (by kernel_rfl) (by kernel_rfl) ?_
             refine h_take_no 16 rfl rfl rfl rfl rfl (by kernel_rfl) (by kernel_rfl) (by kernel_rfl) ?_
             refine h_take 17 rfl rfl (by kernel_rfl) (by kernel_rfl) (by kernel_rfl) (fun L0 => v_pick_true rfl rfl rfl) ?_
             refine h_take 18 rfl rfl (by kernel_rfl) (by kernel_rfl) (by kernel_rfl) (fun L0 => v_move rfl rfl) ?_
             refine h_take_no 19 rfl rfl rfl rfl rfl (by kernel_rfl) (by kernel_rfl) (by kernel_rfl) ?_
             refine h_take_no 20 rfl rfl rfl rfl rfl (by kernel_rfl) (by kernel_rfl) (by kernel_rfl) ?_
             refine h_take_no 21 rfl rfl rfl rfl rfl (by kernel_rfl) (by kernel_rfl) (by kernel_rfl) ?_
             refine h_take_no 22 rfl rfl rfl rfl rfl (by kernel_rfl) (by kernel_rfl) (by kernel_rfl) ?_
             refine h_take_no 23 rfl rfl rfl rfl rfl (by kernel_rfl) (by kernel_rfl) (by kernel_rfl) ?_
             refine h_take_no 24 rfl rfl rfl rfl rfl (by kernel_rfl) (by kernel_rfl) (by kernel_rfl) ?_
             refine h_take_no 25 rfl rfl rfl rfl rfl (by kernel_rfl) (by kernel_rfl) (by kernel_rfl) ?_
             refine h_take_no 26 rfl rfl rfl rfl rfl (by kernel_rfl) (by kernel_rfl) (by kernel_rfl) ?_
             refine h_take_no 27 rfl rfl rfl rfl rfl (by kernel_rfl) (by kernel_rfl) (by kernel_rfl) ?_
             refine h_take_no 28 rfl rfl rfl rfl rfl (by kernel_rfl) (by kernel_rfl) (by kernel_rfl) ?_
             refine h_take_no 29 rfl rfl rfl rfl rfl (by kernel_rfl) (by kernel_rfl) (by kernel_rfl) ?_
             refine h_take_no 30 rfl rfl rfl rfl rfl (by kernel_rfl) (by kernel_rfl) (by kernel_rfl) ?_
             refine h_take_no 31 rfl rfl rfl rfl rfl (by kernel_rfl) (by kernel_rfl) (by kernel_rfl) ?_
             refine h_take_no 32 rfl rfl rfl rfl rfl (by kernel_rfl) (by kernel_rfl) (by kernel_rfl) ?_
             refine h_take_no 33 rfl rfl rfl rfl rfl (by kernel_rfl) (by kernel_rfl) (by kernel_rfl) ?_
             refine h_take_no 34 rfl rfl rfl rfl rfl (by kernel_rfl) (by kernel_rfl) (by kernel_rfl) ?_
             refine h_take_no 35 rfl rfl rfl rfl rfl (by kernel_rfl) (by kernel_rfl) (by kernel_rfl) ?_
             refine h_take_no 36 rfl rfl rfl rfl rfl (by kernel_rfl) (by kernel_rfl) (by kernel_rfl) ?_
             refine h_take 37 rfl rfl (by kernel_rfl) (by kernel_rfl) (by kernel_rfl) (fun L0 => v_pick_true rfl rfl rfl) ?_
             refine h_done (by kernel_rfl) ?_
             refine q_conv (L' := blk b1 (.cells #[.int .i64 p.f_Kind, .int .i64 p.f_From, .int .i64 p.f_To, .int .i64 p.f_Group, .int .i64 p.f_Slot, .int .u64 p.f_Ballot, .string p.f_Value, .slice p.f_Votes.a (p.f_Votes.xs).length p.f_Votes.c] 35 (0, 0)) :: F) (fun w S => S.perm List.perm_append_comm) ?_
             refine q_then ?_
             refine c_true rfl ?_
             refine c_seq ?_
             have hno : ¬ RVotesTo p.f_Votes.xs p.f_Votes.xs.length := by first | exact rvotesTo_no hx85 (by omega) | exact rvotesTo_no2 (by omega) hx108 hx85 (by omega)
             refine c_region ?_
             refine o_assign rfl rfl ?_
             refine l_nil ?_
             refine q_then ?_
             refine c_ret ?_
             refine q_block_ret ?_
             refine q_pass_ret ?_
             refine q_pass_ret ?_
             refine q_block_ret ?_
             refine q_pass_ret ?_
             refine q_conv (fun w S => S.tail) ?_
             exact f_ret (r_one rfl rfl) (⟨by first | exact vfalse (by unfold RightM; grind) | exact vtrue (by unfold RightM; grind), rfl⟩) (fun w S => S)
            · -- h64F
             have h64b := h64
             try simp only [decide_eq_true_eq, decide_eq_false_iff_not, Bool.not_eq_eq_eq_not, Bool.not_true, Bool.not_false, Bool.not_eq_true', Bool.not_eq_false', Int.not_lt, Int.not_le, Bool.or_eq_true, Bool.and_eq_true] at h64
             refine h_take_yes 9 rfl rfl rfl rfl rfl (by kernel_rfl) (by kernel_rfl) (by kernel_rfl) (fun L0 => v_fieldAddr (q := ⟨b1, 7, none⟩) rfl rfl Try.underlying35 rfl ti33 rfl) ?_
             refine h_take_yes 10 rfl rfl rfl rfl rfl (by kernel_rfl) (by kernel_rfl) (by kernel_rfl) (fun L0 => v_load1 rfl rfl Try.underlying33 rfl (rd_mem 0 rfl rfl)) ?_
             refine h_take_yes 11 rfl rfl rfl rfl rfl (by kernel_rfl) (by kernel_rfl) (by kernel_rfl) (fun L0 => v_move rfl rfl) ?_
             refine h_take_yes 12 rfl rfl rfl rfl rfl (by kernel_rfl) (by kernel_rfl) (by kernel_rfl) (fun L0 => v_indexK e_RVote_ok eadx rfl rfl rfl Try.underlying33 (by omega) (by omega)) ?_
             obtain ⟨x94, hx94⟩ : ∃ x, (p.f_Votes.xs)[((i : Int)).toNat]? = some x := ⟨_, List.getElem?_eq_getElem (by omega)⟩
             have e94 : x94 = x85 := by rw [hx85] at hx94; exact (Option.some.inj hx94).symm
             have e94' : x94.f_Value.size = x85.f_Value.size := by rw [e94]
             refine h_take_yes 13 rfl rfl rfl rfl rfl (by kernel_rfl) (by kernel_rfl) (by kernel_rfl) (fun L0 => v_fieldAddr rfl rfl Try.underlying58 rfl ti9 (Addr.add_add' _ _ _)) ?_
             refine h_take_yes 14 rfl rfl rfl rfl rfl (by kernel_rfl) (by kernel_rfl) (by kernel_rfl) (fun L0 => v_load1 rfl rfl Try.underlying9 rfl (rd_sl e_RVote_ok eadx (rds_app (rds_c R_p)) hx94 rfl)) ?_
             refine h_take_yes 15 rfl rfl rfl rfl rfl (by kernel_rfl) (by kernel_rfl) (by kernel_rfl) (fun L0 => v_lenStr rfl rfl Try.underlying9) ?_
             refine h_take_yes 16 rfl rfl rfl rfl rfl (by kernel_rfl) (by kernel_rfl) (by kernel_rfl) (fun L0 => v_bin rfl rfl rfl b_gtr) ?_
             refine h_take 17 rfl rfl (by kernel_rfl) (by kernel_rfl) (by kernel_rfl) (fun L0 => v_pick_false rfl rfl rfl) ?_
             refine h_take 18 rfl rfl (by kernel_rfl) (by kernel_rfl) (by kernel_rfl) (fun L0 => v_move rfl rfl) ?_
             refine h_split (t := 100) rfl (fun h65 => ?_) (fun h65 => ?_)
             · -- h65T
              have h65b := h65
              try simp only [decide_eq_true_eq] at h65
              refine h_take_no 19 rfl rfl rfl rfl rfl (by kernel_rfl) (by kernel_rfl) (by kernel_rfl) ?_
              refine h_take_no 20 rfl rfl rfl rfl rfl (by kernel_rfl) (by kernel_rfl) (by kernel_rfl) ?_
              refine h_take_no 21 rfl rfl rfl rfl rfl (by kernel_rfl) (by kernel_rfl) (by kernel_rfl) ?_
              refine h_take_no 22 rfl rfl rfl rfl rfl (by kernel_rfl) (by kernel_rfl) (by kernel_rfl) ?_
              refine h_take_no 23 rfl rfl rfl rfl rfl (by kernel_rfl) (by kernel_rfl) (by kernel_rfl) ?_
              refine h_take_no 24 rfl rfl rfl rfl rfl (by kernel_rfl) (by kernel_rfl) (by kernel_rfl) ?_
              refine h_take_no 25 rfl rfl rfl rfl rfl (by kernel_rfl) (by kernel_rfl) (by kernel_rfl) ?_
              refine h_take_no 26 rfl rfl rfl rfl rfl (by kernel_rfl) (by kernel_rfl) (by kernel_rfl) ?_
              refine h_take_no 27 rfl rfl rfl rfl rfl (by kernel_rfl) (by kernel_rfl) (by kernel_rfl) ?_
              refine h_take_no 28 rfl rfl rfl rfl rfl (by kernel_rfl) (by kernel_rfl) (by kernel_rfl) ?_
              refine h_take_no 29 rfl rfl rfl rfl rfl (by kernel_rfl) (by kernel_rfl) (by kernel_rfl) ?_
              refine h_take_no 30 rfl rfl rfl rfl rfl (by kernel_rfl) (by kernel_rfl) (by kernel_rfl) ?_
              refine h_take_no 31 rfl rfl rfl rfl rfl (by kernel_rfl) (by kernel_rfl) (by kernel_rfl) ?_
              refine h_take_no 32 rfl rfl rfl rfl rfl (by kernel_rfl) (by kernel_rfl) (by kernel_rfl) ?_
              refine h_take_no 33 rfl rfl rfl rfl rfl (by kernel_rfl) (by kernel_rfl) (by kernel_rfl) ?_
              refine h_take_no 34 rfl rfl rfl rfl rfl (by kernel_rfl) (by kernel_rfl) (by kernel_rfl) ?_
              refine h_take_no 35 rfl rfl rfl rfl rfl (by kernel_rfl) (by kernel_rfl) (by kernel_rfl) ?_
              refine h_take_no 36 rfl rfl rfl rfl rfl (by kernel_rfl) (by kernel_rfl) (by kernel_rfl) ?_
              refine h_take 37 rfl rfl (by kernel_rfl) (by kernel_rfl) (by kernel_rfl) (fun L0 => v_pick_true rfl rfl rfl) ?_
              refine h_done (by kernel_rfl) ?_
              refine q_conv (L' := blk b1 (.cells #[.int .i64 p.f_Kind, .int .i64 p.f_From, .int .i64 p.f_To, .int .i64 p.f_Group, .int .i64 p.f_Slot, .int .u64 p.f_Ballot, .string p.f_Value, .slice p.f_Votes.a (p.f_Votes.xs).length p.f_Votes.c] 35 (0, 0)) :: F) (fun w S => S.perm List.perm_append_comm) ?_
              refine q_then ?_
              refine c_true rfl ?_
              refine c_seq ?_
              have hno : ¬ RVotesTo p.f_Votes.xs p.f_Votes.xs.length := by first | exact rvotesTo_no hx85 (by omega) | exact rvotesTo_no2 (by omega) hx108 hx85 (by omega)
              refine c_region ?_
              refine o_assign rfl rfl ?_
              refine l_nil ?_
              refine q_then ?_
              refine c_ret ?_
              refine q_block_ret ?_
              refine q_pass_ret ?_
              refine q_pass_ret ?_
              refine q_block_ret ?_
              refine q_pass_ret ?_
              refine q_conv (fun w S => S.tail) ?_
              exact f_ret (r_one rfl rfl) (⟨by first | exact vfalse (by unfold RightM; grind) | exact vtrue (by unfold RightM; grind), rfl⟩) (fun w S => S)
             · -- h65F
              have h65b := h65
              try simp only [decide_eq_false_iff_not, Int.not_lt, Int.not_le] at h65
              refine h_take_yes 19 rfl rfl rfl rfl rfl (by kernel_rfl) (by kernel_rfl) (by kernel_rfl) (fun L0 => v_move rfl rfl) ?_
              refine h_take_yes 20 rfl rfl rfl rfl rfl (by kernel_rfl) (by kernel_rfl) (by kernel_rfl) (fun L0 => v_bin rfl rfl rfl b_gtr) ?_
              refine h_take_yes 21 rfl rfl rfl rfl rfl (by kernel_rfl) (by kernel_rfl) (by kernel_rfl) (fun L0 => v_move rfl rfl) ?_
              refine h_split (t := 103) rfl (fun h66 => ?_) (fun h66 => ?_)
              · -- h66T
               have h66b := h66
               try simp only [decide_eq_true_eq] at h66
               refine h_take_yes 22 rfl rfl rfl rfl rfl (by kernel_rfl) (by kernel_rfl) (by kernel_rfl) (fun L0 => v_fieldAddr (q := ⟨b1, 7, none⟩) rfl rfl Try.underlying35 rfl ti33 rfl) ?_
               refine h_take_yes 23 rfl rfl rfl rfl rfl (by kernel_rfl) (by kernel_rfl) (by kernel_rfl) (fun L0 => v_load1 rfl rfl Try.underlying33 rfl (rd_mem 0 rfl rfl)) ?_
               refine h_take_yes 24 rfl rfl rfl rfl rfl (by kernel_rfl) (by kernel_rfl) (by kernel_rfl) (fun L0 => v_move rfl rfl) ?_
               refine h_take_yes 25 rfl rfl rfl rfl rfl (by kernel_rfl) (by kernel_rfl) (by kernel_rfl) (fun L0 => v_bin rfl rfl rfl (b_sub (wrap_i64 (by omega) (by omega)))) ?_
               refine h_take_yes 26 rfl rfl rfl rfl rfl (by kernel_rfl) (by kernel_rfl) (by kernel_rfl) (fun L0 => v_indexK e_RVote_ok eadx rfl rfl rfl Try.underlying33 (by omega) (by omega)) ?_
               obtain ⟨x108, hx108⟩ : ∃ x, (p.f_Votes.xs)[(((i : Int) - 1)).toNat]? = some x := ⟨_, List.getElem?_eq_getElem (by omega)⟩
               refine h_take_yes 27 rfl rfl rfl rfl rfl (by kernel_rfl) (by kernel_rfl) (by kernel_rfl) (fun L0 => v_fieldAddr rfl rfl Try.underlying58 rfl ti3 (Addr.add_add' _ _ _)) ?_
               refine h_take_yes 28 rfl rfl rfl rfl rfl (by kernel_rfl) (by kernel_rfl) (by kernel_rfl) (fun L0 => v_load1 rfl rfl Try.underlying3 rfl (rd_sl e_RVote_ok eadx (rds_app (rds_c R_p)) hx108 rfl)) ?_
               refine h_take_yes 29 rfl rfl rfl rfl rfl (by kernel_rfl) (by kernel_rfl) (by kernel_rfl) (fun L0 => v_fieldAddr (q := ⟨b1, 7, none⟩) rfl rfl Try.underlying35 rfl ti33 rfl) ?_
               refine h_take_yes 30 rfl rfl rfl rfl rfl (by kernel_rfl) (by kernel_rfl) (by kernel_rfl) (fun L0 => v_load1 rfl rfl Try.underlying33 rfl (rd_mem 0 rfl rfl)) ?_
               refine h_take_yes 31 rfl rfl rfl rfl rfl (by kernel_rfl) (by kernel_rfl) (by kernel_rfl) (fun L0 => v_move rfl rfl) ?_
               refine h_take_yes 32 rfl rfl rfl rfl rfl (by kernel_rfl) (by kernel_rfl) (by kernel_rfl) (fun L0 => v_indexK e_RVote_ok eadx rfl rfl rfl Try.underlying33 (by omega) (by omega)) ?_
               obtain ⟨x114, hx114⟩ : ∃ x, (p.f_Votes.xs)[((i : Int)).toNat]? = some x := ⟨_, List.getElem?_eq_getElem (by omega)⟩
               have e114 : x114 = x85 := by rw [hx85] at hx114; exact (Option.some.inj hx114).symm
               have e114' : x114.f_Slot = x85.f_Slot := by rw [e114]
               refine h_take_yes 33 rfl rfl rfl rfl rfl (by kernel_rfl) (by kernel_rfl) (by kernel_rfl) (fun L0 => v_fieldAddr rfl rfl Try.underlying58 rfl ti3 (Addr.add_add' _ _ _)) ?_
               refine h_take_yes 34 rfl rfl rfl rfl rfl (by kernel_rfl) (by kernel_rfl) (by kernel_rfl) (fun L0 => v_load1 rfl rfl Try.underlying3 rfl (rd_sl e_RVote_ok eadx (rds_app (rds_c R_p)) hx114 rfl)) ?_
               refine h_take_yes 35 rfl rfl rfl rfl rfl (by kernel_rfl) (by kernel_rfl) (by kernel_rfl) (fun L0 => v_bin rfl rfl rfl b_geq) ?_
               refine h_take_yes 36 rfl rfl rfl rfl rfl (by kernel_rfl) (by kernel_rfl) (by kernel_rfl) (fun L0 => v_pick_true rfl rfl rfl) ?_
               refine h_take 37 rfl rfl (by kernel_rfl) (by kernel_rfl) (by kernel_rfl) (fun L0 => v_pick_false rfl rfl rfl) ?_
               refine h_done (by kernel_rfl) ?_
               refine q_conv (L' := blk b1 (.cells #[.int .i64 p.f_Kind, .int .i64 p.f_From, .int .i64 p.f_To, .int .i64 p.f_Group, .int .i64 p.f_Slot, .int .u64 p.f_Ballot, .string p.f_Value, .slice p.f_Votes.a (p.f_Votes.xs).length p.f_Votes.c] 35 (0, 0)) :: F) (fun w S => S.perm List.perm_append_comm) ?_
               refine q_then ?_
               refine c_cond rfl (fun h67 => ?_) (fun h67 => ?_)
               · -- h67T
                have h67b := h67
                try simp only [decide_eq_true_eq] at h67
                refine c_seq ?_
                have hno : ¬ RVotesTo p.f_Votes.xs p.f_Votes.xs.length := by first | exact rvotesTo_no hx85 (by omega) | exact rvotesTo_no2 (by omega) hx108 hx85 (by omega)
                refine c_region ?_
                refine o_assign rfl rfl ?_
                refine l_nil ?_
                refine q_then ?_
                refine c_ret ?_
                refine q_block_ret ?_
                refine q_pass_ret ?_
                refine q_pass_ret ?_
                refine q_block_ret ?_
                refine q_pass_ret ?_
                refine q_conv (fun w S => S.tail) ?_
                exact f_ret (r_one rfl rfl) (⟨by first | exact vfalse (by unfold RightM; grind) | exact vtrue (by unfold RightM; grind), rfl⟩) (fun w S => S)
               · -- h67F
                have h67b := h67
                try simp only [decide_eq_false_iff_not, Int.not_lt, Int.not_le] at h67
                refine c_skip ?_
                refine q_block ?_
                refine q_then ?_
                refine c_region ?_
                refine o_move rfl rfl ?_
                refine o_bin rfl rfl rfl (b_add (wrap_i64 (by omega) (by omega))) ?_
                refine o_assign rfl rfl ?_
                refine l_nil ?_
                exact q_round (i + 1) (by exact ⟨by omega, rvotesTo_on hv hx85 (by omega) (by omega) (by omega) (fun j u hj hu => by first | omega | (have h9 := hx108; rw [show ((i : Int) - 1).toNat = j by omega, hu] at h9; cases h9; omega))⟩) (by (try dsimp only); omega) ⟨(by first | rfl | exact vint (by omega)), (by first | rfl | exact vint (by omega)), trivial⟩ (fun w S => S)
              · -- h66F
               have h66b := h66
               try simp only [decide_eq_false_iff_not, Int.not_lt, Int.not_le] at h66
               refine h_take_no 22 rfl rfl rfl rfl rfl (by kernel_rfl) (by kernel_rfl) (by kernel_rfl) ?_
               refine h_take_no 23 rfl rfl rfl rfl rfl (by kernel_rfl) (by kernel_rfl) (by kernel_rfl) ?_
               refine h_take_no 24 rfl rfl rfl rfl rfl (by kernel_rfl) (by kernel_rfl) (by kernel_rfl) ?_
               refine h_take_no 25 rfl rfl rfl rfl rfl (by kernel_rfl) (by kernel_rfl) (by kernel_rfl) ?_
               refine h_take_no 26 rfl rfl rfl rfl rfl (by kernel_rfl) (by kernel_rfl) (by kernel_rfl) ?_
               refine h_take_no 27 rfl rfl rfl rfl rfl (by kernel_rfl) (by kernel_rfl) (by kernel_rfl) ?_
               refine h_take_no 28 rfl rfl rfl rfl rfl (by kernel_rfl) (by kernel_rfl) (by kernel_rfl) ?_
               refine h_take_no 29 rfl rfl rfl rfl rfl (by kernel_rfl) (by kernel_rfl) (by kernel_rfl) ?_
               refine h_take_no 30 rfl rfl rfl rfl rfl (by kernel_rfl) (by kernel_rfl) (by kernel_rfl) ?_
               refine h_take_no 31 rfl rfl rfl rfl rfl (by kernel_rfl) (by kernel_rfl) (by kernel_rfl) ?_
               refine h_take_no 32 rfl rfl rfl rfl rfl (by kernel_rfl) (by kernel_rfl) (by kernel_rfl) ?_
               refine h_take_no 33 rfl rfl rfl rfl rfl (by kernel_rfl) (by kernel_rfl) (by kernel_rfl) ?_
               refine h_take_no 34 rfl rfl rfl rfl rfl (by kernel_rfl) (by kernel_rfl) (by kernel_rfl) ?_
               refine h_take_no 35 rfl rfl rfl rfl rfl (by kernel_rfl) (by kernel_rfl) (by kernel_rfl) ?_
               refine h_take_yes 36 rfl rfl rfl rfl rfl (by kernel_rfl) (by kernel_rfl) (by kernel_rfl) (fun L0 => v_pick_false rfl rfl rfl) ?_
               refine h_take 37 rfl rfl (by kernel_rfl) (by kernel_rfl) (by kernel_rfl) (fun L0 => v_pick_false rfl rfl rfl) ?_
               refine h_done (by kernel_rfl) ?_
               refine q_conv (L' := blk b1 (.cells #[.int .i64 p.f_Kind, .int .i64 p.f_From, .int .i64 p.f_To, .int .i64 p.f_Group, .int .i64 p.f_Slot, .int .u64 p.f_Ballot, .string p.f_Value, .slice p.f_Votes.a (p.f_Votes.xs).length p.f_Votes.c] 35 (0, 0)) :: F) (fun w S => S.perm List.perm_append_comm) ?_
               refine q_then ?_
               refine c_false rfl ?_
               refine c_skip ?_
               refine q_block ?_
               refine q_then ?_
               refine c_region ?_
               refine o_move rfl rfl ?_
               refine o_bin rfl rfl rfl (b_add (wrap_i64 (by omega) (by omega))) ?_
               refine o_assign rfl rfl ?_
               refine l_nil ?_
               exact q_round (i + 1) (by exact ⟨by omega, rvotesTo_on hv hx85 (by omega) (by omega) (by omega) (fun j u hj hu => by first | omega | (have h9 := hx108; rw [show ((i : Int) - 1).toNat = j by omega, hu] at h9; cases h9; omega))⟩) (by (try dsimp only); omega) ⟨(by first | rfl | exact vint (by omega)), (by first | rfl | exact vint (by omega)), trivial⟩ (fun w S => S)
           · -- h63F
            have h63b := h63
            try simp only [decide_eq_false_iff_not, Int.not_lt, Int.not_le] at h63
            refine c_exit ?_
            refine q_pass_exit ?_
            refine q_pass_exit ?_
            refine q_hit ?_
            refine q_then ?_
            refine c_seq ?_
            have hyes : RVotesTo p.f_Votes.xs p.f_Votes.xs.length := by rw [show p.f_Votes.xs.length = i by omega]; exact hv
            refine c_region ?_
            refine o_assign rfl rfl ?_
            refine l_nil ?_
            refine q_then ?_
            refine c_ret ?_
            refine q_conv (fun w S => S.tail) ?_
            exact f_ret (r_one rfl rfl) (⟨by first | exact vfalse (by unfold RightM; grind) | exact vtrue (by unfold RightM; grind), rfl⟩) (fun w S => S)
         · -- h61F
          have h61b := h61
          try simp only [decide_eq_false_iff_not, Int.not_lt, Int.not_le] at h61
          refine o_no rfl rfl rfl rfl ?_
          refine o_no rfl rfl rfl rfl ?_
          refine o_no rfl rfl rfl rfl ?_
          refine o_pick_false rfl rfl rfl ?_
          refine l_nil ?_
          refine q_then ?_
          refine c_false rfl ?_
          refine c_skip ?_
          refine q_then ?_
          refine c_seq ?_
          refine c_seq ?_
          refine c_region ?_
          refine o_assign rfl rfl ?_
          refine l_nil ?_
          refine q_then ?_
          refine c_block ?_
          refine c_loop (α := Nat) (fun z => [(1, .pointer (some ⟨b1, 0, none⟩)), (3, .int .i64 (z : Int))]) (fun z => blk b1 (.cells #[.int .i64 p.f_Kind, .int .i64 p.f_From, .int .i64 p.f_To, .int .i64 p.f_Group, .int .i64 p.f_Slot, .int .u64 p.f_Ballot, .string p.f_Value, .slice p.f_Votes.a (p.f_Votes.xs).length p.f_Votes.c] 35 (0, 0)) :: F) (fun z => z ≤ p.f_Votes.xs.length ∧ RVotesTo p.f_Votes.xs z) (fun z => p.f_Votes.xs.length - z) (0) (by exact ⟨Nat.zero_le _, rvotesTo_0⟩) ⟨(by first | rfl | exact vint (by omega)), (by first | rfl | exact vint (by omega)), trivial⟩ (fun w S => S) ?_
          rintro i ⟨hi, hv⟩
          try dsimp only at *
          refine c_seq ?_
          refine c_seq ?_
          refine c_region ?_
          refine o_move rfl rfl ?_
          refine o_fieldAddr (q := ⟨b1, 7, none⟩) rfl rfl Try.underlying35 rfl ti33 rfl ?_
          refine o_load1 rfl rfl Try.underlying33 rfl (rd_mem 0 rfl rfl) ?_
          refine o_len rfl rfl Try.underlying33 ?_
          refine o_bin rfl rfl rfl b_lss ?_
          refine l_nil ?_
          refine q_then ?_
          refine c_cond rfl (fun h68 => ?_) (fun h68 => ?_)
          · -- h68T
           have h68b := h68
           try simp only [decide_eq_true_eq] at h68
           refine c_skip ?_
           refine q_then ?_
           refine c_seq ?_
           refine c_block ?_
           refine c_seq ?_
           refine c_fact (p := ∃ ad, p.f_Votes.a = some ad) (rds_some (e := e_RVote) (xs := p.f_Votes.xs) (rds_c R_p) (by intro h0; have h00 := congrArg List.length h0; simp only [List.length_nil] at h00; omega)) ?_
           rintro ⟨adx, eadx⟩
           refine c_heldF [] (blk b1 (.cells #[.int .i64 p.f_Kind, .int .i64 p.f_From, .int .i64 p.f_To, .int .i64 p.f_Group, .int .i64 p.f_Slot, .int .u64 p.f_Ballot, .string p.f_Value, .slice p.f_Votes.a (p.f_Votes.xs).length p.f_Votes.c] 35 (0, 0)) :: F) (by kernel_rfl) ?_
           refine h_take 0 rfl rfl (by kernel_rfl) (by kernel_rfl) (by kernel_rfl) (fun L0 => v_fieldAddr (q := ⟨b1, 7, none⟩) rfl rfl Try.underlying35 rfl ti33 rfl) ?_
           refine h_take 1 rfl rfl (by kernel_rfl) (by kernel_rfl) (by kernel_rfl) (fun L0 => v_load1 rfl rfl Try.underlying33 rfl (rd_mem 0 rfl rfl)) ?_
           refine h_take 2 rfl rfl (by kernel_rfl) (by kernel_rfl) (by kernel_rfl) (fun L0 => v_move rfl rfl) ?_
           refine h_take 3 rfl rfl (by kernel_rfl) (by kernel_rfl) (by kernel_rfl) (fun L0 => v_indexK e_RVote_ok eadx rfl rfl rfl Try.underlying33 (by omega) (by omega)) ?_
           obtain ⟨x85, hx85⟩ : ∃ x, (p.f_Votes.xs)[((i : Int)).toNat]? = some x := ⟨_, List.getElem?_eq_getElem (by omega)⟩
           refine h_take 4 rfl rfl (by kernel_rfl) (by kernel_rfl) (by kernel_rfl) (fun L0 => v_fieldAddr rfl rfl Try.underlying58 rfl ti3 (Addr.add_add' _ _ _)) ?_
           refine h_take 5 rfl rfl (by kernel_rfl) (by kernel_rfl) (by kernel_rfl) (fun L0 => v_load1 rfl rfl Try.underlying3 rfl (rd_sl e_RVote_ok eadx (rds_app (rds_c R_p)) hx85 rfl)) ?_
           refine h_one 6 rfl (by kernel_rfl) ?_
           refine l_conv (L' := blk b1 (.cells #[.int .i64 p.f_Kind, .int .i64 p.f_From, .int .i64 p.f_To, .int .i64 p.f_Group, .int .i64 p.f_Slot, .int .u64 p.f_Ballot, .string p.f_Value, .slice p.f_Votes.a (p.f_Votes.xs).length p.f_Votes.c] 35 (0, 0)) :: F) (fun w S => S.perm List.perm_append_comm) ?_
           refine o_call rfl cal38 rfl (rwithin_ (n := x85.f_Slot) (k := 63)) ?_
           rintro _ _ ⟨rfl, rfl⟩
           refine l_nil ?_
           refine q_conv (L' := (blk b1 (.cells #[.int .i64 p.f_Kind, .int .i64 p.f_From, .int .i64 p.f_To, .int .i64 p.f_Group, .int .i64 p.f_Slot, .int .u64 p.f_Ballot, .string p.f_Value, .slice p.f_Votes.a (p.f_Votes.xs).length p.f_Votes.c] 35 (0, 0)) :: F) ++ []) (fun w S => S.perm (List.perm_append_comm (l₁ := []) (l₂ := blk b1 (.cells #[.int .i64 p.f_Kind, .int .i64 p.f_From, .int .i64 p.f_To, .int .i64 p.f_Group, .int .i64 p.f_Slot, .int .u64 p.f_Ballot, .string p.f_Value, .slice p.f_Votes.a (p.f_Votes.xs).length p.f_Votes.c] 35 (0, 0)) :: F))) ?_
           refine h_next ?_
           refine h_take 7 rfl rfl (by kernel_rfl) (by kernel_rfl) (by kernel_rfl) (fun L0 => v_not rfl rfl) ?_
           refine h_take 8 rfl rfl (by kernel_rfl) (by kernel_rfl) (by kernel_rfl) (fun L0 => v_move rfl rfl) ?_
           refine h_split (t := 90) rfl (fun h69 => ?_) (fun h69 => ?_)
           · -- h69T
            have h69b := h69
            try simp only [decide_eq_true_eq, decide_eq_false_iff_not, Bool.not_eq_eq_eq_not, Bool.not_true, Bool.not_false, Bool.not_eq_true', Bool.not_eq_false', Int.not_lt, Int.not_le, Bool.or_eq_true, Bool.and_eq_true] at h69
            refine h_take_no 9 rfl rfl rfl rfl rfl (by kernel_rfl) (by kernel_rfl) (by kernel_rfl) ?_
            refine h_take_no 10 rfl rfl rfl rfl rfl (by kernel_rfl) (by kernel_rfl) (by kernel_rfl) ?_
            refine h_take_no 11 rfl rfl rfl rfl rfl (by kernel_rfl) (by kernel_rfl) (by kernel_rfl) ?_
            refine h_take_no 12 rfl rfl rfl rfl rfl (by kernel_rfl) (by kernel_rfl) (by kernel_rfl) ?_
            refine h_take_no 13 rfl rfl rfl rfl rfl (by kernel_rfl) (by kernel_rfl) (by kernel_rfl) ?_
            refine h_take_no 14 rfl rfl rfl rfl rfl (by kernel_rfl) (by kernel_rfl) (by kernel_rfl) ?_
            refine h_take_no 15 rfl rfl rfl rfl rfl (by kernel_rfl) (by kernel_rfl) (by kernel_rfl) ?_
            refine h_take_no 16 rfl rfl rfl rfl rfl (by kernel_rfl) (by kernel_rfl) (by kernel_rfl) ?_
            refine h_take 17 rfl rfl (by kernel_rfl) (by kernel_rfl) (by kernel_rfl) (fun L0 => v_pick_true rfl rfl rfl) ?_
            refine h_take 18 rfl rfl (by kernel_rfl) (by kernel_rfl) (by kernel_rfl) (fun L0 => v_move rfl rfl) ?_
            refine h_take_no 19 rfl rfl rfl rfl rfl (by kernel_rfl) (by kernel_rfl) (by kernel_rfl) ?_
            refine h_take_no 20 rfl rfl rfl rfl rfl (by kernel_rfl) (by kernel_rfl) (by kernel_rfl) ?_
            refine h_take_no 21 rfl rfl rfl rfl rfl (by kernel_rfl) (by kernel_rfl) (by kernel_rfl) ?_
            refine h_take_no 22 rfl rfl rfl rfl rfl (by kernel_rfl) (by kernel_rfl) (by kernel_rfl) ?_
            refine h_take_no 23 rfl rfl rfl rfl rfl (by kernel_rfl) (by kernel_rfl) (by kernel_rfl) ?_
            refine h_take_no 24 rfl rfl rfl rfl rfl (by kernel_rfl) (by kernel_rfl) (by kernel_rfl) ?_
            refine h_take_no 25 rfl rfl rfl rfl rfl (by kernel_rfl) (by kernel_rfl) (by kernel_rfl) ?_
            refine h_take_no 26 rfl rfl rfl rfl rfl (by kernel_rfl) (by kernel_rfl) (by kernel_rfl) ?_
            refine h_take_no 27 rfl rfl rfl rfl rfl (by kernel_rfl) (by kernel_rfl) (by kernel_rfl) ?_
            refine h_take_no 28 rfl rfl rfl rfl rfl (by kernel_rfl) (by kernel_rfl) (by kernel_rfl) ?_
            refine h_take_no 29 rfl rfl rfl rfl rfl (by kernel_rfl) (by kernel_rfl) (by kernel_rfl) ?_
            refine h_take_no 30 rfl rfl rfl rfl rfl (by kernel_rfl) (by kernel_rfl) (by kernel_rfl) ?_
            refine h_take_no 31 rfl rfl rfl rfl rfl (by kernel_rfl) (by kernel_rfl) (by kernel_rfl) ?_
            refine h_take_no 32 rfl rfl rfl rfl rfl (by kernel_rfl) (by kernel_rfl) (by kernel_rfl) ?_
            refine h_take_no 33 rfl rfl rfl rfl rfl (by kernel_rfl) (by kernel_rfl) (by kernel_rfl) ?_
            refine h_take_no 34 rfl rfl rfl rfl rfl (by kernel_rfl) (by kernel_rfl) (by kernel_rfl) ?_
            refine h_take_no 35 rfl rfl rfl rfl rfl (by kernel_rfl) (by kernel_rfl) (by kernel_rfl) ?_
            refine h_take_no 36 rfl rfl rfl rfl rfl (by kernel_rfl) (by kernel_rfl) (by kernel_rfl) ?_
            refine h_take 37 rfl rfl (by kernel_rfl) (by kernel_rfl) (by kernel_rfl) (fun L0 => v_pick_true rfl rfl rfl) ?_
            refine h_done (by kernel_rfl) ?_
            refine q_conv (L' := blk b1 (.cells #[.int .i64 p.f_Kind, .int .i64 p.f_From, .int .i64 p.f_To, .int .i64 p.f_Group, .int .i64 p.f_Slot, .int .u64 p.f_Ballot, .string p.f_Value, .slice p.f_Votes.a (p.f_Votes.xs).length p.f_Votes.c] 35 (0, 0)) :: F) (fun w S => S.perm List.perm_append_comm) ?_
            refine q_then ?_
            refine c_true rfl ?_
            refine c_seq ?_
            have hno : ¬ RVotesTo p.f_Votes.xs p.f_Votes.xs.length := by first | exact rvotesTo_no hx85 (by omega) | exact rvotesTo_no2 (by omega) hx108 hx85 (by omega)
            refine c_region ?_
            refine o_assign rfl rfl ?_
            refine l_nil ?_
            refine q_then ?_
            refine c_ret ?_
            refine q_block_ret ?_
            refine q_pass_ret ?_
            refine q_pass_ret ?_
            refine q_block_ret ?_
            refine q_pass_ret ?_
            refine q_conv (fun w S => S.tail) ?_
            exact f_ret (r_one rfl rfl) (⟨by first | exact vfalse (by unfold RightM; grind) | exact vtrue (by unfold RightM; grind), rfl⟩) (fun w S => S)
           · -- h69F
            have h69b := h69
            try simp only [decide_eq_true_eq, decide_eq_false_iff_not, Bool.not_eq_eq_eq_not, Bool.not_true, Bool.not_false, Bool.not_eq_true', Bool.not_eq_false', Int.not_lt, Int.not_le, Bool.or_eq_true, Bool.and_eq_true] at h69
            refine h_take_yes 9 rfl rfl rfl rfl rfl (by kernel_rfl) (by kernel_rfl) (by kernel_rfl) (fun L0 => v_fieldAddr (q := ⟨b1, 7, none⟩) rfl rfl Try.underlying35 rfl ti33 rfl) ?_
            refine h_take_yes 10 rfl rfl rfl rfl rfl (by kernel_rfl) (by kernel_rfl) (by kernel_rfl) (fun L0 => v_load1 rfl rfl Try.underlying33 rfl (rd_mem 0 rfl rfl)) ?_
            refine h_take_yes 11 rfl rfl rfl rfl rfl (by kernel_rfl) (by kernel_rfl) (by kernel_rfl) (fun L0 => v_move rfl rfl) ?_
            refine h_take_yes 12 rfl rfl rfl rfl rfl (by kernel_rfl) (by kernel_rfl) (by kernel_rfl) (fun L0 => v_indexK e_RVote_ok eadx rfl rfl rfl Try.underlying33 (by omega) (by omega)) ?_
            obtain ⟨x94, hx94⟩ : ∃ x, (p.f_Votes.xs)[((i : Int)).toNat]? = some x := ⟨_, List.getElem?_eq_getElem (by omega)⟩
            have e94 : x94 = x85 := by rw [hx85] at hx94; exact (Option.some.inj hx94).symm
            have e94' : x94.f_Value.size = x85.f_Value.size := by rw [e94]
            refine h_take_yes 13 rfl rfl rfl rfl rfl (by kernel_rfl) (by kernel_rfl) (by kernel_rfl) (fun L0 => v_fieldAddr rfl rfl Try.underlying58 rfl ti9 (Addr.add_add' _ _ _)) ?_
            refine h_take_yes 14 rfl rfl rfl rfl rfl (by kernel_rfl) (by kernel_rfl) (by kernel_rfl) (fun L0 => v_load1 rfl rfl Try.underlying9 rfl (rd_sl e_RVote_ok eadx (rds_app (rds_c R_p)) hx94 rfl)) ?_
            refine h_take_yes 15 rfl rfl rfl rfl rfl (by kernel_rfl) (by kernel_rfl) (by kernel_rfl) (fun L0 => v_lenStr rfl rfl Try.underlying9) ?_
            refine h_take_yes 16 rfl rfl rfl rfl rfl (by kernel_rfl) (by kernel_rfl) (by kernel_rfl) (fun L0 => v_bin rfl rfl rfl b_gtr) ?_
            refine h_take 17 rfl rfl (by kernel_rfl) (by kernel_rfl) (by kernel_rfl) (fun L0 => v_pick_false rfl rfl rfl) ?_
            refine h_take 18 rfl rfl (by kernel_rfl) (by kernel_rfl) (by kernel_rfl) (fun L0 => v_move rfl rfl) ?_
            refine h_split (t := 100) rfl (fun h70 => ?_) (fun h70 => ?_)
            · -- h70T
             have h70b := h70
             try simp only [decide_eq_true_eq] at h70
             refine h_take_no 19 rfl rfl rfl rfl rfl (by kernel_rfl) (by kernel_rfl) (by kernel_rfl) ?_
             refine h_take_no 20 rfl rfl rfl rfl rfl (by kernel_rfl) (by kernel_rfl) (by kernel_rfl) ?_
             refine h_take_no 21 rfl rfl rfl rfl rfl (by kernel_rfl) (by kernel_rfl) (by kernel_rfl) ?_
             refine h_take_no 22 rfl rfl rfl rfl rfl (by kernel_rfl) (by kernel_rfl) (by kernel_rfl) ?_
             refine h_take_no 23 rfl rfl rfl rfl rfl (by kernel_rfl) (by kernel_rfl) (by kernel_rfl) ?_
             refine h_take_no 24 rfl rfl rfl rfl rfl (by kernel_rfl) (by kernel_rfl) (by kernel_rfl) ?_
             refine h_take_no 25 rfl rfl rfl rfl rfl (by kernel_rfl) (by kernel_rfl) (by kernel_rfl) ?_
             refine h_take_no 26 rfl rfl rfl rfl rfl (by kernel_rfl) (by kernel_rfl) (by kernel_rfl) ?_
             refine h_take_no 27 rfl rfl rfl rfl rfl (by kernel_rfl) (by kernel_rfl) (by kernel_rfl) ?_
             refine h_take_no 28 rfl rfl rfl rfl rfl (by kernel_rfl) (by kernel_rfl) (by kernel_rfl) ?_
             refine h_take_no 29 rfl rfl rfl rfl rfl (by kernel_rfl) (by kernel_rfl) (by kernel_rfl) ?_
             refine h_take_no 30 rfl rfl rfl rfl rfl (by kernel_rfl) (by kernel_rfl) (by kernel_rfl) ?_
             refine h_take_no 31 rfl rfl rfl rfl rfl (by kernel_rfl) (by kernel_rfl) (by kernel_rfl) ?_
             refine h_take_no 32 rfl rfl rfl rfl rfl (by kernel_rfl) (by kernel_rfl) (by kernel_rfl) ?_
             refine h_take_no 33 rfl rfl rfl rfl rfl (by kernel_rfl) (by kernel_rfl) (by kernel_rfl) ?_
             refine h_take_no 34 rfl rfl rfl rfl rfl (by kernel_rfl) (by kernel_rfl) (by kernel_rfl) ?_
             refine h_take_no 35 rfl rfl rfl rfl rfl (by kernel_rfl) (by kernel_rfl) (by kernel_rfl) ?_
             refine h_take_no 36 rfl rfl rfl rfl rfl (by kernel_rfl) (by kernel_rfl) (by kernel_rfl) ?_
             refine h_take 37 rfl rfl (by kernel_rfl) (by kernel_rfl) (by kernel_rfl) (fun L0 => v_pick_true rfl rfl rfl) ?_
             refine h_done (by kernel_rfl) ?_
             refine q_conv (L' := blk b1 (.cells #[.int .i64 p.f_Kind, .int .i64 p.f_From, .int .i64 p.f_To, .int .i64 p.f_Group, .int .i64 p.f_Slot, .int .u64 p.f_Ballot, .string p.f_Value, .slice p.f_Votes.a (p.f_Votes.xs).length p.f_Votes.c] 35 (0, 0)) :: F) (fun w S => S.perm List.perm_append_comm) ?_
             refine q_then ?_
             refine c_true rfl ?_
             refine c_seq ?_
             have hno : ¬ RVotesTo p.f_Votes.xs p.f_Votes.xs.length := by first | exact rvotesTo_no hx85 (by omega) | exact rvotesTo_no2 (by omega) hx108 hx85 (by omega)
             refine c_region ?_
             refine o_assign rfl rfl ?_
             refine l_nil ?_
             refine q_then ?_
             refine c_ret ?_
             refine q_block_ret ?_
             refine q_pass_ret ?_
             refine q_pass_ret ?_
             refine q_block_ret ?_
             refine q_pass_ret ?_
             refine q_conv (fun w S => S.tail) ?_
             exact f_ret (r_one rfl rfl) (⟨by first | exact vfalse (by unfold RightM; grind) | exact vtrue (by unfold RightM; grind), rfl⟩) (fun w S => S)
            · -- h70F
             have h70b := h70
             try simp only [decide_eq_false_iff_not, Int.not_lt, Int.not_le] at h70
             refine h_take_yes 19 rfl rfl rfl rfl rfl (by kernel_rfl) (by kernel_rfl) (by kernel_rfl) (fun L0 => v_move rfl rfl) ?_
             refine h_take_yes 20 rfl rfl rfl rfl rfl (by kernel_rfl) (by kernel_rfl) (by kernel_rfl) (fun L0 => v_bin rfl rfl rfl b_gtr) ?_
             refine h_take_yes 21 rfl rfl rfl rfl rfl (by kernel_rfl) (by kernel_rfl) (by kernel_rfl) (fun L0 => v_move rfl rfl) ?_
             refine h_split (t := 103) rfl (fun h71 => ?_) (fun h71 => ?_)
             · -- h71T
              have h71b := h71
              try simp only [decide_eq_true_eq] at h71
              refine h_take_yes 22 rfl rfl rfl rfl rfl (by kernel_rfl) (by kernel_rfl) (by kernel_rfl) (fun L0 => v_fieldAddr (q := ⟨b1, 7, none⟩) rfl rfl Try.underlying35 rfl ti33 rfl) ?_
              refine h_take_yes 23 rfl rfl rfl rfl rfl (by kernel_rfl) (by kernel_rfl) (by kernel_rfl) (fun L0 => v_load1 rfl rfl Try.underlying33 rfl (rd_mem 0 rfl rfl)) ?_
              refine h_take_yes 24 rfl rfl rfl rfl rfl (by kernel_rfl) (by kernel_rfl) (by kernel_rfl) (fun L0 => v_move rfl rfl) ?_
              refine h_take_yes 25 rfl rfl rfl rfl rfl (by kernel_rfl) (by kernel_rfl) (by kernel_rfl) (fun L0 => v_bin rfl rfl rfl (b_sub (wrap_i64 (by omega) (by omega)))) ?_
              refine h_take_yes 26 rfl rfl rfl rfl rfl (by kernel_rfl) (by kernel_rfl) (by kernel_rfl) (fun L0 => v_indexK e_RVote_ok eadx rfl rfl rfl Try.underlying33 (by omega) (by omega)) ?_
              obtain ⟨x108, hx108⟩ : ∃ x, (p.f_Votes.xs)[(((i : Int) - 1)).toNat]? = some x := ⟨_, List.getElem?_eq_getElem (by omega)⟩
              refine h_take_yes 27 rfl rfl rfl rfl rfl (by kernel_rfl) (by kernel_rfl) (by kernel_rfl) (fun L0 => v_fieldAddr rfl rfl Try.underlying58 rfl ti3 (Addr.add_add' _ _ _)) ?_
              refine h_take_yes 28 rfl rfl rfl rfl rfl (by kernel_rfl) (by kernel_rfl) (by kernel_rfl) (fun L0 => v_load1 rfl rfl Try.underlying3 rfl (rd_sl e_RVote_ok eadx (rds_app (rds_c R_p)) hx108 rfl)) ?_
              refine h_take_yes 29 rfl rfl rfl rfl rfl (by kernel_rfl) (by kernel_rfl) (by kernel_rfl) (fun L0 => v_fieldAddr (q := ⟨b1, 7, none⟩) rfl rfl Try.underlying35 rfl ti33 rfl) ?_
              refine h_take_yes 30 rfl rfl rfl rfl rfl (by kernel_rfl) (by kernel_rfl) (by kernel_rfl) (fun L0 => v_load1 rfl rfl Try.underlying33 rfl (rd_mem 0 rfl rfl)) ?_
              refine h_take_yes 31 rfl rfl rfl rfl rfl (by kernel_rfl) (by kernel_rfl) (by kernel_rfl) (fun L0 => v_move rfl rfl) ?_
              refine h_take_yes 32 rfl rfl rfl rfl rfl (by kernel_rfl) (by kernel_rfl) (by kernel_rfl) (fun L0 => v_indexK e_RVote_ok eadx rfl rfl rfl Try.underlying33 (by omega) (by omega)) ?_
              obtain ⟨x114, hx114⟩ : ∃ x, (p.f_Votes.xs)[((i : Int)).toNat]? = some x := ⟨_, List.getElem?_eq_getElem (by omega)⟩
              have e114 : x114 = x85 := by rw [hx85] at hx114; exact (Option.some.inj hx114).symm
              have e114' : x114.f_Slot = x85.f_Slot := by rw [e114]
              refine h_take_yes 33 rfl rfl rfl rfl rfl (by kernel_rfl) (by kernel_rfl) (by kernel_rfl) (fun L0 => v_fieldAddr rfl rfl Try.underlying58 rfl ti3 (Addr.add_add' _ _ _)) ?_
              refine h_take_yes 34 rfl rfl rfl rfl rfl (by kernel_rfl) (by kernel_rfl) (by kernel_rfl) (fun L0 => v_load1 rfl rfl Try.underlying3 rfl (rd_sl e_RVote_ok eadx (rds_app (rds_c R_p)) hx114 rfl)) ?_
              refine h_take_yes 35 rfl rfl rfl rfl rfl (by kernel_rfl) (by kernel_rfl) (by kernel_rfl) (fun L0 => v_bin rfl rfl rfl b_geq) ?_
              refine h_take_yes 36 rfl rfl rfl rfl rfl (by kernel_rfl) (by kernel_rfl) (by kernel_rfl) (fun L0 => v_pick_true rfl rfl rfl) ?_
              refine h_take 37 rfl rfl (by kernel_rfl) (by kernel_rfl) (by kernel_rfl) (fun L0 => v_pick_false rfl rfl rfl) ?_
              refine h_done (by kernel_rfl) ?_
              refine q_conv (L' := blk b1 (.cells #[.int .i64 p.f_Kind, .int .i64 p.f_From, .int .i64 p.f_To, .int .i64 p.f_Group, .int .i64 p.f_Slot, .int .u64 p.f_Ballot, .string p.f_Value, .slice p.f_Votes.a (p.f_Votes.xs).length p.f_Votes.c] 35 (0, 0)) :: F) (fun w S => S.perm List.perm_append_comm) ?_
              refine q_then ?_
              refine c_cond rfl (fun h72 => ?_) (fun h72 => ?_)
              · -- h72T
               have h72b := h72
               try simp only [decide_eq_true_eq] at h72
               refine c_seq ?_
               have hno : ¬ RVotesTo p.f_Votes.xs p.f_Votes.xs.length := by first | exact rvotesTo_no hx85 (by omega) | exact rvotesTo_no2 (by omega) hx108 hx85 (by omega)
               refine c_region ?_
               refine o_assign rfl rfl ?_
               refine l_nil ?_
               refine q_then ?_
               refine c_ret ?_
               refine q_block_ret ?_
               refine q_pass_ret ?_
               refine q_pass_ret ?_
               refine q_block_ret ?_
               refine q_pass_ret ?_
               refine q_conv (fun w S => S.tail) ?_
               exact f_ret (r_one rfl rfl) (⟨by first | exact vfalse (by unfold RightM; grind) | exact vtrue (by unfold RightM; grind), rfl⟩) (fun w S => S)
              · -- h72F
               have h72b := h72
               try simp only [decide_eq_false_iff_not, Int.not_lt, Int.not_le] at h72
               refine c_skip ?_
               refine q_block ?_
               refine q_then ?_
               refine c_region ?_
               refine o_move rfl rfl ?_
               refine o_bin rfl rfl rfl (b_add (wrap_i64 (by omega) (by omega))) ?_
               refine o_assign rfl rfl ?_
               refine l_nil ?_
               exact q_round (i + 1) (by exact ⟨by omega, rvotesTo_on hv hx85 (by omega) (by omega) (by omega) (fun j u hj hu => by first | omega | (have h9 := hx108; rw [show ((i : Int) - 1).toNat = j by omega, hu] at h9; cases h9; omega))⟩) (by (try dsimp only); omega) ⟨(by first | rfl | exact vint (by omega)), (by first | rfl | exact vint (by omega)), trivial⟩ (fun w S => S)
             · -- h71F
              have h71b := h71
              try simp only [decide_eq_false_iff_not, Int.not_lt, Int.not_le] at h71
              refine h_take_no 22 rfl rfl rfl rfl rfl (by kernel_rfl) (by kernel_rfl) (by kernel_rfl) ?_
              refine h_take_no 23 rfl rfl rfl rfl rfl (by kernel_rfl) (by kernel_rfl) (by kernel_rfl) ?_
              refine h_take_no 24 rfl rfl rfl rfl rfl (by kernel_rfl) (by kernel_rfl) (by kernel_rfl) ?_
              refine h_take_no 25 rfl rfl rfl rfl rfl (by kernel_rfl) (by kernel_rfl) (by kernel_rfl) ?_
              refine h_take_no 26 rfl rfl rfl rfl rfl (by kernel_rfl) (by kernel_rfl) (by kernel_rfl) ?_
              refine h_take_no 27 rfl rfl rfl rfl rfl (by kernel_rfl) (by kernel_rfl) (by kernel_rfl) ?_
              refine h_take_no 28 rfl rfl rfl rfl rfl (by kernel_rfl) (by kernel_rfl) (by kernel_rfl) ?_
              refine h_take_no 29 rfl rfl rfl rfl rfl (by kernel_rfl) (by kernel_rfl) (by kernel_rfl) ?_
              refine h_take_no 30 rfl rfl rfl rfl rfl (by kernel_rfl) (by kernel_rfl) (by kernel_rfl) ?_
              refine h_take_no 31 rfl rfl rfl rfl rfl (by kernel_rfl) (by kernel_rfl) (by kernel_rfl) ?_
              refine h_take_no 32 rfl rfl rfl rfl rfl (by kernel_rfl) (by kernel_rfl) (by kernel_rfl) ?_
              refine h_take_no 33 rfl rfl rfl rfl rfl (by kernel_rfl) (by kernel_rfl) (by kernel_rfl) ?_
              refine h_take_no 34 rfl rfl rfl rfl rfl (by kernel_rfl) (by kernel_rfl) (by kernel_rfl) ?_
              refine h_take_no 35 rfl rfl rfl rfl rfl (by kernel_rfl) (by kernel_rfl) (by kernel_rfl) ?_
              refine h_take_yes 36 rfl rfl rfl rfl rfl (by kernel_rfl) (by kernel_rfl) (by kernel_rfl) (fun L0 => v_pick_false rfl rfl rfl) ?_
              refine h_take 37 rfl rfl (by kernel_rfl) (by kernel_rfl) (by kernel_rfl) (fun L0 => v_pick_false rfl rfl rfl) ?_
              refine h_done (by kernel_rfl) ?_
              refine q_conv (L' := blk b1 (.cells #[.int .i64 p.f_Kind, .int .i64 p.f_From, .int .i64 p.f_To, .int .i64 p.f_Group, .int .i64 p.f_Slot, .int .u64 p.f_Ballot, .string p.f_Value, .slice p.f_Votes.a (p.f_Votes.xs).length p.f_Votes.c] 35 (0, 0)) :: F) (fun w S => S.perm List.perm_append_comm) ?_
              refine q_then ?_
              refine c_false rfl ?_
              refine c_skip ?_
              refine q_block ?_
              refine q_then ?_
              refine c_region ?_
              refine o_move rfl rfl ?_
              refine o_bin rfl rfl rfl (b_add (wrap_i64 (by omega) (by omega))) ?_
              refine o_assign rfl rfl ?_
              refine l_nil ?_
              exact q_round (i + 1) (by exact ⟨by omega, rvotesTo_on hv hx85 (by omega) (by omega) (by omega) (fun j u hj hu => by first | omega | (have h9 := hx108; rw [show ((i : Int) - 1).toNat = j by omega, hu] at h9; cases h9; omega))⟩) (by (try dsimp only); omega) ⟨(by first | rfl | exact vint (by omega)), (by first | rfl | exact vint (by omega)), trivial⟩ (fun w S => S)
          · -- h68F
           have h68b := h68
           try simp only [decide_eq_false_iff_not, Int.not_lt, Int.not_le] at h68
           refine c_exit ?_
           refine q_pass_exit ?_
           refine q_pass_exit ?_
           refine q_hit ?_
           refine q_then ?_
           refine c_seq ?_
           have hyes : RVotesTo p.f_Votes.xs p.f_Votes.xs.length := by rw [show p.f_Votes.xs.length = i by omega]; exact hv
           refine c_region ?_
           refine o_assign rfl rfl ?_
           refine l_nil ?_
           refine q_then ?_
           refine c_ret ?_
           refine q_conv (fun w S => S.tail) ?_
           exact f_ret (r_one rfl rfl) (⟨by first | exact vfalse (by unfold RightM; grind) | exact vtrue (by unfold RightM; grind), rfl⟩) (fun w S => S)

end Go.Proofs.Ytoigakfglgdjdaa
