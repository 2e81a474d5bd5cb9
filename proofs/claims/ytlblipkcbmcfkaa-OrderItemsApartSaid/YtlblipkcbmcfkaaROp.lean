/- Printed by eng2.py out of 09a/spec.py. -/
import Derived.Test.YtlblipkcbmcfkaaFuns
set_option linter.unusedVariables false
set_option linter.unusedSimpArgs false
set_option maxRecDepth 10000
namespace Go.Proofs.Ytlblipkcbmcfkaa
open Go.RowKit Classical
theorem op_ {W : World} {F : List Res} {t : Txn} (T_t : TxR W F t) {o : Op} (V_o : RdS W F e8 o.f_Value.a o.f_Value.xs) : CS Try.prog 50 #[.agg #[.int .i64 t.f_Kind, .slice t.f_Reads.a (t.f_Reads.xs).length t.f_Reads.c, .slice t.f_Writes.a (t.f_Writes.xs).length t.f_Writes.c, .slice t.f_Ops.a (t.f_Ops.xs).length t.f_Ops.c, .int .i64 t.f_To], .agg #[.int .i64 o.f_Kind, .string o.f_Key, .slice o.f_Value.a (o.f_Value.xs).length o.f_Value.c, .int .i64 o.f_N]] W (F) (fun r L' => r = .bool (decide (OpOk t o)) ∧ F = L') := by
 have hba : (⟨#[]⟩ : ByteArray) = ByteArray.empty := rfl
 refine f_door (l0 := [(0, .agg #[.int .i64 t.f_Kind, .slice t.f_Reads.a (t.f_Reads.xs).length t.f_Reads.c, .slice t.f_Writes.a (t.f_Writes.xs).length t.f_Writes.c, .slice t.f_Ops.a (t.f_Ops.xs).length t.f_Ops.c, .int .i64 t.f_To]), (1, .agg #[.int .i64 o.f_Kind, .string o.f_Key, .slice o.f_Value.a (o.f_Value.xs).length o.f_Value.c, .int .i64 o.f_N])]) Try.func50 Try.ntmps50 rfl rfl rfl ?_
 refine c_seq ?_
 refine c_region ?_
 refine o_box rfl rfl fun b2 => ?_
 refine o_box rfl rfl fun b3 => ?_
 refine o_assign rfl rfl ?_
 refine l_nil ?_
 refine q_then ?_
 refine c_seq ?_
 refine c_seq ?_
 refine c_region ?_
 refine o_fieldAddr (q := ⟨b3, 2, none⟩) rfl rfl Try.underlying53 rfl ti45 rfl ?_
 refine o_load1 rfl rfl Try.underlying45 rfl (rd_mem 0 rfl rfl) ?_
 refine o_len rfl rfl Try.underlying45 ?_
 refine o_bin rfl rfl rfl b_gtr ?_
 refine o_move rfl rfl ?_
 refine l_split (t := 9) rfl (fun h1 => ?_) (fun h1 => ?_)
 · -- h1T
  have h1b := h1
  try simp only [decide_eq_true_eq] at h1
  refine o_no rfl rfl rfl rfl ?_
  refine o_no rfl rfl rfl rfl ?_
  refine o_no rfl rfl rfl rfl ?_
  refine o_pick_true rfl rfl rfl ?_
  refine o_move rfl rfl ?_
  refine o_no rfl rfl rfl rfl ?_
  refine o_no rfl rfl rfl rfl ?_
  refine o_no rfl rfl rfl rfl ?_
  refine o_pick_true rfl rfl rfl ?_
  refine l_nil ?_
  refine q_then ?_
  refine c_true rfl ?_
  refine c_seq ?_
  refine c_region ?_
  refine o_assign rfl rfl ?_
  refine l_nil ?_
  refine q_then ?_
  refine c_ret ?_
  refine q_pass_ret ?_
  refine q_conv (fun w S => S.tail) ?_
  refine q_conv (fun w S => S.tail) ?_
  exact f_ret (r_one rfl rfl) (⟨by first | exact vtrue (by unfold OpOk; grind) | exact vfalse (by unfold OpOk; grind) | exact bdec (by unfold OpOk; grind), rfl⟩) (fun w S => S)
 · -- h1F
  have h1b := h1
  try simp only [decide_eq_false_iff_not, Int.not_lt, Int.not_le] at h1
  refine o_yes rfl rfl rfl ?_
  refine o_fieldAddr (q := ⟨b3, 0, none⟩) rfl rfl Try.underlying53 rfl ti3 rfl ?_
  refine o_yes rfl rfl rfl ?_
  refine o_load1 rfl rfl Try.underlying3 rfl (rd_mem 0 rfl rfl) ?_
  refine o_yes rfl rfl rfl ?_
  refine o_bin rfl rfl rfl b_lss ?_
  refine o_pick_false rfl rfl rfl ?_
  refine o_move rfl rfl ?_
  refine l_split (t := 14) rfl (fun h2 => ?_) (fun h2 => ?_)
  · -- h2T
   have h2b := h2
   try simp only [decide_eq_true_eq] at h2
   refine o_no rfl rfl rfl rfl ?_
   refine o_no rfl rfl rfl rfl ?_
   refine o_no rfl rfl rfl rfl ?_
   refine o_pick_true rfl rfl rfl ?_
   refine l_nil ?_
   refine q_then ?_
   refine c_true rfl ?_
   refine c_seq ?_
   refine c_region ?_
   refine o_assign rfl rfl ?_
   refine l_nil ?_
   refine q_then ?_
   refine c_ret ?_
   refine q_pass_ret ?_
   refine q_conv (fun w S => S.tail) ?_
   refine q_conv (fun w S => S.tail) ?_
   exact f_ret (r_one rfl rfl) (⟨by first | exact vtrue (by unfold OpOk; grind) | exact vfalse (by unfold OpOk; grind) | exact bdec (by unfold OpOk; grind), rfl⟩) (fun w S => S)
  · -- h2F
   have h2b := h2
   try simp only [decide_eq_false_iff_not, Int.not_lt, Int.not_le] at h2
   refine o_yes rfl rfl rfl ?_
   refine o_fieldAddr (q := ⟨b3, 0, none⟩) rfl rfl Try.underlying53 rfl ti3 rfl ?_
   refine o_yes rfl rfl rfl ?_
   refine o_load1 rfl rfl Try.underlying3 rfl (rd_mem 0 rfl rfl) ?_
   refine o_yes rfl rfl rfl ?_
   refine o_bin rfl rfl rfl b_gtr ?_
   refine o_pick_false rfl rfl rfl ?_
   refine l_nil ?_
   refine q_then ?_
   refine c_cond rfl (fun h3 => ?_) (fun h3 => ?_)
   · -- h3T
    have h3b := h3
    try simp only [decide_eq_true_eq] at h3
    refine c_seq ?_
    refine c_region ?_
    refine o_assign rfl rfl ?_
    refine l_nil ?_
    refine q_then ?_
    refine c_ret ?_
    refine q_pass_ret ?_
    refine q_conv (fun w S => S.tail) ?_
    refine q_conv (fun w S => S.tail) ?_
    exact f_ret (r_one rfl rfl) (⟨by first | exact vtrue (by unfold OpOk; grind) | exact vfalse (by unfold OpOk; grind) | exact bdec (by unfold OpOk; grind), rfl⟩) (fun w S => S)
   · -- h3F
    have h3b := h3
    try simp only [decide_eq_false_iff_not, Int.not_lt, Int.not_le] at h3
    refine c_skip ?_
    refine q_then ?_
    refine c_seq ?_
    refine c_seq ?_
    refine c_region ?_
    refine o_fieldAddr (q := ⟨b3, 0, none⟩) rfl rfl Try.underlying53 rfl ti3 rfl ?_
    refine o_load1 rfl rfl Try.underlying3 rfl (rd_mem 0 rfl rfl) ?_
    refine o_bin rfl rfl rfl b_eql ?_
    refine l_nil ?_
    refine q_then ?_
    refine c_cond rfl (fun h4 => ?_) (fun h4 => ?_)
    · -- h4T
     have h4b := h4
     try simp only [decide_eq_true_eq] at h4
     refine c_seq ?_
     refine c_region ?_
     refine o_fieldAddr (q := ⟨b3, 1, none⟩) rfl rfl Try.underlying53 rfl ti9 rfl ?_
     refine o_load1 rfl rfl Try.underlying9 rfl (rd_mem 0 rfl rfl) ?_
     refine o_bin rfl rfl rfl b_seql ?_
     refine o_move rfl rfl ?_
     refine l_split (t := 25) rfl (fun h5 => ?_) (fun h5 => ?_)
     · -- h5T
      have h5b := h5
      try simp only [decide_eq_true_eq] at h5
      refine o_yes rfl rfl rfl ?_
      refine o_fieldAddr (q := ⟨b3, 3, none⟩) rfl rfl Try.underlying53 rfl ti2 rfl ?_
      refine o_yes rfl rfl rfl ?_
      refine o_load1 rfl rfl Try.underlying2 rfl (rd_mem 0 rfl rfl) ?_
      refine o_yes rfl rfl rfl ?_
      refine o_bin rfl rfl rfl b_eql ?_
      refine o_pick_true rfl rfl rfl ?_
      refine o_assign rfl rfl ?_
      refine l_nil ?_
      refine q_then ?_
      refine c_ret ?_
      refine q_pass_ret ?_
      refine q_conv (fun w S => S.tail) ?_
      refine q_conv (fun w S => S.tail) ?_
      exact f_ret (r_one rfl rfl) (⟨by first | exact vtrue (by unfold OpOk; grind) | exact vfalse (by unfold OpOk; grind) | exact bdec (by unfold OpOk; grind), rfl⟩) (fun w S => S)
     · -- h5F
      have h5b := h5
      try simp only [decide_eq_false_iff_not, Int.not_lt, Int.not_le] at h5
      refine o_no rfl rfl rfl rfl ?_
      refine o_no rfl rfl rfl rfl ?_
      refine o_no rfl rfl rfl rfl ?_
      refine o_pick_false rfl rfl rfl ?_
      refine o_assign rfl rfl ?_
      refine l_nil ?_
      refine q_then ?_
      refine c_ret ?_
      refine q_pass_ret ?_
      refine q_conv (fun w S => S.tail) ?_
      refine q_conv (fun w S => S.tail) ?_
      exact f_ret (r_one rfl rfl) (⟨by first | exact vtrue (by unfold OpOk; grind) | exact vfalse (by unfold OpOk; grind) | exact bdec (by unfold OpOk; grind), rfl⟩) (fun w S => S)
    · -- h4F
     have h4b := h4
     try simp only [decide_eq_false_iff_not, Int.not_lt, Int.not_le] at h4
     refine c_skip ?_
     refine q_then ?_
     refine c_seq ?_
     refine c_seq ?_
     refine c_region ?_
     refine o_fieldAddr (q := ⟨b2, 2, none⟩) rfl rfl Try.underlying30 rfl ti27 rfl ?_
     refine o_load1 rfl rfl Try.underlying27 rfl (rd_mem 1 rfl rfl) ?_
     refine o_fieldAddr (q := ⟨b3, 1, none⟩) rfl rfl Try.underlying53 rfl ti9 rfl ?_
     refine o_load1 rfl rfl Try.underlying9 rfl (rd_mem 0 rfl rfl) ?_
     refine o_call rfl cal49 rfl (in_ (TxR.c (TxR.c T_t)).rw (by first | exact T_t.len.lr | exact T_t.len.lw | exact T_t.len.lo | omega)) ?_
     rintro _ _ ⟨rfl, rfl⟩
     refine o_not rfl rfl ?_
     refine o_move rfl rfl ?_
     refine l_split (t := 36) rfl (fun h6 => ?_) (fun h6 => ?_)
     · -- h6T
      have h6b := h6
      try simp only [Bool.not_eq_true', decide_eq_false_iff_not, Int.not_lt, Int.not_le] at h6
      refine o_yes rfl rfl rfl ?_
      refine o_fieldAddr (q := ⟨b2, 1, none⟩) rfl rfl Try.underlying30 rfl ti27 rfl ?_
      refine o_yes rfl rfl rfl ?_
      refine o_load1 rfl rfl Try.underlying27 rfl (rd_mem 1 rfl rfl) ?_
      refine o_yes rfl rfl rfl ?_
      refine o_fieldAddr (q := ⟨b3, 1, none⟩) rfl rfl Try.underlying53 rfl ti9 rfl ?_
      refine o_yes rfl rfl rfl ?_
      refine o_load1 rfl rfl Try.underlying9 rfl (rd_mem 0 rfl rfl) ?_
      refine o_yes rfl rfl rfl ?_
      refine o_call rfl cal49 rfl (in_ (TxR.c (TxR.c T_t)).rr (by first | exact T_t.len.lr | exact T_t.len.lw | exact T_t.len.lo | omega)) ?_
      rintro _ _ ⟨rfl, rfl⟩
      refine o_yes rfl rfl rfl ?_
      refine o_not rfl rfl ?_
      refine o_yes rfl rfl rfl ?_
      refine o_move rfl rfl ?_
      refine l_split (t := 43) rfl (fun h7 => ?_) (fun h7 => ?_)
      · -- h7T
       have h7b := h7
       try simp only [Bool.not_eq_true', decide_eq_false_iff_not, Int.not_lt, Int.not_le] at h7
       refine o_no rfl rfl rfl rfl ?_
       refine o_no rfl rfl rfl rfl ?_
       refine o_no rfl rfl rfl rfl ?_
       refine o_yes rfl rfl rfl ?_
       refine o_pick_true rfl rfl rfl ?_
       refine o_yes rfl rfl rfl ?_
       refine o_move rfl rfl ?_
       refine o_no rfl rfl rfl rfl ?_
       refine o_no rfl rfl rfl rfl ?_
       refine o_no rfl rfl rfl rfl ?_
       refine o_yes rfl rfl rfl ?_
       refine o_pick_true rfl rfl rfl ?_
       refine o_yes rfl rfl rfl ?_
       refine o_move rfl rfl ?_
       refine o_no rfl rfl rfl rfl ?_
       refine o_no rfl rfl rfl rfl ?_
       refine o_no rfl rfl rfl rfl ?_
       refine o_yes rfl rfl rfl ?_
       refine o_pick_true rfl rfl rfl ?_
       refine o_pick_true rfl rfl rfl ?_
       refine l_nil ?_
       refine q_then ?_
       refine c_true rfl ?_
       refine c_seq ?_
       refine c_region ?_
       refine o_assign rfl rfl ?_
       refine l_nil ?_
       refine q_then ?_
       refine c_ret ?_
       refine q_pass_ret ?_
       refine q_conv (fun w S => S.tail) ?_
       refine q_conv (fun w S => S.tail) ?_
       exact f_ret (r_one rfl rfl) (⟨by first | exact vtrue (by unfold OpOk; grind) | exact vfalse (by unfold OpOk; grind) | exact bdec (by unfold OpOk; grind), rfl⟩) (fun w S => S)
      · -- h7F
       have h7b := h7
       try simp only [Bool.not_eq_false', decide_eq_true_eq] at h7
       refine o_yes rfl rfl rfl ?_
       refine o_fieldAddr (q := ⟨b3, 0, none⟩) rfl rfl Try.underlying53 rfl ti3 rfl ?_
       refine o_yes rfl rfl rfl ?_
       refine o_load1 rfl rfl Try.underlying3 rfl (rd_mem 0 rfl rfl) ?_
       refine o_yes rfl rfl rfl ?_
       refine o_bin rfl rfl rfl b_eql ?_
       refine o_yes rfl rfl rfl ?_
       refine o_pick_false rfl rfl rfl ?_
       refine o_yes rfl rfl rfl ?_
       refine o_move rfl rfl ?_
       refine l_split (t := 48) rfl (fun h8 => ?_) (fun h8 => ?_)
       · -- h8T
        have h8b := h8
        try simp only [decide_eq_true_eq] at h8
        refine o_no rfl rfl rfl rfl ?_
        refine o_no rfl rfl rfl rfl ?_
        refine o_no rfl rfl rfl rfl ?_
        refine o_yes rfl rfl rfl ?_
        refine o_pick_true rfl rfl rfl ?_
        refine o_yes rfl rfl rfl ?_
        refine o_move rfl rfl ?_
        refine o_no rfl rfl rfl rfl ?_
        refine o_no rfl rfl rfl rfl ?_
        refine o_no rfl rfl rfl rfl ?_
        refine o_yes rfl rfl rfl ?_
        refine o_pick_true rfl rfl rfl ?_
        refine o_pick_true rfl rfl rfl ?_
        refine l_nil ?_
        refine q_then ?_
        refine c_true rfl ?_
        refine c_seq ?_
        refine c_region ?_
        refine o_assign rfl rfl ?_
        refine l_nil ?_
        refine q_then ?_
        refine c_ret ?_
        refine q_pass_ret ?_
        refine q_conv (fun w S => S.tail) ?_
        refine q_conv (fun w S => S.tail) ?_
        exact f_ret (r_one rfl rfl) (⟨by first | exact vtrue (by unfold OpOk; grind) | exact vfalse (by unfold OpOk; grind) | exact bdec (by unfold OpOk; grind), rfl⟩) (fun w S => S)
       · -- h8F
        have h8b := h8
        try simp only [decide_eq_false_iff_not, Int.not_lt, Int.not_le] at h8
        refine o_yes rfl rfl rfl ?_
        refine o_fieldAddr (q := ⟨b3, 0, none⟩) rfl rfl Try.underlying53 rfl ti3 rfl ?_
        refine o_yes rfl rfl rfl ?_
        refine o_load1 rfl rfl Try.underlying3 rfl (rd_mem 0 rfl rfl) ?_
        refine o_yes rfl rfl rfl ?_
        refine o_bin rfl rfl rfl b_eql ?_
        refine o_yes rfl rfl rfl ?_
        refine o_pick_false rfl rfl rfl ?_
        refine o_yes rfl rfl rfl ?_
        refine o_move rfl rfl ?_
        refine l_split (t := 53) rfl (fun h9 => ?_) (fun h9 => ?_)
        · -- h9T
         have h9b := h9
         try simp only [decide_eq_true_eq] at h9
         refine o_no rfl rfl rfl rfl ?_
         refine o_no rfl rfl rfl rfl ?_
         refine o_no rfl rfl rfl rfl ?_
         refine o_yes rfl rfl rfl ?_
         refine o_pick_true rfl rfl rfl ?_
         refine o_pick_true rfl rfl rfl ?_
         refine l_nil ?_
         refine q_then ?_
         refine c_true rfl ?_
         refine c_seq ?_
         refine c_region ?_
         refine o_assign rfl rfl ?_
         refine l_nil ?_
         refine q_then ?_
         refine c_ret ?_
         refine q_pass_ret ?_
         refine q_conv (fun w S => S.tail) ?_
         refine q_conv (fun w S => S.tail) ?_
         exact f_ret (r_one rfl rfl) (⟨by first | exact vtrue (by unfold OpOk; grind) | exact vfalse (by unfold OpOk; grind) | exact bdec (by unfold OpOk; grind), rfl⟩) (fun w S => S)
        · -- h9F
         have h9b := h9
         try simp only [decide_eq_false_iff_not, Int.not_lt, Int.not_le] at h9
         refine o_yes rfl rfl rfl ?_
         refine o_fieldAddr (q := ⟨b3, 0, none⟩) rfl rfl Try.underlying53 rfl ti3 rfl ?_
         refine o_yes rfl rfl rfl ?_
         refine o_load1 rfl rfl Try.underlying3 rfl (rd_mem 0 rfl rfl) ?_
         refine o_yes rfl rfl rfl ?_
         refine o_bin rfl rfl rfl b_eql ?_
         refine o_yes rfl rfl rfl ?_
         refine o_pick_false rfl rfl rfl ?_
         refine o_pick_true rfl rfl rfl ?_
         refine l_nil ?_
         refine q_then ?_
         refine c_cond rfl (fun h10 => ?_) (fun h10 => ?_)
         · -- h10T
          have h10b := h10
          try simp only [decide_eq_true_eq] at h10
          refine c_seq ?_
          refine c_region ?_
          refine o_assign rfl rfl ?_
          refine l_nil ?_
          refine q_then ?_
          refine c_ret ?_
          refine q_pass_ret ?_
          refine q_conv (fun w S => S.tail) ?_
          refine q_conv (fun w S => S.tail) ?_
          exact f_ret (r_one rfl rfl) (⟨by first | exact vtrue (by unfold OpOk; grind) | exact vfalse (by unfold OpOk; grind) | exact bdec (by unfold OpOk; grind), rfl⟩) (fun w S => S)
         · -- h10F
          have h10b := h10
          try simp only [decide_eq_false_iff_not, Int.not_lt, Int.not_le] at h10
          refine c_skip ?_
          refine q_then ?_
          refine c_seq ?_
          refine c_seq ?_
          refine c_region ?_
          refine o_fieldAddr (q := ⟨b3, 0, none⟩) rfl rfl Try.underlying53 rfl ti3 rfl ?_
          refine o_load1 rfl rfl Try.underlying3 rfl (rd_mem 0 rfl rfl) ?_
          refine o_bin rfl rfl rfl b_neq ?_
          refine o_move rfl rfl ?_
          refine l_split (t := 62) rfl (fun h11 => ?_) (fun h11 => ?_)
          · -- h11T
           have h11b := h11
           try simp only [Bool.not_eq_true', decide_eq_false_iff_not, Int.not_lt, Int.not_le] at h11
           refine o_yes rfl rfl rfl ?_
           refine o_fieldAddr (q := ⟨b3, 3, none⟩) rfl rfl Try.underlying53 rfl ti2 rfl ?_
           refine o_yes rfl rfl rfl ?_
           refine o_load1 rfl rfl Try.underlying2 rfl (rd_mem 0 rfl rfl) ?_
           refine o_yes rfl rfl rfl ?_
           refine o_bin rfl rfl rfl b_neq ?_
           refine o_pick_true rfl rfl rfl ?_
           refine l_nil ?_
           refine q_then ?_
           refine c_cond rfl (fun h12 => ?_) (fun h12 => ?_)
           · -- h12T
            have h12b := h12
            try simp only [Bool.not_eq_true', decide_eq_false_iff_not, Int.not_lt, Int.not_le] at h12
            refine c_seq ?_
            refine c_region ?_
            refine o_assign rfl rfl ?_
            refine l_nil ?_
            refine q_then ?_
            refine c_ret ?_
            refine q_pass_ret ?_
            refine q_conv (fun w S => S.tail) ?_
            refine q_conv (fun w S => S.tail) ?_
            exact f_ret (r_one rfl rfl) (⟨by first | exact vtrue (by unfold OpOk; grind) | exact vfalse (by unfold OpOk; grind) | exact bdec (by unfold OpOk; grind), rfl⟩) (fun w S => S)
           · -- h12F
            have h12b := h12
            try simp only [Bool.not_eq_false', decide_eq_true_eq] at h12
            refine c_skip ?_
            refine q_then ?_
            refine c_seq ?_
            refine c_region ?_
            refine o_fieldAddr (q := ⟨b3, 0, none⟩) rfl rfl Try.underlying53 rfl ti3 rfl ?_
            refine o_load1 rfl rfl Try.underlying3 rfl (rd_mem 0 rfl rfl) ?_
            refine o_bin rfl rfl rfl b_eql ?_
            refine o_move rfl rfl ?_
            refine l_split (t := 70) rfl (fun h13 => ?_) (fun h13 => ?_)
            · -- h13T
             have h13b := h13
             try simp only [decide_eq_true_eq] at h13
             refine o_no rfl rfl rfl rfl ?_
             refine o_no rfl rfl rfl rfl ?_
             refine o_no rfl rfl rfl rfl ?_
             refine o_pick_true rfl rfl rfl ?_
             refine o_move rfl rfl ?_
             refine o_no rfl rfl rfl rfl ?_
             refine o_no rfl rfl rfl rfl ?_
             refine o_no rfl rfl rfl rfl ?_
             refine o_no rfl rfl rfl rfl ?_
             refine o_pick_true rfl rfl rfl ?_
             refine o_assign rfl rfl ?_
             refine l_nil ?_
             refine q_then ?_
             refine c_ret ?_
             refine q_conv (fun w S => S.tail) ?_
             refine q_conv (fun w S => S.tail) ?_
             exact f_ret (r_one rfl rfl) (⟨by first | exact vtrue (by unfold OpOk; grind) | exact vfalse (by unfold OpOk; grind) | exact bdec (by unfold OpOk; grind), rfl⟩) (fun w S => S)
            · -- h13F
             have h13b := h13
             try simp only [decide_eq_false_iff_not, Int.not_lt, Int.not_le] at h13
             refine o_yes rfl rfl rfl ?_
             refine o_fieldAddr (q := ⟨b3, 0, none⟩) rfl rfl Try.underlying53 rfl ti3 rfl ?_
             refine o_yes rfl rfl rfl ?_
             refine o_load1 rfl rfl Try.underlying3 rfl (rd_mem 0 rfl rfl) ?_
             refine o_yes rfl rfl rfl ?_
             refine o_bin rfl rfl rfl b_eql ?_
             refine o_pick_false rfl rfl rfl ?_
             refine o_move rfl rfl ?_
             refine l_split (t := 75) rfl (fun h14 => ?_) (fun h14 => ?_)
             · -- h14T
              have h14b := h14
              try simp only [decide_eq_true_eq] at h14
              refine o_no rfl rfl rfl rfl ?_
              refine o_no rfl rfl rfl rfl ?_
              refine o_no rfl rfl rfl rfl ?_
              refine o_no rfl rfl rfl rfl ?_
              refine o_pick_true rfl rfl rfl ?_
              refine o_assign rfl rfl ?_
              refine l_nil ?_
              refine q_then ?_
              refine c_ret ?_
              refine q_conv (fun w S => S.tail) ?_
              refine q_conv (fun w S => S.tail) ?_
              exact f_ret (r_one rfl rfl) (⟨by first | exact vtrue (by unfold OpOk; grind) | exact vfalse (by unfold OpOk; grind) | exact bdec (by unfold OpOk; grind), rfl⟩) (fun w S => S)
             · -- h14F
              have h14b := h14
              try simp only [decide_eq_false_iff_not, Int.not_lt, Int.not_le] at h14
              refine o_yes rfl rfl rfl ?_
              refine o_fieldAddr (q := ⟨b3, 2, none⟩) rfl rfl Try.underlying53 rfl ti45 rfl ?_
              refine o_yes rfl rfl rfl ?_
              refine o_load1 rfl rfl Try.underlying45 rfl (rd_mem 0 rfl rfl) ?_
              refine o_yes rfl rfl rfl ?_
              refine o_len rfl rfl Try.underlying45 ?_
              refine o_yes rfl rfl rfl ?_
              refine o_bin rfl rfl rfl b_eql ?_
              refine o_pick_false rfl rfl rfl ?_
              refine o_assign rfl rfl ?_
              refine l_nil ?_
              refine q_then ?_
              refine c_ret ?_
              refine q_conv (fun w S => S.tail) ?_
              refine q_conv (fun w S => S.tail) ?_
              exact f_ret (r_one rfl rfl) (⟨by first | exact vtrue (by unfold OpOk; grind) | exact vfalse (by unfold OpOk; grind) | exact bdec (by unfold OpOk; grind), rfl⟩) (fun w S => S)
          · -- h11F
           have h11b := h11
           try simp only [Bool.not_eq_false', decide_eq_true_eq] at h11
           refine o_no rfl rfl rfl rfl ?_
           refine o_no rfl rfl rfl rfl ?_
           refine o_no rfl rfl rfl rfl ?_
           refine o_pick_false rfl rfl rfl ?_
           refine l_nil ?_
           refine q_then ?_
           refine c_false rfl ?_
           refine c_skip ?_
           refine q_then ?_
           refine c_seq ?_
           refine c_region ?_
           refine o_fieldAddr (q := ⟨b3, 0, none⟩) rfl rfl Try.underlying53 rfl ti3 rfl ?_
           refine o_load1 rfl rfl Try.underlying3 rfl (rd_mem 0 rfl rfl) ?_
           refine o_bin rfl rfl rfl b_eql ?_
           refine o_move rfl rfl ?_
           refine l_split (t := 70) rfl (fun h15 => ?_) (fun h15 => ?_)
           · -- h15T
            have h15b := h15
            try simp only [decide_eq_true_eq] at h15
            refine o_no rfl rfl rfl rfl ?_
            refine o_no rfl rfl rfl rfl ?_
            refine o_no rfl rfl rfl rfl ?_
            refine o_pick_true rfl rfl rfl ?_
            refine o_move rfl rfl ?_
            refine o_no rfl rfl rfl rfl ?_
            refine o_no rfl rfl rfl rfl ?_
            refine o_no rfl rfl rfl rfl ?_
            refine o_no rfl rfl rfl rfl ?_
            refine o_pick_true rfl rfl rfl ?_
            refine o_assign rfl rfl ?_
            refine l_nil ?_
            refine q_then ?_
            refine c_ret ?_
            refine q_conv (fun w S => S.tail) ?_
            refine q_conv (fun w S => S.tail) ?_
            exact f_ret (r_one rfl rfl) (⟨by first | exact vtrue (by unfold OpOk; grind) | exact vfalse (by unfold OpOk; grind) | exact bdec (by unfold OpOk; grind), rfl⟩) (fun w S => S)
           · -- h15F
            have h15b := h15
            try simp only [decide_eq_false_iff_not, Int.not_lt, Int.not_le] at h15
            refine o_yes rfl rfl rfl ?_
            refine o_fieldAddr (q := ⟨b3, 0, none⟩) rfl rfl Try.underlying53 rfl ti3 rfl ?_
            refine o_yes rfl rfl rfl ?_
            refine o_load1 rfl rfl Try.underlying3 rfl (rd_mem 0 rfl rfl) ?_
            refine o_yes rfl rfl rfl ?_
            refine o_bin rfl rfl rfl b_eql ?_
            refine o_pick_false rfl rfl rfl ?_
            refine o_move rfl rfl ?_
            refine l_split (t := 75) rfl (fun h16 => ?_) (fun h16 => ?_)
            · -- h16T
             have h16b := h16
             try simp only [decide_eq_true_eq] at h16
             refine o_no rfl rfl rfl rfl ?_
             refine o_no rfl rfl rfl rfl ?_
             refine o_no rfl rfl rfl rfl ?_
             refine o_no rfl rfl rfl rfl ?_
             refine o_pick_true rfl rfl rfl ?_
             refine o_assign rfl rfl ?_
             refine l_nil ?_
             refine q_then ?_
             refine c_ret ?_
             refine q_conv (fun w S => S.tail) ?_
             refine q_conv (fun w S => S.tail) ?_
             exact f_ret (r_one rfl rfl) (⟨by first | exact vtrue (by unfold OpOk; grind) | exact vfalse (by unfold OpOk; grind) | exact bdec (by unfold OpOk; grind), rfl⟩) (fun w S => S)
            · -- h16F
             have h16b := h16
             try simp only [decide_eq_false_iff_not, Int.not_lt, Int.not_le] at h16
             refine o_yes rfl rfl rfl ?_
             refine o_fieldAddr (q := ⟨b3, 2, none⟩) rfl rfl Try.underlying53 rfl ti45 rfl ?_
             refine o_yes rfl rfl rfl ?_
             refine o_load1 rfl rfl Try.underlying45 rfl (rd_mem 0 rfl rfl) ?_
             refine o_yes rfl rfl rfl ?_
             refine o_len rfl rfl Try.underlying45 ?_
             refine o_yes rfl rfl rfl ?_
             refine o_bin rfl rfl rfl b_eql ?_
             refine o_pick_false rfl rfl rfl ?_
             refine o_assign rfl rfl ?_
             refine l_nil ?_
             refine q_then ?_
             refine c_ret ?_
             refine q_conv (fun w S => S.tail) ?_
             refine q_conv (fun w S => S.tail) ?_
             exact f_ret (r_one rfl rfl) (⟨by first | exact vtrue (by unfold OpOk; grind) | exact vfalse (by unfold OpOk; grind) | exact bdec (by unfold OpOk; grind), rfl⟩) (fun w S => S)
     · -- h6F
      have h6b := h6
      try simp only [Bool.not_eq_false', decide_eq_true_eq] at h6
      refine o_no rfl rfl rfl rfl ?_
      refine o_no rfl rfl rfl rfl ?_
      refine o_no rfl rfl rfl rfl ?_
      refine o_no rfl rfl rfl rfl ?_
      refine o_no rfl rfl rfl rfl ?_
      refine o_no rfl rfl rfl rfl ?_
      refine o_no rfl rfl rfl rfl ?_
      refine o_no rfl rfl rfl rfl ?_
      refine o_no rfl rfl rfl rfl ?_
      refine o_no rfl rfl rfl rfl ?_
      refine o_no rfl rfl rfl rfl ?_
      refine o_no rfl rfl rfl rfl ?_
      refine o_no rfl rfl rfl rfl ?_
      refine o_no rfl rfl rfl rfl ?_
      refine o_no rfl rfl rfl rfl ?_
      refine o_no rfl rfl rfl rfl ?_
      refine o_no rfl rfl rfl rfl ?_
      refine o_no rfl rfl rfl rfl ?_
      refine o_no rfl rfl rfl rfl ?_
      refine o_no rfl rfl rfl rfl ?_
      refine o_no rfl rfl rfl rfl ?_
      refine o_pick_false rfl rfl rfl ?_
      refine l_nil ?_
      refine q_then ?_
      refine c_false rfl ?_
      refine c_skip ?_
      refine q_then ?_
      refine c_seq ?_
      refine c_seq ?_
      refine c_region ?_
      refine o_fieldAddr (q := ⟨b3, 0, none⟩) rfl rfl Try.underlying53 rfl ti3 rfl ?_
      refine o_load1 rfl rfl Try.underlying3 rfl (rd_mem 0 rfl rfl) ?_
      refine o_bin rfl rfl rfl b_neq ?_
      refine o_move rfl rfl ?_
      refine l_split (t := 62) rfl (fun h17 => ?_) (fun h17 => ?_)
      · -- h17T
       have h17b := h17
       try simp only [Bool.not_eq_true', decide_eq_false_iff_not, Int.not_lt, Int.not_le] at h17
       refine o_yes rfl rfl rfl ?_
       refine o_fieldAddr (q := ⟨b3, 3, none⟩) rfl rfl Try.underlying53 rfl ti2 rfl ?_
       refine o_yes rfl rfl rfl ?_
       refine o_load1 rfl rfl Try.underlying2 rfl (rd_mem 0 rfl rfl) ?_
       refine o_yes rfl rfl rfl ?_
       refine o_bin rfl rfl rfl b_neq ?_
       refine o_pick_true rfl rfl rfl ?_
       refine l_nil ?_
       refine q_then ?_
       refine c_cond rfl (fun h18 => ?_) (fun h18 => ?_)
       · -- h18T
        have h18b := h18
        try simp only [Bool.not_eq_true', decide_eq_false_iff_not, Int.not_lt, Int.not_le] at h18
        refine c_seq ?_
        refine c_region ?_
        refine o_assign rfl rfl ?_
        refine l_nil ?_
        refine q_then ?_
        refine c_ret ?_
        refine q_pass_ret ?_
        refine q_conv (fun w S => S.tail) ?_
        refine q_conv (fun w S => S.tail) ?_
        exact f_ret (r_one rfl rfl) (⟨by first | exact vtrue (by unfold OpOk; grind) | exact vfalse (by unfold OpOk; grind) | exact bdec (by unfold OpOk; grind), rfl⟩) (fun w S => S)
       · -- h18F
        have h18b := h18
        try simp only [Bool.not_eq_false', decide_eq_true_eq] at h18
        refine c_skip ?_
        refine q_then ?_
        refine c_seq ?_
        refine c_region ?_
        refine o_fieldAddr (q := ⟨b3, 0, none⟩) rfl rfl Try.underlying53 rfl ti3 rfl ?_
        refine o_load1 rfl rfl Try.underlying3 rfl (rd_mem 0 rfl rfl) ?_
        refine o_bin rfl rfl rfl b_eql ?_
        refine o_move rfl rfl ?_
        refine l_split (t := 70) rfl (fun h19 => ?_) (fun h19 => ?_)
        · -- h19T
         have h19b := h19
         try simp only [decide_eq_true_eq] at h19
         refine o_no rfl rfl rfl rfl ?_
         refine o_no rfl rfl rfl rfl ?_
         refine o_no rfl rfl rfl rfl ?_
         refine o_pick_true rfl rfl rfl ?_
         refine o_move rfl rfl ?_
         refine o_no rfl rfl rfl rfl ?_
         refine o_no rfl rfl rfl rfl ?_
         refine o_no rfl rfl rfl rfl ?_
         refine o_no rfl rfl rfl rfl ?_
         refine o_pick_true rfl rfl rfl ?_
         refine o_assign rfl rfl ?_
         refine l_nil ?_
         refine q_then ?_
         refine c_ret ?_
         refine q_conv (fun w S => S.tail) ?_
         refine q_conv (fun w S => S.tail) ?_
         exact f_ret (r_one rfl rfl) (⟨by first | exact vtrue (by unfold OpOk; grind) | exact vfalse (by unfold OpOk; grind) | exact bdec (by unfold OpOk; grind), rfl⟩) (fun w S => S)
        · -- h19F
         have h19b := h19
         try simp only [decide_eq_false_iff_not, Int.not_lt, Int.not_le] at h19
         refine o_yes rfl rfl rfl ?_
         refine o_fieldAddr (q := ⟨b3, 0, none⟩) rfl rfl Try.underlying53 rfl ti3 rfl ?_
         refine o_yes rfl rfl rfl ?_
         refine o_load1 rfl rfl Try.underlying3 rfl (rd_mem 0 rfl rfl) ?_
         refine o_yes rfl rfl rfl ?_
         refine o_bin rfl rfl rfl b_eql ?_
         refine o_pick_false rfl rfl rfl ?_
         refine o_move rfl rfl ?_
         refine l_split (t := 75) rfl (fun h20 => ?_) (fun h20 => ?_)
         · -- h20T
          have h20b := h20
          try simp only [decide_eq_true_eq] at h20
          refine o_no rfl rfl rfl rfl ?_
          refine o_no rfl rfl rfl rfl ?_
          refine o_no rfl rfl rfl rfl ?_
          refine o_no rfl rfl rfl rfl ?_
          refine o_pick_true rfl rfl rfl ?_
          refine o_assign rfl rfl ?_
          refine l_nil ?_
          refine q_then ?_
          refine c_ret ?_
          refine q_conv (fun w S => S.tail) ?_
          refine q_conv (fun w S => S.tail) ?_
          exact f_ret (r_one rfl rfl) (⟨by first | exact vtrue (by unfold OpOk; grind) | exact vfalse (by unfold OpOk; grind) | exact bdec (by unfold OpOk; grind), rfl⟩) (fun w S => S)
         · -- h20F
          have h20b := h20
          try simp only [decide_eq_false_iff_not, Int.not_lt, Int.not_le] at h20
          refine o_yes rfl rfl rfl ?_
          refine o_fieldAddr (q := ⟨b3, 2, none⟩) rfl rfl Try.underlying53 rfl ti45 rfl ?_
          refine o_yes rfl rfl rfl ?_
          refine o_load1 rfl rfl Try.underlying45 rfl (rd_mem 0 rfl rfl) ?_
          refine o_yes rfl rfl rfl ?_
          refine o_len rfl rfl Try.underlying45 ?_
          refine o_yes rfl rfl rfl ?_
          refine o_bin rfl rfl rfl b_eql ?_
          refine o_pick_false rfl rfl rfl ?_
          refine o_assign rfl rfl ?_
          refine l_nil ?_
          refine q_then ?_
          refine c_ret ?_
          refine q_conv (fun w S => S.tail) ?_
          refine q_conv (fun w S => S.tail) ?_
          exact f_ret (r_one rfl rfl) (⟨by first | exact vtrue (by unfold OpOk; grind) | exact vfalse (by unfold OpOk; grind) | exact bdec (by unfold OpOk; grind), rfl⟩) (fun w S => S)
      · -- h17F
       have h17b := h17
       try simp only [Bool.not_eq_false', decide_eq_true_eq] at h17
       refine o_no rfl rfl rfl rfl ?_
       refine o_no rfl rfl rfl rfl ?_
       refine o_no rfl rfl rfl rfl ?_
       refine o_pick_false rfl rfl rfl ?_
       refine l_nil ?_
       refine q_then ?_
       refine c_false rfl ?_
       refine c_skip ?_
       refine q_then ?_
       refine c_seq ?_
       refine c_region ?_
       refine o_fieldAddr (q := ⟨b3, 0, none⟩) rfl rfl Try.underlying53 rfl ti3 rfl ?_
       refine o_load1 rfl rfl Try.underlying3 rfl (rd_mem 0 rfl rfl) ?_
       refine o_bin rfl rfl rfl b_eql ?_
       refine o_move rfl rfl ?_
       refine l_split (t := 70) rfl (fun h21 => ?_) (fun h21 => ?_)
       · -- h21T
        have h21b := h21
        try simp only [decide_eq_true_eq] at h21
        refine o_no rfl rfl rfl rfl ?_
        refine o_no rfl rfl rfl rfl ?_
        refine o_no rfl rfl rfl rfl ?_
        refine o_pick_true rfl rfl rfl ?_
        refine o_move rfl rfl ?_
        refine o_no rfl rfl rfl rfl ?_
        refine o_no rfl rfl rfl rfl ?_
        refine o_no rfl rfl rfl rfl ?_
        refine o_no rfl rfl rfl rfl ?_
        refine o_pick_true rfl rfl rfl ?_
        refine o_assign rfl rfl ?_
        refine l_nil ?_
        refine q_then ?_
        refine c_ret ?_
        refine q_conv (fun w S => S.tail) ?_
        refine q_conv (fun w S => S.tail) ?_
        exact f_ret (r_one rfl rfl) (⟨by first | exact vtrue (by unfold OpOk; grind) | exact vfalse (by unfold OpOk; grind) | exact bdec (by unfold OpOk; grind), rfl⟩) (fun w S => S)
       · -- h21F
        have h21b := h21
        try simp only [decide_eq_false_iff_not, Int.not_lt, Int.not_le] at h21
        refine o_yes rfl rfl rfl ?_
        refine o_fieldAddr (q := ⟨b3, 0, none⟩) rfl rfl Try.underlying53 rfl ti3 rfl ?_
        refine o_yes rfl rfl rfl ?_
        refine o_load1 rfl rfl Try.underlying3 rfl (rd_mem 0 rfl rfl) ?_
        refine o_yes rfl rfl rfl ?_
        refine o_bin rfl rfl rfl b_eql ?_
        refine o_pick_false rfl rfl rfl ?_
        refine o_move rfl rfl ?_
        refine l_split (t := 75) rfl (fun h22 => ?_) (fun h22 => ?_)
        · -- h22T
         have h22b := h22
         try simp only [decide_eq_true_eq] at h22
         refine o_no rfl rfl rfl rfl ?_
         refine o_no rfl rfl rfl rfl ?_
         refine o_no rfl rfl rfl rfl ?_
         refine o_no rfl rfl rfl rfl ?_
         refine o_pick_true rfl rfl rfl ?_
         refine o_assign rfl rfl ?_
         refine l_nil ?_
         refine q_then ?_
         refine c_ret ?_
         refine q_conv (fun w S => S.tail) ?_
         refine q_conv (fun w S => S.tail) ?_
         exact f_ret (r_one rfl rfl) (⟨by first | exact vtrue (by unfold OpOk; grind) | exact vfalse (by unfold OpOk; grind) | exact bdec (by unfold OpOk; grind), rfl⟩) (fun w S => S)
        · -- h22F
         have h22b := h22
         try simp only [decide_eq_false_iff_not, Int.not_lt, Int.not_le] at h22
         refine o_yes rfl rfl rfl ?_
         refine o_fieldAddr (q := ⟨b3, 2, none⟩) rfl rfl Try.underlying53 rfl ti45 rfl ?_
         refine o_yes rfl rfl rfl ?_
         refine o_load1 rfl rfl Try.underlying45 rfl (rd_mem 0 rfl rfl) ?_
         refine o_yes rfl rfl rfl ?_
         refine o_len rfl rfl Try.underlying45 ?_
         refine o_yes rfl rfl rfl ?_
         refine o_bin rfl rfl rfl b_eql ?_
         refine o_pick_false rfl rfl rfl ?_
         refine o_assign rfl rfl ?_
         refine l_nil ?_
         refine q_then ?_
         refine c_ret ?_
         refine q_conv (fun w S => S.tail) ?_
         refine q_conv (fun w S => S.tail) ?_
         exact f_ret (r_one rfl rfl) (⟨by first | exact vtrue (by unfold OpOk; grind) | exact vfalse (by unfold OpOk; grind) | exact bdec (by unfold OpOk; grind), rfl⟩) (fun w S => S)

end Go.Proofs.Ytlblipkcbmcfkaa
