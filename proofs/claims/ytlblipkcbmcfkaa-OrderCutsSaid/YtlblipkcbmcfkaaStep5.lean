/- Printed by eng2.py out of 09a/spec.py. -/
import Derived.Test.YtlblipkcbmcfkaaFuns
set_option linter.unusedVariables false
set_option linter.unusedSimpArgs false
set_option maxRecDepth 10000
namespace Go.Proofs.Ytlblipkcbmcfkaa
open Go.RowKit Classical
theorem declF {W : World} {F : List Res} {k : Nat} {key : ByteArray} {t : Txn} (T_t : TxR W F t) : CS Try.prog 80 #[.string key, .pointer (some ⟨k, 0, none⟩)] W (blk k (.cells #[.int .i64 t.f_Kind, .slice t.f_Reads.a (t.f_Reads.xs).length t.f_Reads.c, .slice t.f_Writes.a (t.f_Writes.xs).length t.f_Writes.c, .slice t.f_Ops.a (t.f_Ops.xs).length t.f_Ops.c, .int .i64 t.f_To] 30 (0, 0)) :: F) (fun r L' => r = .bool (decide (key ∈ t.f_Writes.xs)) ∧ blk k (.cells #[.int .i64 t.f_Kind, .slice t.f_Reads.a (t.f_Reads.xs).length t.f_Reads.c, .slice t.f_Writes.a (t.f_Writes.xs).length t.f_Writes.c, .slice t.f_Ops.a (t.f_Ops.xs).length t.f_Ops.c, .int .i64 t.f_To] 30 (0, 0)) :: F = L') := by
 refine f_door (l0 := [(0, .string key), (1, .pointer (some ⟨k, 0, none⟩))]) Try.func80 Try.ntmps80 rfl rfl rfl ?_
 refine c_seq ?_
 refine c_region ?_
 refine o_assign rfl rfl ?_
 refine l_nil ?_
 refine q_then ?_
 refine c_seq ?_
 refine c_region ?_
 refine o_fieldAddr (q := ⟨k, 2, none⟩) rfl rfl Try.underlying30 rfl ti27 rfl ?_
 refine o_load1 rfl rfl Try.underlying27 rfl (rd_mem 0 rfl rfl) ?_
 refine o_move rfl rfl ?_
 refine o_call rfl cal81 rfl (contains_ (TxR.c T_t).rw (by first | exact T_t.len.lr | exact T_t.len.lw | exact T_t.len.lo | omega)) ?_
 rintro _ _ ⟨rfl, rfl⟩
 refine o_assign rfl rfl ?_
 refine l_nil ?_
 refine q_then ?_
 refine c_ret ?_
 exact f_ret (r_one rfl rfl) (⟨rfl, rfl⟩) (fun w S => S)

theorem declared_ {W : World} {F : List Res} {t : Txn} (T_t : TxR W F t) : CS Try.prog 44 #[.agg #[.int .i64 t.f_Kind, .slice t.f_Reads.a (t.f_Reads.xs).length t.f_Reads.c, .slice t.f_Writes.a (t.f_Writes.xs).length t.f_Writes.c, .slice t.f_Ops.a (t.f_Ops.xs).length t.f_Ops.c, .int .i64 t.f_To]] W (F) (fun r L' => r = .bool (decide (Declared t)) ∧ F = L') := by
 refine f_door (l0 := [(0, .agg #[.int .i64 t.f_Kind, .slice t.f_Reads.a (t.f_Reads.xs).length t.f_Reads.c, .slice t.f_Writes.a (t.f_Writes.xs).length t.f_Writes.c, .slice t.f_Ops.a (t.f_Ops.xs).length t.f_Ops.c, .int .i64 t.f_To])]) Try.func44 Try.ntmps44 rfl rfl rfl ?_
 refine c_seq ?_
 refine c_region ?_
 refine o_box rfl rfl fun b1 => ?_
 refine o_assign rfl rfl ?_
 refine l_nil ?_
 refine q_then ?_
 refine c_seq ?_
 refine c_seq ?_
 refine c_region ?_
 refine o_fieldAddr (q := ⟨b1, 1, none⟩) rfl rfl Try.underlying30 rfl ti27 rfl ?_
 refine o_load1 rfl rfl Try.underlying27 rfl (rd_mem 0 rfl rfl) ?_
 refine o_len rfl rfl Try.underlying27 ?_
 refine o_bin rfl rfl rfl b_gtr ?_
 refine o_move rfl rfl ?_
 refine l_split (t := 7) rfl (fun h1 => ?_) (fun h1 => ?_)
 · -- h1T
  have h1b := h1
  try simp only [decide_eq_true_eq] at h1
  refine o_no rfl rfl rfl rfl ?_
  refine o_no rfl rfl rfl rfl ?_
  refine o_no rfl rfl rfl rfl ?_
  refine o_no rfl rfl rfl rfl ?_
  refine o_no rfl rfl rfl rfl ?_
  refine o_no rfl rfl rfl rfl ?_
  refine o_no rfl rfl rfl rfl ?_
  refine o_no rfl rfl rfl rfl ?_
  refine o_pick_true rfl rfl rfl ?_
  refine o_move rfl rfl ?_
  refine o_no rfl rfl rfl rfl ?_
  refine o_no rfl rfl rfl rfl ?_
  refine o_no rfl rfl rfl rfl ?_
  refine o_no rfl rfl rfl rfl ?_
  refine o_pick_true rfl rfl rfl ?_
  refine o_move rfl rfl ?_
  refine o_no rfl rfl rfl rfl ?_
  refine o_no rfl rfl rfl rfl ?_
  refine o_no rfl rfl rfl rfl ?_
  refine o_no rfl rfl rfl rfl ?_
  refine o_pick_true rfl rfl rfl ?_
  refine l_nil ?_
  refine q_then ?_
  refine c_true rfl ?_
  refine c_seq ?_
  refine c_region ?_
  refine o_assign rfl rfl ?_
  refine l_nil ?_
  refine q_then ?_
  refine c_ret ?_
  refine q_pass_ret ?_
  refine q_conv (fun w S => S.tail) ?_
  exact f_ret (r_one rfl rfl) (⟨by rw [decide_eq_false (fun h9 => by have := h9.1; omega)], rfl⟩) (fun w S => S)
 · -- h1F
  have h1b := h1
  try simp only [decide_eq_false_iff_not, Int.not_lt, Int.not_le] at h1
  refine o_yes rfl rfl rfl ?_
  refine o_fieldAddr (q := ⟨b1, 2, none⟩) rfl rfl Try.underlying30 rfl ti27 rfl ?_
  refine o_yes rfl rfl rfl ?_
  refine o_load1 rfl rfl Try.underlying27 rfl (rd_mem 0 rfl rfl) ?_
  refine o_yes rfl rfl rfl ?_
  refine o_len rfl rfl Try.underlying27 ?_
  refine o_yes rfl rfl rfl ?_
  refine o_fieldAddr (q := ⟨b1, 1, none⟩) rfl rfl Try.underlying30 rfl ti27 rfl ?_
  refine o_yes rfl rfl rfl ?_
  refine o_load1 rfl rfl Try.underlying27 rfl (rd_mem 0 rfl rfl) ?_
  refine o_yes rfl rfl rfl ?_
  refine o_len rfl rfl Try.underlying27 ?_
  refine o_yes rfl rfl rfl ?_
  refine o_bin rfl rfl rfl (b_sub (wrap_i64 (by omega) (by omega))) ?_
  refine o_yes rfl rfl rfl ?_
  refine o_bin rfl rfl rfl b_gtr ?_
  refine o_pick_false rfl rfl rfl ?_
  refine o_move rfl rfl ?_
  refine l_split (t := 17) rfl (fun h2 => ?_) (fun h2 => ?_)
  · -- h2T
   have h2b := h2
   try simp only [decide_eq_true_eq] at h2
   refine o_no rfl rfl rfl rfl ?_
   refine o_no rfl rfl rfl rfl ?_
   refine o_no rfl rfl rfl rfl ?_
   refine o_no rfl rfl rfl rfl ?_
   refine o_pick_true rfl rfl rfl ?_
   refine o_move rfl rfl ?_
   refine o_no rfl rfl rfl rfl ?_
   refine o_no rfl rfl rfl rfl ?_
   refine o_no rfl rfl rfl rfl ?_
   refine o_no rfl rfl rfl rfl ?_
   refine o_pick_true rfl rfl rfl ?_
   refine l_nil ?_
   refine q_then ?_
   refine c_true rfl ?_
   refine c_seq ?_
   refine c_region ?_
   refine o_assign rfl rfl ?_
   refine l_nil ?_
   refine q_then ?_
   refine c_ret ?_
   refine q_pass_ret ?_
   refine q_conv (fun w S => S.tail) ?_
   exact f_ret (r_one rfl rfl) (⟨by rw [decide_eq_false (fun h9 => by have := h9.2.1; omega)], rfl⟩) (fun w S => S)
  · -- h2F
   have h2b := h2
   try simp only [decide_eq_false_iff_not, Int.not_lt, Int.not_le] at h2
   refine o_yes rfl rfl rfl ?_
   refine o_fieldAddr (q := ⟨b1, 1, none⟩) rfl rfl Try.underlying30 rfl ti27 rfl ?_
   refine o_yes rfl rfl rfl ?_
   refine o_load1 rfl rfl Try.underlying27 rfl (rd_mem 0 rfl rfl) ?_
   refine o_yes rfl rfl rfl ?_
   refine o_call rfl cal78 rfl (rises_ (TxR.c T_t).rr (by first | exact T_t.len.lr | exact T_t.len.lw | exact T_t.len.lo | omega)) ?_
   rintro _ _ ⟨rfl, rfl⟩
   refine o_yes rfl rfl rfl ?_
   refine o_not rfl rfl ?_
   refine o_pick_false rfl rfl rfl ?_
   refine o_move rfl rfl ?_
   refine l_split (t := 23) rfl (fun h3 => ?_) (fun h3 => ?_)
   · -- h3T
    have h3b := h3
    try simp only [Bool.not_eq_true', decide_eq_false_iff_not, Int.not_lt, Int.not_le] at h3
    refine o_no rfl rfl rfl rfl ?_
    refine o_no rfl rfl rfl rfl ?_
    refine o_no rfl rfl rfl rfl ?_
    refine o_no rfl rfl rfl rfl ?_
    refine o_pick_true rfl rfl rfl ?_
    refine l_nil ?_
    refine q_then ?_
    refine c_true rfl ?_
    refine c_seq ?_
    refine c_region ?_
    refine o_assign rfl rfl ?_
    refine l_nil ?_
    refine q_then ?_
    refine c_ret ?_
    refine q_pass_ret ?_
    refine q_conv (fun w S => S.tail) ?_
    exact f_ret (r_one rfl rfl) (⟨by rw [decide_eq_false (fun h9 => h3 h9.2.2.1)], rfl⟩) (fun w S => S)
   · -- h3F
    have h3b := h3
    try simp only [Bool.not_eq_false', decide_eq_true_eq] at h3
    refine o_yes rfl rfl rfl ?_
    refine o_fieldAddr (q := ⟨b1, 2, none⟩) rfl rfl Try.underlying30 rfl ti27 rfl ?_
    refine o_yes rfl rfl rfl ?_
    refine o_load1 rfl rfl Try.underlying27 rfl (rd_mem 0 rfl rfl) ?_
    refine o_yes rfl rfl rfl ?_
    refine o_call rfl cal78 rfl (rises_ (TxR.c T_t).rw (by first | exact T_t.len.lr | exact T_t.len.lw | exact T_t.len.lo | omega)) ?_
    rintro _ _ ⟨rfl, rfl⟩
    refine o_yes rfl rfl rfl ?_
    refine o_not rfl rfl ?_
    refine o_pick_false rfl rfl rfl ?_
    refine l_nil ?_
    refine q_then ?_
    refine c_cond rfl (fun h4 => ?_) (fun h4 => ?_)
    · -- h4T
     have h4b := h4
     try simp only [Bool.not_eq_true', decide_eq_false_iff_not, Int.not_lt, Int.not_le] at h4
     refine c_seq ?_
     refine c_region ?_
     refine o_assign rfl rfl ?_
     refine l_nil ?_
     refine q_then ?_
     refine c_ret ?_
     refine q_pass_ret ?_
     refine q_conv (fun w S => S.tail) ?_
     exact f_ret (r_one rfl rfl) (⟨by rw [decide_eq_false (fun h9 => h4 h9.2.2.2.1)], rfl⟩) (fun w S => S)
    · -- h4F
     have h4b := h4
     try simp only [Bool.not_eq_false', decide_eq_true_eq] at h4
     refine c_skip ?_
     refine q_then ?_
     refine c_seq ?_
     refine c_region ?_
     refine o_fieldAddr (q := ⟨b1, 1, none⟩) rfl rfl Try.underlying30 rfl ti27 rfl ?_
     refine o_load1 rfl rfl Try.underlying27 rfl (rd_mem 0 rfl rfl) ?_
     refine o_makeFunc rfl rfl rfl ?_
     refine o_call rfl cal79 rfl (containsFS (p := fun x => x ∈ t.f_Writes.xs) (TxR.c T_t).rr (by first | exact T_t.len.lr | exact T_t.len.lw | exact T_t.len.lo | omega) (fun x _ => fv_dec (FV.of_csL cal80 (declF (key := x) T_t)))) ?_
     rintro _ _ ⟨b32, hb32, rfl, rfl⟩
     refine o_not rfl rfl ?_
     refine o_assign rfl rfl ?_
     refine l_nil ?_
     refine q_then ?_
     refine c_ret ?_
     refine q_conv (fun w S => S.tail) ?_
     exact f_ret (r_one rfl rfl) (⟨bnot_b hb32 ⟨fun h9 => h9.2.2.2.2, fun h9 => ⟨by omega, by omega, h3, h4, h9⟩⟩, rfl⟩) (fun w S => S)

theorem step_ {W : World} {F : List Res} {t : Txn} (T_t : TxR W F t) {o : Op} (V_o : RdS W F e8 o.f_Value.a o.f_Value.xs) : CS Try.prog 46 #[.agg #[.int .i64 t.f_Kind, .slice t.f_Reads.a (t.f_Reads.xs).length t.f_Reads.c, .slice t.f_Writes.a (t.f_Writes.xs).length t.f_Writes.c, .slice t.f_Ops.a (t.f_Ops.xs).length t.f_Ops.c, .int .i64 t.f_To], .agg #[.int .i64 o.f_Kind, .string o.f_Key, .slice o.f_Value.a (o.f_Value.xs).length o.f_Value.c, .int .i64 o.f_N]] W (F) (fun r L' => r = .bool (decide (StepOk t o)) ∧ F = L') := by
 have hba : (⟨#[]⟩ : ByteArray) = ByteArray.empty := rfl
 refine f_door (l0 := [(0, .agg #[.int .i64 t.f_Kind, .slice t.f_Reads.a (t.f_Reads.xs).length t.f_Reads.c, .slice t.f_Writes.a (t.f_Writes.xs).length t.f_Writes.c, .slice t.f_Ops.a (t.f_Ops.xs).length t.f_Ops.c, .int .i64 t.f_To]), (1, .agg #[.int .i64 o.f_Kind, .string o.f_Key, .slice o.f_Value.a (o.f_Value.xs).length o.f_Value.c, .int .i64 o.f_N])]) Try.func46 Try.ntmps46 rfl rfl rfl ?_
 refine c_seq ?_
 refine c_region ?_
 refine o_box rfl rfl fun b2 => ?_
 refine o_box rfl rfl fun b3 => ?_
 refine o_assign rfl rfl ?_
 refine l_nil ?_
 refine q_then ?_
 refine c_seq ?_
 refine c_seq ?_
 refine c_region ?_
 refine o_fieldAddr (q := ⟨b3, 2, none⟩) rfl rfl Try.underlying53 rfl ti45 rfl ?_
 refine o_load1 rfl rfl Try.underlying45 rfl (rd_mem 0 rfl rfl) ?_
 refine o_len rfl rfl Try.underlying45 ?_
 refine o_bin rfl rfl rfl b_gtr ?_
 refine o_move rfl rfl ?_
 refine l_split (t := 11) rfl (fun h1 => ?_) (fun h1 => ?_)
 · -- h1T
  have h1b := h1
  try simp only [decide_eq_true_eq] at h1
  refine o_no rfl rfl rfl rfl ?_
  refine o_no rfl rfl rfl rfl ?_
  refine o_no rfl rfl rfl rfl ?_
  refine o_no rfl rfl rfl rfl ?_
  refine o_no rfl rfl rfl rfl ?_
  refine o_no rfl rfl rfl rfl ?_
  refine o_no rfl rfl rfl rfl ?_
  refine o_no rfl rfl rfl rfl ?_
  refine o_pick_true rfl rfl rfl ?_
  refine l_nil ?_
  refine q_then ?_
  refine c_true rfl ?_
  refine c_seq ?_
  refine c_region ?_
  refine o_assign rfl rfl ?_
  refine l_nil ?_
  refine q_then ?_
  refine c_ret ?_
  refine q_pass_ret ?_
  refine q_conv (fun w S => S.tail) ?_
  refine q_conv (fun w S => S.tail) ?_
  exact f_ret (r_one rfl rfl) (⟨by first | exact vtrue (by unfold StepOk; grind) | exact vfalse (by unfold StepOk; grind) | exact bdec (by unfold StepOk; grind), rfl⟩) (fun w S => S)
 · -- h1F
  have h1b := h1
  try simp only [decide_eq_false_iff_not, Int.not_lt, Int.not_le] at h1
  refine o_yes rfl rfl rfl ?_
  refine o_fieldAddr (q := ⟨b3, 3, none⟩) rfl rfl Try.underlying53 rfl ti2 rfl ?_
  refine o_yes rfl rfl rfl ?_
  refine o_load1 rfl rfl Try.underlying2 rfl (rd_mem 0 rfl rfl) ?_
  refine o_yes rfl rfl rfl ?_
  refine o_bin rfl rfl rfl b_neq ?_
  refine o_yes rfl rfl rfl ?_
  refine o_move rfl rfl ?_
  refine l_split (t := 15) rfl (fun h2 => ?_) (fun h2 => ?_)
  · -- h2T
   have h2b := h2
   try simp only [Bool.not_eq_true', decide_eq_false_iff_not, Int.not_lt, Int.not_le] at h2
   refine o_yes rfl rfl rfl ?_
   refine o_fieldAddr (q := ⟨b3, 0, none⟩) rfl rfl Try.underlying53 rfl ti3 rfl ?_
   refine o_yes rfl rfl rfl ?_
   refine o_load1 rfl rfl Try.underlying3 rfl (rd_mem 0 rfl rfl) ?_
   refine o_yes rfl rfl rfl ?_
   refine o_bin rfl rfl rfl b_neq ?_
   refine o_yes rfl rfl rfl ?_
   refine o_pick_true rfl rfl rfl ?_
   refine o_pick_false rfl rfl rfl ?_
   refine l_nil ?_
   refine q_then ?_
   refine c_cond rfl (fun h3 => ?_) (fun h3 => ?_)
   · -- h3T
    have h3b := h3
    try simp only [Bool.not_eq_true', decide_eq_false_iff_not, Int.not_lt, Int.not_le] at h3
    refine c_seq ?_
    refine c_region ?_
    refine o_assign rfl rfl ?_
    refine l_nil ?_
    refine q_then ?_
    refine c_ret ?_
    refine q_pass_ret ?_
    refine q_conv (fun w S => S.tail) ?_
    refine q_conv (fun w S => S.tail) ?_
    exact f_ret (r_one rfl rfl) (⟨by first | exact vtrue (by unfold StepOk; grind) | exact vfalse (by unfold StepOk; grind) | exact bdec (by unfold StepOk; grind), rfl⟩) (fun w S => S)
   · -- h3F
    have h3b := h3
    try simp only [Bool.not_eq_false', decide_eq_true_eq] at h3
    refine c_skip ?_
    refine q_then ?_
    refine c_seq ?_
    refine c_region ?_
    refine o_fieldAddr (q := ⟨b2, 2, none⟩) rfl rfl Try.underlying30 rfl ti27 rfl ?_
    refine o_load1 rfl rfl Try.underlying27 rfl (rd_mem 1 rfl rfl) ?_
    refine o_fieldAddr (q := ⟨b3, 1, none⟩) rfl rfl Try.underlying53 rfl ti9 rfl ?_
    refine o_load1 rfl rfl Try.underlying9 rfl (rd_mem 0 rfl rfl) ?_
    refine o_call rfl cal81 rfl (contains_ (TxR.c (TxR.c T_t)).rw (by first | exact T_t.len.lr | exact T_t.len.lw | exact T_t.len.lo | omega)) ?_
    rintro _ _ ⟨rfl, rfl⟩
    refine o_assign rfl rfl ?_
    refine l_nil ?_
    refine q_then ?_
    refine c_seq ?_
    refine c_region ?_
    refine o_move rfl rfl ?_
    refine o_move rfl rfl ?_
    refine l_split (t := 27) rfl (fun h4 => ?_) (fun h4 => ?_)
    · -- h4T
     have h4b := h4
     try simp only [decide_eq_true_eq] at h4
     refine o_no rfl rfl rfl rfl ?_
     refine o_no rfl rfl rfl rfl ?_
     refine o_no rfl rfl rfl rfl ?_
     refine o_no rfl rfl rfl rfl ?_
     refine o_no rfl rfl rfl rfl ?_
     refine o_pick_true rfl rfl rfl ?_
     refine o_assign rfl rfl ?_
     refine l_nil ?_
     refine q_then ?_
     refine c_seq ?_
     refine c_seq ?_
     refine c_region ?_
     refine o_fieldAddr (q := ⟨b3, 0, none⟩) rfl rfl Try.underlying53 rfl ti3 rfl ?_
     refine o_load1 rfl rfl Try.underlying3 rfl (rd_mem 0 rfl rfl) ?_
     refine l_nil ?_
     refine q_then ?_
     refine c_block ?_
     refine c_seq ?_
     refine c_region ?_
     refine o_bin rfl rfl rfl b_eql ?_
     refine o_assign rfl rfl ?_
     refine l_nil ?_
     refine q_then ?_
     refine c_cond rfl (fun h5 => ?_) (fun h5 => ?_)
     · -- h5T
      have h5b := h5
      try simp only [decide_eq_true_eq] at h5
      refine c_seq ?_
      refine c_region ?_
      refine o_move rfl rfl ?_
      refine o_assign rfl rfl ?_
      refine l_nil ?_
      refine q_then ?_
      refine c_ret ?_
      refine q_block_ret ?_
      refine q_pass_ret ?_
      refine q_conv (fun w S => S.tail) ?_
      refine q_conv (fun w S => S.tail) ?_
      exact f_ret (r_one rfl rfl) (⟨by first | exact vtrue (by unfold StepOk; grind) | exact vfalse (by unfold StepOk; grind) | exact bdec (by unfold StepOk; grind), rfl⟩) (fun w S => S)
     · -- h5F
      have h5b := h5
      try simp only [decide_eq_false_iff_not, Int.not_lt, Int.not_le] at h5
      refine c_seq ?_
      refine c_seq ?_
      refine c_region ?_
      refine o_bin rfl rfl rfl b_eql ?_
      refine o_assign rfl rfl ?_
      refine l_nil ?_
      refine q_then ?_
      refine c_cond rfl (fun h6 => ?_) (fun h6 => ?_)
      · -- h6T
       have h6b := h6
       try simp only [decide_eq_true_eq] at h6
       refine c_skip ?_
       refine q_then ?_
       refine c_cond rfl (fun h7 => ?_) (fun h7 => ?_)
       · -- h7T
        have h7b := h7
        try simp only [decide_eq_true_eq] at h7
        refine c_seq ?_
        refine c_region ?_
        refine o_move rfl rfl ?_
        refine o_move rfl rfl ?_
        refine l_split (t := 43) rfl (fun h8 => ?_) (fun h8 => ?_)
        · -- h8T
         have h8b := h8
         try simp only [decide_eq_true_eq] at h8
         refine o_yes rfl rfl rfl ?_
         refine o_fieldAddr (q := ⟨b3, 2, none⟩) rfl rfl Try.underlying53 rfl ti45 rfl ?_
         refine o_yes rfl rfl rfl ?_
         refine o_load1 rfl rfl Try.underlying45 rfl (rd_mem 0 rfl rfl) ?_
         refine o_yes rfl rfl rfl ?_
         refine o_len rfl rfl Try.underlying45 ?_
         refine o_yes rfl rfl rfl ?_
         refine o_bin rfl rfl rfl b_eql ?_
         refine o_pick_true rfl rfl rfl ?_
         refine o_assign rfl rfl ?_
         refine l_nil ?_
         refine q_then ?_
         refine c_ret ?_
         refine q_block_ret ?_
         refine q_pass_ret ?_
         refine q_conv (fun w S => S.tail) ?_
         refine q_conv (fun w S => S.tail) ?_
         exact f_ret (r_one rfl rfl) (⟨by first | exact vtrue (by unfold StepOk; grind) | exact vfalse (by unfold StepOk; grind) | exact bdec (by unfold StepOk; grind), rfl⟩) (fun w S => S)
        · -- h8F
         have h8b := h8
         try simp only [decide_eq_false_iff_not, Int.not_lt, Int.not_le] at h8
         refine o_no rfl rfl rfl rfl ?_
         refine o_no rfl rfl rfl rfl ?_
         refine o_no rfl rfl rfl rfl ?_
         refine o_no rfl rfl rfl rfl ?_
         refine o_pick_false rfl rfl rfl ?_
         refine o_assign rfl rfl ?_
         refine l_nil ?_
         refine q_then ?_
         refine c_ret ?_
         refine q_block_ret ?_
         refine q_pass_ret ?_
         refine q_conv (fun w S => S.tail) ?_
         refine q_conv (fun w S => S.tail) ?_
         exact f_ret (r_one rfl rfl) (⟨by first | exact vtrue (by unfold StepOk; grind) | exact vfalse (by unfold StepOk; grind) | exact bdec (by unfold StepOk; grind), rfl⟩) (fun w S => S)
       · -- h7F
        have h7b := h7
        try simp only [decide_eq_false_iff_not, Int.not_lt, Int.not_le] at h7
        refine c_seq ?_
        refine c_region ?_
        refine o_bin rfl rfl rfl b_eql ?_
        refine o_assign rfl rfl ?_
        refine l_nil ?_
        refine q_then ?_
        refine c_cond rfl (fun h9 => ?_) (fun h9 => ?_)
        · -- h9T
         have h9b := h9
         try simp only [decide_eq_true_eq] at h9
         refine c_seq ?_
         refine c_region ?_
         refine o_move rfl rfl ?_
         refine o_assign rfl rfl ?_
         refine l_nil ?_
         refine q_then ?_
         refine c_ret ?_
         refine q_block_ret ?_
         refine q_pass_ret ?_
         refine q_conv (fun w S => S.tail) ?_
         refine q_conv (fun w S => S.tail) ?_
         exact f_ret (r_one rfl rfl) (⟨by first | exact vtrue (by unfold StepOk; grind) | exact vfalse (by unfold StepOk; grind) | exact bdec (by unfold StepOk; grind), rfl⟩) (fun w S => S)
        · -- h9F
         have h9b := h9
         try simp only [decide_eq_false_iff_not, Int.not_lt, Int.not_le] at h9
         refine c_seq ?_
         refine c_seq ?_
         refine c_region ?_
         refine o_bin rfl rfl rfl b_eql ?_
         refine o_assign rfl rfl ?_
         refine l_nil ?_
         refine q_then ?_
         refine c_cond rfl (fun h10 => ?_) (fun h10 => ?_)
         · -- h10T
          have h10b := h10
          try simp only [decide_eq_true_eq] at h10
          refine c_skip ?_
          refine q_then ?_
          refine c_cond rfl (fun h11 => ?_) (fun h11 => ?_)
          · -- h11T
           have h11b := h11
           try simp only [decide_eq_true_eq] at h11
           refine c_seq ?_
           refine c_region ?_
           refine o_move rfl rfl ?_
           refine o_move rfl rfl ?_
           refine o_yes rfl rfl rfl ?_
           refine o_fieldAddr (q := ⟨b3, 2, none⟩) rfl rfl Try.underlying53 rfl ti45 rfl ?_
           refine o_yes rfl rfl rfl ?_
           refine o_load1 rfl rfl Try.underlying45 rfl (rd_mem 0 rfl rfl) ?_
           refine o_yes rfl rfl rfl ?_
           refine o_len rfl rfl Try.underlying45 ?_
           refine o_yes rfl rfl rfl ?_
           refine o_bin rfl rfl rfl b_eql ?_
           refine o_pick_true rfl rfl rfl ?_
           refine o_assign rfl rfl ?_
           refine l_nil ?_
           refine q_then ?_
           refine c_ret ?_
           refine q_block_ret ?_
           refine q_pass_ret ?_
           refine q_conv (fun w S => S.tail) ?_
           refine q_conv (fun w S => S.tail) ?_
           exact f_ret (r_one rfl rfl) (⟨by first | exact vtrue (by unfold StepOk; grind) | exact vfalse (by unfold StepOk; grind) | exact bdec (by unfold StepOk; grind), rfl⟩) (fun w S => S)
          · -- h11F
           have h11b := h11
           try simp only [decide_eq_false_iff_not, Int.not_lt, Int.not_le] at h11
           refine c_seq ?_
           refine c_region ?_
           refine o_bin rfl rfl rfl b_eql ?_
           refine o_assign rfl rfl ?_
           refine l_nil ?_
           refine q_then ?_
           refine c_cond rfl (fun h12 => ?_) (fun h12 => ?_)
           · -- h12T
            have h12b := h12
            try simp only [decide_eq_true_eq] at h12
            refine c_seq ?_
            refine c_region ?_
            refine o_fieldAddr (q := ⟨b3, 1, none⟩) rfl rfl Try.underlying53 rfl ti9 rfl ?_
            refine o_load1 rfl rfl Try.underlying9 rfl (rd_mem 0 rfl rfl) ?_
            refine o_bin rfl rfl rfl b_seql ?_
            refine o_assign rfl rfl ?_
            refine l_nil ?_
            refine q_then ?_
            refine c_ret ?_
            refine q_block_ret ?_
            refine q_pass_ret ?_
            refine q_conv (fun w S => S.tail) ?_
            refine q_conv (fun w S => S.tail) ?_
            exact f_ret (r_one rfl rfl) (⟨by first | exact vtrue (by unfold StepOk; grind) | exact vfalse (by unfold StepOk; grind) | exact bdec (by unfold StepOk; grind), rfl⟩) (fun w S => S)
           · -- h12F
            have h12b := h12
            try simp only [decide_eq_false_iff_not, Int.not_lt, Int.not_le] at h12
            refine c_skip ?_
            refine q_block ?_
            refine q_then ?_
            refine c_seq ?_
            refine c_region ?_
            refine o_assign rfl rfl ?_
            refine l_nil ?_
            refine q_then ?_
            refine c_ret ?_
            refine q_conv (fun w S => S.tail) ?_
            refine q_conv (fun w S => S.tail) ?_
            exact f_ret (r_one rfl rfl) (⟨by first | exact vtrue (by unfold StepOk; grind) | exact vfalse (by unfold StepOk; grind) | exact bdec (by unfold StepOk; grind), rfl⟩) (fun w S => S)
         · -- h10F
          have h10b := h10
          try simp only [decide_eq_false_iff_not, Int.not_lt, Int.not_le] at h10
          refine c_region ?_
          refine o_bin rfl rfl rfl b_eql ?_
          refine o_assign rfl rfl ?_
          refine l_nil ?_
          refine q_then ?_
          refine c_cond rfl (fun h13 => ?_) (fun h13 => ?_)
          · -- h13T
           have h13b := h13
           try simp only [decide_eq_true_eq] at h13
           refine c_seq ?_
           refine c_region ?_
           refine o_move rfl rfl ?_
           refine o_move rfl rfl ?_
           refine o_yes rfl rfl rfl ?_
           refine o_fieldAddr (q := ⟨b3, 2, none⟩) rfl rfl Try.underlying53 rfl ti45 rfl ?_
           refine o_yes rfl rfl rfl ?_
           refine o_load1 rfl rfl Try.underlying45 rfl (rd_mem 0 rfl rfl) ?_
           refine o_yes rfl rfl rfl ?_
           refine o_len rfl rfl Try.underlying45 ?_
           refine o_yes rfl rfl rfl ?_
           refine o_bin rfl rfl rfl b_eql ?_
           refine o_pick_true rfl rfl rfl ?_
           refine o_assign rfl rfl ?_
           refine l_nil ?_
           refine q_then ?_
           refine c_ret ?_
           refine q_block_ret ?_
           refine q_pass_ret ?_
           refine q_conv (fun w S => S.tail) ?_
           refine q_conv (fun w S => S.tail) ?_
           exact f_ret (r_one rfl rfl) (⟨by first | exact vtrue (by unfold StepOk; grind) | exact vfalse (by unfold StepOk; grind) | exact bdec (by unfold StepOk; grind), rfl⟩) (fun w S => S)
          · -- h13F
           have h13b := h13
           try simp only [decide_eq_false_iff_not, Int.not_lt, Int.not_le] at h13
           refine c_seq ?_
           refine c_region ?_
           refine o_bin rfl rfl rfl b_eql ?_
           refine o_assign rfl rfl ?_
           refine l_nil ?_
           refine q_then ?_
           refine c_cond rfl (fun h14 => ?_) (fun h14 => ?_)
           · -- h14T
            have h14b := h14
            try simp only [decide_eq_true_eq] at h14
            refine c_seq ?_
            refine c_region ?_
            refine o_fieldAddr (q := ⟨b3, 1, none⟩) rfl rfl Try.underlying53 rfl ti9 rfl ?_
            refine o_load1 rfl rfl Try.underlying9 rfl (rd_mem 0 rfl rfl) ?_
            refine o_bin rfl rfl rfl b_seql ?_
            refine o_assign rfl rfl ?_
            refine l_nil ?_
            refine q_then ?_
            refine c_ret ?_
            refine q_block_ret ?_
            refine q_pass_ret ?_
            refine q_conv (fun w S => S.tail) ?_
            refine q_conv (fun w S => S.tail) ?_
            exact f_ret (r_one rfl rfl) (⟨by first | exact vtrue (by unfold StepOk; grind) | exact vfalse (by unfold StepOk; grind) | exact bdec (by unfold StepOk; grind), rfl⟩) (fun w S => S)
           · -- h14F
            have h14b := h14
            try simp only [decide_eq_false_iff_not, Int.not_lt, Int.not_le] at h14
            refine c_skip ?_
            refine q_block ?_
            refine q_then ?_
            refine c_seq ?_
            refine c_region ?_
            refine o_assign rfl rfl ?_
            refine l_nil ?_
            refine q_then ?_
            refine c_ret ?_
            refine q_conv (fun w S => S.tail) ?_
            refine q_conv (fun w S => S.tail) ?_
            exact f_ret (r_one rfl rfl) (⟨by first | exact vtrue (by unfold StepOk; grind) | exact vfalse (by unfold StepOk; grind) | exact bdec (by unfold StepOk; grind), rfl⟩) (fun w S => S)
      · -- h6F
       have h6b := h6
       try simp only [decide_eq_false_iff_not, Int.not_lt, Int.not_le] at h6
       refine c_region ?_
       refine o_bin rfl rfl rfl b_eql ?_
       refine o_assign rfl rfl ?_
       refine l_nil ?_
       refine q_then ?_
       refine c_cond rfl (fun h15 => ?_) (fun h15 => ?_)
       · -- h15T
        have h15b := h15
        try simp only [decide_eq_true_eq] at h15
        refine c_seq ?_
        refine c_region ?_
        refine o_move rfl rfl ?_
        refine o_move rfl rfl ?_
        refine l_split (t := 43) rfl (fun h16 => ?_) (fun h16 => ?_)
        · -- h16T
         have h16b := h16
         try simp only [decide_eq_true_eq] at h16
         refine o_yes rfl rfl rfl ?_
         refine o_fieldAddr (q := ⟨b3, 2, none⟩) rfl rfl Try.underlying53 rfl ti45 rfl ?_
         refine o_yes rfl rfl rfl ?_
         refine o_load1 rfl rfl Try.underlying45 rfl (rd_mem 0 rfl rfl) ?_
         refine o_yes rfl rfl rfl ?_
         refine o_len rfl rfl Try.underlying45 ?_
         refine o_yes rfl rfl rfl ?_
         refine o_bin rfl rfl rfl b_eql ?_
         refine o_pick_true rfl rfl rfl ?_
         refine o_assign rfl rfl ?_
         refine l_nil ?_
         refine q_then ?_
         refine c_ret ?_
         refine q_block_ret ?_
         refine q_pass_ret ?_
         refine q_conv (fun w S => S.tail) ?_
         refine q_conv (fun w S => S.tail) ?_
         exact f_ret (r_one rfl rfl) (⟨by first | exact vtrue (by unfold StepOk; grind) | exact vfalse (by unfold StepOk; grind) | exact bdec (by unfold StepOk; grind), rfl⟩) (fun w S => S)
        · -- h16F
         have h16b := h16
         try simp only [decide_eq_false_iff_not, Int.not_lt, Int.not_le] at h16
         refine o_no rfl rfl rfl rfl ?_
         refine o_no rfl rfl rfl rfl ?_
         refine o_no rfl rfl rfl rfl ?_
         refine o_no rfl rfl rfl rfl ?_
         refine o_pick_false rfl rfl rfl ?_
         refine o_assign rfl rfl ?_
         refine l_nil ?_
         refine q_then ?_
         refine c_ret ?_
         refine q_block_ret ?_
         refine q_pass_ret ?_
         refine q_conv (fun w S => S.tail) ?_
         refine q_conv (fun w S => S.tail) ?_
         exact f_ret (r_one rfl rfl) (⟨by first | exact vtrue (by unfold StepOk; grind) | exact vfalse (by unfold StepOk; grind) | exact bdec (by unfold StepOk; grind), rfl⟩) (fun w S => S)
       · -- h15F
        have h15b := h15
        try simp only [decide_eq_false_iff_not, Int.not_lt, Int.not_le] at h15
        refine c_seq ?_
        refine c_region ?_
        refine o_bin rfl rfl rfl b_eql ?_
        refine o_assign rfl rfl ?_
        refine l_nil ?_
        refine q_then ?_
        refine c_cond rfl (fun h17 => ?_) (fun h17 => ?_)
        · -- h17T
         have h17b := h17
         try simp only [decide_eq_true_eq] at h17
         refine c_seq ?_
         refine c_region ?_
         refine o_move rfl rfl ?_
         refine o_assign rfl rfl ?_
         refine l_nil ?_
         refine q_then ?_
         refine c_ret ?_
         refine q_block_ret ?_
         refine q_pass_ret ?_
         refine q_conv (fun w S => S.tail) ?_
         refine q_conv (fun w S => S.tail) ?_
         exact f_ret (r_one rfl rfl) (⟨by first | exact vtrue (by unfold StepOk; grind) | exact vfalse (by unfold StepOk; grind) | exact bdec (by unfold StepOk; grind), rfl⟩) (fun w S => S)
        · -- h17F
         have h17b := h17
         try simp only [decide_eq_false_iff_not, Int.not_lt, Int.not_le] at h17
         refine c_seq ?_
         refine c_seq ?_
         refine c_region ?_
         refine o_bin rfl rfl rfl b_eql ?_
         refine o_assign rfl rfl ?_
         refine l_nil ?_
         refine q_then ?_
         refine c_cond rfl (fun h18 => ?_) (fun h18 => ?_)
         · -- h18T
          have h18b := h18
          try simp only [decide_eq_true_eq] at h18
          refine c_skip ?_
          refine q_then ?_
          refine c_cond rfl (fun h19 => ?_) (fun h19 => ?_)
          · -- h19T
           have h19b := h19
           try simp only [decide_eq_true_eq] at h19
           refine c_seq ?_
           refine c_region ?_
           refine o_move rfl rfl ?_
           refine o_move rfl rfl ?_
           refine o_yes rfl rfl rfl ?_
           refine o_fieldAddr (q := ⟨b3, 2, none⟩) rfl rfl Try.underlying53 rfl ti45 rfl ?_
           refine o_yes rfl rfl rfl ?_
           refine o_load1 rfl rfl Try.underlying45 rfl (rd_mem 0 rfl rfl) ?_
           refine o_yes rfl rfl rfl ?_
           refine o_len rfl rfl Try.underlying45 ?_
           refine o_yes rfl rfl rfl ?_
           refine o_bin rfl rfl rfl b_eql ?_
           refine o_pick_true rfl rfl rfl ?_
           refine o_assign rfl rfl ?_
           refine l_nil ?_
           refine q_then ?_
           refine c_ret ?_
           refine q_block_ret ?_
           refine q_pass_ret ?_
           refine q_conv (fun w S => S.tail) ?_
           refine q_conv (fun w S => S.tail) ?_
           exact f_ret (r_one rfl rfl) (⟨by first | exact vtrue (by unfold StepOk; grind) | exact vfalse (by unfold StepOk; grind) | exact bdec (by unfold StepOk; grind), rfl⟩) (fun w S => S)
          · -- h19F
           have h19b := h19
           try simp only [decide_eq_false_iff_not, Int.not_lt, Int.not_le] at h19
           refine c_seq ?_
           refine c_region ?_
           refine o_bin rfl rfl rfl b_eql ?_
           refine o_assign rfl rfl ?_
           refine l_nil ?_
           refine q_then ?_
           refine c_cond rfl (fun h20 => ?_) (fun h20 => ?_)
           · -- h20T
            have h20b := h20
            try simp only [decide_eq_true_eq] at h20
            refine c_seq ?_
            refine c_region ?_
            refine o_fieldAddr (q := ⟨b3, 1, none⟩) rfl rfl Try.underlying53 rfl ti9 rfl ?_
            refine o_load1 rfl rfl Try.underlying9 rfl (rd_mem 0 rfl rfl) ?_
            refine o_bin rfl rfl rfl b_seql ?_
            refine o_assign rfl rfl ?_
            refine l_nil ?_
            refine q_then ?_
            refine c_ret ?_
            refine q_block_ret ?_
            refine q_pass_ret ?_
            refine q_conv (fun w S => S.tail) ?_
            refine q_conv (fun w S => S.tail) ?_
            exact f_ret (r_one rfl rfl) (⟨by first | exact vtrue (by unfold StepOk; grind) | exact vfalse (by unfold StepOk; grind) | exact bdec (by unfold StepOk; grind), rfl⟩) (fun w S => S)
           · -- h20F
            have h20b := h20
            try simp only [decide_eq_false_iff_not, Int.not_lt, Int.not_le] at h20
            refine c_skip ?_
            refine q_block ?_
            refine q_then ?_
            refine c_seq ?_
            refine c_region ?_
            refine o_assign rfl rfl ?_
            refine l_nil ?_
            refine q_then ?_
            refine c_ret ?_
            refine q_conv (fun w S => S.tail) ?_
            refine q_conv (fun w S => S.tail) ?_
            exact f_ret (r_one rfl rfl) (⟨by first | exact vtrue (by unfold StepOk; grind) | exact vfalse (by unfold StepOk; grind) | exact bdec (by unfold StepOk; grind), rfl⟩) (fun w S => S)
         · -- h18F
          have h18b := h18
          try simp only [decide_eq_false_iff_not, Int.not_lt, Int.not_le] at h18
          refine c_region ?_
          refine o_bin rfl rfl rfl b_eql ?_
          refine o_assign rfl rfl ?_
          refine l_nil ?_
          refine q_then ?_
          refine c_cond rfl (fun h21 => ?_) (fun h21 => ?_)
          · -- h21T
           have h21b := h21
           try simp only [decide_eq_true_eq] at h21
           refine c_seq ?_
           refine c_region ?_
           refine o_move rfl rfl ?_
           refine o_move rfl rfl ?_
           refine o_yes rfl rfl rfl ?_
           refine o_fieldAddr (q := ⟨b3, 2, none⟩) rfl rfl Try.underlying53 rfl ti45 rfl ?_
           refine o_yes rfl rfl rfl ?_
           refine o_load1 rfl rfl Try.underlying45 rfl (rd_mem 0 rfl rfl) ?_
           refine o_yes rfl rfl rfl ?_
           refine o_len rfl rfl Try.underlying45 ?_
           refine o_yes rfl rfl rfl ?_
           refine o_bin rfl rfl rfl b_eql ?_
           refine o_pick_true rfl rfl rfl ?_
           refine o_assign rfl rfl ?_
           refine l_nil ?_
           refine q_then ?_
           refine c_ret ?_
           refine q_block_ret ?_
           refine q_pass_ret ?_
           refine q_conv (fun w S => S.tail) ?_
           refine q_conv (fun w S => S.tail) ?_
           exact f_ret (r_one rfl rfl) (⟨by first | exact vtrue (by unfold StepOk; grind) | exact vfalse (by unfold StepOk; grind) | exact bdec (by unfold StepOk; grind), rfl⟩) (fun w S => S)
          · -- h21F
           have h21b := h21
           try simp only [decide_eq_false_iff_not, Int.not_lt, Int.not_le] at h21
           refine c_seq ?_
           refine c_region ?_
           refine o_bin rfl rfl rfl b_eql ?_
           refine o_assign rfl rfl ?_
           refine l_nil ?_
           refine q_then ?_
           refine c_cond rfl (fun h22 => ?_) (fun h22 => ?_)
           · -- h22T
            have h22b := h22
            try simp only [decide_eq_true_eq] at h22
            refine c_seq ?_
            refine c_region ?_
            refine o_fieldAddr (q := ⟨b3, 1, none⟩) rfl rfl Try.underlying53 rfl ti9 rfl ?_
            refine o_load1 rfl rfl Try.underlying9 rfl (rd_mem 0 rfl rfl) ?_
            refine o_bin rfl rfl rfl b_seql ?_
            refine o_assign rfl rfl ?_
            refine l_nil ?_
            refine q_then ?_
            refine c_ret ?_
            refine q_block_ret ?_
            refine q_pass_ret ?_
            refine q_conv (fun w S => S.tail) ?_
            refine q_conv (fun w S => S.tail) ?_
            exact f_ret (r_one rfl rfl) (⟨by first | exact vtrue (by unfold StepOk; grind) | exact vfalse (by unfold StepOk; grind) | exact bdec (by unfold StepOk; grind), rfl⟩) (fun w S => S)
           · -- h22F
            have h22b := h22
            try simp only [decide_eq_false_iff_not, Int.not_lt, Int.not_le] at h22
            refine c_skip ?_
            refine q_block ?_
            refine q_then ?_
            refine c_seq ?_
            refine c_region ?_
            refine o_assign rfl rfl ?_
            refine l_nil ?_
            refine q_then ?_
            refine c_ret ?_
            refine q_conv (fun w S => S.tail) ?_
            refine q_conv (fun w S => S.tail) ?_
            exact f_ret (r_one rfl rfl) (⟨by first | exact vtrue (by unfold StepOk; grind) | exact vfalse (by unfold StepOk; grind) | exact bdec (by unfold StepOk; grind), rfl⟩) (fun w S => S)
    · -- h4F
     have h4b := h4
     try simp only [decide_eq_false_iff_not, Int.not_lt, Int.not_le] at h4
     refine o_yes rfl rfl rfl ?_
     refine o_fieldAddr (q := ⟨b2, 1, none⟩) rfl rfl Try.underlying30 rfl ti27 rfl ?_
     refine o_yes rfl rfl rfl ?_
     refine o_load1 rfl rfl Try.underlying27 rfl (rd_mem 1 rfl rfl) ?_
     refine o_yes rfl rfl rfl ?_
     refine o_fieldAddr (q := ⟨b3, 1, none⟩) rfl rfl Try.underlying53 rfl ti9 rfl ?_
     refine o_yes rfl rfl rfl ?_
     refine o_load1 rfl rfl Try.underlying9 rfl (rd_mem 0 rfl rfl) ?_
     refine o_yes rfl rfl rfl ?_
     refine o_call rfl cal81 rfl (contains_ (TxR.c (TxR.c T_t)).rr (by first | exact T_t.len.lr | exact T_t.len.lw | exact T_t.len.lo | omega)) ?_
     rintro _ _ ⟨rfl, rfl⟩
     refine o_pick_false rfl rfl rfl ?_
     refine o_assign rfl rfl ?_
     refine l_nil ?_
     refine q_then ?_
     refine c_seq ?_
     refine c_seq ?_
     refine c_region ?_
     refine o_fieldAddr (q := ⟨b3, 0, none⟩) rfl rfl Try.underlying53 rfl ti3 rfl ?_
     refine o_load1 rfl rfl Try.underlying3 rfl (rd_mem 0 rfl rfl) ?_
     refine l_nil ?_
     refine q_then ?_
     refine c_block ?_
     refine c_seq ?_
     refine c_region ?_
     refine o_bin rfl rfl rfl b_eql ?_
     refine o_assign rfl rfl ?_
     refine l_nil ?_
     refine q_then ?_
     refine c_cond rfl (fun h23 => ?_) (fun h23 => ?_)
     · -- h23T
      have h23b := h23
      try simp only [decide_eq_true_eq] at h23
      refine c_seq ?_
      refine c_region ?_
      refine o_move rfl rfl ?_
      refine o_assign rfl rfl ?_
      refine l_nil ?_
      refine q_then ?_
      refine c_ret ?_
      refine q_block_ret ?_
      refine q_pass_ret ?_
      refine q_conv (fun w S => S.tail) ?_
      refine q_conv (fun w S => S.tail) ?_
      exact f_ret (r_one rfl rfl) (⟨by first | exact vtrue (by unfold StepOk; grind) | exact vfalse (by unfold StepOk; grind) | exact bdec (by unfold StepOk; grind), rfl⟩) (fun w S => S)
     · -- h23F
      have h23b := h23
      try simp only [decide_eq_false_iff_not, Int.not_lt, Int.not_le] at h23
      refine c_seq ?_
      refine c_seq ?_
      refine c_region ?_
      refine o_bin rfl rfl rfl b_eql ?_
      refine o_assign rfl rfl ?_
      refine l_nil ?_
      refine q_then ?_
      refine c_cond rfl (fun h24 => ?_) (fun h24 => ?_)
      · -- h24T
       have h24b := h24
       try simp only [decide_eq_true_eq] at h24
       refine c_skip ?_
       refine q_then ?_
       refine c_cond rfl (fun h25 => ?_) (fun h25 => ?_)
       · -- h25T
        have h25b := h25
        try simp only [decide_eq_true_eq] at h25
        refine c_seq ?_
        refine c_region ?_
        refine o_move rfl rfl ?_
        refine o_move rfl rfl ?_
        refine l_split (t := 43) rfl (fun h26 => ?_) (fun h26 => ?_)
        · -- h26T
         have h26b := h26
         try simp only [decide_eq_true_eq] at h26
         refine o_yes rfl rfl rfl ?_
         refine o_fieldAddr (q := ⟨b3, 2, none⟩) rfl rfl Try.underlying53 rfl ti45 rfl ?_
         refine o_yes rfl rfl rfl ?_
         refine o_load1 rfl rfl Try.underlying45 rfl (rd_mem 0 rfl rfl) ?_
         refine o_yes rfl rfl rfl ?_
         refine o_len rfl rfl Try.underlying45 ?_
         refine o_yes rfl rfl rfl ?_
         refine o_bin rfl rfl rfl b_eql ?_
         refine o_pick_true rfl rfl rfl ?_
         refine o_assign rfl rfl ?_
         refine l_nil ?_
         refine q_then ?_
         refine c_ret ?_
         refine q_block_ret ?_
         refine q_pass_ret ?_
         refine q_conv (fun w S => S.tail) ?_
         refine q_conv (fun w S => S.tail) ?_
         exact f_ret (r_one rfl rfl) (⟨by first | exact vtrue (by unfold StepOk; grind) | exact vfalse (by unfold StepOk; grind) | exact bdec (by unfold StepOk; grind), rfl⟩) (fun w S => S)
        · -- h26F
         have h26b := h26
         try simp only [decide_eq_false_iff_not, Int.not_lt, Int.not_le] at h26
         refine o_no rfl rfl rfl rfl ?_
         refine o_no rfl rfl rfl rfl ?_
         refine o_no rfl rfl rfl rfl ?_
         refine o_no rfl rfl rfl rfl ?_
         refine o_pick_false rfl rfl rfl ?_
         refine o_assign rfl rfl ?_
         refine l_nil ?_
         refine q_then ?_
         refine c_ret ?_
         refine q_block_ret ?_
         refine q_pass_ret ?_
         refine q_conv (fun w S => S.tail) ?_
         refine q_conv (fun w S => S.tail) ?_
         exact f_ret (r_one rfl rfl) (⟨by first | exact vtrue (by unfold StepOk; grind) | exact vfalse (by unfold StepOk; grind) | exact bdec (by unfold StepOk; grind), rfl⟩) (fun w S => S)
       · -- h25F
        have h25b := h25
        try simp only [decide_eq_false_iff_not, Int.not_lt, Int.not_le] at h25
        refine c_seq ?_
        refine c_region ?_
        refine o_bin rfl rfl rfl b_eql ?_
        refine o_assign rfl rfl ?_
        refine l_nil ?_
        refine q_then ?_
        refine c_cond rfl (fun h27 => ?_) (fun h27 => ?_)
        · -- h27T
         have h27b := h27
         try simp only [decide_eq_true_eq] at h27
         refine c_seq ?_
         refine c_region ?_
         refine o_move rfl rfl ?_
         refine o_assign rfl rfl ?_
         refine l_nil ?_
         refine q_then ?_
         refine c_ret ?_
         refine q_block_ret ?_
         refine q_pass_ret ?_
         refine q_conv (fun w S => S.tail) ?_
         refine q_conv (fun w S => S.tail) ?_
         exact f_ret (r_one rfl rfl) (⟨by first | exact vtrue (by unfold StepOk; grind) | exact vfalse (by unfold StepOk; grind) | exact bdec (by unfold StepOk; grind), rfl⟩) (fun w S => S)
        · -- h27F
         have h27b := h27
         try simp only [decide_eq_false_iff_not, Int.not_lt, Int.not_le] at h27
         refine c_seq ?_
         refine c_seq ?_
         refine c_region ?_
         refine o_bin rfl rfl rfl b_eql ?_
         refine o_assign rfl rfl ?_
         refine l_nil ?_
         refine q_then ?_
         refine c_cond rfl (fun h28 => ?_) (fun h28 => ?_)
         · -- h28T
          have h28b := h28
          try simp only [decide_eq_true_eq] at h28
          refine c_skip ?_
          refine q_then ?_
          refine c_cond rfl (fun h29 => ?_) (fun h29 => ?_)
          · -- h29T
           have h29b := h29
           try simp only [decide_eq_true_eq] at h29
           refine c_seq ?_
           refine c_region ?_
           refine o_move rfl rfl ?_
           refine o_move rfl rfl ?_
           refine l_split (t := 56) rfl (fun h30 => ?_) (fun h30 => ?_)
           · -- h30T
            have h30b := h30
            try simp only [decide_eq_true_eq] at h30
            refine o_yes rfl rfl rfl ?_
            refine o_fieldAddr (q := ⟨b3, 2, none⟩) rfl rfl Try.underlying53 rfl ti45 rfl ?_
            refine o_yes rfl rfl rfl ?_
            refine o_load1 rfl rfl Try.underlying45 rfl (rd_mem 0 rfl rfl) ?_
            refine o_yes rfl rfl rfl ?_
            refine o_len rfl rfl Try.underlying45 ?_
            refine o_yes rfl rfl rfl ?_
            refine o_bin rfl rfl rfl b_eql ?_
            refine o_pick_true rfl rfl rfl ?_
            refine o_assign rfl rfl ?_
            refine l_nil ?_
            refine q_then ?_
            refine c_ret ?_
            refine q_block_ret ?_
            refine q_pass_ret ?_
            refine q_conv (fun w S => S.tail) ?_
            refine q_conv (fun w S => S.tail) ?_
            exact f_ret (r_one rfl rfl) (⟨by first | exact vtrue (by unfold StepOk; grind) | exact vfalse (by unfold StepOk; grind) | exact bdec (by unfold StepOk; grind), rfl⟩) (fun w S => S)
           · -- h30F
            have h30b := h30
            try simp only [decide_eq_false_iff_not, Int.not_lt, Int.not_le] at h30
            refine o_no rfl rfl rfl rfl ?_
            refine o_no rfl rfl rfl rfl ?_
            refine o_no rfl rfl rfl rfl ?_
            refine o_no rfl rfl rfl rfl ?_
            refine o_pick_false rfl rfl rfl ?_
            refine o_assign rfl rfl ?_
            refine l_nil ?_
            refine q_then ?_
            refine c_ret ?_
            refine q_block_ret ?_
            refine q_pass_ret ?_
            refine q_conv (fun w S => S.tail) ?_
            refine q_conv (fun w S => S.tail) ?_
            exact f_ret (r_one rfl rfl) (⟨by first | exact vtrue (by unfold StepOk; grind) | exact vfalse (by unfold StepOk; grind) | exact bdec (by unfold StepOk; grind), rfl⟩) (fun w S => S)
          · -- h29F
           have h29b := h29
           try simp only [decide_eq_false_iff_not, Int.not_lt, Int.not_le] at h29
           refine c_seq ?_
           refine c_region ?_
           refine o_bin rfl rfl rfl b_eql ?_
           refine o_assign rfl rfl ?_
           refine l_nil ?_
           refine q_then ?_
           refine c_cond rfl (fun h31 => ?_) (fun h31 => ?_)
           · -- h31T
            have h31b := h31
            try simp only [decide_eq_true_eq] at h31
            refine c_seq ?_
            refine c_region ?_
            refine o_fieldAddr (q := ⟨b3, 1, none⟩) rfl rfl Try.underlying53 rfl ti9 rfl ?_
            refine o_load1 rfl rfl Try.underlying9 rfl (rd_mem 0 rfl rfl) ?_
            refine o_bin rfl rfl rfl b_seql ?_
            refine o_assign rfl rfl ?_
            refine l_nil ?_
            refine q_then ?_
            refine c_ret ?_
            refine q_block_ret ?_
            refine q_pass_ret ?_
            refine q_conv (fun w S => S.tail) ?_
            refine q_conv (fun w S => S.tail) ?_
            exact f_ret (r_one rfl rfl) (⟨by first | exact vtrue (by unfold StepOk; grind) | exact vfalse (by unfold StepOk; grind) | exact bdec (by unfold StepOk; grind), rfl⟩) (fun w S => S)
           · -- h31F
            have h31b := h31
            try simp only [decide_eq_false_iff_not, Int.not_lt, Int.not_le] at h31
            refine c_skip ?_
            refine q_block ?_
            refine q_then ?_
            refine c_seq ?_
            refine c_region ?_
            refine o_assign rfl rfl ?_
            refine l_nil ?_
            refine q_then ?_
            refine c_ret ?_
            refine q_conv (fun w S => S.tail) ?_
            refine q_conv (fun w S => S.tail) ?_
            exact f_ret (r_one rfl rfl) (⟨by first | exact vtrue (by unfold StepOk; grind) | exact vfalse (by unfold StepOk; grind) | exact bdec (by unfold StepOk; grind), rfl⟩) (fun w S => S)
         · -- h28F
          have h28b := h28
          try simp only [decide_eq_false_iff_not, Int.not_lt, Int.not_le] at h28
          refine c_region ?_
          refine o_bin rfl rfl rfl b_eql ?_
          refine o_assign rfl rfl ?_
          refine l_nil ?_
          refine q_then ?_
          refine c_cond rfl (fun h32 => ?_) (fun h32 => ?_)
          · -- h32T
           have h32b := h32
           try simp only [decide_eq_true_eq] at h32
           refine c_seq ?_
           refine c_region ?_
           refine o_move rfl rfl ?_
           refine o_move rfl rfl ?_
           refine l_split (t := 56) rfl (fun h33 => ?_) (fun h33 => ?_)
           · -- h33T
            have h33b := h33
            try simp only [decide_eq_true_eq] at h33
            refine o_yes rfl rfl rfl ?_
            refine o_fieldAddr (q := ⟨b3, 2, none⟩) rfl rfl Try.underlying53 rfl ti45 rfl ?_
            refine o_yes rfl rfl rfl ?_
            refine o_load1 rfl rfl Try.underlying45 rfl (rd_mem 0 rfl rfl) ?_
            refine o_yes rfl rfl rfl ?_
            refine o_len rfl rfl Try.underlying45 ?_
            refine o_yes rfl rfl rfl ?_
            refine o_bin rfl rfl rfl b_eql ?_
            refine o_pick_true rfl rfl rfl ?_
            refine o_assign rfl rfl ?_
            refine l_nil ?_
            refine q_then ?_
            refine c_ret ?_
            refine q_block_ret ?_
            refine q_pass_ret ?_
            refine q_conv (fun w S => S.tail) ?_
            refine q_conv (fun w S => S.tail) ?_
            exact f_ret (r_one rfl rfl) (⟨by first | exact vtrue (by unfold StepOk; grind) | exact vfalse (by unfold StepOk; grind) | exact bdec (by unfold StepOk; grind), rfl⟩) (fun w S => S)
           · -- h33F
            have h33b := h33
            try simp only [decide_eq_false_iff_not, Int.not_lt, Int.not_le] at h33
            refine o_no rfl rfl rfl rfl ?_
            refine o_no rfl rfl rfl rfl ?_
            refine o_no rfl rfl rfl rfl ?_
            refine o_no rfl rfl rfl rfl ?_
            refine o_pick_false rfl rfl rfl ?_
            refine o_assign rfl rfl ?_
            refine l_nil ?_
            refine q_then ?_
            refine c_ret ?_
            refine q_block_ret ?_
            refine q_pass_ret ?_
            refine q_conv (fun w S => S.tail) ?_
            refine q_conv (fun w S => S.tail) ?_
            exact f_ret (r_one rfl rfl) (⟨by first | exact vtrue (by unfold StepOk; grind) | exact vfalse (by unfold StepOk; grind) | exact bdec (by unfold StepOk; grind), rfl⟩) (fun w S => S)
          · -- h32F
           have h32b := h32
           try simp only [decide_eq_false_iff_not, Int.not_lt, Int.not_le] at h32
           refine c_seq ?_
           refine c_region ?_
           refine o_bin rfl rfl rfl b_eql ?_
           refine o_assign rfl rfl ?_
           refine l_nil ?_
           refine q_then ?_
           refine c_cond rfl (fun h34 => ?_) (fun h34 => ?_)
           · -- h34T
            have h34b := h34
            try simp only [decide_eq_true_eq] at h34
            refine c_seq ?_
            refine c_region ?_
            refine o_fieldAddr (q := ⟨b3, 1, none⟩) rfl rfl Try.underlying53 rfl ti9 rfl ?_
            refine o_load1 rfl rfl Try.underlying9 rfl (rd_mem 0 rfl rfl) ?_
            refine o_bin rfl rfl rfl b_seql ?_
            refine o_assign rfl rfl ?_
            refine l_nil ?_
            refine q_then ?_
            refine c_ret ?_
            refine q_block_ret ?_
            refine q_pass_ret ?_
            refine q_conv (fun w S => S.tail) ?_
            refine q_conv (fun w S => S.tail) ?_
            exact f_ret (r_one rfl rfl) (⟨by first | exact vtrue (by unfold StepOk; grind) | exact vfalse (by unfold StepOk; grind) | exact bdec (by unfold StepOk; grind), rfl⟩) (fun w S => S)
           · -- h34F
            have h34b := h34
            try simp only [decide_eq_false_iff_not, Int.not_lt, Int.not_le] at h34
            refine c_skip ?_
            refine q_block ?_
            refine q_then ?_
            refine c_seq ?_
            refine c_region ?_
            refine o_assign rfl rfl ?_
            refine l_nil ?_
            refine q_then ?_
            refine c_ret ?_
            refine q_conv (fun w S => S.tail) ?_
            refine q_conv (fun w S => S.tail) ?_
            exact f_ret (r_one rfl rfl) (⟨by first | exact vtrue (by unfold StepOk; grind) | exact vfalse (by unfold StepOk; grind) | exact bdec (by unfold StepOk; grind), rfl⟩) (fun w S => S)
      · -- h24F
       have h24b := h24
       try simp only [decide_eq_false_iff_not, Int.not_lt, Int.not_le] at h24
       refine c_region ?_
       refine o_bin rfl rfl rfl b_eql ?_
       refine o_assign rfl rfl ?_
       refine l_nil ?_
       refine q_then ?_
       refine c_cond rfl (fun h35 => ?_) (fun h35 => ?_)
       · -- h35T
        have h35b := h35
        try simp only [decide_eq_true_eq] at h35
        refine c_seq ?_
        refine c_region ?_
        refine o_move rfl rfl ?_
        refine o_move rfl rfl ?_
        refine l_split (t := 43) rfl (fun h36 => ?_) (fun h36 => ?_)
        · -- h36T
         have h36b := h36
         try simp only [decide_eq_true_eq] at h36
         refine o_yes rfl rfl rfl ?_
         refine o_fieldAddr (q := ⟨b3, 2, none⟩) rfl rfl Try.underlying53 rfl ti45 rfl ?_
         refine o_yes rfl rfl rfl ?_
         refine o_load1 rfl rfl Try.underlying45 rfl (rd_mem 0 rfl rfl) ?_
         refine o_yes rfl rfl rfl ?_
         refine o_len rfl rfl Try.underlying45 ?_
         refine o_yes rfl rfl rfl ?_
         refine o_bin rfl rfl rfl b_eql ?_
         refine o_pick_true rfl rfl rfl ?_
         refine o_assign rfl rfl ?_
         refine l_nil ?_
         refine q_then ?_
         refine c_ret ?_
         refine q_block_ret ?_
         refine q_pass_ret ?_
         refine q_conv (fun w S => S.tail) ?_
         refine q_conv (fun w S => S.tail) ?_
         exact f_ret (r_one rfl rfl) (⟨by first | exact vtrue (by unfold StepOk; grind) | exact vfalse (by unfold StepOk; grind) | exact bdec (by unfold StepOk; grind), rfl⟩) (fun w S => S)
        · -- h36F
         have h36b := h36
         try simp only [decide_eq_false_iff_not, Int.not_lt, Int.not_le] at h36
         refine o_no rfl rfl rfl rfl ?_
         refine o_no rfl rfl rfl rfl ?_
         refine o_no rfl rfl rfl rfl ?_
         refine o_no rfl rfl rfl rfl ?_
         refine o_pick_false rfl rfl rfl ?_
         refine o_assign rfl rfl ?_
         refine l_nil ?_
         refine q_then ?_
         refine c_ret ?_
         refine q_block_ret ?_
         refine q_pass_ret ?_
         refine q_conv (fun w S => S.tail) ?_
         refine q_conv (fun w S => S.tail) ?_
         exact f_ret (r_one rfl rfl) (⟨by first | exact vtrue (by unfold StepOk; grind) | exact vfalse (by unfold StepOk; grind) | exact bdec (by unfold StepOk; grind), rfl⟩) (fun w S => S)
       · -- h35F
        have h35b := h35
        try simp only [decide_eq_false_iff_not, Int.not_lt, Int.not_le] at h35
        refine c_seq ?_
        refine c_region ?_
        refine o_bin rfl rfl rfl b_eql ?_
        refine o_assign rfl rfl ?_
        refine l_nil ?_
        refine q_then ?_
        refine c_cond rfl (fun h37 => ?_) (fun h37 => ?_)
        · -- h37T
         have h37b := h37
         try simp only [decide_eq_true_eq] at h37
         refine c_seq ?_
         refine c_region ?_
         refine o_move rfl rfl ?_
         refine o_assign rfl rfl ?_
         refine l_nil ?_
         refine q_then ?_
         refine c_ret ?_
         refine q_block_ret ?_
         refine q_pass_ret ?_
         refine q_conv (fun w S => S.tail) ?_
         refine q_conv (fun w S => S.tail) ?_
         exact f_ret (r_one rfl rfl) (⟨by first | exact vtrue (by unfold StepOk; grind) | exact vfalse (by unfold StepOk; grind) | exact bdec (by unfold StepOk; grind), rfl⟩) (fun w S => S)
        · -- h37F
         have h37b := h37
         try simp only [decide_eq_false_iff_not, Int.not_lt, Int.not_le] at h37
         refine c_seq ?_
         refine c_seq ?_
         refine c_region ?_
         refine o_bin rfl rfl rfl b_eql ?_
         refine o_assign rfl rfl ?_
         refine l_nil ?_
         refine q_then ?_
         refine c_cond rfl (fun h38 => ?_) (fun h38 => ?_)
         · -- h38T
          have h38b := h38
          try simp only [decide_eq_true_eq] at h38
          refine c_skip ?_
          refine q_then ?_
          refine c_cond rfl (fun h39 => ?_) (fun h39 => ?_)
          · -- h39T
           have h39b := h39
           try simp only [decide_eq_true_eq] at h39
           refine c_seq ?_
           refine c_region ?_
           refine o_move rfl rfl ?_
           refine o_move rfl rfl ?_
           refine l_split (t := 56) rfl (fun h40 => ?_) (fun h40 => ?_)
           · -- h40T
            have h40b := h40
            try simp only [decide_eq_true_eq] at h40
            refine o_yes rfl rfl rfl ?_
            refine o_fieldAddr (q := ⟨b3, 2, none⟩) rfl rfl Try.underlying53 rfl ti45 rfl ?_
            refine o_yes rfl rfl rfl ?_
            refine o_load1 rfl rfl Try.underlying45 rfl (rd_mem 0 rfl rfl) ?_
            refine o_yes rfl rfl rfl ?_
            refine o_len rfl rfl Try.underlying45 ?_
            refine o_yes rfl rfl rfl ?_
            refine o_bin rfl rfl rfl b_eql ?_
            refine o_pick_true rfl rfl rfl ?_
            refine o_assign rfl rfl ?_
            refine l_nil ?_
            refine q_then ?_
            refine c_ret ?_
            refine q_block_ret ?_
            refine q_pass_ret ?_
            refine q_conv (fun w S => S.tail) ?_
            refine q_conv (fun w S => S.tail) ?_
            exact f_ret (r_one rfl rfl) (⟨by first | exact vtrue (by unfold StepOk; grind) | exact vfalse (by unfold StepOk; grind) | exact bdec (by unfold StepOk; grind), rfl⟩) (fun w S => S)
           · -- h40F
            have h40b := h40
            try simp only [decide_eq_false_iff_not, Int.not_lt, Int.not_le] at h40
            refine o_no rfl rfl rfl rfl ?_
            refine o_no rfl rfl rfl rfl ?_
            refine o_no rfl rfl rfl rfl ?_
            refine o_no rfl rfl rfl rfl ?_
            refine o_pick_false rfl rfl rfl ?_
            refine o_assign rfl rfl ?_
            refine l_nil ?_
            refine q_then ?_
            refine c_ret ?_
            refine q_block_ret ?_
            refine q_pass_ret ?_
            refine q_conv (fun w S => S.tail) ?_
            refine q_conv (fun w S => S.tail) ?_
            exact f_ret (r_one rfl rfl) (⟨by first | exact vtrue (by unfold StepOk; grind) | exact vfalse (by unfold StepOk; grind) | exact bdec (by unfold StepOk; grind), rfl⟩) (fun w S => S)
          · -- h39F
           have h39b := h39
           try simp only [decide_eq_false_iff_not, Int.not_lt, Int.not_le] at h39
           refine c_seq ?_
           refine c_region ?_
           refine o_bin rfl rfl rfl b_eql ?_
           refine o_assign rfl rfl ?_
           refine l_nil ?_
           refine q_then ?_
           refine c_cond rfl (fun h41 => ?_) (fun h41 => ?_)
           · -- h41T
            have h41b := h41
            try simp only [decide_eq_true_eq] at h41
            refine c_seq ?_
            refine c_region ?_
            refine o_fieldAddr (q := ⟨b3, 1, none⟩) rfl rfl Try.underlying53 rfl ti9 rfl ?_
            refine o_load1 rfl rfl Try.underlying9 rfl (rd_mem 0 rfl rfl) ?_
            refine o_bin rfl rfl rfl b_seql ?_
            refine o_assign rfl rfl ?_
            refine l_nil ?_
            refine q_then ?_
            refine c_ret ?_
            refine q_block_ret ?_
            refine q_pass_ret ?_
            refine q_conv (fun w S => S.tail) ?_
            refine q_conv (fun w S => S.tail) ?_
            exact f_ret (r_one rfl rfl) (⟨by first | exact vtrue (by unfold StepOk; grind) | exact vfalse (by unfold StepOk; grind) | exact bdec (by unfold StepOk; grind), rfl⟩) (fun w S => S)
           · -- h41F
            have h41b := h41
            try simp only [decide_eq_false_iff_not, Int.not_lt, Int.not_le] at h41
            refine c_skip ?_
            refine q_block ?_
            refine q_then ?_
            refine c_seq ?_
            refine c_region ?_
            refine o_assign rfl rfl ?_
            refine l_nil ?_
            refine q_then ?_
            refine c_ret ?_
            refine q_conv (fun w S => S.tail) ?_
            refine q_conv (fun w S => S.tail) ?_
            exact f_ret (r_one rfl rfl) (⟨by first | exact vtrue (by unfold StepOk; grind) | exact vfalse (by unfold StepOk; grind) | exact bdec (by unfold StepOk; grind), rfl⟩) (fun w S => S)
         · -- h38F
          have h38b := h38
          try simp only [decide_eq_false_iff_not, Int.not_lt, Int.not_le] at h38
          refine c_region ?_
          refine o_bin rfl rfl rfl b_eql ?_
          refine o_assign rfl rfl ?_
          refine l_nil ?_
          refine q_then ?_
          refine c_cond rfl (fun h42 => ?_) (fun h42 => ?_)
          · -- h42T
           have h42b := h42
           try simp only [decide_eq_true_eq] at h42
           refine c_seq ?_
           refine c_region ?_
           refine o_move rfl rfl ?_
           refine o_move rfl rfl ?_
           refine l_split (t := 56) rfl (fun h43 => ?_) (fun h43 => ?_)
           · -- h43T
            have h43b := h43
            try simp only [decide_eq_true_eq] at h43
            refine o_yes rfl rfl rfl ?_
            refine o_fieldAddr (q := ⟨b3, 2, none⟩) rfl rfl Try.underlying53 rfl ti45 rfl ?_
            refine o_yes rfl rfl rfl ?_
            refine o_load1 rfl rfl Try.underlying45 rfl (rd_mem 0 rfl rfl) ?_
            refine o_yes rfl rfl rfl ?_
            refine o_len rfl rfl Try.underlying45 ?_
            refine o_yes rfl rfl rfl ?_
            refine o_bin rfl rfl rfl b_eql ?_
            refine o_pick_true rfl rfl rfl ?_
            refine o_assign rfl rfl ?_
            refine l_nil ?_
            refine q_then ?_
            refine c_ret ?_
            refine q_block_ret ?_
            refine q_pass_ret ?_
            refine q_conv (fun w S => S.tail) ?_
            refine q_conv (fun w S => S.tail) ?_
            exact f_ret (r_one rfl rfl) (⟨by first | exact vtrue (by unfold StepOk; grind) | exact vfalse (by unfold StepOk; grind) | exact bdec (by unfold StepOk; grind), rfl⟩) (fun w S => S)
           · -- h43F
            have h43b := h43
            try simp only [decide_eq_false_iff_not, Int.not_lt, Int.not_le] at h43
            refine o_no rfl rfl rfl rfl ?_
            refine o_no rfl rfl rfl rfl ?_
            refine o_no rfl rfl rfl rfl ?_
            refine o_no rfl rfl rfl rfl ?_
            refine o_pick_false rfl rfl rfl ?_
            refine o_assign rfl rfl ?_
            refine l_nil ?_
            refine q_then ?_
            refine c_ret ?_
            refine q_block_ret ?_
            refine q_pass_ret ?_
            refine q_conv (fun w S => S.tail) ?_
            refine q_conv (fun w S => S.tail) ?_
            exact f_ret (r_one rfl rfl) (⟨by first | exact vtrue (by unfold StepOk; grind) | exact vfalse (by unfold StepOk; grind) | exact bdec (by unfold StepOk; grind), rfl⟩) (fun w S => S)
          · -- h42F
           have h42b := h42
           try simp only [decide_eq_false_iff_not, Int.not_lt, Int.not_le] at h42
           refine c_seq ?_
           refine c_region ?_
           refine o_bin rfl rfl rfl b_eql ?_
           refine o_assign rfl rfl ?_
           refine l_nil ?_
           refine q_then ?_
           refine c_cond rfl (fun h44 => ?_) (fun h44 => ?_)
           · -- h44T
            have h44b := h44
            try simp only [decide_eq_true_eq] at h44
            refine c_seq ?_
            refine c_region ?_
            refine o_fieldAddr (q := ⟨b3, 1, none⟩) rfl rfl Try.underlying53 rfl ti9 rfl ?_
            refine o_load1 rfl rfl Try.underlying9 rfl (rd_mem 0 rfl rfl) ?_
            refine o_bin rfl rfl rfl b_seql ?_
            refine o_assign rfl rfl ?_
            refine l_nil ?_
            refine q_then ?_
            refine c_ret ?_
            refine q_block_ret ?_
            refine q_pass_ret ?_
            refine q_conv (fun w S => S.tail) ?_
            refine q_conv (fun w S => S.tail) ?_
            exact f_ret (r_one rfl rfl) (⟨by first | exact vtrue (by unfold StepOk; grind) | exact vfalse (by unfold StepOk; grind) | exact bdec (by unfold StepOk; grind), rfl⟩) (fun w S => S)
           · -- h44F
            have h44b := h44
            try simp only [decide_eq_false_iff_not, Int.not_lt, Int.not_le] at h44
            refine c_skip ?_
            refine q_block ?_
            refine q_then ?_
            refine c_seq ?_
            refine c_region ?_
            refine o_assign rfl rfl ?_
            refine l_nil ?_
            refine q_then ?_
            refine c_ret ?_
            refine q_conv (fun w S => S.tail) ?_
            refine q_conv (fun w S => S.tail) ?_
            exact f_ret (r_one rfl rfl) (⟨by first | exact vtrue (by unfold StepOk; grind) | exact vfalse (by unfold StepOk; grind) | exact bdec (by unfold StepOk; grind), rfl⟩) (fun w S => S)
  · -- h2F
   have h2b := h2
   try simp only [Bool.not_eq_false', decide_eq_true_eq] at h2
   refine o_no rfl rfl rfl rfl ?_
   refine o_no rfl rfl rfl rfl ?_
   refine o_no rfl rfl rfl rfl ?_
   refine o_yes rfl rfl rfl ?_
   refine o_pick_false rfl rfl rfl ?_
   refine o_pick_false rfl rfl rfl ?_
   refine l_nil ?_
   refine q_then ?_
   refine c_false rfl ?_
   refine c_skip ?_
   refine q_then ?_
   refine c_seq ?_
   refine c_region ?_
   refine o_fieldAddr (q := ⟨b2, 2, none⟩) rfl rfl Try.underlying30 rfl ti27 rfl ?_
   refine o_load1 rfl rfl Try.underlying27 rfl (rd_mem 1 rfl rfl) ?_
   refine o_fieldAddr (q := ⟨b3, 1, none⟩) rfl rfl Try.underlying53 rfl ti9 rfl ?_
   refine o_load1 rfl rfl Try.underlying9 rfl (rd_mem 0 rfl rfl) ?_
   refine o_call rfl cal81 rfl (contains_ (TxR.c (TxR.c T_t)).rw (by first | exact T_t.len.lr | exact T_t.len.lw | exact T_t.len.lo | omega)) ?_
   rintro _ _ ⟨rfl, rfl⟩
   refine o_assign rfl rfl ?_
   refine l_nil ?_
   refine q_then ?_
   refine c_seq ?_
   refine c_region ?_
   refine o_move rfl rfl ?_
   refine o_move rfl rfl ?_
   refine l_split (t := 27) rfl (fun h45 => ?_) (fun h45 => ?_)
   · -- h45T
    have h45b := h45
    try simp only [decide_eq_true_eq] at h45
    refine o_no rfl rfl rfl rfl ?_
    refine o_no rfl rfl rfl rfl ?_
    refine o_no rfl rfl rfl rfl ?_
    refine o_no rfl rfl rfl rfl ?_
    refine o_no rfl rfl rfl rfl ?_
    refine o_pick_true rfl rfl rfl ?_
    refine o_assign rfl rfl ?_
    refine l_nil ?_
    refine q_then ?_
    refine c_seq ?_
    refine c_seq ?_
    refine c_region ?_
    refine o_fieldAddr (q := ⟨b3, 0, none⟩) rfl rfl Try.underlying53 rfl ti3 rfl ?_
    refine o_load1 rfl rfl Try.underlying3 rfl (rd_mem 0 rfl rfl) ?_
    refine l_nil ?_
    refine q_then ?_
    refine c_block ?_
    refine c_seq ?_
    refine c_region ?_
    refine o_bin rfl rfl rfl b_eql ?_
    refine o_assign rfl rfl ?_
    refine l_nil ?_
    refine q_then ?_
    refine c_cond rfl (fun h46 => ?_) (fun h46 => ?_)
    · -- h46T
     have h46b := h46
     try simp only [decide_eq_true_eq] at h46
     refine c_seq ?_
     refine c_region ?_
     refine o_move rfl rfl ?_
     refine o_assign rfl rfl ?_
     refine l_nil ?_
     refine q_then ?_
     refine c_ret ?_
     refine q_block_ret ?_
     refine q_pass_ret ?_
     refine q_conv (fun w S => S.tail) ?_
     refine q_conv (fun w S => S.tail) ?_
     exact f_ret (r_one rfl rfl) (⟨by first | exact vtrue (by unfold StepOk; grind) | exact vfalse (by unfold StepOk; grind) | exact bdec (by unfold StepOk; grind), rfl⟩) (fun w S => S)
    · -- h46F
     have h46b := h46
     try simp only [decide_eq_false_iff_not, Int.not_lt, Int.not_le] at h46
     refine c_seq ?_
     refine c_seq ?_
     refine c_region ?_
     refine o_bin rfl rfl rfl b_eql ?_
     refine o_assign rfl rfl ?_
     refine l_nil ?_
     refine q_then ?_
     refine c_cond rfl (fun h47 => ?_) (fun h47 => ?_)
     · -- h47T
      have h47b := h47
      try simp only [decide_eq_true_eq] at h47
      refine c_skip ?_
      refine q_then ?_
      refine c_cond rfl (fun h48 => ?_) (fun h48 => ?_)
      · -- h48T
       have h48b := h48
       try simp only [decide_eq_true_eq] at h48
       refine c_seq ?_
       refine c_region ?_
       refine o_move rfl rfl ?_
       refine o_move rfl rfl ?_
       refine l_split (t := 43) rfl (fun h49 => ?_) (fun h49 => ?_)
       · -- h49T
        have h49b := h49
        try simp only [decide_eq_true_eq] at h49
        refine o_yes rfl rfl rfl ?_
        refine o_fieldAddr (q := ⟨b3, 2, none⟩) rfl rfl Try.underlying53 rfl ti45 rfl ?_
        refine o_yes rfl rfl rfl ?_
        refine o_load1 rfl rfl Try.underlying45 rfl (rd_mem 0 rfl rfl) ?_
        refine o_yes rfl rfl rfl ?_
        refine o_len rfl rfl Try.underlying45 ?_
        refine o_yes rfl rfl rfl ?_
        refine o_bin rfl rfl rfl b_eql ?_
        refine o_pick_true rfl rfl rfl ?_
        refine o_assign rfl rfl ?_
        refine l_nil ?_
        refine q_then ?_
        refine c_ret ?_
        refine q_block_ret ?_
        refine q_pass_ret ?_
        refine q_conv (fun w S => S.tail) ?_
        refine q_conv (fun w S => S.tail) ?_
        exact f_ret (r_one rfl rfl) (⟨by first | exact vtrue (by unfold StepOk; grind) | exact vfalse (by unfold StepOk; grind) | exact bdec (by unfold StepOk; grind), rfl⟩) (fun w S => S)
       · -- h49F
        have h49b := h49
        try simp only [decide_eq_false_iff_not, Int.not_lt, Int.not_le] at h49
        refine o_no rfl rfl rfl rfl ?_
        refine o_no rfl rfl rfl rfl ?_
        refine o_no rfl rfl rfl rfl ?_
        refine o_no rfl rfl rfl rfl ?_
        refine o_pick_false rfl rfl rfl ?_
        refine o_assign rfl rfl ?_
        refine l_nil ?_
        refine q_then ?_
        refine c_ret ?_
        refine q_block_ret ?_
        refine q_pass_ret ?_
        refine q_conv (fun w S => S.tail) ?_
        refine q_conv (fun w S => S.tail) ?_
        exact f_ret (r_one rfl rfl) (⟨by first | exact vtrue (by unfold StepOk; grind) | exact vfalse (by unfold StepOk; grind) | exact bdec (by unfold StepOk; grind), rfl⟩) (fun w S => S)
      · -- h48F
       have h48b := h48
       try simp only [decide_eq_false_iff_not, Int.not_lt, Int.not_le] at h48
       refine c_seq ?_
       refine c_region ?_
       refine o_bin rfl rfl rfl b_eql ?_
       refine o_assign rfl rfl ?_
       refine l_nil ?_
       refine q_then ?_
       refine c_cond rfl (fun h50 => ?_) (fun h50 => ?_)
       · -- h50T
        have h50b := h50
        try simp only [decide_eq_true_eq] at h50
        refine c_seq ?_
        refine c_region ?_
        refine o_move rfl rfl ?_
        refine o_assign rfl rfl ?_
        refine l_nil ?_
        refine q_then ?_
        refine c_ret ?_
        refine q_block_ret ?_
        refine q_pass_ret ?_
        refine q_conv (fun w S => S.tail) ?_
        refine q_conv (fun w S => S.tail) ?_
        exact f_ret (r_one rfl rfl) (⟨by first | exact vtrue (by unfold StepOk; grind) | exact vfalse (by unfold StepOk; grind) | exact bdec (by unfold StepOk; grind), rfl⟩) (fun w S => S)
       · -- h50F
        have h50b := h50
        try simp only [decide_eq_false_iff_not, Int.not_lt, Int.not_le] at h50
        refine c_seq ?_
        refine c_seq ?_
        refine c_region ?_
        refine o_bin rfl rfl rfl b_eql ?_
        refine o_assign rfl rfl ?_
        refine l_nil ?_
        refine q_then ?_
        refine c_cond rfl (fun h51 => ?_) (fun h51 => ?_)
        · -- h51T
         have h51b := h51
         try simp only [decide_eq_true_eq] at h51
         refine c_skip ?_
         refine q_then ?_
         refine c_cond rfl (fun h52 => ?_) (fun h52 => ?_)
         · -- h52T
          have h52b := h52
          try simp only [decide_eq_true_eq] at h52
          refine c_seq ?_
          refine c_region ?_
          refine o_move rfl rfl ?_
          refine o_move rfl rfl ?_
          refine o_yes rfl rfl rfl ?_
          refine o_fieldAddr (q := ⟨b3, 2, none⟩) rfl rfl Try.underlying53 rfl ti45 rfl ?_
          refine o_yes rfl rfl rfl ?_
          refine o_load1 rfl rfl Try.underlying45 rfl (rd_mem 0 rfl rfl) ?_
          refine o_yes rfl rfl rfl ?_
          refine o_len rfl rfl Try.underlying45 ?_
          refine o_yes rfl rfl rfl ?_
          refine o_bin rfl rfl rfl b_eql ?_
          refine o_pick_true rfl rfl rfl ?_
          refine o_assign rfl rfl ?_
          refine l_nil ?_
          refine q_then ?_
          refine c_ret ?_
          refine q_block_ret ?_
          refine q_pass_ret ?_
          refine q_conv (fun w S => S.tail) ?_
          refine q_conv (fun w S => S.tail) ?_
          exact f_ret (r_one rfl rfl) (⟨by first | exact vtrue (by unfold StepOk; grind) | exact vfalse (by unfold StepOk; grind) | exact bdec (by unfold StepOk; grind), rfl⟩) (fun w S => S)
         · -- h52F
          have h52b := h52
          try simp only [decide_eq_false_iff_not, Int.not_lt, Int.not_le] at h52
          refine c_seq ?_
          refine c_region ?_
          refine o_bin rfl rfl rfl b_eql ?_
          refine o_assign rfl rfl ?_
          refine l_nil ?_
          refine q_then ?_
          refine c_cond rfl (fun h53 => ?_) (fun h53 => ?_)
          · -- h53T
           have h53b := h53
           try simp only [decide_eq_true_eq] at h53
           refine c_seq ?_
           refine c_region ?_
           refine o_fieldAddr (q := ⟨b3, 1, none⟩) rfl rfl Try.underlying53 rfl ti9 rfl ?_
           refine o_load1 rfl rfl Try.underlying9 rfl (rd_mem 0 rfl rfl) ?_
           refine o_bin rfl rfl rfl b_seql ?_
           refine o_assign rfl rfl ?_
           refine l_nil ?_
           refine q_then ?_
           refine c_ret ?_
           refine q_block_ret ?_
           refine q_pass_ret ?_
           refine q_conv (fun w S => S.tail) ?_
           refine q_conv (fun w S => S.tail) ?_
           exact f_ret (r_one rfl rfl) (⟨by first | exact vtrue (by unfold StepOk; grind) | exact vfalse (by unfold StepOk; grind) | exact bdec (by unfold StepOk; grind), rfl⟩) (fun w S => S)
          · -- h53F
           have h53b := h53
           try simp only [decide_eq_false_iff_not, Int.not_lt, Int.not_le] at h53
           refine c_skip ?_
           refine q_block ?_
           refine q_then ?_
           refine c_seq ?_
           refine c_region ?_
           refine o_assign rfl rfl ?_
           refine l_nil ?_
           refine q_then ?_
           refine c_ret ?_
           refine q_conv (fun w S => S.tail) ?_
           refine q_conv (fun w S => S.tail) ?_
           exact f_ret (r_one rfl rfl) (⟨by first | exact vtrue (by unfold StepOk; grind) | exact vfalse (by unfold StepOk; grind) | exact bdec (by unfold StepOk; grind), rfl⟩) (fun w S => S)
        · -- h51F
         have h51b := h51
         try simp only [decide_eq_false_iff_not, Int.not_lt, Int.not_le] at h51
         refine c_region ?_
         refine o_bin rfl rfl rfl b_eql ?_
         refine o_assign rfl rfl ?_
         refine l_nil ?_
         refine q_then ?_
         refine c_cond rfl (fun h54 => ?_) (fun h54 => ?_)
         · -- h54T
          have h54b := h54
          try simp only [decide_eq_true_eq] at h54
          refine c_seq ?_
          refine c_region ?_
          refine o_move rfl rfl ?_
          refine o_move rfl rfl ?_
          refine o_yes rfl rfl rfl ?_
          refine o_fieldAddr (q := ⟨b3, 2, none⟩) rfl rfl Try.underlying53 rfl ti45 rfl ?_
          refine o_yes rfl rfl rfl ?_
          refine o_load1 rfl rfl Try.underlying45 rfl (rd_mem 0 rfl rfl) ?_
          refine o_yes rfl rfl rfl ?_
          refine o_len rfl rfl Try.underlying45 ?_
          refine o_yes rfl rfl rfl ?_
          refine o_bin rfl rfl rfl b_eql ?_
          refine o_pick_true rfl rfl rfl ?_
          refine o_assign rfl rfl ?_
          refine l_nil ?_
          refine q_then ?_
          refine c_ret ?_
          refine q_block_ret ?_
          refine q_pass_ret ?_
          refine q_conv (fun w S => S.tail) ?_
          refine q_conv (fun w S => S.tail) ?_
          exact f_ret (r_one rfl rfl) (⟨by first | exact vtrue (by unfold StepOk; grind) | exact vfalse (by unfold StepOk; grind) | exact bdec (by unfold StepOk; grind), rfl⟩) (fun w S => S)
         · -- h54F
          have h54b := h54
          try simp only [decide_eq_false_iff_not, Int.not_lt, Int.not_le] at h54
          refine c_seq ?_
          refine c_region ?_
          refine o_bin rfl rfl rfl b_eql ?_
          refine o_assign rfl rfl ?_
          refine l_nil ?_
          refine q_then ?_
          refine c_cond rfl (fun h55 => ?_) (fun h55 => ?_)
          · -- h55T
           have h55b := h55
           try simp only [decide_eq_true_eq] at h55
           refine c_seq ?_
           refine c_region ?_
           refine o_fieldAddr (q := ⟨b3, 1, none⟩) rfl rfl Try.underlying53 rfl ti9 rfl ?_
           refine o_load1 rfl rfl Try.underlying9 rfl (rd_mem 0 rfl rfl) ?_
           refine o_bin rfl rfl rfl b_seql ?_
           refine o_assign rfl rfl ?_
           refine l_nil ?_
           refine q_then ?_
           refine c_ret ?_
           refine q_block_ret ?_
           refine q_pass_ret ?_
           refine q_conv (fun w S => S.tail) ?_
           refine q_conv (fun w S => S.tail) ?_
           exact f_ret (r_one rfl rfl) (⟨by first | exact vtrue (by unfold StepOk; grind) | exact vfalse (by unfold StepOk; grind) | exact bdec (by unfold StepOk; grind), rfl⟩) (fun w S => S)
          · -- h55F
           have h55b := h55
           try simp only [decide_eq_false_iff_not, Int.not_lt, Int.not_le] at h55
           refine c_skip ?_
           refine q_block ?_
           refine q_then ?_
           refine c_seq ?_
           refine c_region ?_
           refine o_assign rfl rfl ?_
           refine l_nil ?_
           refine q_then ?_
           refine c_ret ?_
           refine q_conv (fun w S => S.tail) ?_
           refine q_conv (fun w S => S.tail) ?_
           exact f_ret (r_one rfl rfl) (⟨by first | exact vtrue (by unfold StepOk; grind) | exact vfalse (by unfold StepOk; grind) | exact bdec (by unfold StepOk; grind), rfl⟩) (fun w S => S)
     · -- h47F
      have h47b := h47
      try simp only [decide_eq_false_iff_not, Int.not_lt, Int.not_le] at h47
      refine c_region ?_
      refine o_bin rfl rfl rfl b_eql ?_
      refine o_assign rfl rfl ?_
      refine l_nil ?_
      refine q_then ?_
      refine c_cond rfl (fun h56 => ?_) (fun h56 => ?_)
      · -- h56T
       have h56b := h56
       try simp only [decide_eq_true_eq] at h56
       refine c_seq ?_
       refine c_region ?_
       refine o_move rfl rfl ?_
       refine o_move rfl rfl ?_
       refine l_split (t := 43) rfl (fun h57 => ?_) (fun h57 => ?_)
       · -- h57T
        have h57b := h57
        try simp only [decide_eq_true_eq] at h57
        refine o_yes rfl rfl rfl ?_
        refine o_fieldAddr (q := ⟨b3, 2, none⟩) rfl rfl Try.underlying53 rfl ti45 rfl ?_
        refine o_yes rfl rfl rfl ?_
        refine o_load1 rfl rfl Try.underlying45 rfl (rd_mem 0 rfl rfl) ?_
        refine o_yes rfl rfl rfl ?_
        refine o_len rfl rfl Try.underlying45 ?_
        refine o_yes rfl rfl rfl ?_
        refine o_bin rfl rfl rfl b_eql ?_
        refine o_pick_true rfl rfl rfl ?_
        refine o_assign rfl rfl ?_
        refine l_nil ?_
        refine q_then ?_
        refine c_ret ?_
        refine q_block_ret ?_
        refine q_pass_ret ?_
        refine q_conv (fun w S => S.tail) ?_
        refine q_conv (fun w S => S.tail) ?_
        exact f_ret (r_one rfl rfl) (⟨by first | exact vtrue (by unfold StepOk; grind) | exact vfalse (by unfold StepOk; grind) | exact bdec (by unfold StepOk; grind), rfl⟩) (fun w S => S)
       · -- h57F
        have h57b := h57
        try simp only [decide_eq_false_iff_not, Int.not_lt, Int.not_le] at h57
        refine o_no rfl rfl rfl rfl ?_
        refine o_no rfl rfl rfl rfl ?_
        refine o_no rfl rfl rfl rfl ?_
        refine o_no rfl rfl rfl rfl ?_
        refine o_pick_false rfl rfl rfl ?_
        refine o_assign rfl rfl ?_
        refine l_nil ?_
        refine q_then ?_
        refine c_ret ?_
        refine q_block_ret ?_
        refine q_pass_ret ?_
        refine q_conv (fun w S => S.tail) ?_
        refine q_conv (fun w S => S.tail) ?_
        exact f_ret (r_one rfl rfl) (⟨by first | exact vtrue (by unfold StepOk; grind) | exact vfalse (by unfold StepOk; grind) | exact bdec (by unfold StepOk; grind), rfl⟩) (fun w S => S)
      · -- h56F
       have h56b := h56
       try simp only [decide_eq_false_iff_not, Int.not_lt, Int.not_le] at h56
       refine c_seq ?_
       refine c_region ?_
       refine o_bin rfl rfl rfl b_eql ?_
       refine o_assign rfl rfl ?_
       refine l_nil ?_
       refine q_then ?_
       refine c_cond rfl (fun h58 => ?_) (fun h58 => ?_)
       · -- h58T
        have h58b := h58
        try simp only [decide_eq_true_eq] at h58
        refine c_seq ?_
        refine c_region ?_
        refine o_move rfl rfl ?_
        refine o_assign rfl rfl ?_
        refine l_nil ?_
        refine q_then ?_
        refine c_ret ?_
        refine q_block_ret ?_
        refine q_pass_ret ?_
        refine q_conv (fun w S => S.tail) ?_
        refine q_conv (fun w S => S.tail) ?_
        exact f_ret (r_one rfl rfl) (⟨by first | exact vtrue (by unfold StepOk; grind) | exact vfalse (by unfold StepOk; grind) | exact bdec (by unfold StepOk; grind), rfl⟩) (fun w S => S)
       · -- h58F
        have h58b := h58
        try simp only [decide_eq_false_iff_not, Int.not_lt, Int.not_le] at h58
        refine c_seq ?_
        refine c_seq ?_
        refine c_region ?_
        refine o_bin rfl rfl rfl b_eql ?_
        refine o_assign rfl rfl ?_
        refine l_nil ?_
        refine q_then ?_
        refine c_cond rfl (fun h59 => ?_) (fun h59 => ?_)
        · -- h59T
         have h59b := h59
         try simp only [decide_eq_true_eq] at h59
         refine c_skip ?_
         refine q_then ?_
         refine c_cond rfl (fun h60 => ?_) (fun h60 => ?_)
         · -- h60T
          have h60b := h60
          try simp only [decide_eq_true_eq] at h60
          refine c_seq ?_
          refine c_region ?_
          refine o_move rfl rfl ?_
          refine o_move rfl rfl ?_
          refine o_yes rfl rfl rfl ?_
          refine o_fieldAddr (q := ⟨b3, 2, none⟩) rfl rfl Try.underlying53 rfl ti45 rfl ?_
          refine o_yes rfl rfl rfl ?_
          refine o_load1 rfl rfl Try.underlying45 rfl (rd_mem 0 rfl rfl) ?_
          refine o_yes rfl rfl rfl ?_
          refine o_len rfl rfl Try.underlying45 ?_
          refine o_yes rfl rfl rfl ?_
          refine o_bin rfl rfl rfl b_eql ?_
          refine o_pick_true rfl rfl rfl ?_
          refine o_assign rfl rfl ?_
          refine l_nil ?_
          refine q_then ?_
          refine c_ret ?_
          refine q_block_ret ?_
          refine q_pass_ret ?_
          refine q_conv (fun w S => S.tail) ?_
          refine q_conv (fun w S => S.tail) ?_
          exact f_ret (r_one rfl rfl) (⟨by first | exact vtrue (by unfold StepOk; grind) | exact vfalse (by unfold StepOk; grind) | exact bdec (by unfold StepOk; grind), rfl⟩) (fun w S => S)
         · -- h60F
          have h60b := h60
          try simp only [decide_eq_false_iff_not, Int.not_lt, Int.not_le] at h60
          refine c_seq ?_
          refine c_region ?_
          refine o_bin rfl rfl rfl b_eql ?_
          refine o_assign rfl rfl ?_
          refine l_nil ?_
          refine q_then ?_
          refine c_cond rfl (fun h61 => ?_) (fun h61 => ?_)
          · -- h61T
           have h61b := h61
           try simp only [decide_eq_true_eq] at h61
           refine c_seq ?_
           refine c_region ?_
           refine o_fieldAddr (q := ⟨b3, 1, none⟩) rfl rfl Try.underlying53 rfl ti9 rfl ?_
           refine o_load1 rfl rfl Try.underlying9 rfl (rd_mem 0 rfl rfl) ?_
           refine o_bin rfl rfl rfl b_seql ?_
           refine o_assign rfl rfl ?_
           refine l_nil ?_
           refine q_then ?_
           refine c_ret ?_
           refine q_block_ret ?_
           refine q_pass_ret ?_
           refine q_conv (fun w S => S.tail) ?_
           refine q_conv (fun w S => S.tail) ?_
           exact f_ret (r_one rfl rfl) (⟨by first | exact vtrue (by unfold StepOk; grind) | exact vfalse (by unfold StepOk; grind) | exact bdec (by unfold StepOk; grind), rfl⟩) (fun w S => S)
          · -- h61F
           have h61b := h61
           try simp only [decide_eq_false_iff_not, Int.not_lt, Int.not_le] at h61
           refine c_skip ?_
           refine q_block ?_
           refine q_then ?_
           refine c_seq ?_
           refine c_region ?_
           refine o_assign rfl rfl ?_
           refine l_nil ?_
           refine q_then ?_
           refine c_ret ?_
           refine q_conv (fun w S => S.tail) ?_
           refine q_conv (fun w S => S.tail) ?_
           exact f_ret (r_one rfl rfl) (⟨by first | exact vtrue (by unfold StepOk; grind) | exact vfalse (by unfold StepOk; grind) | exact bdec (by unfold StepOk; grind), rfl⟩) (fun w S => S)
        · -- h59F
         have h59b := h59
         try simp only [decide_eq_false_iff_not, Int.not_lt, Int.not_le] at h59
         refine c_region ?_
         refine o_bin rfl rfl rfl b_eql ?_
         refine o_assign rfl rfl ?_
         refine l_nil ?_
         refine q_then ?_
         refine c_cond rfl (fun h62 => ?_) (fun h62 => ?_)
         · -- h62T
          have h62b := h62
          try simp only [decide_eq_true_eq] at h62
          refine c_seq ?_
          refine c_region ?_
          refine o_move rfl rfl ?_
          refine o_move rfl rfl ?_
          refine o_yes rfl rfl rfl ?_
          refine o_fieldAddr (q := ⟨b3, 2, none⟩) rfl rfl Try.underlying53 rfl ti45 rfl ?_
          refine o_yes rfl rfl rfl ?_
          refine o_load1 rfl rfl Try.underlying45 rfl (rd_mem 0 rfl rfl) ?_
          refine o_yes rfl rfl rfl ?_
          refine o_len rfl rfl Try.underlying45 ?_
          refine o_yes rfl rfl rfl ?_
          refine o_bin rfl rfl rfl b_eql ?_
          refine o_pick_true rfl rfl rfl ?_
          refine o_assign rfl rfl ?_
          refine l_nil ?_
          refine q_then ?_
          refine c_ret ?_
          refine q_block_ret ?_
          refine q_pass_ret ?_
          refine q_conv (fun w S => S.tail) ?_
          refine q_conv (fun w S => S.tail) ?_
          exact f_ret (r_one rfl rfl) (⟨by first | exact vtrue (by unfold StepOk; grind) | exact vfalse (by unfold StepOk; grind) | exact bdec (by unfold StepOk; grind), rfl⟩) (fun w S => S)
         · -- h62F
          have h62b := h62
          try simp only [decide_eq_false_iff_not, Int.not_lt, Int.not_le] at h62
          refine c_seq ?_
          refine c_region ?_
          refine o_bin rfl rfl rfl b_eql ?_
          refine o_assign rfl rfl ?_
          refine l_nil ?_
          refine q_then ?_
          refine c_cond rfl (fun h63 => ?_) (fun h63 => ?_)
          · -- h63T
           have h63b := h63
           try simp only [decide_eq_true_eq] at h63
           refine c_seq ?_
           refine c_region ?_
           refine o_fieldAddr (q := ⟨b3, 1, none⟩) rfl rfl Try.underlying53 rfl ti9 rfl ?_
           refine o_load1 rfl rfl Try.underlying9 rfl (rd_mem 0 rfl rfl) ?_
           refine o_bin rfl rfl rfl b_seql ?_
           refine o_assign rfl rfl ?_
           refine l_nil ?_
           refine q_then ?_
           refine c_ret ?_
           refine q_block_ret ?_
           refine q_pass_ret ?_
           refine q_conv (fun w S => S.tail) ?_
           refine q_conv (fun w S => S.tail) ?_
           exact f_ret (r_one rfl rfl) (⟨by first | exact vtrue (by unfold StepOk; grind) | exact vfalse (by unfold StepOk; grind) | exact bdec (by unfold StepOk; grind), rfl⟩) (fun w S => S)
          · -- h63F
           have h63b := h63
           try simp only [decide_eq_false_iff_not, Int.not_lt, Int.not_le] at h63
           refine c_skip ?_
           refine q_block ?_
           refine q_then ?_
           refine c_seq ?_
           refine c_region ?_
           refine o_assign rfl rfl ?_
           refine l_nil ?_
           refine q_then ?_
           refine c_ret ?_
           refine q_conv (fun w S => S.tail) ?_
           refine q_conv (fun w S => S.tail) ?_
           exact f_ret (r_one rfl rfl) (⟨by first | exact vtrue (by unfold StepOk; grind) | exact vfalse (by unfold StepOk; grind) | exact bdec (by unfold StepOk; grind), rfl⟩) (fun w S => S)
   · -- h45F
    have h45b := h45
    try simp only [decide_eq_false_iff_not, Int.not_lt, Int.not_le] at h45
    refine o_yes rfl rfl rfl ?_
    refine o_fieldAddr (q := ⟨b2, 1, none⟩) rfl rfl Try.underlying30 rfl ti27 rfl ?_
    refine o_yes rfl rfl rfl ?_
    refine o_load1 rfl rfl Try.underlying27 rfl (rd_mem 1 rfl rfl) ?_
    refine o_yes rfl rfl rfl ?_
    refine o_fieldAddr (q := ⟨b3, 1, none⟩) rfl rfl Try.underlying53 rfl ti9 rfl ?_
    refine o_yes rfl rfl rfl ?_
    refine o_load1 rfl rfl Try.underlying9 rfl (rd_mem 0 rfl rfl) ?_
    refine o_yes rfl rfl rfl ?_
    refine o_call rfl cal81 rfl (contains_ (TxR.c (TxR.c T_t)).rr (by first | exact T_t.len.lr | exact T_t.len.lw | exact T_t.len.lo | omega)) ?_
    rintro _ _ ⟨rfl, rfl⟩
    refine o_pick_false rfl rfl rfl ?_
    refine o_assign rfl rfl ?_
    refine l_nil ?_
    refine q_then ?_
    refine c_seq ?_
    refine c_seq ?_
    refine c_region ?_
    refine o_fieldAddr (q := ⟨b3, 0, none⟩) rfl rfl Try.underlying53 rfl ti3 rfl ?_
    refine o_load1 rfl rfl Try.underlying3 rfl (rd_mem 0 rfl rfl) ?_
    refine l_nil ?_
    refine q_then ?_
    refine c_block ?_
    refine c_seq ?_
    refine c_region ?_
    refine o_bin rfl rfl rfl b_eql ?_
    refine o_assign rfl rfl ?_
    refine l_nil ?_
    refine q_then ?_
    refine c_cond rfl (fun h64 => ?_) (fun h64 => ?_)
    · -- h64T
     have h64b := h64
     try simp only [decide_eq_true_eq] at h64
     refine c_seq ?_
     refine c_region ?_
     refine o_move rfl rfl ?_
     refine o_assign rfl rfl ?_
     refine l_nil ?_
     refine q_then ?_
     refine c_ret ?_
     refine q_block_ret ?_
     refine q_pass_ret ?_
     refine q_conv (fun w S => S.tail) ?_
     refine q_conv (fun w S => S.tail) ?_
     exact f_ret (r_one rfl rfl) (⟨by first | exact vtrue (by unfold StepOk; grind) | exact vfalse (by unfold StepOk; grind) | exact bdec (by unfold StepOk; grind), rfl⟩) (fun w S => S)
    · -- h64F
     have h64b := h64
     try simp only [decide_eq_false_iff_not, Int.not_lt, Int.not_le] at h64
     refine c_seq ?_
     refine c_seq ?_
     refine c_region ?_
     refine o_bin rfl rfl rfl b_eql ?_
     refine o_assign rfl rfl ?_
     refine l_nil ?_
     refine q_then ?_
     refine c_cond rfl (fun h65 => ?_) (fun h65 => ?_)
     · -- h65T
      have h65b := h65
      try simp only [decide_eq_true_eq] at h65
      refine c_skip ?_
      refine q_then ?_
      refine c_cond rfl (fun h66 => ?_) (fun h66 => ?_)
      · -- h66T
       have h66b := h66
       try simp only [decide_eq_true_eq] at h66
       refine c_seq ?_
       refine c_region ?_
       refine o_move rfl rfl ?_
       refine o_move rfl rfl ?_
       refine l_split (t := 43) rfl (fun h67 => ?_) (fun h67 => ?_)
       · -- h67T
        have h67b := h67
        try simp only [decide_eq_true_eq] at h67
        refine o_yes rfl rfl rfl ?_
        refine o_fieldAddr (q := ⟨b3, 2, none⟩) rfl rfl Try.underlying53 rfl ti45 rfl ?_
        refine o_yes rfl rfl rfl ?_
        refine o_load1 rfl rfl Try.underlying45 rfl (rd_mem 0 rfl rfl) ?_
        refine o_yes rfl rfl rfl ?_
        refine o_len rfl rfl Try.underlying45 ?_
        refine o_yes rfl rfl rfl ?_
        refine o_bin rfl rfl rfl b_eql ?_
        refine o_pick_true rfl rfl rfl ?_
        refine o_assign rfl rfl ?_
        refine l_nil ?_
        refine q_then ?_
        refine c_ret ?_
        refine q_block_ret ?_
        refine q_pass_ret ?_
        refine q_conv (fun w S => S.tail) ?_
        refine q_conv (fun w S => S.tail) ?_
        exact f_ret (r_one rfl rfl) (⟨by first | exact vtrue (by unfold StepOk; grind) | exact vfalse (by unfold StepOk; grind) | exact bdec (by unfold StepOk; grind), rfl⟩) (fun w S => S)
       · -- h67F
        have h67b := h67
        try simp only [decide_eq_false_iff_not, Int.not_lt, Int.not_le] at h67
        refine o_no rfl rfl rfl rfl ?_
        refine o_no rfl rfl rfl rfl ?_
        refine o_no rfl rfl rfl rfl ?_
        refine o_no rfl rfl rfl rfl ?_
        refine o_pick_false rfl rfl rfl ?_
        refine o_assign rfl rfl ?_
        refine l_nil ?_
        refine q_then ?_
        refine c_ret ?_
        refine q_block_ret ?_
        refine q_pass_ret ?_
        refine q_conv (fun w S => S.tail) ?_
        refine q_conv (fun w S => S.tail) ?_
        exact f_ret (r_one rfl rfl) (⟨by first | exact vtrue (by unfold StepOk; grind) | exact vfalse (by unfold StepOk; grind) | exact bdec (by unfold StepOk; grind), rfl⟩) (fun w S => S)
      · -- h66F
       have h66b := h66
       try simp only [decide_eq_false_iff_not, Int.not_lt, Int.not_le] at h66
       refine c_seq ?_
       refine c_region ?_
       refine o_bin rfl rfl rfl b_eql ?_
       refine o_assign rfl rfl ?_
       refine l_nil ?_
       refine q_then ?_
       refine c_cond rfl (fun h68 => ?_) (fun h68 => ?_)
       · -- h68T
        have h68b := h68
        try simp only [decide_eq_true_eq] at h68
        refine c_seq ?_
        refine c_region ?_
        refine o_move rfl rfl ?_
        refine o_assign rfl rfl ?_
        refine l_nil ?_
        refine q_then ?_
        refine c_ret ?_
        refine q_block_ret ?_
        refine q_pass_ret ?_
        refine q_conv (fun w S => S.tail) ?_
        refine q_conv (fun w S => S.tail) ?_
        exact f_ret (r_one rfl rfl) (⟨by first | exact vtrue (by unfold StepOk; grind) | exact vfalse (by unfold StepOk; grind) | exact bdec (by unfold StepOk; grind), rfl⟩) (fun w S => S)
       · -- h68F
        have h68b := h68
        try simp only [decide_eq_false_iff_not, Int.not_lt, Int.not_le] at h68
        refine c_seq ?_
        refine c_seq ?_
        refine c_region ?_
        refine o_bin rfl rfl rfl b_eql ?_
        refine o_assign rfl rfl ?_
        refine l_nil ?_
        refine q_then ?_
        refine c_cond rfl (fun h69 => ?_) (fun h69 => ?_)
        · -- h69T
         have h69b := h69
         try simp only [decide_eq_true_eq] at h69
         refine c_skip ?_
         refine q_then ?_
         refine c_cond rfl (fun h70 => ?_) (fun h70 => ?_)
         · -- h70T
          have h70b := h70
          try simp only [decide_eq_true_eq] at h70
          refine c_seq ?_
          refine c_region ?_
          refine o_move rfl rfl ?_
          refine o_move rfl rfl ?_
          refine l_split (t := 56) rfl (fun h71 => ?_) (fun h71 => ?_)
          · -- h71T
           have h71b := h71
           try simp only [decide_eq_true_eq] at h71
           refine o_yes rfl rfl rfl ?_
           refine o_fieldAddr (q := ⟨b3, 2, none⟩) rfl rfl Try.underlying53 rfl ti45 rfl ?_
           refine o_yes rfl rfl rfl ?_
           refine o_load1 rfl rfl Try.underlying45 rfl (rd_mem 0 rfl rfl) ?_
           refine o_yes rfl rfl rfl ?_
           refine o_len rfl rfl Try.underlying45 ?_
           refine o_yes rfl rfl rfl ?_
           refine o_bin rfl rfl rfl b_eql ?_
           refine o_pick_true rfl rfl rfl ?_
           refine o_assign rfl rfl ?_
           refine l_nil ?_
           refine q_then ?_
           refine c_ret ?_
           refine q_block_ret ?_
           refine q_pass_ret ?_
           refine q_conv (fun w S => S.tail) ?_
           refine q_conv (fun w S => S.tail) ?_
           exact f_ret (r_one rfl rfl) (⟨by first | exact vtrue (by unfold StepOk; grind) | exact vfalse (by unfold StepOk; grind) | exact bdec (by unfold StepOk; grind), rfl⟩) (fun w S => S)
          · -- h71F
           have h71b := h71
           try simp only [decide_eq_false_iff_not, Int.not_lt, Int.not_le] at h71
           refine o_no rfl rfl rfl rfl ?_
           refine o_no rfl rfl rfl rfl ?_
           refine o_no rfl rfl rfl rfl ?_
           refine o_no rfl rfl rfl rfl ?_
           refine o_pick_false rfl rfl rfl ?_
           refine o_assign rfl rfl ?_
           refine l_nil ?_
           refine q_then ?_
           refine c_ret ?_
           refine q_block_ret ?_
           refine q_pass_ret ?_
           refine q_conv (fun w S => S.tail) ?_
           refine q_conv (fun w S => S.tail) ?_
           exact f_ret (r_one rfl rfl) (⟨by first | exact vtrue (by unfold StepOk; grind) | exact vfalse (by unfold StepOk; grind) | exact bdec (by unfold StepOk; grind), rfl⟩) (fun w S => S)
         · -- h70F
          have h70b := h70
          try simp only [decide_eq_false_iff_not, Int.not_lt, Int.not_le] at h70
          refine c_seq ?_
          refine c_region ?_
          refine o_bin rfl rfl rfl b_eql ?_
          refine o_assign rfl rfl ?_
          refine l_nil ?_
          refine q_then ?_
          refine c_cond rfl (fun h72 => ?_) (fun h72 => ?_)
          · -- h72T
           have h72b := h72
           try simp only [decide_eq_true_eq] at h72
           refine c_seq ?_
           refine c_region ?_
           refine o_fieldAddr (q := ⟨b3, 1, none⟩) rfl rfl Try.underlying53 rfl ti9 rfl ?_
           refine o_load1 rfl rfl Try.underlying9 rfl (rd_mem 0 rfl rfl) ?_
           refine o_bin rfl rfl rfl b_seql ?_
           refine o_assign rfl rfl ?_
           refine l_nil ?_
           refine q_then ?_
           refine c_ret ?_
           refine q_block_ret ?_
           refine q_pass_ret ?_
           refine q_conv (fun w S => S.tail) ?_
           refine q_conv (fun w S => S.tail) ?_
           exact f_ret (r_one rfl rfl) (⟨by first | exact vtrue (by unfold StepOk; grind) | exact vfalse (by unfold StepOk; grind) | exact bdec (by unfold StepOk; grind), rfl⟩) (fun w S => S)
          · -- h72F
           have h72b := h72
           try simp only [decide_eq_false_iff_not, Int.not_lt, Int.not_le] at h72
           refine c_skip ?_
           refine q_block ?_
           refine q_then ?_
           refine c_seq ?_
           refine c_region ?_
           refine o_assign rfl rfl ?_
           refine l_nil ?_
           refine q_then ?_
           refine c_ret ?_
           refine q_conv (fun w S => S.tail) ?_
           refine q_conv (fun w S => S.tail) ?_
           exact f_ret (r_one rfl rfl) (⟨by first | exact vtrue (by unfold StepOk; grind) | exact vfalse (by unfold StepOk; grind) | exact bdec (by unfold StepOk; grind), rfl⟩) (fun w S => S)
        · -- h69F
         have h69b := h69
         try simp only [decide_eq_false_iff_not, Int.not_lt, Int.not_le] at h69
         refine c_region ?_
         refine o_bin rfl rfl rfl b_eql ?_
         refine o_assign rfl rfl ?_
         refine l_nil ?_
         refine q_then ?_
         refine c_cond rfl (fun h73 => ?_) (fun h73 => ?_)
         · -- h73T
          have h73b := h73
          try simp only [decide_eq_true_eq] at h73
          refine c_seq ?_
          refine c_region ?_
          refine o_move rfl rfl ?_
          refine o_move rfl rfl ?_
          refine l_split (t := 56) rfl (fun h74 => ?_) (fun h74 => ?_)
          · -- h74T
           have h74b := h74
           try simp only [decide_eq_true_eq] at h74
           refine o_yes rfl rfl rfl ?_
           refine o_fieldAddr (q := ⟨b3, 2, none⟩) rfl rfl Try.underlying53 rfl ti45 rfl ?_
           refine o_yes rfl rfl rfl ?_
           refine o_load1 rfl rfl Try.underlying45 rfl (rd_mem 0 rfl rfl) ?_
           refine o_yes rfl rfl rfl ?_
           refine o_len rfl rfl Try.underlying45 ?_
           refine o_yes rfl rfl rfl ?_
           refine o_bin rfl rfl rfl b_eql ?_
           refine o_pick_true rfl rfl rfl ?_
           refine o_assign rfl rfl ?_
           refine l_nil ?_
           refine q_then ?_
           refine c_ret ?_
           refine q_block_ret ?_
           refine q_pass_ret ?_
           refine q_conv (fun w S => S.tail) ?_
           refine q_conv (fun w S => S.tail) ?_
           exact f_ret (r_one rfl rfl) (⟨by first | exact vtrue (by unfold StepOk; grind) | exact vfalse (by unfold StepOk; grind) | exact bdec (by unfold StepOk; grind), rfl⟩) (fun w S => S)
          · -- h74F
           have h74b := h74
           try simp only [decide_eq_false_iff_not, Int.not_lt, Int.not_le] at h74
           refine o_no rfl rfl rfl rfl ?_
           refine o_no rfl rfl rfl rfl ?_
           refine o_no rfl rfl rfl rfl ?_
           refine o_no rfl rfl rfl rfl ?_
           refine o_pick_false rfl rfl rfl ?_
           refine o_assign rfl rfl ?_
           refine l_nil ?_
           refine q_then ?_
           refine c_ret ?_
           refine q_block_ret ?_
           refine q_pass_ret ?_
           refine q_conv (fun w S => S.tail) ?_
           refine q_conv (fun w S => S.tail) ?_
           exact f_ret (r_one rfl rfl) (⟨by first | exact vtrue (by unfold StepOk; grind) | exact vfalse (by unfold StepOk; grind) | exact bdec (by unfold StepOk; grind), rfl⟩) (fun w S => S)
         · -- h73F
          have h73b := h73
          try simp only [decide_eq_false_iff_not, Int.not_lt, Int.not_le] at h73
          refine c_seq ?_
          refine c_region ?_
          refine o_bin rfl rfl rfl b_eql ?_
          refine o_assign rfl rfl ?_
          refine l_nil ?_
          refine q_then ?_
          refine c_cond rfl (fun h75 => ?_) (fun h75 => ?_)
          · -- h75T
           have h75b := h75
           try simp only [decide_eq_true_eq] at h75
           refine c_seq ?_
           refine c_region ?_
           refine o_fieldAddr (q := ⟨b3, 1, none⟩) rfl rfl Try.underlying53 rfl ti9 rfl ?_
           refine o_load1 rfl rfl Try.underlying9 rfl (rd_mem 0 rfl rfl) ?_
           refine o_bin rfl rfl rfl b_seql ?_
           refine o_assign rfl rfl ?_
           refine l_nil ?_
           refine q_then ?_
           refine c_ret ?_
           refine q_block_ret ?_
           refine q_pass_ret ?_
           refine q_conv (fun w S => S.tail) ?_
           refine q_conv (fun w S => S.tail) ?_
           exact f_ret (r_one rfl rfl) (⟨by first | exact vtrue (by unfold StepOk; grind) | exact vfalse (by unfold StepOk; grind) | exact bdec (by unfold StepOk; grind), rfl⟩) (fun w S => S)
          · -- h75F
           have h75b := h75
           try simp only [decide_eq_false_iff_not, Int.not_lt, Int.not_le] at h75
           refine c_skip ?_
           refine q_block ?_
           refine q_then ?_
           refine c_seq ?_
           refine c_region ?_
           refine o_assign rfl rfl ?_
           refine l_nil ?_
           refine q_then ?_
           refine c_ret ?_
           refine q_conv (fun w S => S.tail) ?_
           refine q_conv (fun w S => S.tail) ?_
           exact f_ret (r_one rfl rfl) (⟨by first | exact vtrue (by unfold StepOk; grind) | exact vfalse (by unfold StepOk; grind) | exact bdec (by unfold StepOk; grind), rfl⟩) (fun w S => S)
     · -- h65F
      have h65b := h65
      try simp only [decide_eq_false_iff_not, Int.not_lt, Int.not_le] at h65
      refine c_region ?_
      refine o_bin rfl rfl rfl b_eql ?_
      refine o_assign rfl rfl ?_
      refine l_nil ?_
      refine q_then ?_
      refine c_cond rfl (fun h76 => ?_) (fun h76 => ?_)
      · -- h76T
       have h76b := h76
       try simp only [decide_eq_true_eq] at h76
       refine c_seq ?_
       refine c_region ?_
       refine o_move rfl rfl ?_
       refine o_move rfl rfl ?_
       refine l_split (t := 43) rfl (fun h77 => ?_) (fun h77 => ?_)
       · -- h77T
        have h77b := h77
        try simp only [decide_eq_true_eq] at h77
        refine o_yes rfl rfl rfl ?_
        refine o_fieldAddr (q := ⟨b3, 2, none⟩) rfl rfl Try.underlying53 rfl ti45 rfl ?_
        refine o_yes rfl rfl rfl ?_
        refine o_load1 rfl rfl Try.underlying45 rfl (rd_mem 0 rfl rfl) ?_
        refine o_yes rfl rfl rfl ?_
        refine o_len rfl rfl Try.underlying45 ?_
        refine o_yes rfl rfl rfl ?_
        refine o_bin rfl rfl rfl b_eql ?_
        refine o_pick_true rfl rfl rfl ?_
        refine o_assign rfl rfl ?_
        refine l_nil ?_
        refine q_then ?_
        refine c_ret ?_
        refine q_block_ret ?_
        refine q_pass_ret ?_
        refine q_conv (fun w S => S.tail) ?_
        refine q_conv (fun w S => S.tail) ?_
        exact f_ret (r_one rfl rfl) (⟨by first | exact vtrue (by unfold StepOk; grind) | exact vfalse (by unfold StepOk; grind) | exact bdec (by unfold StepOk; grind), rfl⟩) (fun w S => S)
       · -- h77F
        have h77b := h77
        try simp only [decide_eq_false_iff_not, Int.not_lt, Int.not_le] at h77
        refine o_no rfl rfl rfl rfl ?_
        refine o_no rfl rfl rfl rfl ?_
        refine o_no rfl rfl rfl rfl ?_
        refine o_no rfl rfl rfl rfl ?_
        refine o_pick_false rfl rfl rfl ?_
        refine o_assign rfl rfl ?_
        refine l_nil ?_
        refine q_then ?_
        refine c_ret ?_
        refine q_block_ret ?_
        refine q_pass_ret ?_
        refine q_conv (fun w S => S.tail) ?_
        refine q_conv (fun w S => S.tail) ?_
        exact f_ret (r_one rfl rfl) (⟨by first | exact vtrue (by unfold StepOk; grind) | exact vfalse (by unfold StepOk; grind) | exact bdec (by unfold StepOk; grind), rfl⟩) (fun w S => S)
      · -- h76F
       have h76b := h76
       try simp only [decide_eq_false_iff_not, Int.not_lt, Int.not_le] at h76
       refine c_seq ?_
       refine c_region ?_
       refine o_bin rfl rfl rfl b_eql ?_
       refine o_assign rfl rfl ?_
       refine l_nil ?_
       refine q_then ?_
       refine c_cond rfl (fun h78 => ?_) (fun h78 => ?_)
       · -- h78T
        have h78b := h78
        try simp only [decide_eq_true_eq] at h78
        refine c_seq ?_
        refine c_region ?_
        refine o_move rfl rfl ?_
        refine o_assign rfl rfl ?_
        refine l_nil ?_
        refine q_then ?_
        refine c_ret ?_
        refine q_block_ret ?_
        refine q_pass_ret ?_
        refine q_conv (fun w S => S.tail) ?_
        refine q_conv (fun w S => S.tail) ?_
        exact f_ret (r_one rfl rfl) (⟨by first | exact vtrue (by unfold StepOk; grind) | exact vfalse (by unfold StepOk; grind) | exact bdec (by unfold StepOk; grind), rfl⟩) (fun w S => S)
       · -- h78F
        have h78b := h78
        try simp only [decide_eq_false_iff_not, Int.not_lt, Int.not_le] at h78
        refine c_seq ?_
        refine c_seq ?_
        refine c_region ?_
        refine o_bin rfl rfl rfl b_eql ?_
        refine o_assign rfl rfl ?_
        refine l_nil ?_
        refine q_then ?_
        refine c_cond rfl (fun h79 => ?_) (fun h79 => ?_)
        · -- h79T
         have h79b := h79
         try simp only [decide_eq_true_eq] at h79
         refine c_skip ?_
         refine q_then ?_
         refine c_cond rfl (fun h80 => ?_) (fun h80 => ?_)
         · -- h80T
          have h80b := h80
          try simp only [decide_eq_true_eq] at h80
          refine c_seq ?_
          refine c_region ?_
          refine o_move rfl rfl ?_
          refine o_move rfl rfl ?_
          refine l_split (t := 56) rfl (fun h81 => ?_) (fun h81 => ?_)
          · -- h81T
           have h81b := h81
           try simp only [decide_eq_true_eq] at h81
           refine o_yes rfl rfl rfl ?_
           refine o_fieldAddr (q := ⟨b3, 2, none⟩) rfl rfl Try.underlying53 rfl ti45 rfl ?_
           refine o_yes rfl rfl rfl ?_
           refine o_load1 rfl rfl Try.underlying45 rfl (rd_mem 0 rfl rfl) ?_
           refine o_yes rfl rfl rfl ?_
           refine o_len rfl rfl Try.underlying45 ?_
           refine o_yes rfl rfl rfl ?_
           refine o_bin rfl rfl rfl b_eql ?_
           refine o_pick_true rfl rfl rfl ?_
           refine o_assign rfl rfl ?_
           refine l_nil ?_
           refine q_then ?_
           refine c_ret ?_
           refine q_block_ret ?_
           refine q_pass_ret ?_
           refine q_conv (fun w S => S.tail) ?_
           refine q_conv (fun w S => S.tail) ?_
           exact f_ret (r_one rfl rfl) (⟨by first | exact vtrue (by unfold StepOk; grind) | exact vfalse (by unfold StepOk; grind) | exact bdec (by unfold StepOk; grind), rfl⟩) (fun w S => S)
          · -- h81F
           have h81b := h81
           try simp only [decide_eq_false_iff_not, Int.not_lt, Int.not_le] at h81
           refine o_no rfl rfl rfl rfl ?_
           refine o_no rfl rfl rfl rfl ?_
           refine o_no rfl rfl rfl rfl ?_
           refine o_no rfl rfl rfl rfl ?_
           refine o_pick_false rfl rfl rfl ?_
           refine o_assign rfl rfl ?_
           refine l_nil ?_
           refine q_then ?_
           refine c_ret ?_
           refine q_block_ret ?_
           refine q_pass_ret ?_
           refine q_conv (fun w S => S.tail) ?_
           refine q_conv (fun w S => S.tail) ?_
           exact f_ret (r_one rfl rfl) (⟨by first | exact vtrue (by unfold StepOk; grind) | exact vfalse (by unfold StepOk; grind) | exact bdec (by unfold StepOk; grind), rfl⟩) (fun w S => S)
         · -- h80F
          have h80b := h80
          try simp only [decide_eq_false_iff_not, Int.not_lt, Int.not_le] at h80
          refine c_seq ?_
          refine c_region ?_
          refine o_bin rfl rfl rfl b_eql ?_
          refine o_assign rfl rfl ?_
          refine l_nil ?_
          refine q_then ?_
          refine c_cond rfl (fun h82 => ?_) (fun h82 => ?_)
          · -- h82T
           have h82b := h82
           try simp only [decide_eq_true_eq] at h82
           refine c_seq ?_
           refine c_region ?_
           refine o_fieldAddr (q := ⟨b3, 1, none⟩) rfl rfl Try.underlying53 rfl ti9 rfl ?_
           refine o_load1 rfl rfl Try.underlying9 rfl (rd_mem 0 rfl rfl) ?_
           refine o_bin rfl rfl rfl b_seql ?_
           refine o_assign rfl rfl ?_
           refine l_nil ?_
           refine q_then ?_
           refine c_ret ?_
           refine q_block_ret ?_
           refine q_pass_ret ?_
           refine q_conv (fun w S => S.tail) ?_
           refine q_conv (fun w S => S.tail) ?_
           exact f_ret (r_one rfl rfl) (⟨by first | exact vtrue (by unfold StepOk; grind) | exact vfalse (by unfold StepOk; grind) | exact bdec (by unfold StepOk; grind), rfl⟩) (fun w S => S)
          · -- h82F
           have h82b := h82
           try simp only [decide_eq_false_iff_not, Int.not_lt, Int.not_le] at h82
           refine c_skip ?_
           refine q_block ?_
           refine q_then ?_
           refine c_seq ?_
           refine c_region ?_
           refine o_assign rfl rfl ?_
           refine l_nil ?_
           refine q_then ?_
           refine c_ret ?_
           refine q_conv (fun w S => S.tail) ?_
           refine q_conv (fun w S => S.tail) ?_
           exact f_ret (r_one rfl rfl) (⟨by first | exact vtrue (by unfold StepOk; grind) | exact vfalse (by unfold StepOk; grind) | exact bdec (by unfold StepOk; grind), rfl⟩) (fun w S => S)
        · -- h79F
         have h79b := h79
         try simp only [decide_eq_false_iff_not, Int.not_lt, Int.not_le] at h79
         refine c_region ?_
         refine o_bin rfl rfl rfl b_eql ?_
         refine o_assign rfl rfl ?_
         refine l_nil ?_
         refine q_then ?_
         refine c_cond rfl (fun h83 => ?_) (fun h83 => ?_)
         · -- h83T
          have h83b := h83
          try simp only [decide_eq_true_eq] at h83
          refine c_seq ?_
          refine c_region ?_
          refine o_move rfl rfl ?_
          refine o_move rfl rfl ?_
          refine l_split (t := 56) rfl (fun h84 => ?_) (fun h84 => ?_)
          · -- h84T
           have h84b := h84
           try simp only [decide_eq_true_eq] at h84
           refine o_yes rfl rfl rfl ?_
           refine o_fieldAddr (q := ⟨b3, 2, none⟩) rfl rfl Try.underlying53 rfl ti45 rfl ?_
           refine o_yes rfl rfl rfl ?_
           refine o_load1 rfl rfl Try.underlying45 rfl (rd_mem 0 rfl rfl) ?_
           refine o_yes rfl rfl rfl ?_
           refine o_len rfl rfl Try.underlying45 ?_
           refine o_yes rfl rfl rfl ?_
           refine o_bin rfl rfl rfl b_eql ?_
           refine o_pick_true rfl rfl rfl ?_
           refine o_assign rfl rfl ?_
           refine l_nil ?_
           refine q_then ?_
           refine c_ret ?_
           refine q_block_ret ?_
           refine q_pass_ret ?_
           refine q_conv (fun w S => S.tail) ?_
           refine q_conv (fun w S => S.tail) ?_
           exact f_ret (r_one rfl rfl) (⟨by first | exact vtrue (by unfold StepOk; grind) | exact vfalse (by unfold StepOk; grind) | exact bdec (by unfold StepOk; grind), rfl⟩) (fun w S => S)
          · -- h84F
           have h84b := h84
           try simp only [decide_eq_false_iff_not, Int.not_lt, Int.not_le] at h84
           refine o_no rfl rfl rfl rfl ?_
           refine o_no rfl rfl rfl rfl ?_
           refine o_no rfl rfl rfl rfl ?_
           refine o_no rfl rfl rfl rfl ?_
           refine o_pick_false rfl rfl rfl ?_
           refine o_assign rfl rfl ?_
           refine l_nil ?_
           refine q_then ?_
           refine c_ret ?_
           refine q_block_ret ?_
           refine q_pass_ret ?_
           refine q_conv (fun w S => S.tail) ?_
           refine q_conv (fun w S => S.tail) ?_
           exact f_ret (r_one rfl rfl) (⟨by first | exact vtrue (by unfold StepOk; grind) | exact vfalse (by unfold StepOk; grind) | exact bdec (by unfold StepOk; grind), rfl⟩) (fun w S => S)
         · -- h83F
          have h83b := h83
          try simp only [decide_eq_false_iff_not, Int.not_lt, Int.not_le] at h83
          refine c_seq ?_
          refine c_region ?_
          refine o_bin rfl rfl rfl b_eql ?_
          refine o_assign rfl rfl ?_
          refine l_nil ?_
          refine q_then ?_
          refine c_cond rfl (fun h85 => ?_) (fun h85 => ?_)
          · -- h85T
           have h85b := h85
           try simp only [decide_eq_true_eq] at h85
           refine c_seq ?_
           refine c_region ?_
           refine o_fieldAddr (q := ⟨b3, 1, none⟩) rfl rfl Try.underlying53 rfl ti9 rfl ?_
           refine o_load1 rfl rfl Try.underlying9 rfl (rd_mem 0 rfl rfl) ?_
           refine o_bin rfl rfl rfl b_seql ?_
           refine o_assign rfl rfl ?_
           refine l_nil ?_
           refine q_then ?_
           refine c_ret ?_
           refine q_block_ret ?_
           refine q_pass_ret ?_
           refine q_conv (fun w S => S.tail) ?_
           refine q_conv (fun w S => S.tail) ?_
           exact f_ret (r_one rfl rfl) (⟨by first | exact vtrue (by unfold StepOk; grind) | exact vfalse (by unfold StepOk; grind) | exact bdec (by unfold StepOk; grind), rfl⟩) (fun w S => S)
          · -- h85F
           have h85b := h85
           try simp only [decide_eq_false_iff_not, Int.not_lt, Int.not_le] at h85
           refine c_skip ?_
           refine q_block ?_
           refine q_then ?_
           refine c_seq ?_
           refine c_region ?_
           refine o_assign rfl rfl ?_
           refine l_nil ?_
           refine q_then ?_
           refine c_ret ?_
           refine q_conv (fun w S => S.tail) ?_
           refine q_conv (fun w S => S.tail) ?_
           exact f_ret (r_one rfl rfl) (⟨by first | exact vtrue (by unfold StepOk; grind) | exact vfalse (by unfold StepOk; grind) | exact bdec (by unfold StepOk; grind), rfl⟩) (fun w S => S)

end Go.Proofs.Ytlblipkcbmcfkaa
