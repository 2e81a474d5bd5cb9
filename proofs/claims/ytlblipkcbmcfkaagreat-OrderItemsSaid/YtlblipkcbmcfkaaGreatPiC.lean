/- Texts of the proof: Step5, Check, Same, OSame, Tree, Iter. -/
import Derived.Test.YtlblipkcbmcfkaaGreatPiB
namespace Go.Proofs.YtlblipkcbmcfkaaGreat
section
set_option linter.unusedVariables false
set_option linter.unusedSimpArgs false
set_option maxRecDepth 10000
open Go.RowKit Classical
theorem declF {W : World} {F : List Res} {k : Nat} {key : ByteArray} {t : Txn} (T_t : TxR W F t) : CS Tryz.prog 90 #[.string key, .pointer (some ⟨k, 0, none⟩)] W (blk k (.cells #[.int .i64 t.f_Kind, .slice t.f_Reads.a (t.f_Reads.xs).length t.f_Reads.c, .slice t.f_Writes.a (t.f_Writes.xs).length t.f_Writes.c, .slice t.f_Ops.a (t.f_Ops.xs).length t.f_Ops.c, .int .i64 t.f_To] 30 (0, 0)) :: F) (fun r L' => r = .bool (decide (key ∈ t.f_Writes.xs)) ∧ blk k (.cells #[.int .i64 t.f_Kind, .slice t.f_Reads.a (t.f_Reads.xs).length t.f_Reads.c, .slice t.f_Writes.a (t.f_Writes.xs).length t.f_Writes.c, .slice t.f_Ops.a (t.f_Ops.xs).length t.f_Ops.c, .int .i64 t.f_To] 30 (0, 0)) :: F = L') := by
 refine f_door (l0 := [(0, .string key), (1, .pointer (some ⟨k, 0, none⟩))]) Tryz.func90 Tryz.ntmps90 rfl rfl rfl ?_
 refine c_seq ?_
 refine c_region ?_
 refine o_assign rfl rfl ?_
 refine l_nil ?_
 refine q_then ?_
 refine c_seq ?_
 refine c_region ?_
 refine o_fieldAddr (q := ⟨k, 2, none⟩) rfl rfl Tryz.underlying30 rfl ti27 rfl ?_
 refine o_load1 rfl rfl Tryz.underlying27 rfl (rd_mem 0 rfl rfl) ?_
 refine o_move rfl rfl ?_
 refine o_call rfl cal91 rfl (contains_ (TxR.c T_t).rw (by first | exact T_t.len.lr | exact T_t.len.lw | exact T_t.len.lo | omega)) ?_
 rintro _ _ ⟨rfl, rfl⟩
 refine o_assign rfl rfl ?_
 refine l_nil ?_
 refine q_then ?_
 refine c_ret ?_
 exact f_ret (r_one rfl rfl) (⟨rfl, rfl⟩) (fun w S => S)
theorem declared_ {W : World} {F : List Res} {t : Txn} (T_t : TxR W F t) : CS Tryz.prog 65 #[.agg #[.int .i64 t.f_Kind, .slice t.f_Reads.a (t.f_Reads.xs).length t.f_Reads.c, .slice t.f_Writes.a (t.f_Writes.xs).length t.f_Writes.c, .slice t.f_Ops.a (t.f_Ops.xs).length t.f_Ops.c, .int .i64 t.f_To]] W (F) (fun r L' => r = .bool (decide (Declared t)) ∧ F = L') := by
 refine f_door (l0 := [(0, .agg #[.int .i64 t.f_Kind, .slice t.f_Reads.a (t.f_Reads.xs).length t.f_Reads.c, .slice t.f_Writes.a (t.f_Writes.xs).length t.f_Writes.c, .slice t.f_Ops.a (t.f_Ops.xs).length t.f_Ops.c, .int .i64 t.f_To])]) Tryz.func65 Tryz.ntmps65 rfl rfl rfl ?_
 refine c_seq ?_
 refine c_region ?_
 refine o_box rfl rfl fun b1 => ?_
 refine o_assign rfl rfl ?_
 refine l_nil ?_
 refine q_then ?_
 refine c_seq ?_
 refine c_seq ?_
 refine c_region ?_
 refine o_fieldAddr (q := ⟨b1, 1, none⟩) rfl rfl Tryz.underlying30 rfl ti27 rfl ?_
 refine o_load1 rfl rfl Tryz.underlying27 rfl (rd_mem 0 rfl rfl) ?_
 refine o_len rfl rfl Tryz.underlying27 ?_
 refine o_bin rfl rfl rfl b_gtr ?_
 refine o_move rfl rfl ?_
 refine l_split (t := 7) rfl (fun h1 => ?_) (fun h1 => ?_)
 · -- h1T
  have h1b := h1
  try simp only [decide_eq_true_eq] at h1
  refine o_no rfl rfl rfl rfl ?_
  refine o_no rfl rfl rfl rfl ?_
  refine o_no rfl rfl rfl rfl ?_
  refine o_no rfl rfl rfl rfl ?_
  refine o_no rfl rfl rfl rfl ?_
  refine o_no rfl rfl rfl rfl ?_
  refine o_no rfl rfl rfl rfl ?_
  refine o_no rfl rfl rfl rfl ?_
  refine o_pick_true rfl rfl rfl ?_
  refine o_move rfl rfl ?_
  refine o_no rfl rfl rfl rfl ?_
  refine o_no rfl rfl rfl rfl ?_
  refine o_no rfl rfl rfl rfl ?_
  refine o_no rfl rfl rfl rfl ?_
  refine o_pick_true rfl rfl rfl ?_
  refine o_move rfl rfl ?_
  refine o_no rfl rfl rfl rfl ?_
  refine o_no rfl rfl rfl rfl ?_
  refine o_no rfl rfl rfl rfl ?_
  refine o_no rfl rfl rfl rfl ?_
  refine o_pick_true rfl rfl rfl ?_
  refine l_nil ?_
  refine q_then ?_
  refine c_true rfl ?_
  refine c_seq ?_
  refine c_region ?_
  refine o_assign rfl rfl ?_
  refine l_nil ?_
  refine q_then ?_
  refine c_ret ?_
  refine q_pass_ret ?_
  refine q_conv (fun w S => S.tail) ?_
  exact f_ret (r_one rfl rfl) (⟨by rw [decide_eq_false (fun h9 => by have := h9.1; omega)], rfl⟩) (fun w S => S)
 · -- h1F
  have h1b := h1
  try simp only [decide_eq_false_iff_not, Int.not_lt, Int.not_le] at h1
  refine o_yes rfl rfl rfl ?_
  refine o_fieldAddr (q := ⟨b1, 2, none⟩) rfl rfl Tryz.underlying30 rfl ti27 rfl ?_
  refine o_yes rfl rfl rfl ?_
  refine o_load1 rfl rfl Tryz.underlying27 rfl (rd_mem 0 rfl rfl) ?_
  refine o_yes rfl rfl rfl ?_
  refine o_len rfl rfl Tryz.underlying27 ?_
  refine o_yes rfl rfl rfl ?_
  refine o_fieldAddr (q := ⟨b1, 1, none⟩) rfl rfl Tryz.underlying30 rfl ti27 rfl ?_
  refine o_yes rfl rfl rfl ?_
  refine o_load1 rfl rfl Tryz.underlying27 rfl (rd_mem 0 rfl rfl) ?_
  refine o_yes rfl rfl rfl ?_
  refine o_len rfl rfl Tryz.underlying27 ?_
  refine o_yes rfl rfl rfl ?_
  refine o_bin rfl rfl rfl (b_sub (wrap_i64 (by omega) (by omega))) ?_
  refine o_yes rfl rfl rfl ?_
  refine o_bin rfl rfl rfl b_gtr ?_
  refine o_pick_false rfl rfl rfl ?_
  refine o_move rfl rfl ?_
  refine l_split (t := 17) rfl (fun h2 => ?_) (fun h2 => ?_)
  · -- h2T
   have h2b := h2
   try simp only [decide_eq_true_eq] at h2
   refine o_no rfl rfl rfl rfl ?_
   refine o_no rfl rfl rfl rfl ?_
   refine o_no rfl rfl rfl rfl ?_
   refine o_no rfl rfl rfl rfl ?_
   refine o_pick_true rfl rfl rfl ?_
   refine o_move rfl rfl ?_
   refine o_no rfl rfl rfl rfl ?_
   refine o_no rfl rfl rfl rfl ?_
   refine o_no rfl rfl rfl rfl ?_
   refine o_no rfl rfl rfl rfl ?_
   refine o_pick_true rfl rfl rfl ?_
   refine l_nil ?_
   refine q_then ?_
   refine c_true rfl ?_
   refine c_seq ?_
   refine c_region ?_
   refine o_assign rfl rfl ?_
   refine l_nil ?_
   refine q_then ?_
   refine c_ret ?_
   refine q_pass_ret ?_
   refine q_conv (fun w S => S.tail) ?_
   exact f_ret (r_one rfl rfl) (⟨by rw [decide_eq_false (fun h9 => by have := h9.2.1; omega)], rfl⟩) (fun w S => S)
  · -- h2F
   have h2b := h2
   try simp only [decide_eq_false_iff_not, Int.not_lt, Int.not_le] at h2
   refine o_yes rfl rfl rfl ?_
   refine o_fieldAddr (q := ⟨b1, 1, none⟩) rfl rfl Tryz.underlying30 rfl ti27 rfl ?_
   refine o_yes rfl rfl rfl ?_
   refine o_load1 rfl rfl Tryz.underlying27 rfl (rd_mem 0 rfl rfl) ?_
   refine o_yes rfl rfl rfl ?_
   refine o_call rfl cal88 rfl (rises_ (TxR.c T_t).rr (by first | exact T_t.len.lr | exact T_t.len.lw | exact T_t.len.lo | omega)) ?_
   rintro _ _ ⟨rfl, rfl⟩
   refine o_yes rfl rfl rfl ?_
   refine o_not rfl rfl ?_
   refine o_pick_false rfl rfl rfl ?_
   refine o_move rfl rfl ?_
   refine l_split (t := 23) rfl (fun h3 => ?_) (fun h3 => ?_)
   · -- h3T
    have h3b := h3
    try simp only [Bool.not_eq_true', decide_eq_false_iff_not, Int.not_lt, Int.not_le] at h3
    refine o_no rfl rfl rfl rfl ?_
    refine o_no rfl rfl rfl rfl ?_
    refine o_no rfl rfl rfl rfl ?_
    refine o_no rfl rfl rfl rfl ?_
    refine o_pick_true rfl rfl rfl ?_
    refine l_nil ?_
    refine q_then ?_
    refine c_true rfl ?_
    refine c_seq ?_
    refine c_region ?_
    refine o_assign rfl rfl ?_
    refine l_nil ?_
    refine q_then ?_
    refine c_ret ?_
    refine q_pass_ret ?_
    refine q_conv (fun w S => S.tail) ?_
    exact f_ret (r_one rfl rfl) (⟨by rw [decide_eq_false (fun h9 => h3 h9.2.2.1)], rfl⟩) (fun w S => S)
   · -- h3F
    have h3b := h3
    try simp only [Bool.not_eq_false', decide_eq_true_eq] at h3
    refine o_yes rfl rfl rfl ?_
    refine o_fieldAddr (q := ⟨b1, 2, none⟩) rfl rfl Tryz.underlying30 rfl ti27 rfl ?_
    refine o_yes rfl rfl rfl ?_
    refine o_load1 rfl rfl Tryz.underlying27 rfl (rd_mem 0 rfl rfl) ?_
    refine o_yes rfl rfl rfl ?_
    refine o_call rfl cal88 rfl (rises_ (TxR.c T_t).rw (by first | exact T_t.len.lr | exact T_t.len.lw | exact T_t.len.lo | omega)) ?_
    rintro _ _ ⟨rfl, rfl⟩
    refine o_yes rfl rfl rfl ?_
    refine o_not rfl rfl ?_
    refine o_pick_false rfl rfl rfl ?_
    refine l_nil ?_
    refine q_then ?_
    refine c_cond rfl (fun h4 => ?_) (fun h4 => ?_)
    · -- h4T
     have h4b := h4
     try simp only [Bool.not_eq_true', decide_eq_false_iff_not, Int.not_lt, Int.not_le] at h4
     refine c_seq ?_
     refine c_region ?_
     refine o_assign rfl rfl ?_
     refine l_nil ?_
     refine q_then ?_
     refine c_ret ?_
     refine q_pass_ret ?_
     refine q_conv (fun w S => S.tail) ?_
     exact f_ret (r_one rfl rfl) (⟨by rw [decide_eq_false (fun h9 => h4 h9.2.2.2.1)], rfl⟩) (fun w S => S)
    · -- h4F
     have h4b := h4
     try simp only [Bool.not_eq_false', decide_eq_true_eq] at h4
     refine c_skip ?_
     refine q_then ?_
     refine c_seq ?_
     refine c_region ?_
     refine o_fieldAddr (q := ⟨b1, 1, none⟩) rfl rfl Tryz.underlying30 rfl ti27 rfl ?_
     refine o_load1 rfl rfl Tryz.underlying27 rfl (rd_mem 0 rfl rfl) ?_
     refine o_makeFunc rfl rfl rfl ?_
     refine o_call rfl cal89 rfl (containsFS (p := fun x => x ∈ t.f_Writes.xs) (TxR.c T_t).rr (by first | exact T_t.len.lr | exact T_t.len.lw | exact T_t.len.lo | omega) (fun x _ => fv_dec (FV.of_csL cal90 (declF (key := x) T_t)))) ?_
     rintro _ _ ⟨b32, hb32, rfl, rfl⟩
     refine o_not rfl rfl ?_
     refine o_assign rfl rfl ?_
     refine l_nil ?_
     refine q_then ?_
     refine c_ret ?_
     refine q_conv (fun w S => S.tail) ?_
     exact f_ret (r_one rfl rfl) (⟨bnot_b hb32 ⟨fun h9 => h9.2.2.2.2, fun h9 => ⟨by omega, by omega, h3, h4, h9⟩⟩, rfl⟩) (fun w S => S)
theorem step_ {W : World} {F : List Res} {t : Txn} (T_t : TxR W F t) {o : Op} (V_o : RdS W F e8 o.f_Value.a o.f_Value.xs) : CS Tryz.prog 67 #[.agg #[.int .i64 t.f_Kind, .slice t.f_Reads.a (t.f_Reads.xs).length t.f_Reads.c, .slice t.f_Writes.a (t.f_Writes.xs).length t.f_Writes.c, .slice t.f_Ops.a (t.f_Ops.xs).length t.f_Ops.c, .int .i64 t.f_To], .agg #[.int .i64 o.f_Kind, .string o.f_Key, .slice o.f_Value.a (o.f_Value.xs).length o.f_Value.c, .int .i64 o.f_N]] W (F) (fun r L' => r = .bool (decide (StepOk t o)) ∧ F = L') := by
 have hba : (⟨#[]⟩ : ByteArray) = ByteArray.empty := rfl
 refine f_door (l0 := [(0, .agg #[.int .i64 t.f_Kind, .slice t.f_Reads.a (t.f_Reads.xs).length t.f_Reads.c, .slice t.f_Writes.a (t.f_Writes.xs).length t.f_Writes.c, .slice t.f_Ops.a (t.f_Ops.xs).length t.f_Ops.c, .int .i64 t.f_To]), (1, .agg #[.int .i64 o.f_Kind, .string o.f_Key, .slice o.f_Value.a (o.f_Value.xs).length o.f_Value.c, .int .i64 o.f_N])]) Tryz.func67 Tryz.ntmps67 rfl rfl rfl ?_
 refine c_seq ?_
 refine c_region ?_
 refine o_box rfl rfl fun b2 => ?_
 refine o_box rfl rfl fun b3 => ?_
 refine o_assign rfl rfl ?_
 refine l_nil ?_
 refine q_then ?_
 refine c_seq ?_
 refine c_seq ?_
 refine c_region ?_
 refine o_fieldAddr (q := ⟨b3, 2, none⟩) rfl rfl Tryz.underlying92 rfl ti34 rfl ?_
 refine o_load1 rfl rfl Tryz.underlying34 rfl (rd_mem 0 rfl rfl) ?_
 refine o_len rfl rfl Tryz.underlying34 ?_
 refine o_bin rfl rfl rfl b_gtr ?_
 refine o_move rfl rfl ?_
 refine l_split (t := 11) rfl (fun h1 => ?_) (fun h1 => ?_)
 · -- h1T
  have h1b := h1
  try simp only [decide_eq_true_eq] at h1
  refine o_no rfl rfl rfl rfl ?_
  refine o_no rfl rfl rfl rfl ?_
  refine o_no rfl rfl rfl rfl ?_
  refine o_no rfl rfl rfl rfl ?_
  refine o_no rfl rfl rfl rfl ?_
  refine o_no rfl rfl rfl rfl ?_
  refine o_no rfl rfl rfl rfl ?_
  refine o_no rfl rfl rfl rfl ?_
  refine o_pick_true rfl rfl rfl ?_
  refine l_nil ?_
  refine q_then ?_
  refine c_true rfl ?_
  refine c_seq ?_
  refine c_region ?_
  refine o_assign rfl rfl ?_
  refine l_nil ?_
  refine q_then ?_
  refine c_ret ?_
  refine q_pass_ret ?_
  refine q_conv (fun w S => S.tail) ?_
  refine q_conv (fun w S => S.tail) ?_
  exact f_ret (r_one rfl rfl) (⟨by first | exact vtrue (by unfold StepOk; grind) | exact vfalse (by unfold StepOk; grind) | exact bdec (by unfold StepOk; grind), rfl⟩) (fun w S => S)
 · -- h1F
  have h1b := h1
  try simp only [decide_eq_false_iff_not, Int.not_lt, Int.not_le] at h1
  refine o_yes rfl rfl rfl ?_
  refine o_fieldAddr (q := ⟨b3, 3, none⟩) rfl rfl Tryz.underlying92 rfl ti2 rfl ?_
  refine o_yes rfl rfl rfl ?_
  refine o_load1 rfl rfl Tryz.underlying2 rfl (rd_mem 0 rfl rfl) ?_
  refine o_yes rfl rfl rfl ?_
  refine o_bin rfl rfl rfl b_neq ?_
  refine o_yes rfl rfl rfl ?_
  refine o_move rfl rfl ?_
  refine l_split (t := 15) rfl (fun h2 => ?_) (fun h2 => ?_)
  · -- h2T
   have h2b := h2
   try simp only [Bool.not_eq_true', decide_eq_false_iff_not, Int.not_lt, Int.not_le] at h2
   refine o_yes rfl rfl rfl ?_
   refine o_fieldAddr (q := ⟨b3, 0, none⟩) rfl rfl Tryz.underlying92 rfl ti3 rfl ?_
   refine o_yes rfl rfl rfl ?_
   refine o_load1 rfl rfl Tryz.underlying3 rfl (rd_mem 0 rfl rfl) ?_
   refine o_yes rfl rfl rfl ?_
   refine o_bin rfl rfl rfl b_neq ?_
   refine o_yes rfl rfl rfl ?_
   refine o_pick_true rfl rfl rfl ?_
   refine o_pick_false rfl rfl rfl ?_
   refine l_nil ?_
   refine q_then ?_
   refine c_cond rfl (fun h3 => ?_) (fun h3 => ?_)
   · -- h3T
    have h3b := h3
    try simp only [Bool.not_eq_true', decide_eq_false_iff_not, Int.not_lt, Int.not_le] at h3
    refine c_seq ?_
    refine c_region ?_
    refine o_assign rfl rfl ?_
    refine l_nil ?_
    refine q_then ?_
    refine c_ret ?_
    refine q_pass_ret ?_
    refine q_conv (fun w S => S.tail) ?_
    refine q_conv (fun w S => S.tail) ?_
    exact f_ret (r_one rfl rfl) (⟨by first | exact vtrue (by unfold StepOk; grind) | exact vfalse (by unfold StepOk; grind) | exact bdec (by unfold StepOk; grind), rfl⟩) (fun w S => S)
   · -- h3F
    have h3b := h3
    try simp only [Bool.not_eq_false', decide_eq_true_eq] at h3
    refine c_skip ?_
    refine q_then ?_
    refine c_seq ?_
    refine c_region ?_
    refine o_fieldAddr (q := ⟨b2, 2, none⟩) rfl rfl Tryz.underlying30 rfl ti27 rfl ?_
    refine o_load1 rfl rfl Tryz.underlying27 rfl (rd_mem 1 rfl rfl) ?_
    refine o_fieldAddr (q := ⟨b3, 1, none⟩) rfl rfl Tryz.underlying92 rfl ti9 rfl ?_
    refine o_load1 rfl rfl Tryz.underlying9 rfl (rd_mem 0 rfl rfl) ?_
    refine o_call rfl cal91 rfl (contains_ (TxR.c (TxR.c T_t)).rw (by first | exact T_t.len.lr | exact T_t.len.lw | exact T_t.len.lo | omega)) ?_
    rintro _ _ ⟨rfl, rfl⟩
    refine o_assign rfl rfl ?_
    refine l_nil ?_
    refine q_then ?_
    refine c_seq ?_
    refine c_region ?_
    refine o_move rfl rfl ?_
    refine o_move rfl rfl ?_
    refine l_split (t := 27) rfl (fun h4 => ?_) (fun h4 => ?_)
    · -- h4T
     have h4b := h4
     try simp only [decide_eq_true_eq] at h4
     refine o_no rfl rfl rfl rfl ?_
     refine o_no rfl rfl rfl rfl ?_
     refine o_no rfl rfl rfl rfl ?_
     refine o_no rfl rfl rfl rfl ?_
     refine o_no rfl rfl rfl rfl ?_
     refine o_pick_true rfl rfl rfl ?_
     refine o_assign rfl rfl ?_
     refine l_nil ?_
     refine q_then ?_
     refine c_seq ?_
     refine c_seq ?_
     refine c_region ?_
     refine o_fieldAddr (q := ⟨b3, 0, none⟩) rfl rfl Tryz.underlying92 rfl ti3 rfl ?_
     refine o_load1 rfl rfl Tryz.underlying3 rfl (rd_mem 0 rfl rfl) ?_
     refine l_nil ?_
     refine q_then ?_
     refine c_block ?_
     refine c_seq ?_
     refine c_region ?_
     refine o_bin rfl rfl rfl b_eql ?_
     refine o_assign rfl rfl ?_
     refine l_nil ?_
     refine q_then ?_
     refine c_cond rfl (fun h5 => ?_) (fun h5 => ?_)
     · -- h5T
      have h5b := h5
      try simp only [decide_eq_true_eq] at h5
      refine c_seq ?_
      refine c_region ?_
      refine o_move rfl rfl ?_
      refine o_assign rfl rfl ?_
      refine l_nil ?_
      refine q_then ?_
      refine c_ret ?_
      refine q_block_ret ?_
      refine q_pass_ret ?_
      refine q_conv (fun w S => S.tail) ?_
      refine q_conv (fun w S => S.tail) ?_
      exact f_ret (r_one rfl rfl) (⟨by first | exact vtrue (by unfold StepOk; grind) | exact vfalse (by unfold StepOk; grind) | exact bdec (by unfold StepOk; grind), rfl⟩) (fun w S => S)
     · -- h5F
      have h5b := h5
      try simp only [decide_eq_false_iff_not, Int.not_lt, Int.not_le] at h5
      refine c_seq ?_
      refine c_seq ?_
      refine c_region ?_
      refine o_bin rfl rfl rfl b_eql ?_
      refine o_assign rfl rfl ?_
      refine l_nil ?_
      refine q_then ?_
      refine c_cond rfl (fun h6 => ?_) (fun h6 => ?_)
      · -- h6T
       have h6b := h6
       try simp only [decide_eq_true_eq] at h6
       refine c_skip ?_
       refine q_then ?_
       refine c_cond rfl (fun h7 => ?_) (fun h7 => ?_)
       · -- h7T
        have h7b := h7
        try simp only [decide_eq_true_eq] at h7
        refine c_seq ?_
        refine c_region ?_
        refine o_move rfl rfl ?_
        refine o_move rfl rfl ?_
        refine l_split (t := 43) rfl (fun h8 => ?_) (fun h8 => ?_)
        · -- h8T
         have h8b := h8
         try simp only [decide_eq_true_eq] at h8
         refine o_yes rfl rfl rfl ?_
         refine o_fieldAddr (q := ⟨b3, 2, none⟩) rfl rfl Tryz.underlying92 rfl ti34 rfl ?_
         refine o_yes rfl rfl rfl ?_
         refine o_load1 rfl rfl Tryz.underlying34 rfl (rd_mem 0 rfl rfl) ?_
         refine o_yes rfl rfl rfl ?_
         refine o_len rfl rfl Tryz.underlying34 ?_
         refine o_yes rfl rfl rfl ?_
         refine o_bin rfl rfl rfl b_eql ?_
         refine o_pick_true rfl rfl rfl ?_
         refine o_assign rfl rfl ?_
         refine l_nil ?_
         refine q_then ?_
         refine c_ret ?_
         refine q_block_ret ?_
         refine q_pass_ret ?_
         refine q_conv (fun w S => S.tail) ?_
         refine q_conv (fun w S => S.tail) ?_
         exact f_ret (r_one rfl rfl) (⟨by first | exact vtrue (by unfold StepOk; grind) | exact vfalse (by unfold StepOk; grind) | exact bdec (by unfold StepOk; grind), rfl⟩) (fun w S => S)
        · -- h8F
         have h8b := h8
         try simp only [decide_eq_false_iff_not, Int.not_lt, Int.not_le] at h8
         refine o_no rfl rfl rfl rfl ?_
         refine o_no rfl rfl rfl rfl ?_
         refine o_no rfl rfl rfl rfl ?_
         refine o_no rfl rfl rfl rfl ?_
         refine o_pick_false rfl rfl rfl ?_
         refine o_assign rfl rfl ?_
         refine l_nil ?_
         refine q_then ?_
         refine c_ret ?_
         refine q_block_ret ?_
         refine q_pass_ret ?_
         refine q_conv (fun w S => S.tail) ?_
         refine q_conv (fun w S => S.tail) ?_
         exact f_ret (r_one rfl rfl) (⟨by first | exact vtrue (by unfold StepOk; grind) | exact vfalse (by unfold StepOk; grind) | exact bdec (by unfold StepOk; grind), rfl⟩) (fun w S => S)
       · -- h7F
        have h7b := h7
        try simp only [decide_eq_false_iff_not, Int.not_lt, Int.not_le] at h7
        refine c_seq ?_
        refine c_region ?_
        refine o_bin rfl rfl rfl b_eql ?_
        refine o_assign rfl rfl ?_
        refine l_nil ?_
        refine q_then ?_
        refine c_cond rfl (fun h9 => ?_) (fun h9 => ?_)
        · -- h9T
         have h9b := h9
         try simp only [decide_eq_true_eq] at h9
         refine c_seq ?_
         refine c_region ?_
         refine o_move rfl rfl ?_
         refine o_assign rfl rfl ?_
         refine l_nil ?_
         refine q_then ?_
         refine c_ret ?_
         refine q_block_ret ?_
         refine q_pass_ret ?_
         refine q_conv (fun w S => S.tail) ?_
         refine q_conv (fun w S => S.tail) ?_
         exact f_ret (r_one rfl rfl) (⟨by first | exact vtrue (by unfold StepOk; grind) | exact vfalse (by unfold StepOk; grind) | exact bdec (by unfold StepOk; grind), rfl⟩) (fun w S => S)
        · -- h9F
         have h9b := h9
         try simp only [decide_eq_false_iff_not, Int.not_lt, Int.not_le] at h9
         refine c_seq ?_
         refine c_seq ?_
         refine c_region ?_
         refine o_bin rfl rfl rfl b_eql ?_
         refine o_assign rfl rfl ?_
         refine l_nil ?_
         refine q_then ?_
         refine c_cond rfl (fun h10 => ?_) (fun h10 => ?_)
         · -- h10T
          have h10b := h10
          try simp only [decide_eq_true_eq] at h10
          refine c_skip ?_
          refine q_then ?_
          refine c_cond rfl (fun h11 => ?_) (fun h11 => ?_)
          · -- h11T
           have h11b := h11
           try simp only [decide_eq_true_eq] at h11
           refine c_seq ?_
           refine c_region ?_
           refine o_move rfl rfl ?_
           refine o_move rfl rfl ?_
           refine o_yes rfl rfl rfl ?_
           refine o_fieldAddr (q := ⟨b3, 2, none⟩) rfl rfl Tryz.underlying92 rfl ti34 rfl ?_
           refine o_yes rfl rfl rfl ?_
           refine o_load1 rfl rfl Tryz.underlying34 rfl (rd_mem 0 rfl rfl) ?_
           refine o_yes rfl rfl rfl ?_
           refine o_len rfl rfl Tryz.underlying34 ?_
           refine o_yes rfl rfl rfl ?_
           refine o_bin rfl rfl rfl b_eql ?_
           refine o_pick_true rfl rfl rfl ?_
           refine o_assign rfl rfl ?_
           refine l_nil ?_
           refine q_then ?_
           refine c_ret ?_
           refine q_block_ret ?_
           refine q_pass_ret ?_
           refine q_conv (fun w S => S.tail) ?_
           refine q_conv (fun w S => S.tail) ?_
           exact f_ret (r_one rfl rfl) (⟨by first | exact vtrue (by unfold StepOk; grind) | exact vfalse (by unfold StepOk; grind) | exact bdec (by unfold StepOk; grind), rfl⟩) (fun w S => S)
          · -- h11F
           have h11b := h11
           try simp only [decide_eq_false_iff_not, Int.not_lt, Int.not_le] at h11
           refine c_seq ?_
           refine c_region ?_
           refine o_bin rfl rfl rfl b_eql ?_
           refine o_assign rfl rfl ?_
           refine l_nil ?_
           refine q_then ?_
           refine c_cond rfl (fun h12 => ?_) (fun h12 => ?_)
           · -- h12T
            have h12b := h12
            try simp only [decide_eq_true_eq] at h12
            refine c_seq ?_
            refine c_region ?_
            refine o_fieldAddr (q := ⟨b3, 1, none⟩) rfl rfl Tryz.underlying92 rfl ti9 rfl ?_
            refine o_load1 rfl rfl Tryz.underlying9 rfl (rd_mem 0 rfl rfl) ?_
            refine o_bin rfl rfl rfl b_seql ?_
            refine o_assign rfl rfl ?_
            refine l_nil ?_
            refine q_then ?_
            refine c_ret ?_
            refine q_block_ret ?_
            refine q_pass_ret ?_
            refine q_conv (fun w S => S.tail) ?_
            refine q_conv (fun w S => S.tail) ?_
            exact f_ret (r_one rfl rfl) (⟨by first | exact vtrue (by unfold StepOk; grind) | exact vfalse (by unfold StepOk; grind) | exact bdec (by unfold StepOk; grind), rfl⟩) (fun w S => S)
           · -- h12F
            have h12b := h12
            try simp only [decide_eq_false_iff_not, Int.not_lt, Int.not_le] at h12
            refine c_skip ?_
            refine q_block ?_
            refine q_then ?_
            refine c_seq ?_
            refine c_region ?_
            refine o_assign rfl rfl ?_
            refine l_nil ?_
            refine q_then ?_
            refine c_ret ?_
            refine q_conv (fun w S => S.tail) ?_
            refine q_conv (fun w S => S.tail) ?_
            exact f_ret (r_one rfl rfl) (⟨by first | exact vtrue (by unfold StepOk; grind) | exact vfalse (by unfold StepOk; grind) | exact bdec (by unfold StepOk; grind), rfl⟩) (fun w S => S)
         · -- h10F
          have h10b := h10
          try simp only [decide_eq_false_iff_not, Int.not_lt, Int.not_le] at h10
          refine c_region ?_
          refine o_bin rfl rfl rfl b_eql ?_
          refine o_assign rfl rfl ?_
          refine l_nil ?_
          refine q_then ?_
          refine c_cond rfl (fun h13 => ?_) (fun h13 => ?_)
          · -- h13T
           have h13b := h13
           try simp only [decide_eq_true_eq] at h13
           refine c_seq ?_
           refine c_region ?_
           refine o_move rfl rfl ?_
           refine o_move rfl rfl ?_
           refine o_yes rfl rfl rfl ?_
           refine o_fieldAddr (q := ⟨b3, 2, none⟩) rfl rfl Tryz.underlying92 rfl ti34 rfl ?_
           refine o_yes rfl rfl rfl ?_
           refine o_load1 rfl rfl Tryz.underlying34 rfl (rd_mem 0 rfl rfl) ?_
           refine o_yes rfl rfl rfl ?_
           refine o_len rfl rfl Tryz.underlying34 ?_
           refine o_yes rfl rfl rfl ?_
           refine o_bin rfl rfl rfl b_eql ?_
           refine o_pick_true rfl rfl rfl ?_
           refine o_assign rfl rfl ?_
           refine l_nil ?_
           refine q_then ?_
           refine c_ret ?_
           refine q_block_ret ?_
           refine q_pass_ret ?_
           refine q_conv (fun w S => S.tail) ?_
           refine q_conv (fun w S => S.tail) ?_
           exact f_ret (r_one rfl rfl) (⟨by first | exact vtrue (by unfold StepOk; grind) | exact vfalse (by unfold StepOk; grind) | exact bdec (by unfold StepOk; grind), rfl⟩) (fun w S => S)
          · -- h13F
           have h13b := h13
           try simp only [decide_eq_false_iff_not, Int.not_lt, Int.not_le] at h13
           refine c_seq ?_
           refine c_region ?_
           refine o_bin rfl rfl rfl b_eql ?_
           refine o_assign rfl rfl ?_
           refine l_nil ?_
           refine q_then ?_
           refine c_cond rfl (fun h14 => ?_) (fun h14 => ?_)
           · -- h14T
            have h14b := h14
            try simp only [decide_eq_true_eq] at h14
            refine c_seq ?_
            refine c_region ?_
            refine o_fieldAddr (q := ⟨b3, 1, none⟩) rfl rfl Tryz.underlying92 rfl ti9 rfl ?_
            refine o_load1 rfl rfl Tryz.underlying9 rfl (rd_mem 0 rfl rfl) ?_
            refine o_bin rfl rfl rfl b_seql ?_
            refine o_assign rfl rfl ?_
            refine l_nil ?_
            refine q_then ?_
            refine c_ret ?_
            refine q_block_ret ?_
            refine q_pass_ret ?_
            refine q_conv (fun w S => S.tail) ?_
            refine q_conv (fun w S => S.tail) ?_
            exact f_ret (r_one rfl rfl) (⟨by first | exact vtrue (by unfold StepOk; grind) | exact vfalse (by unfold StepOk; grind) | exact bdec (by unfold StepOk; grind), rfl⟩) (fun w S => S)
           · -- h14F
            have h14b := h14
            try simp only [decide_eq_false_iff_not, Int.not_lt, Int.not_le] at h14
            refine c_skip ?_
            refine q_block ?_
            refine q_then ?_
            refine c_seq ?_
            refine c_region ?_
            refine o_assign rfl rfl ?_
            refine l_nil ?_
            refine q_then ?_
            refine c_ret ?_
            refine q_conv (fun w S => S.tail) ?_
            refine q_conv (fun w S => S.tail) ?_
            exact f_ret (r_one rfl rfl) (⟨by first | exact vtrue (by unfold StepOk; grind) | exact vfalse (by unfold StepOk; grind) | exact bdec (by unfold StepOk; grind), rfl⟩) (fun w S => S)
      · -- h6F
       have h6b := h6
       try simp only [decide_eq_false_iff_not, Int.not_lt, Int.not_le] at h6
       refine c_region ?_
       refine o_bin rfl rfl rfl b_eql ?_
       refine o_assign rfl rfl ?_
       refine l_nil ?_
       refine q_then ?_
       refine c_cond rfl (fun h15 => ?_) (fun h15 => ?_)
       · -- h15T
        have h15b := h15
        try simp only [decide_eq_true_eq] at h15
        refine c_seq ?_
        refine c_region ?_
        refine o_move rfl rfl ?_
        refine o_move rfl rfl ?_
        refine l_split (t := 43) rfl (fun h16 => ?_) (fun h16 => ?_)
        · -- h16T
         have h16b := h16
         try simp only [decide_eq_true_eq] at h16
         refine o_yes rfl rfl rfl ?_
         refine o_fieldAddr (q := ⟨b3, 2, none⟩) rfl rfl Tryz.underlying92 rfl ti34 rfl ?_
         refine o_yes rfl rfl rfl ?_
         refine o_load1 rfl rfl Tryz.underlying34 rfl (rd_mem 0 rfl rfl) ?_
         refine o_yes rfl rfl rfl ?_
         refine o_len rfl rfl Tryz.underlying34 ?_
         refine o_yes rfl rfl rfl ?_
         refine o_bin rfl rfl rfl b_eql ?_
         refine o_pick_true rfl rfl rfl ?_
         refine o_assign rfl rfl ?_
         refine l_nil ?_
         refine q_then ?_
         refine c_ret ?_
         refine q_block_ret ?_
         refine q_pass_ret ?_
         refine q_conv (fun w S => S.tail) ?_
         refine q_conv (fun w S => S.tail) ?_
         exact f_ret (r_one rfl rfl) (⟨by first | exact vtrue (by unfold StepOk; grind) | exact vfalse (by unfold StepOk; grind) | exact bdec (by unfold StepOk; grind), rfl⟩) (fun w S => S)
        · -- h16F
         have h16b := h16
         try simp only [decide_eq_false_iff_not, Int.not_lt, Int.not_le] at h16
         refine o_no rfl rfl rfl rfl ?_
         refine o_no rfl rfl rfl rfl ?_
         refine o_no rfl rfl rfl rfl ?_
         refine o_no rfl rfl rfl rfl ?_
         refine o_pick_false rfl rfl rfl ?_
         refine o_assign rfl rfl ?_
         refine l_nil ?_
         refine q_then ?_
         refine c_ret ?_
         refine q_block_ret ?_
         refine q_pass_ret ?_
         refine q_conv (fun w S => S.tail) ?_
         refine q_conv (fun w S => S.tail) ?_
         exact f_ret (r_one rfl rfl) (⟨by first | exact vtrue (by unfold StepOk; grind) | exact vfalse (by unfold StepOk; grind) | exact bdec (by unfold StepOk; grind), rfl⟩) (fun w S => S)
       · -- h15F
        have h15b := h15
        try simp only [decide_eq_false_iff_not, Int.not_lt, Int.not_le] at h15
        refine c_seq ?_
        refine c_region ?_
        refine o_bin rfl rfl rfl b_eql ?_
        refine o_assign rfl rfl ?_
        refine l_nil ?_
        refine q_then ?_
        refine c_cond rfl (fun h17 => ?_) (fun h17 => ?_)
        · -- h17T
         have h17b := h17
         try simp only [decide_eq_true_eq] at h17
         refine c_seq ?_
         refine c_region ?_
         refine o_move rfl rfl ?_
         refine o_assign rfl rfl ?_
         refine l_nil ?_
         refine q_then ?_
         refine c_ret ?_
         refine q_block_ret ?_
         refine q_pass_ret ?_
         refine q_conv (fun w S => S.tail) ?_
         refine q_conv (fun w S => S.tail) ?_
         exact f_ret (r_one rfl rfl) (⟨by first | exact vtrue (by unfold StepOk; grind) | exact vfalse (by unfold StepOk; grind) | exact bdec (by unfold StepOk; grind), rfl⟩) (fun w S => S)
        · -- h17F
         have h17b := h17
         try simp only [decide_eq_false_iff_not, Int.not_lt, Int.not_le] at h17
         refine c_seq ?_
         refine c_seq ?_
         refine c_region ?_
         refine o_bin rfl rfl rfl b_eql ?_
         refine o_assign rfl rfl ?_
         refine l_nil ?_
         refine q_then ?_
         refine c_cond rfl (fun h18 => ?_) (fun h18 => ?_)
         · -- h18T
          have h18b := h18
          try simp only [decide_eq_true_eq] at h18
          refine c_skip ?_
          refine q_then ?_
          refine c_cond rfl (fun h19 => ?_) (fun h19 => ?_)
          · -- h19T
           have h19b := h19
           try simp only [decide_eq_true_eq] at h19
           refine c_seq ?_
           refine c_region ?_
           refine o_move rfl rfl ?_
           refine o_move rfl rfl ?_
           refine o_yes rfl rfl rfl ?_
           refine o_fieldAddr (q := ⟨b3, 2, none⟩) rfl rfl Tryz.underlying92 rfl ti34 rfl ?_
           refine o_yes rfl rfl rfl ?_
           refine o_load1 rfl rfl Tryz.underlying34 rfl (rd_mem 0 rfl rfl) ?_
           refine o_yes rfl rfl rfl ?_
           refine o_len rfl rfl Tryz.underlying34 ?_
           refine o_yes rfl rfl rfl ?_
           refine o_bin rfl rfl rfl b_eql ?_
           refine o_pick_true rfl rfl rfl ?_
           refine o_assign rfl rfl ?_
           refine l_nil ?_
           refine q_then ?_
           refine c_ret ?_
           refine q_block_ret ?_
           refine q_pass_ret ?_
           refine q_conv (fun w S => S.tail) ?_
           refine q_conv (fun w S => S.tail) ?_
           exact f_ret (r_one rfl rfl) (⟨by first | exact vtrue (by unfold StepOk; grind) | exact vfalse (by unfold StepOk; grind) | exact bdec (by unfold StepOk; grind), rfl⟩) (fun w S => S)
          · -- h19F
           have h19b := h19
           try simp only [decide_eq_false_iff_not, Int.not_lt, Int.not_le] at h19
           refine c_seq ?_
           refine c_region ?_
           refine o_bin rfl rfl rfl b_eql ?_
           refine o_assign rfl rfl ?_
           refine l_nil ?_
           refine q_then ?_
           refine c_cond rfl (fun h20 => ?_) (fun h20 => ?_)
           · -- h20T
            have h20b := h20
            try simp only [decide_eq_true_eq] at h20
            refine c_seq ?_
            refine c_region ?_
            refine o_fieldAddr (q := ⟨b3, 1, none⟩) rfl rfl Tryz.underlying92 rfl ti9 rfl ?_
            refine o_load1 rfl rfl Tryz.underlying9 rfl (rd_mem 0 rfl rfl) ?_
            refine o_bin rfl rfl rfl b_seql ?_
            refine o_assign rfl rfl ?_
            refine l_nil ?_
            refine q_then ?_
            refine c_ret ?_
            refine q_block_ret ?_
            refine q_pass_ret ?_
            refine q_conv (fun w S => S.tail) ?_
            refine q_conv (fun w S => S.tail) ?_
            exact f_ret (r_one rfl rfl) (⟨by first | exact vtrue (by unfold StepOk; grind) | exact vfalse (by unfold StepOk; grind) | exact bdec (by unfold StepOk; grind), rfl⟩) (fun w S => S)
           · -- h20F
            have h20b := h20
            try simp only [decide_eq_false_iff_not, Int.not_lt, Int.not_le] at h20
            refine c_skip ?_
            refine q_block ?_
            refine q_then ?_
            refine c_seq ?_
            refine c_region ?_
            refine o_assign rfl rfl ?_
            refine l_nil ?_
            refine q_then ?_
            refine c_ret ?_
            refine q_conv (fun w S => S.tail) ?_
            refine q_conv (fun w S => S.tail) ?_
            exact f_ret (r_one rfl rfl) (⟨by first | exact vtrue (by unfold StepOk; grind) | exact vfalse (by unfold StepOk; grind) | exact bdec (by unfold StepOk; grind), rfl⟩) (fun w S => S)
         · -- h18F
          have h18b := h18
          try simp only [decide_eq_false_iff_not, Int.not_lt, Int.not_le] at h18
          refine c_region ?_
          refine o_bin rfl rfl rfl b_eql ?_
          refine o_assign rfl rfl ?_
          refine l_nil ?_
          refine q_then ?_
          refine c_cond rfl (fun h21 => ?_) (fun h21 => ?_)
          · -- h21T
           have h21b := h21
           try simp only [decide_eq_true_eq] at h21
           refine c_seq ?_
           refine c_region ?_
           refine o_move rfl rfl ?_
           refine o_move rfl rfl ?_
           refine o_yes rfl rfl rfl ?_
           refine o_fieldAddr (q := ⟨b3, 2, none⟩) rfl rfl Tryz.underlying92 rfl ti34 rfl ?_
           refine o_yes rfl rfl rfl ?_
           refine o_load1 rfl rfl Tryz.underlying34 rfl (rd_mem 0 rfl rfl) ?_
           refine o_yes rfl rfl rfl ?_
           refine o_len rfl rfl Tryz.underlying34 ?_
           refine o_yes rfl rfl rfl ?_
           refine o_bin rfl rfl rfl b_eql ?_
           refine o_pick_true rfl rfl rfl ?_
           refine o_assign rfl rfl ?_
           refine l_nil ?_
           refine q_then ?_
           refine c_ret ?_
           refine q_block_ret ?_
           refine q_pass_ret ?_
           refine q_conv (fun w S => S.tail) ?_
           refine q_conv (fun w S => S.tail) ?_
           exact f_ret (r_one rfl rfl) (⟨by first | exact vtrue (by unfold StepOk; grind) | exact vfalse (by unfold StepOk; grind) | exact bdec (by unfold StepOk; grind), rfl⟩) (fun w S => S)
          · -- h21F
           have h21b := h21
           try simp only [decide_eq_false_iff_not, Int.not_lt, Int.not_le] at h21
           refine c_seq ?_
           refine c_region ?_
           refine o_bin rfl rfl rfl b_eql ?_
           refine o_assign rfl rfl ?_
           refine l_nil ?_
           refine q_then ?_
           refine c_cond rfl (fun h22 => ?_) (fun h22 => ?_)
           · -- h22T
            have h22b := h22
            try simp only [decide_eq_true_eq] at h22
            refine c_seq ?_
            refine c_region ?_
            refine o_fieldAddr (q := ⟨b3, 1, none⟩) rfl rfl Tryz.underlying92 rfl ti9 rfl ?_
            refine o_load1 rfl rfl Tryz.underlying9 rfl (rd_mem 0 rfl rfl) ?_
            refine o_bin rfl rfl rfl b_seql ?_
            refine o_assign rfl rfl ?_
            refine l_nil ?_
            refine q_then ?_
            refine c_ret ?_
            refine q_block_ret ?_
            refine q_pass_ret ?_
            refine q_conv (fun w S => S.tail) ?_
            refine q_conv (fun w S => S.tail) ?_
            exact f_ret (r_one rfl rfl) (⟨by first | exact vtrue (by unfold StepOk; grind) | exact vfalse (by unfold StepOk; grind) | exact bdec (by unfold StepOk; grind), rfl⟩) (fun w S => S)
           · -- h22F
            have h22b := h22
            try simp only [decide_eq_false_iff_not, Int.not_lt, Int.not_le] at h22
            refine c_skip ?_
            refine q_block ?_
            refine q_then ?_
            refine c_seq ?_
            refine c_region ?_
            refine o_assign rfl rfl ?_
            refine l_nil ?_
            refine q_then ?_
            refine c_ret ?_
            refine q_conv (fun w S => S.tail) ?_
            refine q_conv (fun w S => S.tail) ?_
            exact f_ret (r_one rfl rfl) (⟨by first | exact vtrue (by unfold StepOk; grind) | exact vfalse (by unfold StepOk; grind) | exact bdec (by unfold StepOk; grind), rfl⟩) (fun w S => S)
    · -- h4F
     have h4b := h4
     try simp only [decide_eq_false_iff_not, Int.not_lt, Int.not_le] at h4
     refine o_yes rfl rfl rfl ?_
     refine o_fieldAddr (q := ⟨b2, 1, none⟩) rfl rfl Tryz.underlying30 rfl ti27 rfl ?_
     refine o_yes rfl rfl rfl ?_
     refine o_load1 rfl rfl Tryz.underlying27 rfl (rd_mem 1 rfl rfl) ?_
     refine o_yes rfl rfl rfl ?_
     refine o_fieldAddr (q := ⟨b3, 1, none⟩) rfl rfl Tryz.underlying92 rfl ti9 rfl ?_
     refine o_yes rfl rfl rfl ?_
     refine o_load1 rfl rfl Tryz.underlying9 rfl (rd_mem 0 rfl rfl) ?_
     refine o_yes rfl rfl rfl ?_
     refine o_call rfl cal91 rfl (contains_ (TxR.c (TxR.c T_t)).rr (by first | exact T_t.len.lr | exact T_t.len.lw | exact T_t.len.lo | omega)) ?_
     rintro _ _ ⟨rfl, rfl⟩
     refine o_pick_false rfl rfl rfl ?_
     refine o_assign rfl rfl ?_
     refine l_nil ?_
     refine q_then ?_
     refine c_seq ?_
     refine c_seq ?_
     refine c_region ?_
     refine o_fieldAddr (q := ⟨b3, 0, none⟩) rfl rfl Tryz.underlying92 rfl ti3 rfl ?_
     refine o_load1 rfl rfl Tryz.underlying3 rfl (rd_mem 0 rfl rfl) ?_
     refine l_nil ?_
     refine q_then ?_
     refine c_block ?_
     refine c_seq ?_
     refine c_region ?_
     refine o_bin rfl rfl rfl b_eql ?_
     refine o_assign rfl rfl ?_
     refine l_nil ?_
     refine q_then ?_
     refine c_cond rfl (fun h23 => ?_) (fun h23 => ?_)
     · -- h23T
      have h23b := h23
      try simp only [decide_eq_true_eq] at h23
      refine c_seq ?_
      refine c_region ?_
      refine o_move rfl rfl ?_
      refine o_assign rfl rfl ?_
      refine l_nil ?_
      refine q_then ?_
      refine c_ret ?_
      refine q_block_ret ?_
      refine q_pass_ret ?_
      refine q_conv (fun w S => S.tail) ?_
      refine q_conv (fun w S => S.tail) ?_
      exact f_ret (r_one rfl rfl) (⟨by first | exact vtrue (by unfold StepOk; grind) | exact vfalse (by unfold StepOk; grind) | exact bdec (by unfold StepOk; grind), rfl⟩) (fun w S => S)
     · -- h23F
      have h23b := h23
      try simp only [decide_eq_false_iff_not, Int.not_lt, Int.not_le] at h23
      refine c_seq ?_
      refine c_seq ?_
      refine c_region ?_
      refine o_bin rfl rfl rfl b_eql ?_
      refine o_assign rfl rfl ?_
      refine l_nil ?_
      refine q_then ?_
      refine c_cond rfl (fun h24 => ?_) (fun h24 => ?_)
      · -- h24T
       have h24b := h24
       try simp only [decide_eq_true_eq] at h24
       refine c_skip ?_
       refine q_then ?_
       refine c_cond rfl (fun h25 => ?_) (fun h25 => ?_)
       · -- h25T
        have h25b := h25
        try simp only [decide_eq_true_eq] at h25
        refine c_seq ?_
        refine c_region ?_
        refine o_move rfl rfl ?_
        refine o_move rfl rfl ?_
        refine l_split (t := 43) rfl (fun h26 => ?_) (fun h26 => ?_)
        · -- h26T
         have h26b := h26
         try simp only [decide_eq_true_eq] at h26
         refine o_yes rfl rfl rfl ?_
         refine o_fieldAddr (q := ⟨b3, 2, none⟩) rfl rfl Tryz.underlying92 rfl ti34 rfl ?_
         refine o_yes rfl rfl rfl ?_
         refine o_load1 rfl rfl Tryz.underlying34 rfl (rd_mem 0 rfl rfl) ?_
         refine o_yes rfl rfl rfl ?_
         refine o_len rfl rfl Tryz.underlying34 ?_
         refine o_yes rfl rfl rfl ?_
         refine o_bin rfl rfl rfl b_eql ?_
         refine o_pick_true rfl rfl rfl ?_
         refine o_assign rfl rfl ?_
         refine l_nil ?_
         refine q_then ?_
         refine c_ret ?_
         refine q_block_ret ?_
         refine q_pass_ret ?_
         refine q_conv (fun w S => S.tail) ?_
         refine q_conv (fun w S => S.tail) ?_
         exact f_ret (r_one rfl rfl) (⟨by first | exact vtrue (by unfold StepOk; grind) | exact vfalse (by unfold StepOk; grind) | exact bdec (by unfold StepOk; grind), rfl⟩) (fun w S => S)
        · -- h26F
         have h26b := h26
         try simp only [decide_eq_false_iff_not, Int.not_lt, Int.not_le] at h26
         refine o_no rfl rfl rfl rfl ?_
         refine o_no rfl rfl rfl rfl ?_
         refine o_no rfl rfl rfl rfl ?_
         refine o_no rfl rfl rfl rfl ?_
         refine o_pick_false rfl rfl rfl ?_
         refine o_assign rfl rfl ?_
         refine l_nil ?_
         refine q_then ?_
         refine c_ret ?_
         refine q_block_ret ?_
         refine q_pass_ret ?_
         refine q_conv (fun w S => S.tail) ?_
         refine q_conv (fun w S => S.tail) ?_
         exact f_ret (r_one rfl rfl) (⟨by first | exact vtrue (by unfold StepOk; grind) | exact vfalse (by unfold StepOk; grind) | exact bdec (by unfold StepOk; grind), rfl⟩) (fun w S => S)
       · -- h25F
        have h25b := h25
        try simp only [decide_eq_false_iff_not, Int.not_lt, Int.not_le] at h25
        refine c_seq ?_
        refine c_region ?_
        refine o_bin rfl rfl rfl b_eql ?_
        refine o_assign rfl rfl ?_
        refine l_nil ?_
        refine q_then ?_
        refine c_cond rfl (fun h27 => ?_) (fun h27 => ?_)
        · -- h27T
         have h27b := h27
         try simp only [decide_eq_true_eq] at h27
         refine c_seq ?_
         refine c_region ?_
         refine o_move rfl rfl ?_
         refine o_assign rfl rfl ?_
         refine l_nil ?_
         refine q_then ?_
         refine c_ret ?_
         refine q_block_ret ?_
         refine q_pass_ret ?_
         refine q_conv (fun w S => S.tail) ?_
         refine q_conv (fun w S => S.tail) ?_
         exact f_ret (r_one rfl rfl) (⟨by first | exact vtrue (by unfold StepOk; grind) | exact vfalse (by unfold StepOk; grind) | exact bdec (by unfold StepOk; grind), rfl⟩) (fun w S => S)
        · -- h27F
         have h27b := h27
         try simp only [decide_eq_false_iff_not, Int.not_lt, Int.not_le] at h27
         refine c_seq ?_
         refine c_seq ?_
         refine c_region ?_
         refine o_bin rfl rfl rfl b_eql ?_
         refine o_assign rfl rfl ?_
         refine l_nil ?_
         refine q_then ?_
         refine c_cond rfl (fun h28 => ?_) (fun h28 => ?_)
         · -- h28T
          have h28b := h28
          try simp only [decide_eq_true_eq] at h28
          refine c_skip ?_
          refine q_then ?_
          refine c_cond rfl (fun h29 => ?_) (fun h29 => ?_)
          · -- h29T
           have h29b := h29
           try simp only [decide_eq_true_eq] at h29
           refine c_seq ?_
           refine c_region ?_
           refine o_move rfl rfl ?_
           refine o_move rfl rfl ?_
           refine l_split (t := 56) rfl (fun h30 => ?_) (fun h30 => ?_)
           · -- h30T
            have h30b := h30
            try simp only [decide_eq_true_eq] at h30
            refine o_yes rfl rfl rfl ?_
            refine o_fieldAddr (q := ⟨b3, 2, none⟩) rfl rfl Tryz.underlying92 rfl ti34 rfl ?_
            refine o_yes rfl rfl rfl ?_
            refine o_load1 rfl rfl Tryz.underlying34 rfl (rd_mem 0 rfl rfl) ?_
            refine o_yes rfl rfl rfl ?_
            refine o_len rfl rfl Tryz.underlying34 ?_
            refine o_yes rfl rfl rfl ?_
            refine o_bin rfl rfl rfl b_eql ?_
            refine o_pick_true rfl rfl rfl ?_
            refine o_assign rfl rfl ?_
            refine l_nil ?_
            refine q_then ?_
            refine c_ret ?_
            refine q_block_ret ?_
            refine q_pass_ret ?_
            refine q_conv (fun w S => S.tail) ?_
            refine q_conv (fun w S => S.tail) ?_
            exact f_ret (r_one rfl rfl) (⟨by first | exact vtrue (by unfold StepOk; grind) | exact vfalse (by unfold StepOk; grind) | exact bdec (by unfold StepOk; grind), rfl⟩) (fun w S => S)
           · -- h30F
            have h30b := h30
            try simp only [decide_eq_false_iff_not, Int.not_lt, Int.not_le] at h30
            refine o_no rfl rfl rfl rfl ?_
            refine o_no rfl rfl rfl rfl ?_
            refine o_no rfl rfl rfl rfl ?_
            refine o_no rfl rfl rfl rfl ?_
            refine o_pick_false rfl rfl rfl ?_
            refine o_assign rfl rfl ?_
            refine l_nil ?_
            refine q_then ?_
            refine c_ret ?_
            refine q_block_ret ?_
            refine q_pass_ret ?_
            refine q_conv (fun w S => S.tail) ?_
            refine q_conv (fun w S => S.tail) ?_
            exact f_ret (r_one rfl rfl) (⟨by first | exact vtrue (by unfold StepOk; grind) | exact vfalse (by unfold StepOk; grind) | exact bdec (by unfold StepOk; grind), rfl⟩) (fun w S => S)
          · -- h29F
           have h29b := h29
           try simp only [decide_eq_false_iff_not, Int.not_lt, Int.not_le] at h29
           refine c_seq ?_
           refine c_region ?_
           refine o_bin rfl rfl rfl b_eql ?_
           refine o_assign rfl rfl ?_
           refine l_nil ?_
           refine q_then ?_
           refine c_cond rfl (fun h31 => ?_) (fun h31 => ?_)
           · -- h31T
            have h31b := h31
            try simp only [decide_eq_true_eq] at h31
            refine c_seq ?_
            refine c_region ?_
            refine o_fieldAddr (q := ⟨b3, 1, none⟩) rfl rfl Tryz.underlying92 rfl ti9 rfl ?_
            refine o_load1 rfl rfl Tryz.underlying9 rfl (rd_mem 0 rfl rfl) ?_
            refine o_bin rfl rfl rfl b_seql ?_
            refine o_assign rfl rfl ?_
            refine l_nil ?_
            refine q_then ?_
            refine c_ret ?_
            refine q_block_ret ?_
            refine q_pass_ret ?_
            refine q_conv (fun w S => S.tail) ?_
            refine q_conv (fun w S => S.tail) ?_
            exact f_ret (r_one rfl rfl) (⟨by first | exact vtrue (by unfold StepOk; grind) | exact vfalse (by unfold StepOk; grind) | exact bdec (by unfold StepOk; grind), rfl⟩) (fun w S => S)
           · -- h31F
            have h31b := h31
            try simp only [decide_eq_false_iff_not, Int.not_lt, Int.not_le] at h31
            refine c_skip ?_
            refine q_block ?_
            refine q_then ?_
            refine c_seq ?_
            refine c_region ?_
            refine o_assign rfl rfl ?_
            refine l_nil ?_
            refine q_then ?_
            refine c_ret ?_
            refine q_conv (fun w S => S.tail) ?_
            refine q_conv (fun w S => S.tail) ?_
            exact f_ret (r_one rfl rfl) (⟨by first | exact vtrue (by unfold StepOk; grind) | exact vfalse (by unfold StepOk; grind) | exact bdec (by unfold StepOk; grind), rfl⟩) (fun w S => S)
         · -- h28F
          have h28b := h28
          try simp only [decide_eq_false_iff_not, Int.not_lt, Int.not_le] at h28
          refine c_region ?_
          refine o_bin rfl rfl rfl b_eql ?_
          refine o_assign rfl rfl ?_
          refine l_nil ?_
          refine q_then ?_
          refine c_cond rfl (fun h32 => ?_) (fun h32 => ?_)
          · -- h32T
           have h32b := h32
           try simp only [decide_eq_true_eq] at h32
           refine c_seq ?_
           refine c_region ?_
           refine o_move rfl rfl ?_
           refine o_move rfl rfl ?_
           refine l_split (t := 56) rfl (fun h33 => ?_) (fun h33 => ?_)
           · -- h33T
            have h33b := h33
            try simp only [decide_eq_true_eq] at h33
            refine o_yes rfl rfl rfl ?_
            refine o_fieldAddr (q := ⟨b3, 2, none⟩) rfl rfl Tryz.underlying92 rfl ti34 rfl ?_
            refine o_yes rfl rfl rfl ?_
            refine o_load1 rfl rfl Tryz.underlying34 rfl (rd_mem 0 rfl rfl) ?_
            refine o_yes rfl rfl rfl ?_
            refine o_len rfl rfl Tryz.underlying34 ?_
            refine o_yes rfl rfl rfl ?_
            refine o_bin rfl rfl rfl b_eql ?_
            refine o_pick_true rfl rfl rfl ?_
            refine o_assign rfl rfl ?_
            refine l_nil ?_
            refine q_then ?_
            refine c_ret ?_
            refine q_block_ret ?_
            refine q_pass_ret ?_
            refine q_conv (fun w S => S.tail) ?_
            refine q_conv (fun w S => S.tail) ?_
            exact f_ret (r_one rfl rfl) (⟨by first | exact vtrue (by unfold StepOk; grind) | exact vfalse (by unfold StepOk; grind) | exact bdec (by unfold StepOk; grind), rfl⟩) (fun w S => S)
           · -- h33F
            have h33b := h33
            try simp only [decide_eq_false_iff_not, Int.not_lt, Int.not_le] at h33
            refine o_no rfl rfl rfl rfl ?_
            refine o_no rfl rfl rfl rfl ?_
            refine o_no rfl rfl rfl rfl ?_
            refine o_no rfl rfl rfl rfl ?_
            refine o_pick_false rfl rfl rfl ?_
            refine o_assign rfl rfl ?_
            refine l_nil ?_
            refine q_then ?_
            refine c_ret ?_
            refine q_block_ret ?_
            refine q_pass_ret ?_
            refine q_conv (fun w S => S.tail) ?_
            refine q_conv (fun w S => S.tail) ?_
            exact f_ret (r_one rfl rfl) (⟨by first | exact vtrue (by unfold StepOk; grind) | exact vfalse (by unfold StepOk; grind) | exact bdec (by unfold StepOk; grind), rfl⟩) (fun w S => S)
          · -- h32F
           have h32b := h32
           try simp only [decide_eq_false_iff_not, Int.not_lt, Int.not_le] at h32
           refine c_seq ?_
           refine c_region ?_
           refine o_bin rfl rfl rfl b_eql ?_
           refine o_assign rfl rfl ?_
           refine l_nil ?_
           refine q_then ?_
           refine c_cond rfl (fun h34 => ?_) (fun h34 => ?_)
           · -- h34T
            have h34b := h34
            try simp only [decide_eq_true_eq] at h34
            refine c_seq ?_
            refine c_region ?_
            refine o_fieldAddr (q := ⟨b3, 1, none⟩) rfl rfl Tryz.underlying92 rfl ti9 rfl ?_
            refine o_load1 rfl rfl Tryz.underlying9 rfl (rd_mem 0 rfl rfl) ?_
            refine o_bin rfl rfl rfl b_seql ?_
            refine o_assign rfl rfl ?_
            refine l_nil ?_
            refine q_then ?_
            refine c_ret ?_
            refine q_block_ret ?_
            refine q_pass_ret ?_
            refine q_conv (fun w S => S.tail) ?_
            refine q_conv (fun w S => S.tail) ?_
            exact f_ret (r_one rfl rfl) (⟨by first | exact vtrue (by unfold StepOk; grind) | exact vfalse (by unfold StepOk; grind) | exact bdec (by unfold StepOk; grind), rfl⟩) (fun w S => S)
           · -- h34F
            have h34b := h34
            try simp only [decide_eq_false_iff_not, Int.not_lt, Int.not_le] at h34
            refine c_skip ?_
            refine q_block ?_
            refine q_then ?_
            refine c_seq ?_
            refine c_region ?_
            refine o_assign rfl rfl ?_
            refine l_nil ?_
            refine q_then ?_
            refine c_ret ?_
            refine q_conv (fun w S => S.tail) ?_
            refine q_conv (fun w S => S.tail) ?_
            exact f_ret (r_one rfl rfl) (⟨by first | exact vtrue (by unfold StepOk; grind) | exact vfalse (by unfold StepOk; grind) | exact bdec (by unfold StepOk; grind), rfl⟩) (fun w S => S)
      · -- h24F
       have h24b := h24
       try simp only [decide_eq_false_iff_not, Int.not_lt, Int.not_le] at h24
       refine c_region ?_
       refine o_bin rfl rfl rfl b_eql ?_
       refine o_assign rfl rfl ?_
       refine l_nil ?_
       refine q_then ?_
       refine c_cond rfl (fun h35 => ?_) (fun h35 => ?_)
       · -- h35T
        have h35b := h35
        try simp only [decide_eq_true_eq] at h35
        refine c_seq ?_
        refine c_region ?_
        refine o_move rfl rfl ?_
        refine o_move rfl rfl ?_
        refine l_split (t := 43) rfl (fun h36 => ?_) (fun h36 => ?_)
        · -- h36T
         have h36b := h36
         try simp only [decide_eq_true_eq] at h36
         refine o_yes rfl rfl rfl ?_
         refine o_fieldAddr (q := ⟨b3, 2, none⟩) rfl rfl Tryz.underlying92 rfl ti34 rfl ?_
         refine o_yes rfl rfl rfl ?_
         refine o_load1 rfl rfl Tryz.underlying34 rfl (rd_mem 0 rfl rfl) ?_
         refine o_yes rfl rfl rfl ?_
         refine o_len rfl rfl Tryz.underlying34 ?_
         refine o_yes rfl rfl rfl ?_
         refine o_bin rfl rfl rfl b_eql ?_
         refine o_pick_true rfl rfl rfl ?_
         refine o_assign rfl rfl ?_
         refine l_nil ?_
         refine q_then ?_
         refine c_ret ?_
         refine q_block_ret ?_
         refine q_pass_ret ?_
         refine q_conv (fun w S => S.tail) ?_
         refine q_conv (fun w S => S.tail) ?_
         exact f_ret (r_one rfl rfl) (⟨by first | exact vtrue (by unfold StepOk; grind) | exact vfalse (by unfold StepOk; grind) | exact bdec (by unfold StepOk; grind), rfl⟩) (fun w S => S)
        · -- h36F
         have h36b := h36
         try simp only [decide_eq_false_iff_not, Int.not_lt, Int.not_le] at h36
         refine o_no rfl rfl rfl rfl ?_
         refine o_no rfl rfl rfl rfl ?_
         refine o_no rfl rfl rfl rfl ?_
         refine o_no rfl rfl rfl rfl ?_
         refine o_pick_false rfl rfl rfl ?_
         refine o_assign rfl rfl ?_
         refine l_nil ?_
         refine q_then ?_
         refine c_ret ?_
         refine q_block_ret ?_
         refine q_pass_ret ?_
         refine q_conv (fun w S => S.tail) ?_
         refine q_conv (fun w S => S.tail) ?_
         exact f_ret (r_one rfl rfl) (⟨by first | exact vtrue (by unfold StepOk; grind) | exact vfalse (by unfold StepOk; grind) | exact bdec (by unfold StepOk; grind), rfl⟩) (fun w S => S)
       · -- h35F
        have h35b := h35
        try simp only [decide_eq_false_iff_not, Int.not_lt, Int.not_le] at h35
        refine c_seq ?_
        refine c_region ?_
        refine o_bin rfl rfl rfl b_eql ?_
        refine o_assign rfl rfl ?_
        refine l_nil ?_
        refine q_then ?_
        refine c_cond rfl (fun h37 => ?_) (fun h37 => ?_)
        · -- h37T
         have h37b := h37
         try simp only [decide_eq_true_eq] at h37
         refine c_seq ?_
         refine c_region ?_
         refine o_move rfl rfl ?_
         refine o_assign rfl rfl ?_
         refine l_nil ?_
         refine q_then ?_
         refine c_ret ?_
         refine q_block_ret ?_
         refine q_pass_ret ?_
         refine q_conv (fun w S => S.tail) ?_
         refine q_conv (fun w S => S.tail) ?_
         exact f_ret (r_one rfl rfl) (⟨by first | exact vtrue (by unfold StepOk; grind) | exact vfalse (by unfold StepOk; grind) | exact bdec (by unfold StepOk; grind), rfl⟩) (fun w S => S)
        · -- h37F
         have h37b := h37
         try simp only [decide_eq_false_iff_not, Int.not_lt, Int.not_le] at h37
         refine c_seq ?_
         refine c_seq ?_
         refine c_region ?_
         refine o_bin rfl rfl rfl b_eql ?_
         refine o_assign rfl rfl ?_
         refine l_nil ?_
         refine q_then ?_
         refine c_cond rfl (fun h38 => ?_) (fun h38 => ?_)
         · -- h38T
          have h38b := h38
          try simp only [decide_eq_true_eq] at h38
          refine c_skip ?_
          refine q_then ?_
          refine c_cond rfl (fun h39 => ?_) (fun h39 => ?_)
          · -- h39T
           have h39b := h39
           try simp only [decide_eq_true_eq] at h39
           refine c_seq ?_
           refine c_region ?_
           refine o_move rfl rfl ?_
           refine o_move rfl rfl ?_
           refine l_split (t := 56) rfl (fun h40 => ?_) (fun h40 => ?_)
           · -- h40T
            have h40b := h40
            try simp only [decide_eq_true_eq] at h40
            refine o_yes rfl rfl rfl ?_
            refine o_fieldAddr (q := ⟨b3, 2, none⟩) rfl rfl Tryz.underlying92 rfl ti34 rfl ?_
            refine o_yes rfl rfl rfl ?_
            refine o_load1 rfl rfl Tryz.underlying34 rfl (rd_mem 0 rfl rfl) ?_
            refine o_yes rfl rfl rfl ?_
            refine o_len rfl rfl Tryz.underlying34 ?_
            refine o_yes rfl rfl rfl ?_
            refine o_bin rfl rfl rfl b_eql ?_
            refine o_pick_true rfl rfl rfl ?_
            refine o_assign rfl rfl ?_
            refine l_nil ?_
            refine q_then ?_
            refine c_ret ?_
            refine q_block_ret ?_
            refine q_pass_ret ?_
            refine q_conv (fun w S => S.tail) ?_
            refine q_conv (fun w S => S.tail) ?_
            exact f_ret (r_one rfl rfl) (⟨by first | exact vtrue (by unfold StepOk; grind) | exact vfalse (by unfold StepOk; grind) | exact bdec (by unfold StepOk; grind), rfl⟩) (fun w S => S)
           · -- h40F
            have h40b := h40
            try simp only [decide_eq_false_iff_not, Int.not_lt, Int.not_le] at h40
            refine o_no rfl rfl rfl rfl ?_
            refine o_no rfl rfl rfl rfl ?_
            refine o_no rfl rfl rfl rfl ?_
            refine o_no rfl rfl rfl rfl ?_
            refine o_pick_false rfl rfl rfl ?_
            refine o_assign rfl rfl ?_
            refine l_nil ?_
            refine q_then ?_
            refine c_ret ?_
            refine q_block_ret ?_
            refine q_pass_ret ?_
            refine q_conv (fun w S => S.tail) ?_
            refine q_conv (fun w S => S.tail) ?_
            exact f_ret (r_one rfl rfl) (⟨by first | exact vtrue (by unfold StepOk; grind) | exact vfalse (by unfold StepOk; grind) | exact bdec (by unfold StepOk; grind), rfl⟩) (fun w S => S)
          · -- h39F
           have h39b := h39
           try simp only [decide_eq_false_iff_not, Int.not_lt, Int.not_le] at h39
           refine c_seq ?_
           refine c_region ?_
           refine o_bin rfl rfl rfl b_eql ?_
           refine o_assign rfl rfl ?_
           refine l_nil ?_
           refine q_then ?_
           refine c_cond rfl (fun h41 => ?_) (fun h41 => ?_)
           · -- h41T
            have h41b := h41
            try simp only [decide_eq_true_eq] at h41
            refine c_seq ?_
            refine c_region ?_
            refine o_fieldAddr (q := ⟨b3, 1, none⟩) rfl rfl Tryz.underlying92 rfl ti9 rfl ?_
            refine o_load1 rfl rfl Tryz.underlying9 rfl (rd_mem 0 rfl rfl) ?_
            refine o_bin rfl rfl rfl b_seql ?_
            refine o_assign rfl rfl ?_
            refine l_nil ?_
            refine q_then ?_
            refine c_ret ?_
            refine q_block_ret ?_
            refine q_pass_ret ?_
            refine q_conv (fun w S => S.tail) ?_
            refine q_conv (fun w S => S.tail) ?_
            exact f_ret (r_one rfl rfl) (⟨by first | exact vtrue (by unfold StepOk; grind) | exact vfalse (by unfold StepOk; grind) | exact bdec (by unfold StepOk; grind), rfl⟩) (fun w S => S)
           · -- h41F
            have h41b := h41
            try simp only [decide_eq_false_iff_not, Int.not_lt, Int.not_le] at h41
            refine c_skip ?_
            refine q_block ?_
            refine q_then ?_
            refine c_seq ?_
            refine c_region ?_
            refine o_assign rfl rfl ?_
            refine l_nil ?_
            refine q_then ?_
            refine c_ret ?_
            refine q_conv (fun w S => S.tail) ?_
            refine q_conv (fun w S => S.tail) ?_
            exact f_ret (r_one rfl rfl) (⟨by first | exact vtrue (by unfold StepOk; grind) | exact vfalse (by unfold StepOk; grind) | exact bdec (by unfold StepOk; grind), rfl⟩) (fun w S => S)
         · -- h38F
          have h38b := h38
          try simp only [decide_eq_false_iff_not, Int.not_lt, Int.not_le] at h38
          refine c_region ?_
          refine o_bin rfl rfl rfl b_eql ?_
          refine o_assign rfl rfl ?_
          refine l_nil ?_
          refine q_then ?_
          refine c_cond rfl (fun h42 => ?_) (fun h42 => ?_)
          · -- h42T
           have h42b := h42
           try simp only [decide_eq_true_eq] at h42
           refine c_seq ?_
           refine c_region ?_
           refine o_move rfl rfl ?_
           refine o_move rfl rfl ?_
           refine l_split (t := 56) rfl (fun h43 => ?_) (fun h43 => ?_)
           · -- h43T
            have h43b := h43
            try simp only [decide_eq_true_eq] at h43
            refine o_yes rfl rfl rfl ?_
            refine o_fieldAddr (q := ⟨b3, 2, none⟩) rfl rfl Tryz.underlying92 rfl ti34 rfl ?_
            refine o_yes rfl rfl rfl ?_
            refine o_load1 rfl rfl Tryz.underlying34 rfl (rd_mem 0 rfl rfl) ?_
            refine o_yes rfl rfl rfl ?_
            refine o_len rfl rfl Tryz.underlying34 ?_
            refine o_yes rfl rfl rfl ?_
            refine o_bin rfl rfl rfl b_eql ?_
            refine o_pick_true rfl rfl rfl ?_
            refine o_assign rfl rfl ?_
            refine l_nil ?_
            refine q_then ?_
            refine c_ret ?_
            refine q_block_ret ?_
            refine q_pass_ret ?_
            refine q_conv (fun w S => S.tail) ?_
            refine q_conv (fun w S => S.tail) ?_
            exact f_ret (r_one rfl rfl) (⟨by first | exact vtrue (by unfold StepOk; grind) | exact vfalse (by unfold StepOk; grind) | exact bdec (by unfold StepOk; grind), rfl⟩) (fun w S => S)
           · -- h43F
            have h43b := h43
            try simp only [decide_eq_false_iff_not, Int.not_lt, Int.not_le] at h43
            refine o_no rfl rfl rfl rfl ?_
            refine o_no rfl rfl rfl rfl ?_
            refine o_no rfl rfl rfl rfl ?_
            refine o_no rfl rfl rfl rfl ?_
            refine o_pick_false rfl rfl rfl ?_
            refine o_assign rfl rfl ?_
            refine l_nil ?_
            refine q_then ?_
            refine c_ret ?_
            refine q_block_ret ?_
            refine q_pass_ret ?_
            refine q_conv (fun w S => S.tail) ?_
            refine q_conv (fun w S => S.tail) ?_
            exact f_ret (r_one rfl rfl) (⟨by first | exact vtrue (by unfold StepOk; grind) | exact vfalse (by unfold StepOk; grind) | exact bdec (by unfold StepOk; grind), rfl⟩) (fun w S => S)
          · -- h42F
           have h42b := h42
           try simp only [decide_eq_false_iff_not, Int.not_lt, Int.not_le] at h42
           refine c_seq ?_
           refine c_region ?_
           refine o_bin rfl rfl rfl b_eql ?_
           refine o_assign rfl rfl ?_
           refine l_nil ?_
           refine q_then ?_
           refine c_cond rfl (fun h44 => ?_) (fun h44 => ?_)
           · -- h44T
            have h44b := h44
            try simp only [decide_eq_true_eq] at h44
            refine c_seq ?_
            refine c_region ?_
            refine o_fieldAddr (q := ⟨b3, 1, none⟩) rfl rfl Tryz.underlying92 rfl ti9 rfl ?_
            refine o_load1 rfl rfl Tryz.underlying9 rfl (rd_mem 0 rfl rfl) ?_
            refine o_bin rfl rfl rfl b_seql ?_
            refine o_assign rfl rfl ?_
            refine l_nil ?_
            refine q_then ?_
            refine c_ret ?_
            refine q_block_ret ?_
            refine q_pass_ret ?_
            refine q_conv (fun w S => S.tail) ?_
            refine q_conv (fun w S => S.tail) ?_
            exact f_ret (r_one rfl rfl) (⟨by first | exact vtrue (by unfold StepOk; grind) | exact vfalse (by unfold StepOk; grind) | exact bdec (by unfold StepOk; grind), rfl⟩) (fun w S => S)
           · -- h44F
            have h44b := h44
            try simp only [decide_eq_false_iff_not, Int.not_lt, Int.not_le] at h44
            refine c_skip ?_
            refine q_block ?_
            refine q_then ?_
            refine c_seq ?_
            refine c_region ?_
            refine o_assign rfl rfl ?_
            refine l_nil ?_
            refine q_then ?_
            refine c_ret ?_
            refine q_conv (fun w S => S.tail) ?_
            refine q_conv (fun w S => S.tail) ?_
            exact f_ret (r_one rfl rfl) (⟨by first | exact vtrue (by unfold StepOk; grind) | exact vfalse (by unfold StepOk; grind) | exact bdec (by unfold StepOk; grind), rfl⟩) (fun w S => S)
  · -- h2F
   have h2b := h2
   try simp only [Bool.not_eq_false', decide_eq_true_eq] at h2
   refine o_no rfl rfl rfl rfl ?_
   refine o_no rfl rfl rfl rfl ?_
   refine o_no rfl rfl rfl rfl ?_
   refine o_yes rfl rfl rfl ?_
   refine o_pick_false rfl rfl rfl ?_
   refine o_pick_false rfl rfl rfl ?_
   refine l_nil ?_
   refine q_then ?_
   refine c_false rfl ?_
   refine c_skip ?_
   refine q_then ?_
   refine c_seq ?_
   refine c_region ?_
   refine o_fieldAddr (q := ⟨b2, 2, none⟩) rfl rfl Tryz.underlying30 rfl ti27 rfl ?_
   refine o_load1 rfl rfl Tryz.underlying27 rfl (rd_mem 1 rfl rfl) ?_
   refine o_fieldAddr (q := ⟨b3, 1, none⟩) rfl rfl Tryz.underlying92 rfl ti9 rfl ?_
   refine o_load1 rfl rfl Tryz.underlying9 rfl (rd_mem 0 rfl rfl) ?_
   refine o_call rfl cal91 rfl (contains_ (TxR.c (TxR.c T_t)).rw (by first | exact T_t.len.lr | exact T_t.len.lw | exact T_t.len.lo | omega)) ?_
   rintro _ _ ⟨rfl, rfl⟩
   refine o_assign rfl rfl ?_
   refine l_nil ?_
   refine q_then ?_
   refine c_seq ?_
   refine c_region ?_
   refine o_move rfl rfl ?_
   refine o_move rfl rfl ?_
   refine l_split (t := 27) rfl (fun h45 => ?_) (fun h45 => ?_)
   · -- h45T
    have h45b := h45
    try simp only [decide_eq_true_eq] at h45
    refine o_no rfl rfl rfl rfl ?_
    refine o_no rfl rfl rfl rfl ?_
    refine o_no rfl rfl rfl rfl ?_
    refine o_no rfl rfl rfl rfl ?_
    refine o_no rfl rfl rfl rfl ?_
    refine o_pick_true rfl rfl rfl ?_
    refine o_assign rfl rfl ?_
    refine l_nil ?_
    refine q_then ?_
    refine c_seq ?_
    refine c_seq ?_
    refine c_region ?_
    refine o_fieldAddr (q := ⟨b3, 0, none⟩) rfl rfl Tryz.underlying92 rfl ti3 rfl ?_
    refine o_load1 rfl rfl Tryz.underlying3 rfl (rd_mem 0 rfl rfl) ?_
    refine l_nil ?_
    refine q_then ?_
    refine c_block ?_
    refine c_seq ?_
    refine c_region ?_
    refine o_bin rfl rfl rfl b_eql ?_
    refine o_assign rfl rfl ?_
    refine l_nil ?_
    refine q_then ?_
    refine c_cond rfl (fun h46 => ?_) (fun h46 => ?_)
    · -- h46T
     have h46b := h46
     try simp only [decide_eq_true_eq] at h46
     refine c_seq ?_
     refine c_region ?_
     refine o_move rfl rfl ?_
     refine o_assign rfl rfl ?_
     refine l_nil ?_
     refine q_then ?_
     refine c_ret ?_
     refine q_block_ret ?_
     refine q_pass_ret ?_
     refine q_conv (fun w S => S.tail) ?_
     refine q_conv (fun w S => S.tail) ?_
     exact f_ret (r_one rfl rfl) (⟨by first | exact vtrue (by unfold StepOk; grind) | exact vfalse (by unfold StepOk; grind) | exact bdec (by unfold StepOk; grind), rfl⟩) (fun w S => S)
    · -- h46F
     have h46b := h46
     try simp only [decide_eq_false_iff_not, Int.not_lt, Int.not_le] at h46
     refine c_seq ?_
     refine c_seq ?_
     refine c_region ?_
     refine o_bin rfl rfl rfl b_eql ?_
     refine o_assign rfl rfl ?_
     refine l_nil ?_
     refine q_then ?_
     refine c_cond rfl (fun h47 => ?_) (fun h47 => ?_)
     · -- h47T
      have h47b := h47
      try simp only [decide_eq_true_eq] at h47
      refine c_skip ?_
      refine q_then ?_
      refine c_cond rfl (fun h48 => ?_) (fun h48 => ?_)
      · -- h48T
       have h48b := h48
       try simp only [decide_eq_true_eq] at h48
       refine c_seq ?_
       refine c_region ?_
       refine o_move rfl rfl ?_
       refine o_move rfl rfl ?_
       refine l_split (t := 43) rfl (fun h49 => ?_) (fun h49 => ?_)
       · -- h49T
        have h49b := h49
        try simp only [decide_eq_true_eq] at h49
        refine o_yes rfl rfl rfl ?_
        refine o_fieldAddr (q := ⟨b3, 2, none⟩) rfl rfl Tryz.underlying92 rfl ti34 rfl ?_
        refine o_yes rfl rfl rfl ?_
        refine o_load1 rfl rfl Tryz.underlying34 rfl (rd_mem 0 rfl rfl) ?_
        refine o_yes rfl rfl rfl ?_
        refine o_len rfl rfl Tryz.underlying34 ?_
        refine o_yes rfl rfl rfl ?_
        refine o_bin rfl rfl rfl b_eql ?_
        refine o_pick_true rfl rfl rfl ?_
        refine o_assign rfl rfl ?_
        refine l_nil ?_
        refine q_then ?_
        refine c_ret ?_
        refine q_block_ret ?_
        refine q_pass_ret ?_
        refine q_conv (fun w S => S.tail) ?_
        refine q_conv (fun w S => S.tail) ?_
        exact f_ret (r_one rfl rfl) (⟨by first | exact vtrue (by unfold StepOk; grind) | exact vfalse (by unfold StepOk; grind) | exact bdec (by unfold StepOk; grind), rfl⟩) (fun w S => S)
       · -- h49F
        have h49b := h49
        try simp only [decide_eq_false_iff_not, Int.not_lt, Int.not_le] at h49
        refine o_no rfl rfl rfl rfl ?_
        refine o_no rfl rfl rfl rfl ?_
        refine o_no rfl rfl rfl rfl ?_
        refine o_no rfl rfl rfl rfl ?_
        refine o_pick_false rfl rfl rfl ?_
        refine o_assign rfl rfl ?_
        refine l_nil ?_
        refine q_then ?_
        refine c_ret ?_
        refine q_block_ret ?_
        refine q_pass_ret ?_
        refine q_conv (fun w S => S.tail) ?_
        refine q_conv (fun w S => S.tail) ?_
        exact f_ret (r_one rfl rfl) (⟨by first | exact vtrue (by unfold StepOk; grind) | exact vfalse (by unfold StepOk; grind) | exact bdec (by unfold StepOk; grind), rfl⟩) (fun w S => S)
      · -- h48F
       have h48b := h48
       try simp only [decide_eq_false_iff_not, Int.not_lt, Int.not_le] at h48
       refine c_seq ?_
       refine c_region ?_
       refine o_bin rfl rfl rfl b_eql ?_
       refine o_assign rfl rfl ?_
       refine l_nil ?_
       refine q_then ?_
       refine c_cond rfl (fun h50 => ?_) (fun h50 => ?_)
       · -- h50T
        have h50b := h50
        try simp only [decide_eq_true_eq] at h50
        refine c_seq ?_
        refine c_region ?_
        refine o_move rfl rfl ?_
        refine o_assign rfl rfl ?_
        refine l_nil ?_
        refine q_then ?_
        refine c_ret ?_
        refine q_block_ret ?_
        refine q_pass_ret ?_
        refine q_conv (fun w S => S.tail) ?_
        refine q_conv (fun w S => S.tail) ?_
        exact f_ret (r_one rfl rfl) (⟨by first | exact vtrue (by unfold StepOk; grind) | exact vfalse (by unfold StepOk; grind) | exact bdec (by unfold StepOk; grind), rfl⟩) (fun w S => S)
       · -- h50F
        have h50b := h50
        try simp only [decide_eq_false_iff_not, Int.not_lt, Int.not_le] at h50
        refine c_seq ?_
        refine c_seq ?_
        refine c_region ?_
        refine o_bin rfl rfl rfl b_eql ?_
        refine o_assign rfl rfl ?_
        refine l_nil ?_
        refine q_then ?_
        refine c_cond rfl (fun h51 => ?_) (fun h51 => ?_)
        · -- h51T
         have h51b := h51
         try simp only [decide_eq_true_eq] at h51
         refine c_skip ?_
         refine q_then ?_
         refine c_cond rfl (fun h52 => ?_) (fun h52 => ?_)
         · -- h52T
          have h52b := h52
          try simp only [decide_eq_true_eq] at h52
          refine c_seq ?_
          refine c_region ?_
          refine o_move rfl rfl ?_
          refine o_move rfl rfl ?_
          refine o_yes rfl rfl rfl ?_
          refine o_fieldAddr (q := ⟨b3, 2, none⟩) rfl rfl Tryz.underlying92 rfl ti34 rfl ?_
          refine o_yes rfl rfl rfl ?_
          refine o_load1 rfl rfl Tryz.underlying34 rfl (rd_mem 0 rfl rfl) ?_
          refine o_yes rfl rfl rfl ?_
          refine o_len rfl rfl Tryz.underlying34 ?_
          refine o_yes rfl rfl rfl ?_
          refine o_bin rfl rfl rfl b_eql ?_
          refine o_pick_true rfl rfl rfl ?_
          refine o_assign rfl rfl ?_
          refine l_nil ?_
          refine q_then ?_
          refine c_ret ?_
          refine q_block_ret ?_
          refine q_pass_ret ?_
          refine q_conv (fun w S => S.tail) ?_
          refine q_conv (fun w S => S.tail) ?_
          exact f_ret (r_one rfl rfl) (⟨by first | exact vtrue (by unfold StepOk; grind) | exact vfalse (by unfold StepOk; grind) | exact bdec (by unfold StepOk; grind), rfl⟩) (fun w S => S)
         · -- h52F
          have h52b := h52
          try simp only [decide_eq_false_iff_not, Int.not_lt, Int.not_le] at h52
          refine c_seq ?_
          refine c_region ?_
          refine o_bin rfl rfl rfl b_eql ?_
          refine o_assign rfl rfl ?_
          refine l_nil ?_
          refine q_then ?_
          refine c_cond rfl (fun h53 => ?_) (fun h53 => ?_)
          · -- h53T
           have h53b := h53
           try simp only [decide_eq_true_eq] at h53
           refine c_seq ?_
           refine c_region ?_
           refine o_fieldAddr (q := ⟨b3, 1, none⟩) rfl rfl Tryz.underlying92 rfl ti9 rfl ?_
           refine o_load1 rfl rfl Tryz.underlying9 rfl (rd_mem 0 rfl rfl) ?_
           refine o_bin rfl rfl rfl b_seql ?_
           refine o_assign rfl rfl ?_
           refine l_nil ?_
           refine q_then ?_
           refine c_ret ?_
           refine q_block_ret ?_
           refine q_pass_ret ?_
           refine q_conv (fun w S => S.tail) ?_
           refine q_conv (fun w S => S.tail) ?_
           exact f_ret (r_one rfl rfl) (⟨by first | exact vtrue (by unfold StepOk; grind) | exact vfalse (by unfold StepOk; grind) | exact bdec (by unfold StepOk; grind), rfl⟩) (fun w S => S)
          · -- h53F
           have h53b := h53
           try simp only [decide_eq_false_iff_not, Int.not_lt, Int.not_le] at h53
           refine c_skip ?_
           refine q_block ?_
           refine q_then ?_
           refine c_seq ?_
           refine c_region ?_
           refine o_assign rfl rfl ?_
           refine l_nil ?_
           refine q_then ?_
           refine c_ret ?_
           refine q_conv (fun w S => S.tail) ?_
           refine q_conv (fun w S => S.tail) ?_
           exact f_ret (r_one rfl rfl) (⟨by first | exact vtrue (by unfold StepOk; grind) | exact vfalse (by unfold StepOk; grind) | exact bdec (by unfold StepOk; grind), rfl⟩) (fun w S => S)
        · -- h51F
         have h51b := h51
         try simp only [decide_eq_false_iff_not, Int.not_lt, Int.not_le] at h51
         refine c_region ?_
         refine o_bin rfl rfl rfl b_eql ?_
         refine o_assign rfl rfl ?_
         refine l_nil ?_
         refine q_then ?_
         refine c_cond rfl (fun h54 => ?_) (fun h54 => ?_)
         · -- h54T
          have h54b := h54
          try simp only [decide_eq_true_eq] at h54
          refine c_seq ?_
          refine c_region ?_
          refine o_move rfl rfl ?_
          refine o_move rfl rfl ?_
          refine o_yes rfl rfl rfl ?_
          refine o_fieldAddr (q := ⟨b3, 2, none⟩) rfl rfl Tryz.underlying92 rfl ti34 rfl ?_
          refine o_yes rfl rfl rfl ?_
          refine o_load1 rfl rfl Tryz.underlying34 rfl (rd_mem 0 rfl rfl) ?_
          refine o_yes rfl rfl rfl ?_
          refine o_len rfl rfl Tryz.underlying34 ?_
          refine o_yes rfl rfl rfl ?_
          refine o_bin rfl rfl rfl b_eql ?_
          refine o_pick_true rfl rfl rfl ?_
          refine o_assign rfl rfl ?_
          refine l_nil ?_
          refine q_then ?_
          refine c_ret ?_
          refine q_block_ret ?_
          refine q_pass_ret ?_
          refine q_conv (fun w S => S.tail) ?_
          refine q_conv (fun w S => S.tail) ?_
          exact f_ret (r_one rfl rfl) (⟨by first | exact vtrue (by unfold StepOk; grind) | exact vfalse (by unfold StepOk; grind) | exact bdec (by unfold StepOk; grind), rfl⟩) (fun w S => S)
         · -- h54F
          have h54b := h54
          try simp only [decide_eq_false_iff_not, Int.not_lt, Int.not_le] at h54
          refine c_seq ?_
          refine c_region ?_
          refine o_bin rfl rfl rfl b_eql ?_
          refine o_assign rfl rfl ?_
          refine l_nil ?_
          refine q_then ?_
          refine c_cond rfl (fun h55 => ?_) (fun h55 => ?_)
          · -- h55T
           have h55b := h55
           try simp only [decide_eq_true_eq] at h55
           refine c_seq ?_
           refine c_region ?_
           refine o_fieldAddr (q := ⟨b3, 1, none⟩) rfl rfl Tryz.underlying92 rfl ti9 rfl ?_
           refine o_load1 rfl rfl Tryz.underlying9 rfl (rd_mem 0 rfl rfl) ?_
           refine o_bin rfl rfl rfl b_seql ?_
           refine o_assign rfl rfl ?_
           refine l_nil ?_
           refine q_then ?_
           refine c_ret ?_
           refine q_block_ret ?_
           refine q_pass_ret ?_
           refine q_conv (fun w S => S.tail) ?_
           refine q_conv (fun w S => S.tail) ?_
           exact f_ret (r_one rfl rfl) (⟨by first | exact vtrue (by unfold StepOk; grind) | exact vfalse (by unfold StepOk; grind) | exact bdec (by unfold StepOk; grind), rfl⟩) (fun w S => S)
          · -- h55F
           have h55b := h55
           try simp only [decide_eq_false_iff_not, Int.not_lt, Int.not_le] at h55
           refine c_skip ?_
           refine q_block ?_
           refine q_then ?_
           refine c_seq ?_
           refine c_region ?_
           refine o_assign rfl rfl ?_
           refine l_nil ?_
           refine q_then ?_
           refine c_ret ?_
           refine q_conv (fun w S => S.tail) ?_
           refine q_conv (fun w S => S.tail) ?_
           exact f_ret (r_one rfl rfl) (⟨by first | exact vtrue (by unfold StepOk; grind) | exact vfalse (by unfold StepOk; grind) | exact bdec (by unfold StepOk; grind), rfl⟩) (fun w S => S)
     · -- h47F
      have h47b := h47
      try simp only [decide_eq_false_iff_not, Int.not_lt, Int.not_le] at h47
      refine c_region ?_
      refine o_bin rfl rfl rfl b_eql ?_
      refine o_assign rfl rfl ?_
      refine l_nil ?_
      refine q_then ?_
      refine c_cond rfl (fun h56 => ?_) (fun h56 => ?_)
      · -- h56T
       have h56b := h56
       try simp only [decide_eq_true_eq] at h56
       refine c_seq ?_
       refine c_region ?_
       refine o_move rfl rfl ?_
       refine o_move rfl rfl ?_
       refine l_split (t := 43) rfl (fun h57 => ?_) (fun h57 => ?_)
       · -- h57T
        have h57b := h57
        try simp only [decide_eq_true_eq] at h57
        refine o_yes rfl rfl rfl ?_
        refine o_fieldAddr (q := ⟨b3, 2, none⟩) rfl rfl Tryz.underlying92 rfl ti34 rfl ?_
        refine o_yes rfl rfl rfl ?_
        refine o_load1 rfl rfl Tryz.underlying34 rfl (rd_mem 0 rfl rfl) ?_
        refine o_yes rfl rfl rfl ?_
        refine o_len rfl rfl Tryz.underlying34 ?_
        refine o_yes rfl rfl rfl ?_
        refine o_bin rfl rfl rfl b_eql ?_
        refine o_pick_true rfl rfl rfl ?_
        refine o_assign rfl rfl ?_
        refine l_nil ?_
        refine q_then ?_
        refine c_ret ?_
        refine q_block_ret ?_
        refine q_pass_ret ?_
        refine q_conv (fun w S => S.tail) ?_
        refine q_conv (fun w S => S.tail) ?_
        exact f_ret (r_one rfl rfl) (⟨by first | exact vtrue (by unfold StepOk; grind) | exact vfalse (by unfold StepOk; grind) | exact bdec (by unfold StepOk; grind), rfl⟩) (fun w S => S)
       · -- h57F
        have h57b := h57
        try simp only [decide_eq_false_iff_not, Int.not_lt, Int.not_le] at h57
        refine o_no rfl rfl rfl rfl ?_
        refine o_no rfl rfl rfl rfl ?_
        refine o_no rfl rfl rfl rfl ?_
        refine o_no rfl rfl rfl rfl ?_
        refine o_pick_false rfl rfl rfl ?_
        refine o_assign rfl rfl ?_
        refine l_nil ?_
        refine q_then ?_
        refine c_ret ?_
        refine q_block_ret ?_
        refine q_pass_ret ?_
        refine q_conv (fun w S => S.tail) ?_
        refine q_conv (fun w S => S.tail) ?_
        exact f_ret (r_one rfl rfl) (⟨by first | exact vtrue (by unfold StepOk; grind) | exact vfalse (by unfold StepOk; grind) | exact bdec (by unfold StepOk; grind), rfl⟩) (fun w S => S)
      · -- h56F
       have h56b := h56
       try simp only [decide_eq_false_iff_not, Int.not_lt, Int.not_le] at h56
       refine c_seq ?_
       refine c_region ?_
       refine o_bin rfl rfl rfl b_eql ?_
       refine o_assign rfl rfl ?_
       refine l_nil ?_
       refine q_then ?_
       refine c_cond rfl (fun h58 => ?_) (fun h58 => ?_)
       · -- h58T
        have h58b := h58
        try simp only [decide_eq_true_eq] at h58
        refine c_seq ?_
        refine c_region ?_
        refine o_move rfl rfl ?_
        refine o_assign rfl rfl ?_
        refine l_nil ?_
        refine q_then ?_
        refine c_ret ?_
        refine q_block_ret ?_
        refine q_pass_ret ?_
        refine q_conv (fun w S => S.tail) ?_
        refine q_conv (fun w S => S.tail) ?_
        exact f_ret (r_one rfl rfl) (⟨by first | exact vtrue (by unfold StepOk; grind) | exact vfalse (by unfold StepOk; grind) | exact bdec (by unfold StepOk; grind), rfl⟩) (fun w S => S)
       · -- h58F
        have h58b := h58
        try simp only [decide_eq_false_iff_not, Int.not_lt, Int.not_le] at h58
        refine c_seq ?_
        refine c_seq ?_
        refine c_region ?_
        refine o_bin rfl rfl rfl b_eql ?_
        refine o_assign rfl rfl ?_
        refine l_nil ?_
        refine q_then ?_
        refine c_cond rfl (fun h59 => ?_) (fun h59 => ?_)
        · -- h59T
         have h59b := h59
         try simp only [decide_eq_true_eq] at h59
         refine c_skip ?_
         refine q_then ?_
         refine c_cond rfl (fun h60 => ?_) (fun h60 => ?_)
         · -- h60T
          have h60b := h60
          try simp only [decide_eq_true_eq] at h60
          refine c_seq ?_
          refine c_region ?_
          refine o_move rfl rfl ?_
          refine o_move rfl rfl ?_
          refine o_yes rfl rfl rfl ?_
          refine o_fieldAddr (q := ⟨b3, 2, none⟩) rfl rfl Tryz.underlying92 rfl ti34 rfl ?_
          refine o_yes rfl rfl rfl ?_
          refine o_load1 rfl rfl Tryz.underlying34 rfl (rd_mem 0 rfl rfl) ?_
          refine o_yes rfl rfl rfl ?_
          refine o_len rfl rfl Tryz.underlying34 ?_
          refine o_yes rfl rfl rfl ?_
          refine o_bin rfl rfl rfl b_eql ?_
          refine o_pick_true rfl rfl rfl ?_
          refine o_assign rfl rfl ?_
          refine l_nil ?_
          refine q_then ?_
          refine c_ret ?_
          refine q_block_ret ?_
          refine q_pass_ret ?_
          refine q_conv (fun w S => S.tail) ?_
          refine q_conv (fun w S => S.tail) ?_
          exact f_ret (r_one rfl rfl) (⟨by first | exact vtrue (by unfold StepOk; grind) | exact vfalse (by unfold StepOk; grind) | exact bdec (by unfold StepOk; grind), rfl⟩) (fun w S => S)
         · -- h60F
          have h60b := h60
          try simp only [decide_eq_false_iff_not, Int.not_lt, Int.not_le] at h60
          refine c_seq ?_
          refine c_region ?_
          refine o_bin rfl rfl rfl b_eql ?_
          refine o_assign rfl rfl ?_
          refine l_nil ?_
          refine q_then ?_
          refine c_cond rfl (fun h61 => ?_) (fun h61 => ?_)
          · -- h61T
           have h61b := h61
           try simp only [decide_eq_true_eq] at h61
           refine c_seq ?_
           refine c_region ?_
           refine o_fieldAddr (q := ⟨b3, 1, none⟩) rfl rfl Tryz.underlying92 rfl ti9 rfl ?_
           refine o_load1 rfl rfl Tryz.underlying9 rfl (rd_mem 0 rfl rfl) ?_
           refine o_bin rfl rfl rfl b_seql ?_
           refine o_assign rfl rfl ?_
           refine l_nil ?_
           refine q_then ?_
           refine c_ret ?_
           refine q_block_ret ?_
           refine q_pass_ret ?_
           refine q_conv (fun w S => S.tail) ?_
           refine q_conv (fun w S => S.tail) ?_
           exact f_ret (r_one rfl rfl) (⟨by first | exact vtrue (by unfold StepOk; grind) | exact vfalse (by unfold StepOk; grind) | exact bdec (by unfold StepOk; grind), rfl⟩) (fun w S => S)
          · -- h61F
           have h61b := h61
           try simp only [decide_eq_false_iff_not, Int.not_lt, Int.not_le] at h61
           refine c_skip ?_
           refine q_block ?_
           refine q_then ?_
           refine c_seq ?_
           refine c_region ?_
           refine o_assign rfl rfl ?_
           refine l_nil ?_
           refine q_then ?_
           refine c_ret ?_
           refine q_conv (fun w S => S.tail) ?_
           refine q_conv (fun w S => S.tail) ?_
           exact f_ret (r_one rfl rfl) (⟨by first | exact vtrue (by unfold StepOk; grind) | exact vfalse (by unfold StepOk; grind) | exact bdec (by unfold StepOk; grind), rfl⟩) (fun w S => S)
        · -- h59F
         have h59b := h59
         try simp only [decide_eq_false_iff_not, Int.not_lt, Int.not_le] at h59
         refine c_region ?_
         refine o_bin rfl rfl rfl b_eql ?_
         refine o_assign rfl rfl ?_
         refine l_nil ?_
         refine q_then ?_
         refine c_cond rfl (fun h62 => ?_) (fun h62 => ?_)
         · -- h62T
          have h62b := h62
          try simp only [decide_eq_true_eq] at h62
          refine c_seq ?_
          refine c_region ?_
          refine o_move rfl rfl ?_
          refine o_move rfl rfl ?_
          refine o_yes rfl rfl rfl ?_
          refine o_fieldAddr (q := ⟨b3, 2, none⟩) rfl rfl Tryz.underlying92 rfl ti34 rfl ?_
          refine o_yes rfl rfl rfl ?_
          refine o_load1 rfl rfl Tryz.underlying34 rfl (rd_mem 0 rfl rfl) ?_
          refine o_yes rfl rfl rfl ?_
          refine o_len rfl rfl Tryz.underlying34 ?_
          refine o_yes rfl rfl rfl ?_
          refine o_bin rfl rfl rfl b_eql ?_
          refine o_pick_true rfl rfl rfl ?_
          refine o_assign rfl rfl ?_
          refine l_nil ?_
          refine q_then ?_
          refine c_ret ?_
          refine q_block_ret ?_
          refine q_pass_ret ?_
          refine q_conv (fun w S => S.tail) ?_
          refine q_conv (fun w S => S.tail) ?_
          exact f_ret (r_one rfl rfl) (⟨by first | exact vtrue (by unfold StepOk; grind) | exact vfalse (by unfold StepOk; grind) | exact bdec (by unfold StepOk; grind), rfl⟩) (fun w S => S)
         · -- h62F
          have h62b := h62
          try simp only [decide_eq_false_iff_not, Int.not_lt, Int.not_le] at h62
          refine c_seq ?_
          refine c_region ?_
          refine o_bin rfl rfl rfl b_eql ?_
          refine o_assign rfl rfl ?_
          refine l_nil ?_
          refine q_then ?_
          refine c_cond rfl (fun h63 => ?_) (fun h63 => ?_)
          · -- h63T
           have h63b := h63
           try simp only [decide_eq_true_eq] at h63
           refine c_seq ?_
           refine c_region ?_
           refine o_fieldAddr (q := ⟨b3, 1, none⟩) rfl rfl Tryz.underlying92 rfl ti9 rfl ?_
           refine o_load1 rfl rfl Tryz.underlying9 rfl (rd_mem 0 rfl rfl) ?_
           refine o_bin rfl rfl rfl b_seql ?_
           refine o_assign rfl rfl ?_
           refine l_nil ?_
           refine q_then ?_
           refine c_ret ?_
           refine q_block_ret ?_
           refine q_pass_ret ?_
           refine q_conv (fun w S => S.tail) ?_
           refine q_conv (fun w S => S.tail) ?_
           exact f_ret (r_one rfl rfl) (⟨by first | exact vtrue (by unfold StepOk; grind) | exact vfalse (by unfold StepOk; grind) | exact bdec (by unfold StepOk; grind), rfl⟩) (fun w S => S)
          · -- h63F
           have h63b := h63
           try simp only [decide_eq_false_iff_not, Int.not_lt, Int.not_le] at h63
           refine c_skip ?_
           refine q_block ?_
           refine q_then ?_
           refine c_seq ?_
           refine c_region ?_
           refine o_assign rfl rfl ?_
           refine l_nil ?_
           refine q_then ?_
           refine c_ret ?_
           refine q_conv (fun w S => S.tail) ?_
           refine q_conv (fun w S => S.tail) ?_
           exact f_ret (r_one rfl rfl) (⟨by first | exact vtrue (by unfold StepOk; grind) | exact vfalse (by unfold StepOk; grind) | exact bdec (by unfold StepOk; grind), rfl⟩) (fun w S => S)
   · -- h45F
    have h45b := h45
    try simp only [decide_eq_false_iff_not, Int.not_lt, Int.not_le] at h45
    refine o_yes rfl rfl rfl ?_
    refine o_fieldAddr (q := ⟨b2, 1, none⟩) rfl rfl Tryz.underlying30 rfl ti27 rfl ?_
    refine o_yes rfl rfl rfl ?_
    refine o_load1 rfl rfl Tryz.underlying27 rfl (rd_mem 1 rfl rfl) ?_
    refine o_yes rfl rfl rfl ?_
    refine o_fieldAddr (q := ⟨b3, 1, none⟩) rfl rfl Tryz.underlying92 rfl ti9 rfl ?_
    refine o_yes rfl rfl rfl ?_
    refine o_load1 rfl rfl Tryz.underlying9 rfl (rd_mem 0 rfl rfl) ?_
    refine o_yes rfl rfl rfl ?_
    refine o_call rfl cal91 rfl (contains_ (TxR.c (TxR.c T_t)).rr (by first | exact T_t.len.lr | exact T_t.len.lw | exact T_t.len.lo | omega)) ?_
    rintro _ _ ⟨rfl, rfl⟩
    refine o_pick_false rfl rfl rfl ?_
    refine o_assign rfl rfl ?_
    refine l_nil ?_
    refine q_then ?_
    refine c_seq ?_
    refine c_seq ?_
    refine c_region ?_
    refine o_fieldAddr (q := ⟨b3, 0, none⟩) rfl rfl Tryz.underlying92 rfl ti3 rfl ?_
    refine o_load1 rfl rfl Tryz.underlying3 rfl (rd_mem 0 rfl rfl) ?_
    refine l_nil ?_
    refine q_then ?_
    refine c_block ?_
    refine c_seq ?_
    refine c_region ?_
    refine o_bin rfl rfl rfl b_eql ?_
    refine o_assign rfl rfl ?_
    refine l_nil ?_
    refine q_then ?_
    refine c_cond rfl (fun h64 => ?_) (fun h64 => ?_)
    · -- h64T
     have h64b := h64
     try simp only [decide_eq_true_eq] at h64
     refine c_seq ?_
     refine c_region ?_
     refine o_move rfl rfl ?_
     refine o_assign rfl rfl ?_
     refine l_nil ?_
     refine q_then ?_
     refine c_ret ?_
     refine q_block_ret ?_
     refine q_pass_ret ?_
     refine q_conv (fun w S => S.tail) ?_
     refine q_conv (fun w S => S.tail) ?_
     exact f_ret (r_one rfl rfl) (⟨by first | exact vtrue (by unfold StepOk; grind) | exact vfalse (by unfold StepOk; grind) | exact bdec (by unfold StepOk; grind), rfl⟩) (fun w S => S)
    · -- h64F
     have h64b := h64
     try simp only [decide_eq_false_iff_not, Int.not_lt, Int.not_le] at h64
     refine c_seq ?_
     refine c_seq ?_
     refine c_region ?_
     refine o_bin rfl rfl rfl b_eql ?_
     refine o_assign rfl rfl ?_
     refine l_nil ?_
     refine q_then ?_
     refine c_cond rfl (fun h65 => ?_) (fun h65 => ?_)
     · -- h65T
      have h65b := h65
      try simp only [decide_eq_true_eq] at h65
      refine c_skip ?_
      refine q_then ?_
      refine c_cond rfl (fun h66 => ?_) (fun h66 => ?_)
      · -- h66T
       have h66b := h66
       try simp only [decide_eq_true_eq] at h66
       refine c_seq ?_
       refine c_region ?_
       refine o_move rfl rfl ?_
       refine o_move rfl rfl ?_
       refine l_split (t := 43) rfl (fun h67 => ?_) (fun h67 => ?_)
       · -- h67T
        have h67b := h67
        try simp only [decide_eq_true_eq] at h67
        refine o_yes rfl rfl rfl ?_
        refine o_fieldAddr (q := ⟨b3, 2, none⟩) rfl rfl Tryz.underlying92 rfl ti34 rfl ?_
        refine o_yes rfl rfl rfl ?_
        refine o_load1 rfl rfl Tryz.underlying34 rfl (rd_mem 0 rfl rfl) ?_
        refine o_yes rfl rfl rfl ?_
        refine o_len rfl rfl Tryz.underlying34 ?_
        refine o_yes rfl rfl rfl ?_
        refine o_bin rfl rfl rfl b_eql ?_
        refine o_pick_true rfl rfl rfl ?_
        refine o_assign rfl rfl ?_
        refine l_nil ?_
        refine q_then ?_
        refine c_ret ?_
        refine q_block_ret ?_
        refine q_pass_ret ?_
        refine q_conv (fun w S => S.tail) ?_
        refine q_conv (fun w S => S.tail) ?_
        exact f_ret (r_one rfl rfl) (⟨by first | exact vtrue (by unfold StepOk; grind) | exact vfalse (by unfold StepOk; grind) | exact bdec (by unfold StepOk; grind), rfl⟩) (fun w S => S)
       · -- h67F
        have h67b := h67
        try simp only [decide_eq_false_iff_not, Int.not_lt, Int.not_le] at h67
        refine o_no rfl rfl rfl rfl ?_
        refine o_no rfl rfl rfl rfl ?_
        refine o_no rfl rfl rfl rfl ?_
        refine o_no rfl rfl rfl rfl ?_
        refine o_pick_false rfl rfl rfl ?_
        refine o_assign rfl rfl ?_
        refine l_nil ?_
        refine q_then ?_
        refine c_ret ?_
        refine q_block_ret ?_
        refine q_pass_ret ?_
        refine q_conv (fun w S => S.tail) ?_
        refine q_conv (fun w S => S.tail) ?_
        exact f_ret (r_one rfl rfl) (⟨by first | exact vtrue (by unfold StepOk; grind) | exact vfalse (by unfold StepOk; grind) | exact bdec (by unfold StepOk; grind), rfl⟩) (fun w S => S)
      · -- h66F
       have h66b := h66
       try simp only [decide_eq_false_iff_not, Int.not_lt, Int.not_le] at h66
       refine c_seq ?_
       refine c_region ?_
       refine o_bin rfl rfl rfl b_eql ?_
       refine o_assign rfl rfl ?_
       refine l_nil ?_
       refine q_then ?_
       refine c_cond rfl (fun h68 => ?_) (fun h68 => ?_)
       · -- h68T
        have h68b := h68
        try simp only [decide_eq_true_eq] at h68
        refine c_seq ?_
        refine c_region ?_
        refine o_move rfl rfl ?_
        refine o_assign rfl rfl ?_
        refine l_nil ?_
        refine q_then ?_
        refine c_ret ?_
        refine q_block_ret ?_
        refine q_pass_ret ?_
        refine q_conv (fun w S => S.tail) ?_
        refine q_conv (fun w S => S.tail) ?_
        exact f_ret (r_one rfl rfl) (⟨by first | exact vtrue (by unfold StepOk; grind) | exact vfalse (by unfold StepOk; grind) | exact bdec (by unfold StepOk; grind), rfl⟩) (fun w S => S)
       · -- h68F
        have h68b := h68
        try simp only [decide_eq_false_iff_not, Int.not_lt, Int.not_le] at h68
        refine c_seq ?_
        refine c_seq ?_
        refine c_region ?_
        refine o_bin rfl rfl rfl b_eql ?_
        refine o_assign rfl rfl ?_
        refine l_nil ?_
        refine q_then ?_
        refine c_cond rfl (fun h69 => ?_) (fun h69 => ?_)
        · -- h69T
         have h69b := h69
         try simp only [decide_eq_true_eq] at h69
         refine c_skip ?_
         refine q_then ?_
         refine c_cond rfl (fun h70 => ?_) (fun h70 => ?_)
         · -- h70T
          have h70b := h70
          try simp only [decide_eq_true_eq] at h70
          refine c_seq ?_
          refine c_region ?_
          refine o_move rfl rfl ?_
          refine o_move rfl rfl ?_
          refine l_split (t := 56) rfl (fun h71 => ?_) (fun h71 => ?_)
          · -- h71T
           have h71b := h71
           try simp only [decide_eq_true_eq] at h71
           refine o_yes rfl rfl rfl ?_
           refine o_fieldAddr (q := ⟨b3, 2, none⟩) rfl rfl Tryz.underlying92 rfl ti34 rfl ?_
           refine o_yes rfl rfl rfl ?_
           refine o_load1 rfl rfl Tryz.underlying34 rfl (rd_mem 0 rfl rfl) ?_
           refine o_yes rfl rfl rfl ?_
           refine o_len rfl rfl Tryz.underlying34 ?_
           refine o_yes rfl rfl rfl ?_
           refine o_bin rfl rfl rfl b_eql ?_
           refine o_pick_true rfl rfl rfl ?_
           refine o_assign rfl rfl ?_
           refine l_nil ?_
           refine q_then ?_
           refine c_ret ?_
           refine q_block_ret ?_
           refine q_pass_ret ?_
           refine q_conv (fun w S => S.tail) ?_
           refine q_conv (fun w S => S.tail) ?_
           exact f_ret (r_one rfl rfl) (⟨by first | exact vtrue (by unfold StepOk; grind) | exact vfalse (by unfold StepOk; grind) | exact bdec (by unfold StepOk; grind), rfl⟩) (fun w S => S)
          · -- h71F
           have h71b := h71
           try simp only [decide_eq_false_iff_not, Int.not_lt, Int.not_le] at h71
           refine o_no rfl rfl rfl rfl ?_
           refine o_no rfl rfl rfl rfl ?_
           refine o_no rfl rfl rfl rfl ?_
           refine o_no rfl rfl rfl rfl ?_
           refine o_pick_false rfl rfl rfl ?_
           refine o_assign rfl rfl ?_
           refine l_nil ?_
           refine q_then ?_
           refine c_ret ?_
           refine q_block_ret ?_
           refine q_pass_ret ?_
           refine q_conv (fun w S => S.tail) ?_
           refine q_conv (fun w S => S.tail) ?_
           exact f_ret (r_one rfl rfl) (⟨by first | exact vtrue (by unfold StepOk; grind) | exact vfalse (by unfold StepOk; grind) | exact bdec (by unfold StepOk; grind), rfl⟩) (fun w S => S)
         · -- h70F
          have h70b := h70
          try simp only [decide_eq_false_iff_not, Int.not_lt, Int.not_le] at h70
          refine c_seq ?_
          refine c_region ?_
          refine o_bin rfl rfl rfl b_eql ?_
          refine o_assign rfl rfl ?_
          refine l_nil ?_
          refine q_then ?_
          refine c_cond rfl (fun h72 => ?_) (fun h72 => ?_)
          · -- h72T
           have h72b := h72
           try simp only [decide_eq_true_eq] at h72
           refine c_seq ?_
           refine c_region ?_
           refine o_fieldAddr (q := ⟨b3, 1, none⟩) rfl rfl Tryz.underlying92 rfl ti9 rfl ?_
           refine o_load1 rfl rfl Tryz.underlying9 rfl (rd_mem 0 rfl rfl) ?_
           refine o_bin rfl rfl rfl b_seql ?_
           refine o_assign rfl rfl ?_
           refine l_nil ?_
           refine q_then ?_
           refine c_ret ?_
           refine q_block_ret ?_
           refine q_pass_ret ?_
           refine q_conv (fun w S => S.tail) ?_
           refine q_conv (fun w S => S.tail) ?_
           exact f_ret (r_one rfl rfl) (⟨by first | exact vtrue (by unfold StepOk; grind) | exact vfalse (by unfold StepOk; grind) | exact bdec (by unfold StepOk; grind), rfl⟩) (fun w S => S)
          · -- h72F
           have h72b := h72
           try simp only [decide_eq_false_iff_not, Int.not_lt, Int.not_le] at h72
           refine c_skip ?_
           refine q_block ?_
           refine q_then ?_
           refine c_seq ?_
           refine c_region ?_
           refine o_assign rfl rfl ?_
           refine l_nil ?_
           refine q_then ?_
           refine c_ret ?_
           refine q_conv (fun w S => S.tail) ?_
           refine q_conv (fun w S => S.tail) ?_
           exact f_ret (r_one rfl rfl) (⟨by first | exact vtrue (by unfold StepOk; grind) | exact vfalse (by unfold StepOk; grind) | exact bdec (by unfold StepOk; grind), rfl⟩) (fun w S => S)
        · -- h69F
         have h69b := h69
         try simp only [decide_eq_false_iff_not, Int.not_lt, Int.not_le] at h69
         refine c_region ?_
         refine o_bin rfl rfl rfl b_eql ?_
         refine o_assign rfl rfl ?_
         refine l_nil ?_
         refine q_then ?_
         refine c_cond rfl (fun h73 => ?_) (fun h73 => ?_)
         · -- h73T
          have h73b := h73
          try simp only [decide_eq_true_eq] at h73
          refine c_seq ?_
          refine c_region ?_
          refine o_move rfl rfl ?_
          refine o_move rfl rfl ?_
          refine l_split (t := 56) rfl (fun h74 => ?_) (fun h74 => ?_)
          · -- h74T
           have h74b := h74
           try simp only [decide_eq_true_eq] at h74
           refine o_yes rfl rfl rfl ?_
           refine o_fieldAddr (q := ⟨b3, 2, none⟩) rfl rfl Tryz.underlying92 rfl ti34 rfl ?_
           refine o_yes rfl rfl rfl ?_
           refine o_load1 rfl rfl Tryz.underlying34 rfl (rd_mem 0 rfl rfl) ?_
           refine o_yes rfl rfl rfl ?_
           refine o_len rfl rfl Tryz.underlying34 ?_
           refine o_yes rfl rfl rfl ?_
           refine o_bin rfl rfl rfl b_eql ?_
           refine o_pick_true rfl rfl rfl ?_
           refine o_assign rfl rfl ?_
           refine l_nil ?_
           refine q_then ?_
           refine c_ret ?_
           refine q_block_ret ?_
           refine q_pass_ret ?_
           refine q_conv (fun w S => S.tail) ?_
           refine q_conv (fun w S => S.tail) ?_
           exact f_ret (r_one rfl rfl) (⟨by first | exact vtrue (by unfold StepOk; grind) | exact vfalse (by unfold StepOk; grind) | exact bdec (by unfold StepOk; grind), rfl⟩) (fun w S => S)
          · -- h74F
           have h74b := h74
           try simp only [decide_eq_false_iff_not, Int.not_lt, Int.not_le] at h74
           refine o_no rfl rfl rfl rfl ?_
           refine o_no rfl rfl rfl rfl ?_
           refine o_no rfl rfl rfl rfl ?_
           refine o_no rfl rfl rfl rfl ?_
           refine o_pick_false rfl rfl rfl ?_
           refine o_assign rfl rfl ?_
           refine l_nil ?_
           refine q_then ?_
           refine c_ret ?_
           refine q_block_ret ?_
           refine q_pass_ret ?_
           refine q_conv (fun w S => S.tail) ?_
           refine q_conv (fun w S => S.tail) ?_
           exact f_ret (r_one rfl rfl) (⟨by first | exact vtrue (by unfold StepOk; grind) | exact vfalse (by unfold StepOk; grind) | exact bdec (by unfold StepOk; grind), rfl⟩) (fun w S => S)
         · -- h73F
          have h73b := h73
          try simp only [decide_eq_false_iff_not, Int.not_lt, Int.not_le] at h73
          refine c_seq ?_
          refine c_region ?_
          refine o_bin rfl rfl rfl b_eql ?_
          refine o_assign rfl rfl ?_
          refine l_nil ?_
          refine q_then ?_
          refine c_cond rfl (fun h75 => ?_) (fun h75 => ?_)
          · -- h75T
           have h75b := h75
           try simp only [decide_eq_true_eq] at h75
           refine c_seq ?_
           refine c_region ?_
           refine o_fieldAddr (q := ⟨b3, 1, none⟩) rfl rfl Tryz.underlying92 rfl ti9 rfl ?_
           refine o_load1 rfl rfl Tryz.underlying9 rfl (rd_mem 0 rfl rfl) ?_
           refine o_bin rfl rfl rfl b_seql ?_
           refine o_assign rfl rfl ?_
           refine l_nil ?_
           refine q_then ?_
           refine c_ret ?_
           refine q_block_ret ?_
           refine q_pass_ret ?_
           refine q_conv (fun w S => S.tail) ?_
           refine q_conv (fun w S => S.tail) ?_
           exact f_ret (r_one rfl rfl) (⟨by first | exact vtrue (by unfold StepOk; grind) | exact vfalse (by unfold StepOk; grind) | exact bdec (by unfold StepOk; grind), rfl⟩) (fun w S => S)
          · -- h75F
           have h75b := h75
           try simp only [decide_eq_false_iff_not, Int.not_lt, Int.not_le] at h75
           refine c_skip ?_
           refine q_block ?_
           refine q_then ?_
           refine c_seq ?_
           refine c_region ?_
           refine o_assign rfl rfl ?_
           refine l_nil ?_
           refine q_then ?_
           refine c_ret ?_
           refine q_conv (fun w S => S.tail) ?_
           refine q_conv (fun w S => S.tail) ?_
           exact f_ret (r_one rfl rfl) (⟨by first | exact vtrue (by unfold StepOk; grind) | exact vfalse (by unfold StepOk; grind) | exact bdec (by unfold StepOk; grind), rfl⟩) (fun w S => S)
     · -- h65F
      have h65b := h65
      try simp only [decide_eq_false_iff_not, Int.not_lt, Int.not_le] at h65
      refine c_region ?_
      refine o_bin rfl rfl rfl b_eql ?_
      refine o_assign rfl rfl ?_
      refine l_nil ?_
      refine q_then ?_
      refine c_cond rfl (fun h76 => ?_) (fun h76 => ?_)
      · -- h76T
       have h76b := h76
       try simp only [decide_eq_true_eq] at h76
       refine c_seq ?_
       refine c_region ?_
       refine o_move rfl rfl ?_
       refine o_move rfl rfl ?_
       refine l_split (t := 43) rfl (fun h77 => ?_) (fun h77 => ?_)
       · -- h77T
        have h77b := h77
        try simp only [decide_eq_true_eq] at h77
        refine o_yes rfl rfl rfl ?_
        refine o_fieldAddr (q := ⟨b3, 2, none⟩) rfl rfl Tryz.underlying92 rfl ti34 rfl ?_
        refine o_yes rfl rfl rfl ?_
        refine o_load1 rfl rfl Tryz.underlying34 rfl (rd_mem 0 rfl rfl) ?_
        refine o_yes rfl rfl rfl ?_
        refine o_len rfl rfl Tryz.underlying34 ?_
        refine o_yes rfl rfl rfl ?_
        refine o_bin rfl rfl rfl b_eql ?_
        refine o_pick_true rfl rfl rfl ?_
        refine o_assign rfl rfl ?_
        refine l_nil ?_
        refine q_then ?_
        refine c_ret ?_
        refine q_block_ret ?_
        refine q_pass_ret ?_
        refine q_conv (fun w S => S.tail) ?_
        refine q_conv (fun w S => S.tail) ?_
        exact f_ret (r_one rfl rfl) (⟨by first | exact vtrue (by unfold StepOk; grind) | exact vfalse (by unfold StepOk; grind) | exact bdec (by unfold StepOk; grind), rfl⟩) (fun w S => S)
       · -- h77F
        have h77b := h77
        try simp only [decide_eq_false_iff_not, Int.not_lt, Int.not_le] at h77
        refine o_no rfl rfl rfl rfl ?_
        refine o_no rfl rfl rfl rfl ?_
        refine o_no rfl rfl rfl rfl ?_
        refine o_no rfl rfl rfl rfl ?_
        refine o_pick_false rfl rfl rfl ?_
        refine o_assign rfl rfl ?_
        refine l_nil ?_
        refine q_then ?_
        refine c_ret ?_
        refine q_block_ret ?_
        refine q_pass_ret ?_
        refine q_conv (fun w S => S.tail) ?_
        refine q_conv (fun w S => S.tail) ?_
        exact f_ret (r_one rfl rfl) (⟨by first | exact vtrue (by unfold StepOk; grind) | exact vfalse (by unfold StepOk; grind) | exact bdec (by unfold StepOk; grind), rfl⟩) (fun w S => S)
      · -- h76F
       have h76b := h76
       try simp only [decide_eq_false_iff_not, Int.not_lt, Int.not_le] at h76
       refine c_seq ?_
       refine c_region ?_
       refine o_bin rfl rfl rfl b_eql ?_
       refine o_assign rfl rfl ?_
       refine l_nil ?_
       refine q_then ?_
       refine c_cond rfl (fun h78 => ?_) (fun h78 => ?_)
       · -- h78T
        have h78b := h78
        try simp only [decide_eq_true_eq] at h78
        refine c_seq ?_
        refine c_region ?_
        refine o_move rfl rfl ?_
        refine o_assign rfl rfl ?_
        refine l_nil ?_
        refine q_then ?_
        refine c_ret ?_
        refine q_block_ret ?_
        refine q_pass_ret ?_
        refine q_conv (fun w S => S.tail) ?_
        refine q_conv (fun w S => S.tail) ?_
        exact f_ret (r_one rfl rfl) (⟨by first | exact vtrue (by unfold StepOk; grind) | exact vfalse (by unfold StepOk; grind) | exact bdec (by unfold StepOk; grind), rfl⟩) (fun w S => S)
       · -- h78F
        have h78b := h78
        try simp only [decide_eq_false_iff_not, Int.not_lt, Int.not_le] at h78
        refine c_seq ?_
        refine c_seq ?_
        refine c_region ?_
        refine o_bin rfl rfl rfl b_eql ?_
        refine o_assign rfl rfl ?_
        refine l_nil ?_
        refine q_then ?_
        refine c_cond rfl (fun h79 => ?_) (fun h79 => ?_)
        · -- h79T
         have h79b := h79
         try simp only [decide_eq_true_eq] at h79
         refine c_skip ?_
         refine q_then ?_
         refine c_cond rfl (fun h80 => ?_) (fun h80 => ?_)
         · -- h80T
          have h80b := h80
          try simp only [decide_eq_true_eq] at h80
          refine c_seq ?_
          refine c_region ?_
          refine o_move rfl rfl ?_
          refine o_move rfl rfl ?_
          refine l_split (t := 56) rfl (fun h81 => ?_) (fun h81 => ?_)
          · -- h81T
           have h81b := h81
           try simp only [decide_eq_true_eq] at h81
           refine o_yes rfl rfl rfl ?_
           refine o_fieldAddr (q := ⟨b3, 2, none⟩) rfl rfl Tryz.underlying92 rfl ti34 rfl ?_
           refine o_yes rfl rfl rfl ?_
           refine o_load1 rfl rfl Tryz.underlying34 rfl (rd_mem 0 rfl rfl) ?_
           refine o_yes rfl rfl rfl ?_
           refine o_len rfl rfl Tryz.underlying34 ?_
           refine o_yes rfl rfl rfl ?_
           refine o_bin rfl rfl rfl b_eql ?_
           refine o_pick_true rfl rfl rfl ?_
           refine o_assign rfl rfl ?_
           refine l_nil ?_
           refine q_then ?_
           refine c_ret ?_
           refine q_block_ret ?_
           refine q_pass_ret ?_
           refine q_conv (fun w S => S.tail) ?_
           refine q_conv (fun w S => S.tail) ?_
           exact f_ret (r_one rfl rfl) (⟨by first | exact vtrue (by unfold StepOk; grind) | exact vfalse (by unfold StepOk; grind) | exact bdec (by unfold StepOk; grind), rfl⟩) (fun w S => S)
          · -- h81F
           have h81b := h81
           try simp only [decide_eq_false_iff_not, Int.not_lt, Int.not_le] at h81
           refine o_no rfl rfl rfl rfl ?_
           refine o_no rfl rfl rfl rfl ?_
           refine o_no rfl rfl rfl rfl ?_
           refine o_no rfl rfl rfl rfl ?_
           refine o_pick_false rfl rfl rfl ?_
           refine o_assign rfl rfl ?_
           refine l_nil ?_
           refine q_then ?_
           refine c_ret ?_
           refine q_block_ret ?_
           refine q_pass_ret ?_
           refine q_conv (fun w S => S.tail) ?_
           refine q_conv (fun w S => S.tail) ?_
           exact f_ret (r_one rfl rfl) (⟨by first | exact vtrue (by unfold StepOk; grind) | exact vfalse (by unfold StepOk; grind) | exact bdec (by unfold StepOk; grind), rfl⟩) (fun w S => S)
         · -- h80F
          have h80b := h80
          try simp only [decide_eq_false_iff_not, Int.not_lt, Int.not_le] at h80
          refine c_seq ?_
          refine c_region ?_
          refine o_bin rfl rfl rfl b_eql ?_
          refine o_assign rfl rfl ?_
          refine l_nil ?_
          refine q_then ?_
          refine c_cond rfl (fun h82 => ?_) (fun h82 => ?_)
          · -- h82T
           have h82b := h82
           try simp only [decide_eq_true_eq] at h82
           refine c_seq ?_
           refine c_region ?_
           refine o_fieldAddr (q := ⟨b3, 1, none⟩) rfl rfl Tryz.underlying92 rfl ti9 rfl ?_
           refine o_load1 rfl rfl Tryz.underlying9 rfl (rd_mem 0 rfl rfl) ?_
           refine o_bin rfl rfl rfl b_seql ?_
           refine o_assign rfl rfl ?_
           refine l_nil ?_
           refine q_then ?_
           refine c_ret ?_
           refine q_block_ret ?_
           refine q_pass_ret ?_
           refine q_conv (fun w S => S.tail) ?_
           refine q_conv (fun w S => S.tail) ?_
           exact f_ret (r_one rfl rfl) (⟨by first | exact vtrue (by unfold StepOk; grind) | exact vfalse (by unfold StepOk; grind) | exact bdec (by unfold StepOk; grind), rfl⟩) (fun w S => S)
          · -- h82F
           have h82b := h82
           try simp only [decide_eq_false_iff_not, Int.not_lt, Int.not_le] at h82
           refine c_skip ?_
           refine q_block ?_
           refine q_then ?_
           refine c_seq ?_
           refine c_region ?_
           refine o_assign rfl rfl ?_
           refine l_nil ?_
           refine q_then ?_
           refine c_ret ?_
           refine q_conv (fun w S => S.tail) ?_
           refine q_conv (fun w S => S.tail) ?_
           exact f_ret (r_one rfl rfl) (⟨by first | exact vtrue (by unfold StepOk; grind) | exact vfalse (by unfold StepOk; grind) | exact bdec (by unfold StepOk; grind), rfl⟩) (fun w S => S)
        · -- h79F
         have h79b := h79
         try simp only [decide_eq_false_iff_not, Int.not_lt, Int.not_le] at h79
         refine c_region ?_
         refine o_bin rfl rfl rfl b_eql ?_
         refine o_assign rfl rfl ?_
         refine l_nil ?_
         refine q_then ?_
         refine c_cond rfl (fun h83 => ?_) (fun h83 => ?_)
         · -- h83T
          have h83b := h83
          try simp only [decide_eq_true_eq] at h83
          refine c_seq ?_
          refine c_region ?_
          refine o_move rfl rfl ?_
          refine o_move rfl rfl ?_
          refine l_split (t := 56) rfl (fun h84 => ?_) (fun h84 => ?_)
          · -- h84T
           have h84b := h84
           try simp only [decide_eq_true_eq] at h84
           refine o_yes rfl rfl rfl ?_
           refine o_fieldAddr (q := ⟨b3, 2, none⟩) rfl rfl Tryz.underlying92 rfl ti34 rfl ?_
           refine o_yes rfl rfl rfl ?_
           refine o_load1 rfl rfl Tryz.underlying34 rfl (rd_mem 0 rfl rfl) ?_
           refine o_yes rfl rfl rfl ?_
           refine o_len rfl rfl Tryz.underlying34 ?_
           refine o_yes rfl rfl rfl ?_
           refine o_bin rfl rfl rfl b_eql ?_
           refine o_pick_true rfl rfl rfl ?_
           refine o_assign rfl rfl ?_
           refine l_nil ?_
           refine q_then ?_
           refine c_ret ?_
           refine q_block_ret ?_
           refine q_pass_ret ?_
           refine q_conv (fun w S => S.tail) ?_
           refine q_conv (fun w S => S.tail) ?_
           exact f_ret (r_one rfl rfl) (⟨by first | exact vtrue (by unfold StepOk; grind) | exact vfalse (by unfold StepOk; grind) | exact bdec (by unfold StepOk; grind), rfl⟩) (fun w S => S)
          · -- h84F
           have h84b := h84
           try simp only [decide_eq_false_iff_not, Int.not_lt, Int.not_le] at h84
           refine o_no rfl rfl rfl rfl ?_
           refine o_no rfl rfl rfl rfl ?_
           refine o_no rfl rfl rfl rfl ?_
           refine o_no rfl rfl rfl rfl ?_
           refine o_pick_false rfl rfl rfl ?_
           refine o_assign rfl rfl ?_
           refine l_nil ?_
           refine q_then ?_
           refine c_ret ?_
           refine q_block_ret ?_
           refine q_pass_ret ?_
           refine q_conv (fun w S => S.tail) ?_
           refine q_conv (fun w S => S.tail) ?_
           exact f_ret (r_one rfl rfl) (⟨by first | exact vtrue (by unfold StepOk; grind) | exact vfalse (by unfold StepOk; grind) | exact bdec (by unfold StepOk; grind), rfl⟩) (fun w S => S)
         · -- h83F
          have h83b := h83
          try simp only [decide_eq_false_iff_not, Int.not_lt, Int.not_le] at h83
          refine c_seq ?_
          refine c_region ?_
          refine o_bin rfl rfl rfl b_eql ?_
          refine o_assign rfl rfl ?_
          refine l_nil ?_
          refine q_then ?_
          refine c_cond rfl (fun h85 => ?_) (fun h85 => ?_)
          · -- h85T
           have h85b := h85
           try simp only [decide_eq_true_eq] at h85
           refine c_seq ?_
           refine c_region ?_
           refine o_fieldAddr (q := ⟨b3, 1, none⟩) rfl rfl Tryz.underlying92 rfl ti9 rfl ?_
           refine o_load1 rfl rfl Tryz.underlying9 rfl (rd_mem 0 rfl rfl) ?_
           refine o_bin rfl rfl rfl b_seql ?_
           refine o_assign rfl rfl ?_
           refine l_nil ?_
           refine q_then ?_
           refine c_ret ?_
           refine q_block_ret ?_
           refine q_pass_ret ?_
           refine q_conv (fun w S => S.tail) ?_
           refine q_conv (fun w S => S.tail) ?_
           exact f_ret (r_one rfl rfl) (⟨by first | exact vtrue (by unfold StepOk; grind) | exact vfalse (by unfold StepOk; grind) | exact bdec (by unfold StepOk; grind), rfl⟩) (fun w S => S)
          · -- h85F
           have h85b := h85
           try simp only [decide_eq_false_iff_not, Int.not_lt, Int.not_le] at h85
           refine c_skip ?_
           refine q_block ?_
           refine q_then ?_
           refine c_seq ?_
           refine c_region ?_
           refine o_assign rfl rfl ?_
           refine l_nil ?_
           refine q_then ?_
           refine c_ret ?_
           refine q_conv (fun w S => S.tail) ?_
           refine q_conv (fun w S => S.tail) ?_
           exact f_ret (r_one rfl rfl) (⟨by first | exact vtrue (by unfold StepOk; grind) | exact vfalse (by unfold StepOk; grind) | exact bdec (by unfold StepOk; grind), rfl⟩) (fun w S => S)
end
section
set_option linter.unusedVariables false
set_option linter.unusedSimpArgs false
set_option maxRecDepth 10000
open Go.RowKit Classical
theorem chkF {W : World} {F : List Res} {k : Nat} {t : Txn} (T_t : TxR W F t) {o : Op} (V_o : RdS W F e8 o.f_Value.a o.f_Value.xs) : CS Tryz.prog 66 #[.agg #[.int .i64 o.f_Kind, .string o.f_Key, .slice o.f_Value.a (o.f_Value.xs).length o.f_Value.c, .int .i64 o.f_N], .pointer (some ⟨k, 0, none⟩)] W (blk k (.cells #[.int .i64 t.f_Kind, .slice t.f_Reads.a (t.f_Reads.xs).length t.f_Reads.c, .slice t.f_Writes.a (t.f_Writes.xs).length t.f_Writes.c, .slice t.f_Ops.a (t.f_Ops.xs).length t.f_Ops.c, .int .i64 t.f_To] 30 (0, 0)) :: F) (fun r L' => r = .bool (decide (¬ StepOk t o)) ∧ blk k (.cells #[.int .i64 t.f_Kind, .slice t.f_Reads.a (t.f_Reads.xs).length t.f_Reads.c, .slice t.f_Writes.a (t.f_Writes.xs).length t.f_Writes.c, .slice t.f_Ops.a (t.f_Ops.xs).length t.f_Ops.c, .int .i64 t.f_To] 30 (0, 0)) :: F = L') := by
 refine f_door (l0 := [(0, .agg #[.int .i64 o.f_Kind, .string o.f_Key, .slice o.f_Value.a (o.f_Value.xs).length o.f_Value.c, .int .i64 o.f_N]), (1, .pointer (some ⟨k, 0, none⟩))]) Tryz.func66 Tryz.ntmps66 rfl rfl rfl ?_
 refine c_seq ?_
 refine c_region ?_
 refine o_box rfl rfl fun b2 => ?_
 refine o_assign rfl rfl ?_
 refine l_nil ?_
 refine q_then ?_
 refine c_seq ?_
 refine c_region ?_
 refine o_loadn (vs := [_, _, _, _, _]) rfl rfl Tryz.underlying30 rfl ti30 (rdn_lit 1 rfl rfl) ?_
 refine o_loadn (vs := [_, _, _, _]) rfl rfl Tryz.underlying92 rfl ti92 (rdn_lit 0 rfl rfl) ?_
 refine o_call rfl cal67 rfl (step_ (o := o) (TxR.c (TxR.c T_t)) (rds_c (rds_c V_o))) ?_
 rintro _ _ ⟨rfl, rfl⟩
 refine o_not rfl rfl ?_
 refine o_assign rfl rfl ?_
 refine l_nil ?_
 refine q_then ?_
 refine c_ret ?_
 refine q_conv (fun w S => S.tail) ?_
 exact f_ret (r_one rfl rfl) (⟨bnot_dec Iff.rfl, rfl⟩) (fun w S => S)
theorem check_ {W : World} {F : List Res} {g : Int} {t : Txn} (T_t : TxR W F t) : CS Tryz.prog 41 #[.agg #[.int .i64 t.f_Kind, .slice t.f_Reads.a (t.f_Reads.xs).length t.f_Reads.c, .slice t.f_Writes.a (t.f_Writes.xs).length t.f_Writes.c, .slice t.f_Ops.a (t.f_Ops.xs).length t.f_Ops.c, .int .i64 t.f_To], .int .i64 g] W (F) (fun r L' => r = .int .i64 (chkN t g) ∧ F = L') := by
 refine f_door (l0 := [(0, .agg #[.int .i64 t.f_Kind, .slice t.f_Reads.a (t.f_Reads.xs).length t.f_Reads.c, .slice t.f_Writes.a (t.f_Writes.xs).length t.f_Writes.c, .slice t.f_Ops.a (t.f_Ops.xs).length t.f_Ops.c, .int .i64 t.f_To]), (1, .int .i64 g)]) Tryz.func41 Tryz.ntmps41 rfl rfl rfl ?_
 refine c_seq ?_
 refine c_region ?_
 refine o_box rfl rfl fun b2 => ?_
 refine o_assign rfl rfl ?_
 refine l_nil ?_
 refine q_then ?_
 refine c_seq ?_
 refine c_region ?_
 refine o_move rfl rfl ?_
 refine o_bin rfl rfl rfl b_geq ?_
 refine o_move rfl rfl ?_
 refine l_split (t := 9) rfl (fun h1 => ?_) (fun h1 => ?_)
 · -- h1T
  have h1b := h1
  try simp only [decide_eq_true_eq] at h1
  refine o_yes rfl rfl rfl ?_
  refine o_move rfl rfl ?_
  refine o_yes rfl rfl rfl ?_
  refine o_bin rfl rfl rfl b_leq ?_
  refine o_pick_true rfl rfl rfl ?_
  refine o_move rfl rfl ?_
  refine l_split (t := 13) rfl (fun h2 => ?_) (fun h2 => ?_)
  · -- h2T
   have h2b := h2
   try simp only [decide_eq_true_eq] at h2
   refine o_yes rfl rfl rfl ?_
   refine o_loadn (vs := [_, _, _, _, _]) rfl rfl Tryz.underlying30 rfl ti30 (rdn_lit 0 rfl rfl) ?_
   refine o_yes rfl rfl rfl ?_
   refine o_call rfl cal65 rfl (declared_ (TxR.c T_t)) ?_
   rintro _ _ ⟨rfl, rfl⟩
   refine o_pick_true rfl rfl rfl ?_
   refine o_assign rfl rfl ?_
   refine l_nil ?_
   refine q_then ?_
   refine c_seq ?_
   refine c_seq ?_
   refine c_region ?_
   refine o_fieldAddr (q := ⟨b2, 0, none⟩) rfl rfl Tryz.underlying30 rfl ti3 rfl ?_
   refine o_load1 rfl rfl Tryz.underlying3 rfl (rd_mem 0 rfl rfl) ?_
   refine l_nil ?_
   refine q_then ?_
   refine c_block ?_
   refine c_seq ?_
   refine c_region ?_
   refine o_bin rfl rfl rfl b_eql ?_
   refine o_assign rfl rfl ?_
   refine l_nil ?_
   refine q_then ?_
   refine c_cond rfl (fun h3 => ?_) (fun h3 => ?_)
   · -- h3T
    have h3b := h3
    try simp only [decide_eq_true_eq] at h3
    refine c_seq ?_
    refine c_region ?_
    refine o_makeFunc rfl rfl rfl ?_
    refine o_assign rfl rfl ?_
    refine l_nil ?_
    refine q_then ?_
    refine c_region ?_
    refine o_move rfl rfl ?_
    refine o_move rfl rfl ?_
    refine l_split (t := 23) rfl (fun h4 => ?_) (fun h4 => ?_)
    · -- h4T
     have h4b := h4
     try simp only [decide_eq_true_eq] at h4
     refine o_yes rfl rfl rfl ?_
     refine o_fieldAddr (q := ⟨b2, 4, none⟩) rfl rfl Tryz.underlying30 rfl ti3 rfl ?_
     refine o_yes rfl rfl rfl ?_
     refine o_load1 rfl rfl Tryz.underlying3 rfl (rd_mem 0 rfl rfl) ?_
     refine o_yes rfl rfl rfl ?_
     refine o_bin rfl rfl rfl b_eql ?_
     refine o_pick_true rfl rfl rfl ?_
     refine o_move rfl rfl ?_
     refine l_split (t := 28) rfl (fun h5 => ?_) (fun h5 => ?_)
     · -- h5T
      have h5b := h5
      try simp only [decide_eq_true_eq] at h5
      refine o_yes rfl rfl rfl ?_
      refine o_fieldAddr (q := ⟨b2, 3, none⟩) rfl rfl Tryz.underlying30 rfl ti28 rfl ?_
      refine o_yes rfl rfl rfl ?_
      refine o_load1 rfl rfl Tryz.underlying28 rfl (rd_mem 0 rfl rfl) ?_
      refine o_yes rfl rfl rfl ?_
      refine o_len rfl rfl Tryz.underlying28 ?_
      refine o_yes rfl rfl rfl ?_
      refine o_bin rfl rfl rfl b_leq ?_
      refine o_pick_true rfl rfl rfl ?_
      refine o_move rfl rfl ?_
      refine l_split (t := 34) rfl (fun h6 => ?_) (fun h6 => ?_)
      · -- h6T
       have h6b := h6
       try simp only [decide_eq_true_eq] at h6
       refine o_yes rfl rfl rfl ?_
       refine o_fieldAddr (q := ⟨b2, 3, none⟩) rfl rfl Tryz.underlying30 rfl ti28 rfl ?_
       refine o_yes rfl rfl rfl ?_
       refine o_load1 rfl rfl Tryz.underlying28 rfl (rd_mem 0 rfl rfl) ?_
       refine o_yes rfl rfl rfl ?_
       refine o_move rfl rfl ?_
       refine o_yes rfl rfl rfl ?_
       refine o_call rfl cal68 rfl (containsFO (p := fun o => ¬ StepOk t o) (TxR.c T_t).ro (by first | exact T_t.len.lr | exact T_t.len.lw | exact T_t.len.lo | omega) (fun o ho => fv_dec (FV.of_csL cal66 (chkF (o := o) T_t (T_t.rv o ho))))) ?_
       rintro _ _ ⟨b38, hb38, rfl, rfl⟩
       refine o_yes rfl rfl rfl ?_
       refine o_not rfl rfl ?_
       refine o_pick_true rfl rfl rfl ?_
       refine o_assign rfl rfl ?_
       refine l_nil ?_
       refine q_block ?_
       refine q_then ?_
       refine c_seq ?_
       refine c_seq ?_
       refine c_region ?_
       refine o_move rfl rfl ?_
       refine o_not rfl rfl ?_
       refine l_nil ?_
       refine q_then ?_
       refine c_cond rfl (fun h7 => ?_) (fun h7 => ?_)
       · -- h7T
        have h7b := h7
        try simp only [decide_eq_true_eq, decide_eq_false_iff_not, Bool.not_eq_eq_eq_not, Bool.not_true, Bool.not_false, Bool.not_eq_true', Bool.not_eq_false', Int.not_lt, Int.not_le, Bool.or_eq_true, Bool.and_eq_true] at h7
        refine c_seq ?_
        refine c_region ?_
        refine o_assign rfl rfl ?_
        refine l_nil ?_
        refine q_then ?_
        refine c_ret ?_
        refine q_pass_ret ?_
        refine q_conv (fun w S => S.tail) ?_
        exact f_ret (r_one rfl rfl) (⟨by (first | rw [show chkN t g = 1 from if_neg (by unfold ChkOk; grind)] | rw [show chkN t g = 0 from if_pos (by unfold ChkOk; grind)]), rfl⟩) (fun w S => S)
       · -- h7F
        have h7b := h7
        try simp only [decide_eq_true_eq, decide_eq_false_iff_not, Bool.not_eq_eq_eq_not, Bool.not_true, Bool.not_false, Bool.not_eq_true', Bool.not_eq_false', Int.not_lt, Int.not_le, Bool.or_eq_true, Bool.and_eq_true] at h7
        refine c_skip ?_
        refine q_then ?_
        refine c_seq ?_
        refine c_region ?_
        refine o_assign rfl rfl ?_
        refine l_nil ?_
        refine q_then ?_
        refine c_ret ?_
        refine q_conv (fun w S => S.tail) ?_
        exact f_ret (r_one rfl rfl) (⟨by (first | rw [show chkN t g = 1 from if_neg (by unfold ChkOk; grind)] | rw [show chkN t g = 0 from if_pos (by unfold ChkOk; grind)]), rfl⟩) (fun w S => S)
      · -- h6F
       have h6b := h6
       try simp only [decide_eq_false_iff_not, Int.not_lt, Int.not_le] at h6
       refine o_no rfl rfl rfl rfl ?_
       refine o_no rfl rfl rfl rfl ?_
       refine o_no rfl rfl rfl rfl ?_
       refine o_no rfl rfl rfl rfl ?_
       refine o_no rfl rfl rfl rfl ?_
       refine o_pick_false rfl rfl rfl ?_
       refine o_assign rfl rfl ?_
       refine l_nil ?_
       refine q_block ?_
       refine q_then ?_
       refine c_seq ?_
       refine c_seq ?_
       refine c_region ?_
       refine o_move rfl rfl ?_
       refine o_not rfl rfl ?_
       refine l_nil ?_
       refine q_then ?_
       refine c_true rfl ?_
       refine c_seq ?_
       refine c_region ?_
       refine o_assign rfl rfl ?_
       refine l_nil ?_
       refine q_then ?_
       refine c_ret ?_
       refine q_pass_ret ?_
       refine q_conv (fun w S => S.tail) ?_
       exact f_ret (r_one rfl rfl) (⟨by (first | rw [show chkN t g = 1 from if_neg (by unfold ChkOk; grind)] | rw [show chkN t g = 0 from if_pos (by unfold ChkOk; grind)]), rfl⟩) (fun w S => S)
     · -- h5F
      have h5b := h5
      try simp only [decide_eq_false_iff_not, Int.not_lt, Int.not_le] at h5
      refine o_no rfl rfl rfl rfl ?_
      refine o_no rfl rfl rfl rfl ?_
      refine o_no rfl rfl rfl rfl ?_
      refine o_no rfl rfl rfl rfl ?_
      refine o_pick_false rfl rfl rfl ?_
      refine o_move rfl rfl ?_
      refine o_no rfl rfl rfl rfl ?_
      refine o_no rfl rfl rfl rfl ?_
      refine o_no rfl rfl rfl rfl ?_
      refine o_no rfl rfl rfl rfl ?_
      refine o_no rfl rfl rfl rfl ?_
      refine o_pick_false rfl rfl rfl ?_
      refine o_assign rfl rfl ?_
      refine l_nil ?_
      refine q_block ?_
      refine q_then ?_
      refine c_seq ?_
      refine c_seq ?_
      refine c_region ?_
      refine o_move rfl rfl ?_
      refine o_not rfl rfl ?_
      refine l_nil ?_
      refine q_then ?_
      refine c_true rfl ?_
      refine c_seq ?_
      refine c_region ?_
      refine o_assign rfl rfl ?_
      refine l_nil ?_
      refine q_then ?_
      refine c_ret ?_
      refine q_pass_ret ?_
      refine q_conv (fun w S => S.tail) ?_
      exact f_ret (r_one rfl rfl) (⟨by (first | rw [show chkN t g = 1 from if_neg (by unfold ChkOk; grind)] | rw [show chkN t g = 0 from if_pos (by unfold ChkOk; grind)]), rfl⟩) (fun w S => S)
    · -- h4F
     have h4b := h4
     try simp only [decide_eq_false_iff_not, Int.not_lt, Int.not_le] at h4
     refine o_no rfl rfl rfl rfl ?_
     refine o_no rfl rfl rfl rfl ?_
     refine o_no rfl rfl rfl rfl ?_
     refine o_pick_false rfl rfl rfl ?_
     refine o_move rfl rfl ?_
     refine o_no rfl rfl rfl rfl ?_
     refine o_no rfl rfl rfl rfl ?_
     refine o_no rfl rfl rfl rfl ?_
     refine o_no rfl rfl rfl rfl ?_
     refine o_pick_false rfl rfl rfl ?_
     refine o_move rfl rfl ?_
     refine o_no rfl rfl rfl rfl ?_
     refine o_no rfl rfl rfl rfl ?_
     refine o_no rfl rfl rfl rfl ?_
     refine o_no rfl rfl rfl rfl ?_
     refine o_no rfl rfl rfl rfl ?_
     refine o_pick_false rfl rfl rfl ?_
     refine o_assign rfl rfl ?_
     refine l_nil ?_
     refine q_block ?_
     refine q_then ?_
     refine c_seq ?_
     refine c_seq ?_
     refine c_region ?_
     refine o_move rfl rfl ?_
     refine o_not rfl rfl ?_
     refine l_nil ?_
     refine q_then ?_
     refine c_true rfl ?_
     refine c_seq ?_
     refine c_region ?_
     refine o_assign rfl rfl ?_
     refine l_nil ?_
     refine q_then ?_
     refine c_ret ?_
     refine q_pass_ret ?_
     refine q_conv (fun w S => S.tail) ?_
     exact f_ret (r_one rfl rfl) (⟨by (first | rw [show chkN t g = 1 from if_neg (by unfold ChkOk; grind)] | rw [show chkN t g = 0 from if_pos (by unfold ChkOk; grind)]), rfl⟩) (fun w S => S)
   · -- h3F
    have h3b := h3
    try simp only [decide_eq_false_iff_not, Int.not_lt, Int.not_le] at h3
    refine c_seq ?_
    refine c_region ?_
    refine o_bin rfl rfl rfl b_eql ?_
    refine o_assign rfl rfl ?_
    refine l_nil ?_
    refine q_then ?_
    refine c_cond rfl (fun h8 => ?_) (fun h8 => ?_)
    · -- h8T
     have h8b := h8
     try simp only [decide_eq_true_eq] at h8
     refine c_region ?_
     refine o_move rfl rfl ?_
     refine o_move rfl rfl ?_
     refine l_split (t := 44) rfl (fun h9 => ?_) (fun h9 => ?_)
     · -- h9T
      have h9b := h9
      try simp only [decide_eq_true_eq] at h9
      refine o_yes rfl rfl rfl ?_
      refine o_fieldAddr (q := ⟨b2, 1, none⟩) rfl rfl Tryz.underlying30 rfl ti27 rfl ?_
      refine o_yes rfl rfl rfl ?_
      refine o_load1 rfl rfl Tryz.underlying27 rfl (rd_mem 0 rfl rfl) ?_
      refine o_yes rfl rfl rfl ?_
      refine o_len rfl rfl Tryz.underlying27 ?_
      refine o_yes rfl rfl rfl ?_
      refine o_bin rfl rfl rfl b_eql ?_
      refine o_pick_true rfl rfl rfl ?_
      refine o_move rfl rfl ?_
      refine l_split (t := 50) rfl (fun h10 => ?_) (fun h10 => ?_)
      · -- h10T
       have h10b := h10
       try simp only [decide_eq_true_eq] at h10
       refine o_yes rfl rfl rfl ?_
       refine o_fieldAddr (q := ⟨b2, 3, none⟩) rfl rfl Tryz.underlying30 rfl ti28 rfl ?_
       refine o_yes rfl rfl rfl ?_
       refine o_load1 rfl rfl Tryz.underlying28 rfl (rd_mem 0 rfl rfl) ?_
       refine o_yes rfl rfl rfl ?_
       refine o_len rfl rfl Tryz.underlying28 ?_
       refine o_yes rfl rfl rfl ?_
       refine o_bin rfl rfl rfl b_eql ?_
       refine o_pick_true rfl rfl rfl ?_
       refine o_move rfl rfl ?_
       refine l_split (t := 56) rfl (fun h11 => ?_) (fun h11 => ?_)
       · -- h11T
        have h11b := h11
        try simp only [decide_eq_true_eq] at h11
        refine o_yes rfl rfl rfl ?_
        refine o_fieldAddr (q := ⟨b2, 2, none⟩) rfl rfl Tryz.underlying30 rfl ti27 rfl ?_
        refine o_yes rfl rfl rfl ?_
        refine o_load1 rfl rfl Tryz.underlying27 rfl (rd_mem 0 rfl rfl) ?_
        refine o_yes rfl rfl rfl ?_
        refine o_len rfl rfl Tryz.underlying27 ?_
        refine o_yes rfl rfl rfl ?_
        refine o_bin rfl rfl rfl b_eql ?_
        refine o_pick_true rfl rfl rfl ?_
        refine o_move rfl rfl ?_
        refine l_split (t := 62) rfl (fun h12 => ?_) (fun h12 => ?_)
        · -- h12T
         have h12b := h12
         try simp only [decide_eq_true_eq] at h12
         refine o_yes rfl rfl rfl ?_
         refine o_fieldAddr (q := ⟨b2, 4, none⟩) rfl rfl Tryz.underlying30 rfl ti3 rfl ?_
         refine o_yes rfl rfl rfl ?_
         refine o_load1 rfl rfl Tryz.underlying3 rfl (rd_mem 0 rfl rfl) ?_
         refine o_yes rfl rfl rfl ?_
         refine o_bin rfl rfl rfl b_geq ?_
         refine o_pick_true rfl rfl rfl ?_
         refine o_move rfl rfl ?_
         refine l_split (t := 67) rfl (fun h13 => ?_) (fun h13 => ?_)
         · -- h13T
          have h13b := h13
          try simp only [decide_eq_true_eq] at h13
          refine o_yes rfl rfl rfl ?_
          refine o_fieldAddr (q := ⟨b2, 4, none⟩) rfl rfl Tryz.underlying30 rfl ti3 rfl ?_
          refine o_yes rfl rfl rfl ?_
          refine o_load1 rfl rfl Tryz.underlying3 rfl (rd_mem 0 rfl rfl) ?_
          refine o_yes rfl rfl rfl ?_
          refine o_move rfl rfl ?_
          refine o_yes rfl rfl rfl ?_
          refine o_bin rfl rfl rfl b_lss ?_
          refine o_pick_true rfl rfl rfl ?_
          refine o_assign rfl rfl ?_
          refine l_nil ?_
          refine q_block ?_
          refine q_then ?_
          refine c_seq ?_
          refine c_seq ?_
          refine c_region ?_
          refine o_move rfl rfl ?_
          refine o_not rfl rfl ?_
          refine l_nil ?_
          refine q_then ?_
          refine c_cond rfl (fun h14 => ?_) (fun h14 => ?_)
          · -- h14T
           have h14b := h14
           try simp only [Bool.not_eq_true', decide_eq_false_iff_not, Int.not_lt, Int.not_le] at h14
           refine c_seq ?_
           refine c_region ?_
           refine o_assign rfl rfl ?_
           refine l_nil ?_
           refine q_then ?_
           refine c_ret ?_
           refine q_pass_ret ?_
           refine q_conv (fun w S => S.tail) ?_
           exact f_ret (r_one rfl rfl) (⟨by (first | rw [show chkN t g = 1 from if_neg (by unfold ChkOk; grind)] | rw [show chkN t g = 0 from if_pos (by unfold ChkOk; grind)]), rfl⟩) (fun w S => S)
          · -- h14F
           have h14b := h14
           try simp only [Bool.not_eq_false', decide_eq_true_eq] at h14
           refine c_skip ?_
           refine q_then ?_
           refine c_seq ?_
           refine c_region ?_
           refine o_assign rfl rfl ?_
           refine l_nil ?_
           refine q_then ?_
           refine c_ret ?_
           refine q_conv (fun w S => S.tail) ?_
           exact f_ret (r_one rfl rfl) (⟨by (first | rw [show chkN t g = 1 from if_neg (by unfold ChkOk; grind)] | rw [show chkN t g = 0 from if_pos (by unfold ChkOk; grind)]), rfl⟩) (fun w S => S)
         · -- h13F
          have h13b := h13
          try simp only [decide_eq_false_iff_not, Int.not_lt, Int.not_le] at h13
          refine o_no rfl rfl rfl rfl ?_
          refine o_no rfl rfl rfl rfl ?_
          refine o_no rfl rfl rfl rfl ?_
          refine o_no rfl rfl rfl rfl ?_
          refine o_pick_false rfl rfl rfl ?_
          refine o_assign rfl rfl ?_
          refine l_nil ?_
          refine q_block ?_
          refine q_then ?_
          refine c_seq ?_
          refine c_seq ?_
          refine c_region ?_
          refine o_move rfl rfl ?_
          refine o_not rfl rfl ?_
          refine l_nil ?_
          refine q_then ?_
          refine c_true rfl ?_
          refine c_seq ?_
          refine c_region ?_
          refine o_assign rfl rfl ?_
          refine l_nil ?_
          refine q_then ?_
          refine c_ret ?_
          refine q_pass_ret ?_
          refine q_conv (fun w S => S.tail) ?_
          exact f_ret (r_one rfl rfl) (⟨by (first | rw [show chkN t g = 1 from if_neg (by unfold ChkOk; grind)] | rw [show chkN t g = 0 from if_pos (by unfold ChkOk; grind)]), rfl⟩) (fun w S => S)
        · -- h12F
         have h12b := h12
         try simp only [decide_eq_false_iff_not, Int.not_lt, Int.not_le] at h12
         refine o_no rfl rfl rfl rfl ?_
         refine o_no rfl rfl rfl rfl ?_
         refine o_no rfl rfl rfl rfl ?_
         refine o_pick_false rfl rfl rfl ?_
         refine o_move rfl rfl ?_
         refine o_no rfl rfl rfl rfl ?_
         refine o_no rfl rfl rfl rfl ?_
         refine o_no rfl rfl rfl rfl ?_
         refine o_no rfl rfl rfl rfl ?_
         refine o_pick_false rfl rfl rfl ?_
         refine o_assign rfl rfl ?_
         refine l_nil ?_
         refine q_block ?_
         refine q_then ?_
         refine c_seq ?_
         refine c_seq ?_
         refine c_region ?_
         refine o_move rfl rfl ?_
         refine o_not rfl rfl ?_
         refine l_nil ?_
         refine q_then ?_
         refine c_true rfl ?_
         refine c_seq ?_
         refine c_region ?_
         refine o_assign rfl rfl ?_
         refine l_nil ?_
         refine q_then ?_
         refine c_ret ?_
         refine q_pass_ret ?_
         refine q_conv (fun w S => S.tail) ?_
         exact f_ret (r_one rfl rfl) (⟨by (first | rw [show chkN t g = 1 from if_neg (by unfold ChkOk; grind)] | rw [show chkN t g = 0 from if_pos (by unfold ChkOk; grind)]), rfl⟩) (fun w S => S)
       · -- h11F
        have h11b := h11
        try simp only [decide_eq_false_iff_not, Int.not_lt, Int.not_le] at h11
        refine o_no rfl rfl rfl rfl ?_
        refine o_no rfl rfl rfl rfl ?_
        refine o_no rfl rfl rfl rfl ?_
        refine o_no rfl rfl rfl rfl ?_
        refine o_pick_false rfl rfl rfl ?_
        refine o_move rfl rfl ?_
        refine o_no rfl rfl rfl rfl ?_
        refine o_no rfl rfl rfl rfl ?_
        refine o_no rfl rfl rfl rfl ?_
        refine o_pick_false rfl rfl rfl ?_
        refine o_move rfl rfl ?_
        refine o_no rfl rfl rfl rfl ?_
        refine o_no rfl rfl rfl rfl ?_
        refine o_no rfl rfl rfl rfl ?_
        refine o_no rfl rfl rfl rfl ?_
        refine o_pick_false rfl rfl rfl ?_
        refine o_assign rfl rfl ?_
        refine l_nil ?_
        refine q_block ?_
        refine q_then ?_
        refine c_seq ?_
        refine c_seq ?_
        refine c_region ?_
        refine o_move rfl rfl ?_
        refine o_not rfl rfl ?_
        refine l_nil ?_
        refine q_then ?_
        refine c_true rfl ?_
        refine c_seq ?_
        refine c_region ?_
        refine o_assign rfl rfl ?_
        refine l_nil ?_
        refine q_then ?_
        refine c_ret ?_
        refine q_pass_ret ?_
        refine q_conv (fun w S => S.tail) ?_
        exact f_ret (r_one rfl rfl) (⟨by (first | rw [show chkN t g = 1 from if_neg (by unfold ChkOk; grind)] | rw [show chkN t g = 0 from if_pos (by unfold ChkOk; grind)]), rfl⟩) (fun w S => S)
      · -- h10F
       have h10b := h10
       try simp only [decide_eq_false_iff_not, Int.not_lt, Int.not_le] at h10
       refine o_no rfl rfl rfl rfl ?_
       refine o_no rfl rfl rfl rfl ?_
       refine o_no rfl rfl rfl rfl ?_
       refine o_no rfl rfl rfl rfl ?_
       refine o_pick_false rfl rfl rfl ?_
       refine o_move rfl rfl ?_
       refine o_no rfl rfl rfl rfl ?_
       refine o_no rfl rfl rfl rfl ?_
       refine o_no rfl rfl rfl rfl ?_
       refine o_no rfl rfl rfl rfl ?_
       refine o_pick_false rfl rfl rfl ?_
       refine o_move rfl rfl ?_
       refine o_no rfl rfl rfl rfl ?_
       refine o_no rfl rfl rfl rfl ?_
       refine o_no rfl rfl rfl rfl ?_
       refine o_pick_false rfl rfl rfl ?_
       refine o_move rfl rfl ?_
       refine o_no rfl rfl rfl rfl ?_
       refine o_no rfl rfl rfl rfl ?_
       refine o_no rfl rfl rfl rfl ?_
       refine o_no rfl rfl rfl rfl ?_
       refine o_pick_false rfl rfl rfl ?_
       refine o_assign rfl rfl ?_
       refine l_nil ?_
       refine q_block ?_
       refine q_then ?_
       refine c_seq ?_
       refine c_seq ?_
       refine c_region ?_
       refine o_move rfl rfl ?_
       refine o_not rfl rfl ?_
       refine l_nil ?_
       refine q_then ?_
       refine c_true rfl ?_
       refine c_seq ?_
       refine c_region ?_
       refine o_assign rfl rfl ?_
       refine l_nil ?_
       refine q_then ?_
       refine c_ret ?_
       refine q_pass_ret ?_
       refine q_conv (fun w S => S.tail) ?_
       exact f_ret (r_one rfl rfl) (⟨by (first | rw [show chkN t g = 1 from if_neg (by unfold ChkOk; grind)] | rw [show chkN t g = 0 from if_pos (by unfold ChkOk; grind)]), rfl⟩) (fun w S => S)
     · -- h9F
      have h9b := h9
      try simp only [decide_eq_false_iff_not, Int.not_lt, Int.not_le] at h9
      refine o_no rfl rfl rfl rfl ?_
      refine o_no rfl rfl rfl rfl ?_
      refine o_no rfl rfl rfl rfl ?_
      refine o_no rfl rfl rfl rfl ?_
      refine o_pick_false rfl rfl rfl ?_
      refine o_move rfl rfl ?_
      refine o_no rfl rfl rfl rfl ?_
      refine o_no rfl rfl rfl rfl ?_
      refine o_no rfl rfl rfl rfl ?_
      refine o_no rfl rfl rfl rfl ?_
      refine o_pick_false rfl rfl rfl ?_
      refine o_move rfl rfl ?_
      refine o_no rfl rfl rfl rfl ?_
      refine o_no rfl rfl rfl rfl ?_
      refine o_no rfl rfl rfl rfl ?_
      refine o_no rfl rfl rfl rfl ?_
      refine o_pick_false rfl rfl rfl ?_
      refine o_move rfl rfl ?_
      refine o_no rfl rfl rfl rfl ?_
      refine o_no rfl rfl rfl rfl ?_
      refine o_no rfl rfl rfl rfl ?_
      refine o_pick_false rfl rfl rfl ?_
      refine o_move rfl rfl ?_
      refine o_no rfl rfl rfl rfl ?_
      refine o_no rfl rfl rfl rfl ?_
      refine o_no rfl rfl rfl rfl ?_
      refine o_no rfl rfl rfl rfl ?_
      refine o_pick_false rfl rfl rfl ?_
      refine o_assign rfl rfl ?_
      refine l_nil ?_
      refine q_block ?_
      refine q_then ?_
      refine c_seq ?_
      refine c_seq ?_
      refine c_region ?_
      refine o_move rfl rfl ?_
      refine o_not rfl rfl ?_
      refine l_nil ?_
      refine q_then ?_
      refine c_true rfl ?_
      refine c_seq ?_
      refine c_region ?_
      refine o_assign rfl rfl ?_
      refine l_nil ?_
      refine q_then ?_
      refine c_ret ?_
      refine q_pass_ret ?_
      refine q_conv (fun w S => S.tail) ?_
      exact f_ret (r_one rfl rfl) (⟨by (first | rw [show chkN t g = 1 from if_neg (by unfold ChkOk; grind)] | rw [show chkN t g = 0 from if_pos (by unfold ChkOk; grind)]), rfl⟩) (fun w S => S)
    · -- h8F
     have h8b := h8
     try simp only [decide_eq_false_iff_not, Int.not_lt, Int.not_le] at h8
     refine c_region ?_
     refine o_assign rfl rfl ?_
     refine l_nil ?_
     refine q_block ?_
     refine q_then ?_
     refine c_seq ?_
     refine c_seq ?_
     refine c_region ?_
     refine o_move rfl rfl ?_
     refine o_not rfl rfl ?_
     refine l_nil ?_
     refine q_then ?_
     refine c_true rfl ?_
     refine c_seq ?_
     refine c_region ?_
     refine o_assign rfl rfl ?_
     refine l_nil ?_
     refine q_then ?_
     refine c_ret ?_
     refine q_pass_ret ?_
     refine q_conv (fun w S => S.tail) ?_
     exact f_ret (r_one rfl rfl) (⟨by (first | rw [show chkN t g = 1 from if_neg (by unfold ChkOk; grind)] | rw [show chkN t g = 0 from if_pos (by unfold ChkOk; grind)]), rfl⟩) (fun w S => S)
  · -- h2F
   have h2b := h2
   try simp only [decide_eq_false_iff_not, Int.not_lt, Int.not_le] at h2
   refine o_no rfl rfl rfl rfl ?_
   refine o_no rfl rfl rfl rfl ?_
   refine o_pick_false rfl rfl rfl ?_
   refine o_assign rfl rfl ?_
   refine l_nil ?_
   refine q_then ?_
   refine c_seq ?_
   refine c_seq ?_
   refine c_region ?_
   refine o_fieldAddr (q := ⟨b2, 0, none⟩) rfl rfl Tryz.underlying30 rfl ti3 rfl ?_
   refine o_load1 rfl rfl Tryz.underlying3 rfl (rd_mem 0 rfl rfl) ?_
   refine l_nil ?_
   refine q_then ?_
   refine c_block ?_
   refine c_seq ?_
   refine c_region ?_
   refine o_bin rfl rfl rfl b_eql ?_
   refine o_assign rfl rfl ?_
   refine l_nil ?_
   refine q_then ?_
   refine c_cond rfl (fun h15 => ?_) (fun h15 => ?_)
   · -- h15T
    have h15b := h15
    try simp only [decide_eq_true_eq] at h15
    refine c_seq ?_
    refine c_region ?_
    refine o_makeFunc rfl rfl rfl ?_
    refine o_assign rfl rfl ?_
    refine l_nil ?_
    refine q_then ?_
    refine c_region ?_
    refine o_move rfl rfl ?_
    refine o_move rfl rfl ?_
    refine o_no rfl rfl rfl rfl ?_
    refine o_no rfl rfl rfl rfl ?_
    refine o_no rfl rfl rfl rfl ?_
    refine o_pick_false rfl rfl rfl ?_
    refine o_move rfl rfl ?_
    refine o_no rfl rfl rfl rfl ?_
    refine o_no rfl rfl rfl rfl ?_
    refine o_no rfl rfl rfl rfl ?_
    refine o_no rfl rfl rfl rfl ?_
    refine o_pick_false rfl rfl rfl ?_
    refine o_move rfl rfl ?_
    refine o_no rfl rfl rfl rfl ?_
    refine o_no rfl rfl rfl rfl ?_
    refine o_no rfl rfl rfl rfl ?_
    refine o_no rfl rfl rfl rfl ?_
    refine o_no rfl rfl rfl rfl ?_
    refine o_pick_false rfl rfl rfl ?_
    refine o_assign rfl rfl ?_
    refine l_nil ?_
    refine q_block ?_
    refine q_then ?_
    refine c_seq ?_
    refine c_seq ?_
    refine c_region ?_
    refine o_move rfl rfl ?_
    refine o_not rfl rfl ?_
    refine l_nil ?_
    refine q_then ?_
    refine c_true rfl ?_
    refine c_seq ?_
    refine c_region ?_
    refine o_assign rfl rfl ?_
    refine l_nil ?_
    refine q_then ?_
    refine c_ret ?_
    refine q_pass_ret ?_
    refine q_conv (fun w S => S.tail) ?_
    exact f_ret (r_one rfl rfl) (⟨by (first | rw [show chkN t g = 1 from if_neg (by unfold ChkOk; grind)] | rw [show chkN t g = 0 from if_pos (by unfold ChkOk; grind)]), rfl⟩) (fun w S => S)
   · -- h15F
    have h15b := h15
    try simp only [decide_eq_false_iff_not, Int.not_lt, Int.not_le] at h15
    refine c_seq ?_
    refine c_region ?_
    refine o_bin rfl rfl rfl b_eql ?_
    refine o_assign rfl rfl ?_
    refine l_nil ?_
    refine q_then ?_
    refine c_cond rfl (fun h16 => ?_) (fun h16 => ?_)
    · -- h16T
     have h16b := h16
     try simp only [decide_eq_true_eq] at h16
     refine c_region ?_
     refine o_move rfl rfl ?_
     refine o_move rfl rfl ?_
     refine o_no rfl rfl rfl rfl ?_
     refine o_no rfl rfl rfl rfl ?_
     refine o_no rfl rfl rfl rfl ?_
     refine o_no rfl rfl rfl rfl ?_
     refine o_pick_false rfl rfl rfl ?_
     refine o_move rfl rfl ?_
     refine o_no rfl rfl rfl rfl ?_
     refine o_no rfl rfl rfl rfl ?_
     refine o_no rfl rfl rfl rfl ?_
     refine o_no rfl rfl rfl rfl ?_
     refine o_pick_false rfl rfl rfl ?_
     refine o_move rfl rfl ?_
     refine o_no rfl rfl rfl rfl ?_
     refine o_no rfl rfl rfl rfl ?_
     refine o_no rfl rfl rfl rfl ?_
     refine o_no rfl rfl rfl rfl ?_
     refine o_pick_false rfl rfl rfl ?_
     refine o_move rfl rfl ?_
     refine o_no rfl rfl rfl rfl ?_
     refine o_no rfl rfl rfl rfl ?_
     refine o_no rfl rfl rfl rfl ?_
     refine o_pick_false rfl rfl rfl ?_
     refine o_move rfl rfl ?_
     refine o_no rfl rfl rfl rfl ?_
     refine o_no rfl rfl rfl rfl ?_
     refine o_no rfl rfl rfl rfl ?_
     refine o_no rfl rfl rfl rfl ?_
     refine o_pick_false rfl rfl rfl ?_
     refine o_assign rfl rfl ?_
     refine l_nil ?_
     refine q_block ?_
     refine q_then ?_
     refine c_seq ?_
     refine c_seq ?_
     refine c_region ?_
     refine o_move rfl rfl ?_
     refine o_not rfl rfl ?_
     refine l_nil ?_
     refine q_then ?_
     refine c_true rfl ?_
     refine c_seq ?_
     refine c_region ?_
     refine o_assign rfl rfl ?_
     refine l_nil ?_
     refine q_then ?_
     refine c_ret ?_
     refine q_pass_ret ?_
     refine q_conv (fun w S => S.tail) ?_
     exact f_ret (r_one rfl rfl) (⟨by (first | rw [show chkN t g = 1 from if_neg (by unfold ChkOk; grind)] | rw [show chkN t g = 0 from if_pos (by unfold ChkOk; grind)]), rfl⟩) (fun w S => S)
    · -- h16F
     have h16b := h16
     try simp only [decide_eq_false_iff_not, Int.not_lt, Int.not_le] at h16
     refine c_region ?_
     refine o_assign rfl rfl ?_
     refine l_nil ?_
     refine q_block ?_
     refine q_then ?_
     refine c_seq ?_
     refine c_seq ?_
     refine c_region ?_
     refine o_move rfl rfl ?_
     refine o_not rfl rfl ?_
     refine l_nil ?_
     refine q_then ?_
     refine c_true rfl ?_
     refine c_seq ?_
     refine c_region ?_
     refine o_assign rfl rfl ?_
     refine l_nil ?_
     refine q_then ?_
     refine c_ret ?_
     refine q_pass_ret ?_
     refine q_conv (fun w S => S.tail) ?_
     exact f_ret (r_one rfl rfl) (⟨by (first | rw [show chkN t g = 1 from if_neg (by unfold ChkOk; grind)] | rw [show chkN t g = 0 from if_pos (by unfold ChkOk; grind)]), rfl⟩) (fun w S => S)
 · -- h1F
  have h1b := h1
  try simp only [decide_eq_false_iff_not, Int.not_lt, Int.not_le] at h1
  refine o_no rfl rfl rfl rfl ?_
  refine o_no rfl rfl rfl rfl ?_
  refine o_pick_false rfl rfl rfl ?_
  refine o_move rfl rfl ?_
  refine o_no rfl rfl rfl rfl ?_
  refine o_no rfl rfl rfl rfl ?_
  refine o_pick_false rfl rfl rfl ?_
  refine o_assign rfl rfl ?_
  refine l_nil ?_
  refine q_then ?_
  refine c_seq ?_
  refine c_seq ?_
  refine c_region ?_
  refine o_fieldAddr (q := ⟨b2, 0, none⟩) rfl rfl Tryz.underlying30 rfl ti3 rfl ?_
  refine o_load1 rfl rfl Tryz.underlying3 rfl (rd_mem 0 rfl rfl) ?_
  refine l_nil ?_
  refine q_then ?_
  refine c_block ?_
  refine c_seq ?_
  refine c_region ?_
  refine o_bin rfl rfl rfl b_eql ?_
  refine o_assign rfl rfl ?_
  refine l_nil ?_
  refine q_then ?_
  refine c_cond rfl (fun h17 => ?_) (fun h17 => ?_)
  · -- h17T
   have h17b := h17
   try simp only [decide_eq_true_eq] at h17
   refine c_seq ?_
   refine c_region ?_
   refine o_makeFunc rfl rfl rfl ?_
   refine o_assign rfl rfl ?_
   refine l_nil ?_
   refine q_then ?_
   refine c_region ?_
   refine o_move rfl rfl ?_
   refine o_move rfl rfl ?_
   refine o_no rfl rfl rfl rfl ?_
   refine o_no rfl rfl rfl rfl ?_
   refine o_no rfl rfl rfl rfl ?_
   refine o_pick_false rfl rfl rfl ?_
   refine o_move rfl rfl ?_
   refine o_no rfl rfl rfl rfl ?_
   refine o_no rfl rfl rfl rfl ?_
   refine o_no rfl rfl rfl rfl ?_
   refine o_no rfl rfl rfl rfl ?_
   refine o_pick_false rfl rfl rfl ?_
   refine o_move rfl rfl ?_
   refine o_no rfl rfl rfl rfl ?_
   refine o_no rfl rfl rfl rfl ?_
   refine o_no rfl rfl rfl rfl ?_
   refine o_no rfl rfl rfl rfl ?_
   refine o_no rfl rfl rfl rfl ?_
   refine o_pick_false rfl rfl rfl ?_
   refine o_assign rfl rfl ?_
   refine l_nil ?_
   refine q_block ?_
   refine q_then ?_
   refine c_seq ?_
   refine c_seq ?_
   refine c_region ?_
   refine o_move rfl rfl ?_
   refine o_not rfl rfl ?_
   refine l_nil ?_
   refine q_then ?_
   refine c_true rfl ?_
   refine c_seq ?_
   refine c_region ?_
   refine o_assign rfl rfl ?_
   refine l_nil ?_
   refine q_then ?_
   refine c_ret ?_
   refine q_pass_ret ?_
   refine q_conv (fun w S => S.tail) ?_
   exact f_ret (r_one rfl rfl) (⟨by (first | rw [show chkN t g = 1 from if_neg (by unfold ChkOk; grind)] | rw [show chkN t g = 0 from if_pos (by unfold ChkOk; grind)]), rfl⟩) (fun w S => S)
  · -- h17F
   have h17b := h17
   try simp only [decide_eq_false_iff_not, Int.not_lt, Int.not_le] at h17
   refine c_seq ?_
   refine c_region ?_
   refine o_bin rfl rfl rfl b_eql ?_
   refine o_assign rfl rfl ?_
   refine l_nil ?_
   refine q_then ?_
   refine c_cond rfl (fun h18 => ?_) (fun h18 => ?_)
   · -- h18T
    have h18b := h18
    try simp only [decide_eq_true_eq] at h18
    refine c_region ?_
    refine o_move rfl rfl ?_
    refine o_move rfl rfl ?_
    refine o_no rfl rfl rfl rfl ?_
    refine o_no rfl rfl rfl rfl ?_
    refine o_no rfl rfl rfl rfl ?_
    refine o_no rfl rfl rfl rfl ?_
    refine o_pick_false rfl rfl rfl ?_
    refine o_move rfl rfl ?_
    refine o_no rfl rfl rfl rfl ?_
    refine o_no rfl rfl rfl rfl ?_
    refine o_no rfl rfl rfl rfl ?_
    refine o_no rfl rfl rfl rfl ?_
    refine o_pick_false rfl rfl rfl ?_
    refine o_move rfl rfl ?_
    refine o_no rfl rfl rfl rfl ?_
    refine o_no rfl rfl rfl rfl ?_
    refine o_no rfl rfl rfl rfl ?_
    refine o_no rfl rfl rfl rfl ?_
    refine o_pick_false rfl rfl rfl ?_
    refine o_move rfl rfl ?_
    refine o_no rfl rfl rfl rfl ?_
    refine o_no rfl rfl rfl rfl ?_
    refine o_no rfl rfl rfl rfl ?_
    refine o_pick_false rfl rfl rfl ?_
    refine o_move rfl rfl ?_
    refine o_no rfl rfl rfl rfl ?_
    refine o_no rfl rfl rfl rfl ?_
    refine o_no rfl rfl rfl rfl ?_
    refine o_no rfl rfl rfl rfl ?_
    refine o_pick_false rfl rfl rfl ?_
    refine o_assign rfl rfl ?_
    refine l_nil ?_
    refine q_block ?_
    refine q_then ?_
    refine c_seq ?_
    refine c_seq ?_
    refine c_region ?_
    refine o_move rfl rfl ?_
    refine o_not rfl rfl ?_
    refine l_nil ?_
    refine q_then ?_
    refine c_true rfl ?_
    refine c_seq ?_
    refine c_region ?_
    refine o_assign rfl rfl ?_
    refine l_nil ?_
    refine q_then ?_
    refine c_ret ?_
    refine q_pass_ret ?_
    refine q_conv (fun w S => S.tail) ?_
    exact f_ret (r_one rfl rfl) (⟨by (first | rw [show chkN t g = 1 from if_neg (by unfold ChkOk; grind)] | rw [show chkN t g = 0 from if_pos (by unfold ChkOk; grind)]), rfl⟩) (fun w S => S)
   · -- h18F
    have h18b := h18
    try simp only [decide_eq_false_iff_not, Int.not_lt, Int.not_le] at h18
    refine c_region ?_
    refine o_assign rfl rfl ?_
    refine l_nil ?_
    refine q_block ?_
    refine q_then ?_
    refine c_seq ?_
    refine c_seq ?_
    refine c_region ?_
    refine o_move rfl rfl ?_
    refine o_not rfl rfl ?_
    refine l_nil ?_
    refine q_then ?_
    refine c_true rfl ?_
    refine c_seq ?_
    refine c_region ?_
    refine o_assign rfl rfl ?_
    refine l_nil ?_
    refine q_then ?_
    refine c_ret ?_
    refine q_pass_ret ?_
    refine q_conv (fun w S => S.tail) ?_
    exact f_ret (r_one rfl rfl) (⟨by (first | rw [show chkN t g = 1 from if_neg (by unfold ChkOk; grind)] | rw [show chkN t g = 0 from if_pos (by unfold ChkOk; grind)]), rfl⟩) (fun w S => S)
end
section
set_option linter.unusedVariables false
set_option linter.unusedSimpArgs false
set_option maxRecDepth 10000
open Go.RowKit Classical
theorem eqTo_on {α : Type} {xs ys : List α} {i : Nat} {x y : α} (h : ∀ j, j < i → xs[j]? = ys[j]?) (hx : xs[i]? = some x) (hy : ys[i]? = some y) (e : x = y) : ∀ j, j < i + 1 → xs[j]? = ys[j]? := fun j hj => by
  by_cases hji : j < i
  · exact h j hji
  · obtain rfl : j = i := by omega
    rw [hx, hy, e]
theorem eqTo_all {α : Type} {xs ys : List α} {i : Nat} (h : ∀ j, j < i → xs[j]? = ys[j]?) (hl : xs.length = ys.length) (hi : xs.length ≤ i) : xs = ys := List.ext_getElem? fun j => by
  by_cases hj : j < i
  · exact h j hj
  · rw [List.getElem?_eq_none (by omega), List.getElem?_eq_none (by omega)]
theorem sameTexts_ {W : World} {F : List Res} {xs : List ByteArray} {a : Option Addr} {c : Nat} (hs : RdS W F e_S a xs) (hn : xs.length ≤ 9223372036854775807) {ys : List ByteArray} {b : Option Addr} {c2 : Nat} (hs2 : RdS W F e_S b ys) : CS Tryz.prog 58 #[.slice a (xs).length c, .slice b (ys).length c2] W (F) (fun r L' => r = .bool (decide (xs = ys)) ∧ F = L') := by
 refine f_door (l0 := [(0, .slice a (xs).length c), (1, .slice b (ys).length c2)]) Tryz.func58 Tryz.ntmps58 rfl rfl rfl ?_
 refine c_seq ?_
 refine c_region ?_
 refine o_assign rfl rfl ?_
 refine l_nil ?_
 refine q_then ?_
 refine c_seq ?_
 refine c_seq ?_
 refine c_region ?_
 refine o_move rfl rfl ?_
 refine o_len rfl rfl Tryz.underlying27 ?_
 refine o_move rfl rfl ?_
 refine o_len rfl rfl Tryz.underlying27 ?_
 refine o_bin rfl rfl rfl b_neq ?_
 refine l_nil ?_
 refine q_then ?_
 refine c_cond rfl (fun h1 => ?_) (fun h1 => ?_)
 · -- h1T
  have h1b := h1
  try simp only [Bool.not_eq_true', decide_eq_false_iff_not, Int.not_lt, Int.not_le] at h1
  refine c_seq ?_
  refine c_region ?_
  refine o_assign rfl rfl ?_
  refine l_nil ?_
  refine q_then ?_
  refine c_ret ?_
  refine q_pass_ret ?_
  exact f_ret (r_one rfl rfl) (⟨vfalse (fun h9 => h1 (by rw [h9])), rfl⟩) (fun w S => S)
 · -- h1F
  have h1b := h1
  try simp only [Bool.not_eq_false', decide_eq_true_eq] at h1
  refine c_skip ?_
  refine q_then ?_
  refine c_seq ?_
  refine c_seq ?_
  refine c_region ?_
  refine o_assign rfl rfl ?_
  refine l_nil ?_
  refine q_then ?_
  refine c_block ?_
  refine c_loop (α := Nat) (fun z => [(0, .slice a (xs).length c), (1, .slice b (ys).length c2), (5, .int .i64 (z : Int))]) (fun z => F) (fun z => z ≤ xs.length ∧ ∀ j, j < z → xs[j]? = ys[j]?) (fun z => xs.length - z) (0) (by exact ⟨Nat.zero_le _, fun j h => absurd h (by omega)⟩) ⟨(by first | rfl | exact vint (by omega)), (by first | rfl | exact vint (by omega)), (by first | rfl | exact vint (by omega)), trivial⟩ (fun w S => S) ?_
  rintro i ⟨hi, heq⟩
  try dsimp only at *
  refine c_seq ?_
  refine c_seq ?_
  refine c_region ?_
  refine o_move rfl rfl ?_
  refine o_move rfl rfl ?_
  refine o_len rfl rfl Tryz.underlying27 ?_
  refine o_bin rfl rfl rfl b_lss ?_
  refine l_nil ?_
  refine q_then ?_
  refine c_cond rfl (fun h2 => ?_) (fun h2 => ?_)
  · -- h2T
   have h2b := h2
   try simp only [decide_eq_true_eq] at h2
   refine c_skip ?_
   refine q_then ?_
   refine c_seq ?_
   refine c_block ?_
   refine c_seq ?_
   refine c_fact (p := ∃ ad, a = some ad) (rds_some (e := e_S) (xs := xs) hs (by intro h0; have h00 := congrArg List.length h0; simp only [List.length_nil] at h00; omega)) ?_
   rintro ⟨adx, eadx⟩
   refine c_fact (p := ∃ ad, b = some ad) (rds_some (e := e_S) (xs := ys) hs2 (by intro h0; have h00 := congrArg List.length h0; simp only [List.length_nil] at h00; omega)) ?_
   rintro ⟨ady, eady⟩
   refine c_quiet (by kernel_rfl) (by kernel_rfl) ?_
   refine Qt.o_val rfl (v_move rfl rfl) ?_
   refine Qt.o_val rfl (v_move rfl rfl) ?_
   refine Qt.o_val rfl (v_indexK e_S_ok eadx rfl rfl rfl Tryz.underlying27 (by omega) (by omega)) ?_
   obtain ⟨x19, hx19⟩ : ∃ x, (xs)[((i : Int)).toNat]? = some x := ⟨_, List.getElem?_eq_getElem (by omega)⟩
   refine Qt.o_val rfl (v_load1 rfl rfl Tryz.underlying9 rfl (rd_sl0 e_S_ok eadx hs hx19 rfl)) ?_
   refine Qt.o_val rfl (v_move rfl rfl) ?_
   refine Qt.o_val rfl (v_move rfl rfl) ?_
   refine Qt.o_val rfl (v_indexK e_S_ok eady rfl rfl rfl Tryz.underlying27 (by omega) (by omega)) ?_
   obtain ⟨x23, hx23⟩ : ∃ x, (ys)[((i : Int)).toNat]? = some x := ⟨_, List.getElem?_eq_getElem (by omega)⟩
   have hxA : xs[i]? = some x19 := hx19
   have hxB : ys[i]? = some x23 := hx23
   refine Qt.o_val rfl (v_load1 rfl rfl Tryz.underlying9 rfl (rd_sl0 e_S_ok eady hs2 hx23 rfl)) ?_
   refine Qt.o_val rfl (v_bin rfl rfl rfl b_sneq) ?_
   refine Qt.l_nil ?_
   refine q_then ?_
   refine c_cond rfl (fun h3 => ?_) (fun h3 => ?_)
   · -- h3T
    have h3b := h3
    try simp only [Bool.not_eq_true', decide_eq_false_iff_not, Int.not_lt, Int.not_le] at h3
    refine c_seq ?_
    refine c_region ?_
    refine o_assign rfl rfl ?_
    refine l_nil ?_
    refine q_then ?_
    refine c_ret ?_
    refine q_block_ret ?_
    refine q_pass_ret ?_
    refine q_pass_ret ?_
    refine q_block_ret ?_
    refine q_pass_ret ?_
    exact f_ret (r_one rfl rfl) (⟨vfalse (fun h9 => by rw [h9] at hxA; rw [hxA] at hxB; exact h3 (Option.some.inj hxB)), rfl⟩) (fun w S => S)
   · -- h3F
    have h3b := h3
    try simp only [Bool.not_eq_false', decide_eq_true_eq] at h3
    refine c_skip ?_
    refine q_block ?_
    refine q_then ?_
    refine c_region ?_
    refine o_move rfl rfl ?_
    refine o_bin rfl rfl rfl (b_add (wrap_i64 (by omega) (by omega))) ?_
    refine o_assign rfl rfl ?_
    refine l_nil ?_
    exact q_round (i + 1) (by exact ⟨by omega, eqTo_on heq hxA hxB h3⟩) (by (try dsimp only); omega) ⟨(by first | rfl | exact vint (by omega)), (by first | rfl | exact vint (by omega)), (by first | rfl | exact vint (by omega)), trivial⟩ (fun w S => S)
  · -- h2F
   have h2b := h2
   try simp only [decide_eq_false_iff_not, Int.not_lt, Int.not_le] at h2
   refine c_exit ?_
   refine q_pass_exit ?_
   refine q_pass_exit ?_
   refine q_hit ?_
   refine q_then ?_
   refine c_seq ?_
   refine c_region ?_
   refine o_assign rfl rfl ?_
   refine l_nil ?_
   refine q_then ?_
   refine c_ret ?_
   exact f_ret (r_one rfl rfl) (⟨vtrue (eqTo_all heq (by omega) (by omega)), rfl⟩) (fun w S => S)
set_option maxHeartbeats 1000000 in
theorem same_ {W : World} {F : List Res} {a b : Txn} (T_a : TxR W F a) (T_b : TxR W F b) : CS Tryz.prog 32 #[.agg #[.int .i64 a.f_Kind, .slice a.f_Reads.a (a.f_Reads.xs).length a.f_Reads.c, .slice a.f_Writes.a (a.f_Writes.xs).length a.f_Writes.c, .slice a.f_Ops.a (a.f_Ops.xs).length a.f_Ops.c, .int .i64 a.f_To], .agg #[.int .i64 b.f_Kind, .slice b.f_Reads.a (b.f_Reads.xs).length b.f_Reads.c, .slice b.f_Writes.a (b.f_Writes.xs).length b.f_Writes.c, .slice b.f_Ops.a (b.f_Ops.xs).length b.f_Ops.c, .int .i64 b.f_To]] W (F) (fun r L' => r = .bool (decide (SameT a b)) ∧ F = L') := by
 have hla := T_a.len.lo
 refine f_door (l0 := [(0, .agg #[.int .i64 a.f_Kind, .slice a.f_Reads.a (a.f_Reads.xs).length a.f_Reads.c, .slice a.f_Writes.a (a.f_Writes.xs).length a.f_Writes.c, .slice a.f_Ops.a (a.f_Ops.xs).length a.f_Ops.c, .int .i64 a.f_To]), (1, .agg #[.int .i64 b.f_Kind, .slice b.f_Reads.a (b.f_Reads.xs).length b.f_Reads.c, .slice b.f_Writes.a (b.f_Writes.xs).length b.f_Writes.c, .slice b.f_Ops.a (b.f_Ops.xs).length b.f_Ops.c, .int .i64 b.f_To])]) Tryz.func32 Tryz.ntmps32 rfl rfl rfl ?_
 refine c_seq ?_
 refine c_region ?_
 refine o_box rfl rfl fun b2 => ?_
 refine o_box rfl rfl fun b3 => ?_
 refine o_assign rfl rfl ?_
 refine l_nil ?_
 refine q_then ?_
 refine c_seq ?_
 refine c_seq ?_
 refine c_region ?_
 refine o_fieldAddr (q := ⟨b2, 0, none⟩) rfl rfl Tryz.underlying30 rfl ti3 rfl ?_
 refine o_load1 rfl rfl Tryz.underlying3 rfl (rd_mem 1 rfl rfl) ?_
 refine o_fieldAddr (q := ⟨b3, 0, none⟩) rfl rfl Tryz.underlying30 rfl ti3 rfl ?_
 refine o_load1 rfl rfl Tryz.underlying3 rfl (rd_mem 0 rfl rfl) ?_
 refine o_bin rfl rfl rfl b_neq ?_
 refine o_move rfl rfl ?_
 refine l_split (t := 13) rfl (fun h1 => ?_) (fun h1 => ?_)
 · -- h1T
  have h1b := h1
  try simp only [Bool.not_eq_true', decide_eq_false_iff_not, Int.not_lt, Int.not_le] at h1
  refine o_no rfl rfl rfl rfl ?_
  refine o_no rfl rfl rfl rfl ?_
  refine o_no rfl rfl rfl rfl ?_
  refine o_no rfl rfl rfl rfl ?_
  refine o_no rfl rfl rfl rfl ?_
  refine o_pick_true rfl rfl rfl ?_
  refine o_move rfl rfl ?_
  refine o_no rfl rfl rfl rfl ?_
  refine o_no rfl rfl rfl rfl ?_
  refine o_no rfl rfl rfl rfl ?_
  refine o_no rfl rfl rfl rfl ?_
  refine o_no rfl rfl rfl rfl ?_
  refine o_no rfl rfl rfl rfl ?_
  refine o_pick_true rfl rfl rfl ?_
  refine o_move rfl rfl ?_
  refine o_no rfl rfl rfl rfl ?_
  refine o_no rfl rfl rfl rfl ?_
  refine o_no rfl rfl rfl rfl ?_
  refine o_no rfl rfl rfl rfl ?_
  refine o_no rfl rfl rfl rfl ?_
  refine o_no rfl rfl rfl rfl ?_
  refine o_pick_true rfl rfl rfl ?_
  refine o_move rfl rfl ?_
  refine o_no rfl rfl rfl rfl ?_
  refine o_no rfl rfl rfl rfl ?_
  refine o_no rfl rfl rfl rfl ?_
  refine o_no rfl rfl rfl rfl ?_
  refine o_no rfl rfl rfl rfl ?_
  refine o_no rfl rfl rfl rfl ?_
  refine o_no rfl rfl rfl rfl ?_
  refine o_pick_true rfl rfl rfl ?_
  refine l_nil ?_
  refine q_then ?_
  refine c_true rfl ?_
  refine c_seq ?_
  refine c_region ?_
  refine o_assign rfl rfl ?_
  refine l_nil ?_
  refine q_then ?_
  refine c_ret ?_
  refine q_pass_ret ?_
  refine q_conv (fun w S => S.tail) ?_
  refine q_conv (fun w S => S.tail) ?_
  exact f_ret (r_one rfl rfl) (⟨by first | exact vtrue (by unfold SameT; grind) | exact vfalse (by unfold SameT; grind), rfl⟩) (fun w S => S)
 · -- h1F
  have h1b := h1
  try simp only [Bool.not_eq_false', decide_eq_true_eq] at h1
  refine o_yes rfl rfl rfl ?_
  refine o_fieldAddr (q := ⟨b2, 4, none⟩) rfl rfl Tryz.underlying30 rfl ti3 rfl ?_
  refine o_yes rfl rfl rfl ?_
  refine o_load1 rfl rfl Tryz.underlying3 rfl (rd_mem 1 rfl rfl) ?_
  refine o_yes rfl rfl rfl ?_
  refine o_fieldAddr (q := ⟨b3, 4, none⟩) rfl rfl Tryz.underlying30 rfl ti3 rfl ?_
  refine o_yes rfl rfl rfl ?_
  refine o_load1 rfl rfl Tryz.underlying3 rfl (rd_mem 0 rfl rfl) ?_
  refine o_yes rfl rfl rfl ?_
  refine o_bin rfl rfl rfl b_neq ?_
  refine o_pick_false rfl rfl rfl ?_
  refine o_move rfl rfl ?_
  refine l_split (t := 20) rfl (fun h2 => ?_) (fun h2 => ?_)
  · -- h2T
   have h2b := h2
   try simp only [Bool.not_eq_true', decide_eq_false_iff_not, Int.not_lt, Int.not_le] at h2
   refine o_no rfl rfl rfl rfl ?_
   refine o_no rfl rfl rfl rfl ?_
   refine o_no rfl rfl rfl rfl ?_
   refine o_no rfl rfl rfl rfl ?_
   refine o_no rfl rfl rfl rfl ?_
   refine o_no rfl rfl rfl rfl ?_
   refine o_pick_true rfl rfl rfl ?_
   refine o_move rfl rfl ?_
   refine o_no rfl rfl rfl rfl ?_
   refine o_no rfl rfl rfl rfl ?_
   refine o_no rfl rfl rfl rfl ?_
   refine o_no rfl rfl rfl rfl ?_
   refine o_no rfl rfl rfl rfl ?_
   refine o_no rfl rfl rfl rfl ?_
   refine o_pick_true rfl rfl rfl ?_
   refine o_move rfl rfl ?_
   refine o_no rfl rfl rfl rfl ?_
   refine o_no rfl rfl rfl rfl ?_
   refine o_no rfl rfl rfl rfl ?_
   refine o_no rfl rfl rfl rfl ?_
   refine o_no rfl rfl rfl rfl ?_
   refine o_no rfl rfl rfl rfl ?_
   refine o_no rfl rfl rfl rfl ?_
   refine o_pick_true rfl rfl rfl ?_
   refine l_nil ?_
   refine q_then ?_
   refine c_true rfl ?_
   refine c_seq ?_
   refine c_region ?_
   refine o_assign rfl rfl ?_
   refine l_nil ?_
   refine q_then ?_
   refine c_ret ?_
   refine q_pass_ret ?_
   refine q_conv (fun w S => S.tail) ?_
   refine q_conv (fun w S => S.tail) ?_
   exact f_ret (r_one rfl rfl) (⟨by first | exact vtrue (by unfold SameT; grind) | exact vfalse (by unfold SameT; grind), rfl⟩) (fun w S => S)
  · -- h2F
   have h2b := h2
   try simp only [Bool.not_eq_false', decide_eq_true_eq] at h2
   refine o_yes rfl rfl rfl ?_
   refine o_fieldAddr (q := ⟨b2, 1, none⟩) rfl rfl Tryz.underlying30 rfl ti27 rfl ?_
   refine o_yes rfl rfl rfl ?_
   refine o_load1 rfl rfl Tryz.underlying27 rfl (rd_mem 1 rfl rfl) ?_
   refine o_yes rfl rfl rfl ?_
   refine o_fieldAddr (q := ⟨b3, 1, none⟩) rfl rfl Tryz.underlying30 rfl ti27 rfl ?_
   refine o_yes rfl rfl rfl ?_
   refine o_load1 rfl rfl Tryz.underlying27 rfl (rd_mem 0 rfl rfl) ?_
   refine o_yes rfl rfl rfl ?_
   refine o_call rfl cal58 rfl (sameTexts_ (TxR.c (TxR.c T_a)).rr (by first | exact T_a.len.lr | exact T_a.len.lw | exact T_a.len.lo | omega) (TxR.c (TxR.c T_b)).rr) ?_
   rintro _ _ ⟨rfl, rfl⟩
   refine o_yes rfl rfl rfl ?_
   refine o_not rfl rfl ?_
   refine o_pick_false rfl rfl rfl ?_
   refine o_move rfl rfl ?_
   refine l_split (t := 28) rfl (fun h3 => ?_) (fun h3 => ?_)
   · -- h3T
    have h3b := h3
    try simp only [Bool.not_eq_true', decide_eq_false_iff_not, Int.not_lt, Int.not_le] at h3
    refine o_no rfl rfl rfl rfl ?_
    refine o_no rfl rfl rfl rfl ?_
    refine o_no rfl rfl rfl rfl ?_
    refine o_no rfl rfl rfl rfl ?_
    refine o_no rfl rfl rfl rfl ?_
    refine o_no rfl rfl rfl rfl ?_
    refine o_pick_true rfl rfl rfl ?_
    refine o_move rfl rfl ?_
    refine o_no rfl rfl rfl rfl ?_
    refine o_no rfl rfl rfl rfl ?_
    refine o_no rfl rfl rfl rfl ?_
    refine o_no rfl rfl rfl rfl ?_
    refine o_no rfl rfl rfl rfl ?_
    refine o_no rfl rfl rfl rfl ?_
    refine o_no rfl rfl rfl rfl ?_
    refine o_pick_true rfl rfl rfl ?_
    refine l_nil ?_
    refine q_then ?_
    refine c_true rfl ?_
    refine c_seq ?_
    refine c_region ?_
    refine o_assign rfl rfl ?_
    refine l_nil ?_
    refine q_then ?_
    refine c_ret ?_
    refine q_pass_ret ?_
    refine q_conv (fun w S => S.tail) ?_
    refine q_conv (fun w S => S.tail) ?_
    exact f_ret (r_one rfl rfl) (⟨by first | exact vtrue (by unfold SameT; grind) | exact vfalse (by unfold SameT; grind), rfl⟩) (fun w S => S)
   · -- h3F
    have h3b := h3
    try simp only [Bool.not_eq_false', decide_eq_true_eq] at h3
    refine o_yes rfl rfl rfl ?_
    refine o_fieldAddr (q := ⟨b2, 2, none⟩) rfl rfl Tryz.underlying30 rfl ti27 rfl ?_
    refine o_yes rfl rfl rfl ?_
    refine o_load1 rfl rfl Tryz.underlying27 rfl (rd_mem 1 rfl rfl) ?_
    refine o_yes rfl rfl rfl ?_
    refine o_fieldAddr (q := ⟨b3, 2, none⟩) rfl rfl Tryz.underlying30 rfl ti27 rfl ?_
    refine o_yes rfl rfl rfl ?_
    refine o_load1 rfl rfl Tryz.underlying27 rfl (rd_mem 0 rfl rfl) ?_
    refine o_yes rfl rfl rfl ?_
    refine o_call rfl cal58 rfl (sameTexts_ (TxR.c (TxR.c T_a)).rw (by first | exact T_a.len.lr | exact T_a.len.lw | exact T_a.len.lo | omega) (TxR.c (TxR.c T_b)).rw) ?_
    rintro _ _ ⟨rfl, rfl⟩
    refine o_yes rfl rfl rfl ?_
    refine o_not rfl rfl ?_
    refine o_pick_false rfl rfl rfl ?_
    refine o_move rfl rfl ?_
    refine l_split (t := 36) rfl (fun h4 => ?_) (fun h4 => ?_)
    · -- h4T
     have h4b := h4
     try simp only [Bool.not_eq_true', decide_eq_false_iff_not, Int.not_lt, Int.not_le] at h4
     refine o_no rfl rfl rfl rfl ?_
     refine o_no rfl rfl rfl rfl ?_
     refine o_no rfl rfl rfl rfl ?_
     refine o_no rfl rfl rfl rfl ?_
     refine o_no rfl rfl rfl rfl ?_
     refine o_no rfl rfl rfl rfl ?_
     refine o_no rfl rfl rfl rfl ?_
     refine o_pick_true rfl rfl rfl ?_
     refine l_nil ?_
     refine q_then ?_
     refine c_true rfl ?_
     refine c_seq ?_
     refine c_region ?_
     refine o_assign rfl rfl ?_
     refine l_nil ?_
     refine q_then ?_
     refine c_ret ?_
     refine q_pass_ret ?_
     refine q_conv (fun w S => S.tail) ?_
     refine q_conv (fun w S => S.tail) ?_
     exact f_ret (r_one rfl rfl) (⟨by first | exact vtrue (by unfold SameT; grind) | exact vfalse (by unfold SameT; grind), rfl⟩) (fun w S => S)
    · -- h4F
     have h4b := h4
     try simp only [Bool.not_eq_false', decide_eq_true_eq] at h4
     refine o_yes rfl rfl rfl ?_
     refine o_fieldAddr (q := ⟨b2, 3, none⟩) rfl rfl Tryz.underlying30 rfl ti28 rfl ?_
     refine o_yes rfl rfl rfl ?_
     refine o_load1 rfl rfl Tryz.underlying28 rfl (rd_mem 1 rfl rfl) ?_
     refine o_yes rfl rfl rfl ?_
     refine o_len rfl rfl Tryz.underlying28 ?_
     refine o_yes rfl rfl rfl ?_
     refine o_fieldAddr (q := ⟨b3, 3, none⟩) rfl rfl Tryz.underlying30 rfl ti28 rfl ?_
     refine o_yes rfl rfl rfl ?_
     refine o_load1 rfl rfl Tryz.underlying28 rfl (rd_mem 0 rfl rfl) ?_
     refine o_yes rfl rfl rfl ?_
     refine o_len rfl rfl Tryz.underlying28 ?_
     refine o_yes rfl rfl rfl ?_
     refine o_bin rfl rfl rfl b_neq ?_
     refine o_pick_false rfl rfl rfl ?_
     refine l_nil ?_
     refine q_then ?_
     refine c_cond rfl (fun h5 => ?_) (fun h5 => ?_)
     · -- h5T
      have h5b := h5
      try simp only [Bool.not_eq_true', decide_eq_false_iff_not, Int.not_lt, Int.not_le] at h5
      refine c_seq ?_
      refine c_region ?_
      refine o_assign rfl rfl ?_
      refine l_nil ?_
      refine q_then ?_
      refine c_ret ?_
      refine q_pass_ret ?_
      refine q_conv (fun w S => S.tail) ?_
      refine q_conv (fun w S => S.tail) ?_
      exact f_ret (r_one rfl rfl) (⟨by first | exact vtrue (by unfold SameT; grind) | exact vfalse (by unfold SameT; grind), rfl⟩) (fun w S => S)
     · -- h5F
      have h5b := h5
      try simp only [Bool.not_eq_false', decide_eq_true_eq] at h5
      refine c_skip ?_
      refine q_then ?_
      refine c_seq ?_
      refine c_seq ?_
      refine c_region ?_
      refine o_assign rfl rfl ?_
      refine l_nil ?_
      refine q_then ?_
      refine c_block ?_
      refine c_loop (α := Nat) (fun z => [(2, .pointer (some ⟨b2, 0, none⟩)), (3, .pointer (some ⟨b3, 0, none⟩)), (5, .int .i64 (z : Int))]) (fun z => blk b3 (.cells #[.int .i64 b.f_Kind, .slice b.f_Reads.a (b.f_Reads.xs).length b.f_Reads.c, .slice b.f_Writes.a (b.f_Writes.xs).length b.f_Writes.c, .slice b.f_Ops.a (b.f_Ops.xs).length b.f_Ops.c, .int .i64 b.f_To] 30 (0, 0)) :: blk b2 (.cells #[.int .i64 a.f_Kind, .slice a.f_Reads.a (a.f_Reads.xs).length a.f_Reads.c, .slice a.f_Writes.a (a.f_Writes.xs).length a.f_Writes.c, .slice a.f_Ops.a (a.f_Ops.xs).length a.f_Ops.c, .int .i64 a.f_To] 30 (0, 0)) :: F) (fun z => z ≤ a.f_Ops.xs.length ∧ SameOps a.f_Ops.xs b.f_Ops.xs z) (fun z => a.f_Ops.xs.length - z) (0) (by exact ⟨Nat.zero_le _, sameOps_0⟩) ⟨(by first | rfl | exact vint (by omega)), (by first | rfl | exact vint (by omega)), (by first | rfl | exact vint (by omega)), trivial⟩ (fun w S => S) ?_
      rintro i ⟨hi, hso⟩
      try dsimp only at *
      refine c_seq ?_
      refine c_seq ?_
      refine c_region ?_
      refine o_move rfl rfl ?_
      refine o_fieldAddr (q := ⟨b2, 3, none⟩) rfl rfl Tryz.underlying30 rfl ti28 rfl ?_
      refine o_load1 rfl rfl Tryz.underlying28 rfl (rd_mem 1 rfl rfl) ?_
      refine o_len rfl rfl Tryz.underlying28 ?_
      refine o_bin rfl rfl rfl b_lss ?_
      refine l_nil ?_
      refine q_then ?_
      refine c_cond rfl (fun h6 => ?_) (fun h6 => ?_)
      · -- h6T
       have h6b := h6
       try simp only [decide_eq_true_eq] at h6
       refine c_skip ?_
       refine q_then ?_
       refine c_seq ?_
       refine c_block ?_
       refine c_seq ?_
       refine c_fact (p := ∃ ad, a.f_Ops.a = some ad) (rds_some (e := e_Op) (xs := a.f_Ops.xs) (TxR.c (TxR.c T_a)).ro (by intro h0; have h00 := congrArg List.length h0; simp only [List.length_nil] at h00; omega)) ?_
       rintro ⟨adx, eadx⟩
       refine c_fact (p := ∃ ad, b.f_Ops.a = some ad) (rds_some (e := e_Op) (xs := b.f_Ops.xs) (TxR.c (TxR.c T_b)).ro (by intro h0; have h00 := congrArg List.length h0; simp only [List.length_nil] at h00; omega)) ?_
       rintro ⟨ady, eady⟩
       refine c_heldF [] (blk b3 (.cells #[.int .i64 b.f_Kind, .slice b.f_Reads.a (b.f_Reads.xs).length b.f_Reads.c, .slice b.f_Writes.a (b.f_Writes.xs).length b.f_Writes.c, .slice b.f_Ops.a (b.f_Ops.xs).length b.f_Ops.c, .int .i64 b.f_To] 30 (0, 0)) :: blk b2 (.cells #[.int .i64 a.f_Kind, .slice a.f_Reads.a (a.f_Reads.xs).length a.f_Reads.c, .slice a.f_Writes.a (a.f_Writes.xs).length a.f_Writes.c, .slice a.f_Ops.a (a.f_Ops.xs).length a.f_Ops.c, .int .i64 a.f_To] 30 (0, 0)) :: F) (by kernel_rfl) ?_
       refine h_take 0 rfl rfl (by kernel_rfl) (by kernel_rfl) (by kernel_rfl) (fun L0 => v_fieldAddr (q := ⟨b2, 3, none⟩) rfl rfl Tryz.underlying30 rfl ti28 rfl) ?_
       refine h_take 1 rfl rfl (by kernel_rfl) (by kernel_rfl) (by kernel_rfl) (fun L0 => v_load1 rfl rfl Tryz.underlying28 rfl (rd_mem 1 rfl rfl)) ?_
       refine h_take 2 rfl rfl (by kernel_rfl) (by kernel_rfl) (by kernel_rfl) (fun L0 => v_move rfl rfl) ?_
       refine h_take 3 rfl rfl (by kernel_rfl) (by kernel_rfl) (by kernel_rfl) (fun L0 => v_indexK e_Op_ok eadx rfl rfl rfl Tryz.underlying28 (by omega) (by omega)) ?_
       obtain ⟨x55, hx55⟩ : ∃ x, (a.f_Ops.xs)[((i : Int)).toNat]? = some x := ⟨_, List.getElem?_eq_getElem (by omega)⟩
       refine h_take 4 rfl rfl (by kernel_rfl) (by kernel_rfl) (by kernel_rfl) (fun L0 => v_loadn (vs := e_Op.cells x55) rfl rfl Tryz.underlying92 rfl ti92 (rdn_sl e_Op_ok eadx (rds_app (TxR.c (TxR.c T_a)).ro) hx55)) ?_
       refine h_take 5 rfl rfl (by kernel_rfl) (by kernel_rfl) (by kernel_rfl) (fun L0 => v_fieldAddr (q := ⟨b3, 3, none⟩) rfl rfl Tryz.underlying30 rfl ti28 rfl) ?_
       refine h_take 6 rfl rfl (by kernel_rfl) (by kernel_rfl) (by kernel_rfl) (fun L0 => v_load1 rfl rfl Tryz.underlying28 rfl (rd_mem 0 rfl rfl)) ?_
       refine h_take 7 rfl rfl (by kernel_rfl) (by kernel_rfl) (by kernel_rfl) (fun L0 => v_move rfl rfl) ?_
       refine h_take 8 rfl rfl (by kernel_rfl) (by kernel_rfl) (by kernel_rfl) (fun L0 => v_indexK e_Op_ok eady rfl rfl rfl Tryz.underlying28 (by omega) (by omega)) ?_
       obtain ⟨x60, hx60⟩ : ∃ x, (b.f_Ops.xs)[((i : Int)).toNat]? = some x := ⟨_, List.getElem?_eq_getElem (by omega)⟩
       have hxA : a.f_Ops.xs[i]? = some x55 := hx55
       have hxB : b.f_Ops.xs[i]? = some x60 := hx60
       refine h_take 9 rfl rfl (by kernel_rfl) (by kernel_rfl) (by kernel_rfl) (fun L0 => v_loadn (vs := e_Op.cells x60) rfl rfl Tryz.underlying92 rfl ti92 (rdn_sl e_Op_ok eady (rds_app (TxR.c (TxR.c T_b)).ro) hx60)) ?_
       refine h_many (is := [10, 11]) (by kernel_rfl) (by decide) (forall_cons ⟨_, rfl, ?_⟩ (forall_cons ⟨_, rfl, ?_⟩ forall_nil))
       · -- 10 comes first
        refine l_conv (L' := blk b3 (.cells #[.int .i64 b.f_Kind, .slice b.f_Reads.a (b.f_Reads.xs).length b.f_Reads.c, .slice b.f_Writes.a (b.f_Writes.xs).length b.f_Writes.c, .slice b.f_Ops.a (b.f_Ops.xs).length b.f_Ops.c, .int .i64 b.f_To] 30 (0, 0)) :: blk b2 (.cells #[.int .i64 a.f_Kind, .slice a.f_Reads.a (a.f_Reads.xs).length a.f_Reads.c, .slice a.f_Writes.a (a.f_Writes.xs).length a.f_Writes.c, .slice a.f_Ops.a (a.f_Ops.xs).length a.f_Ops.c, .int .i64 a.f_To] 30 (0, 0)) :: F) (fun w S => S.perm List.perm_append_comm) ?_
        refine o_alloc rfl ti92 fun b6 => ?_
        refine l_nil ?_
        refine q_conv (L' := (blk b3 (.cells #[.int .i64 b.f_Kind, .slice b.f_Reads.a (b.f_Reads.xs).length b.f_Reads.c, .slice b.f_Writes.a (b.f_Writes.xs).length b.f_Writes.c, .slice b.f_Ops.a (b.f_Ops.xs).length b.f_Ops.c, .int .i64 b.f_To] 30 (0, 0)) :: blk b2 (.cells #[.int .i64 a.f_Kind, .slice a.f_Reads.a (a.f_Reads.xs).length a.f_Reads.c, .slice a.f_Writes.a (a.f_Writes.xs).length a.f_Writes.c, .slice a.f_Ops.a (a.f_Ops.xs).length a.f_Ops.c, .int .i64 a.f_To] 30 (0, 0)) :: F) ++ [blk b6 (.cells #[.int .i64 0, .string ByteArray.empty, .slice none 0 0, .int .i64 0] 92 (0, 0))]) (fun w S => S.perm (List.perm_append_comm (l₁ := [blk b6 (.cells #[.int .i64 0, .string ByteArray.empty, .slice none 0 0, .int .i64 0] 92 (0, 0))]) (l₂ := blk b3 (.cells #[.int .i64 b.f_Kind, .slice b.f_Reads.a (b.f_Reads.xs).length b.f_Reads.c, .slice b.f_Writes.a (b.f_Writes.xs).length b.f_Writes.c, .slice b.f_Ops.a (b.f_Ops.xs).length b.f_Ops.c, .int .i64 b.f_To] 30 (0, 0)) :: blk b2 (.cells #[.int .i64 a.f_Kind, .slice a.f_Reads.a (a.f_Reads.xs).length a.f_Reads.c, .slice a.f_Writes.a (a.f_Writes.xs).length a.f_Writes.c, .slice a.f_Ops.a (a.f_Ops.xs).length a.f_Ops.c, .int .i64 a.f_To] 30 (0, 0)) :: F))) ?_
        refine h_next ?_
        refine h_one 11 rfl (by kernel_rfl) ?_
        refine l_conv (L' := blk b6 (.cells #[.int .i64 0, .string ByteArray.empty, .slice none 0 0, .int .i64 0] 92 (0, 0)) :: blk b3 (.cells #[.int .i64 b.f_Kind, .slice b.f_Reads.a (b.f_Reads.xs).length b.f_Reads.c, .slice b.f_Writes.a (b.f_Writes.xs).length b.f_Writes.c, .slice b.f_Ops.a (b.f_Ops.xs).length b.f_Ops.c, .int .i64 b.f_To] 30 (0, 0)) :: blk b2 (.cells #[.int .i64 a.f_Kind, .slice a.f_Reads.a (a.f_Reads.xs).length a.f_Reads.c, .slice a.f_Writes.a (a.f_Writes.xs).length a.f_Writes.c, .slice a.f_Ops.a (a.f_Ops.xs).length a.f_Ops.c, .int .i64 a.f_To] 30 (0, 0)) :: F) (fun w S => S.perm List.perm_append_comm) ?_
        refine o_alloc rfl ti92 fun b7 => ?_
        refine l_nil ?_
        refine q_conv (L' := (blk b3 (.cells #[.int .i64 b.f_Kind, .slice b.f_Reads.a (b.f_Reads.xs).length b.f_Reads.c, .slice b.f_Writes.a (b.f_Writes.xs).length b.f_Writes.c, .slice b.f_Ops.a (b.f_Ops.xs).length b.f_Ops.c, .int .i64 b.f_To] 30 (0, 0)) :: blk b2 (.cells #[.int .i64 a.f_Kind, .slice a.f_Reads.a (a.f_Reads.xs).length a.f_Reads.c, .slice a.f_Writes.a (a.f_Writes.xs).length a.f_Writes.c, .slice a.f_Ops.a (a.f_Ops.xs).length a.f_Ops.c, .int .i64 a.f_To] 30 (0, 0)) :: F) ++ [blk b7 (.cells #[.int .i64 0, .string ByteArray.empty, .slice none 0 0, .int .i64 0] 92 (0, 0)), blk b6 (.cells #[.int .i64 0, .string ByteArray.empty, .slice none 0 0, .int .i64 0] 92 (0, 0))]) (fun w S => S.perm (List.perm_append_comm (l₁ := [blk b7 (.cells #[.int .i64 0, .string ByteArray.empty, .slice none 0 0, .int .i64 0] 92 (0, 0)), blk b6 (.cells #[.int .i64 0, .string ByteArray.empty, .slice none 0 0, .int .i64 0] 92 (0, 0))]) (l₂ := blk b3 (.cells #[.int .i64 b.f_Kind, .slice b.f_Reads.a (b.f_Reads.xs).length b.f_Reads.c, .slice b.f_Writes.a (b.f_Writes.xs).length b.f_Writes.c, .slice b.f_Ops.a (b.f_Ops.xs).length b.f_Ops.c, .int .i64 b.f_To] 30 (0, 0)) :: blk b2 (.cells #[.int .i64 a.f_Kind, .slice a.f_Reads.a (a.f_Reads.xs).length a.f_Reads.c, .slice a.f_Writes.a (a.f_Writes.xs).length a.f_Writes.c, .slice a.f_Ops.a (a.f_Ops.xs).length a.f_Ops.c, .int .i64 a.f_To] 30 (0, 0)) :: F))) ?_
        refine h_next ?_
        refine h_one 12 rfl (by kernel_rfl) ?_
        refine l_conv (L' := blk b7 (.cells #[.int .i64 0, .string ByteArray.empty, .slice none 0 0, .int .i64 0] 92 (0, 0)) :: blk b6 (.cells #[.int .i64 0, .string ByteArray.empty, .slice none 0 0, .int .i64 0] 92 (0, 0)) :: blk b3 (.cells #[.int .i64 b.f_Kind, .slice b.f_Reads.a (b.f_Reads.xs).length b.f_Reads.c, .slice b.f_Writes.a (b.f_Writes.xs).length b.f_Writes.c, .slice b.f_Ops.a (b.f_Ops.xs).length b.f_Ops.c, .int .i64 b.f_To] 30 (0, 0)) :: blk b2 (.cells #[.int .i64 a.f_Kind, .slice a.f_Reads.a (a.f_Reads.xs).length a.f_Reads.c, .slice a.f_Writes.a (a.f_Writes.xs).length a.f_Writes.c, .slice a.f_Ops.a (a.f_Ops.xs).length a.f_Ops.c, .int .i64 a.f_To] 30 (0, 0)) :: F) (fun w S => S.perm List.perm_append_comm) ?_
        refine l_f1 ?_
        refine o_storen rfl rfl ti92 rfl rfl rfl rfl ?_
        refine l_nil ?_
        refine q_conv (L' := (blk b3 (.cells #[.int .i64 b.f_Kind, .slice b.f_Reads.a (b.f_Reads.xs).length b.f_Reads.c, .slice b.f_Writes.a (b.f_Writes.xs).length b.f_Writes.c, .slice b.f_Ops.a (b.f_Ops.xs).length b.f_Ops.c, .int .i64 b.f_To] 30 (0, 0)) :: blk b2 (.cells #[.int .i64 a.f_Kind, .slice a.f_Reads.a (a.f_Reads.xs).length a.f_Reads.c, .slice a.f_Writes.a (a.f_Writes.xs).length a.f_Writes.c, .slice a.f_Ops.a (a.f_Ops.xs).length a.f_Ops.c, .int .i64 a.f_To] 30 (0, 0)) :: F) ++ [blk b6 (.cells #[.int .i64 x55.f_Kind, .string x55.f_Key, .slice x55.f_Value.a (x55.f_Value.xs).length x55.f_Value.c, .int .i64 x55.f_N] 92 (0, 0)), blk b7 (.cells #[.int .i64 0, .string ByteArray.empty, .slice none 0 0, .int .i64 0] 92 (0, 0))]) (fun w S => S.perm (List.perm_append_comm (l₁ := [blk b6 (.cells #[.int .i64 x55.f_Kind, .string x55.f_Key, .slice x55.f_Value.a (x55.f_Value.xs).length x55.f_Value.c, .int .i64 x55.f_N] 92 (0, 0)), blk b7 (.cells #[.int .i64 0, .string ByteArray.empty, .slice none 0 0, .int .i64 0] 92 (0, 0))]) (l₂ := blk b3 (.cells #[.int .i64 b.f_Kind, .slice b.f_Reads.a (b.f_Reads.xs).length b.f_Reads.c, .slice b.f_Writes.a (b.f_Writes.xs).length b.f_Writes.c, .slice b.f_Ops.a (b.f_Ops.xs).length b.f_Ops.c, .int .i64 b.f_To] 30 (0, 0)) :: blk b2 (.cells #[.int .i64 a.f_Kind, .slice a.f_Reads.a (a.f_Reads.xs).length a.f_Reads.c, .slice a.f_Writes.a (a.f_Writes.xs).length a.f_Writes.c, .slice a.f_Ops.a (a.f_Ops.xs).length a.f_Ops.c, .int .i64 a.f_To] 30 (0, 0)) :: F))) ?_
        refine h_next ?_
        refine h_one 13 rfl (by kernel_rfl) ?_
        refine l_conv (L' := blk b6 (.cells #[.int .i64 x55.f_Kind, .string x55.f_Key, .slice x55.f_Value.a (x55.f_Value.xs).length x55.f_Value.c, .int .i64 x55.f_N] 92 (0, 0)) :: blk b7 (.cells #[.int .i64 0, .string ByteArray.empty, .slice none 0 0, .int .i64 0] 92 (0, 0)) :: blk b3 (.cells #[.int .i64 b.f_Kind, .slice b.f_Reads.a (b.f_Reads.xs).length b.f_Reads.c, .slice b.f_Writes.a (b.f_Writes.xs).length b.f_Writes.c, .slice b.f_Ops.a (b.f_Ops.xs).length b.f_Ops.c, .int .i64 b.f_To] 30 (0, 0)) :: blk b2 (.cells #[.int .i64 a.f_Kind, .slice a.f_Reads.a (a.f_Reads.xs).length a.f_Reads.c, .slice a.f_Writes.a (a.f_Writes.xs).length a.f_Writes.c, .slice a.f_Ops.a (a.f_Ops.xs).length a.f_Ops.c, .int .i64 a.f_To] 30 (0, 0)) :: F) (fun w S => S.perm List.perm_append_comm) ?_
        refine l_f1 ?_
        refine o_storen rfl rfl ti92 rfl rfl rfl rfl ?_
        refine l_nil ?_
        refine q_conv (L' := (blk b3 (.cells #[.int .i64 b.f_Kind, .slice b.f_Reads.a (b.f_Reads.xs).length b.f_Reads.c, .slice b.f_Writes.a (b.f_Writes.xs).length b.f_Writes.c, .slice b.f_Ops.a (b.f_Ops.xs).length b.f_Ops.c, .int .i64 b.f_To] 30 (0, 0)) :: blk b2 (.cells #[.int .i64 a.f_Kind, .slice a.f_Reads.a (a.f_Reads.xs).length a.f_Reads.c, .slice a.f_Writes.a (a.f_Writes.xs).length a.f_Writes.c, .slice a.f_Ops.a (a.f_Ops.xs).length a.f_Ops.c, .int .i64 a.f_To] 30 (0, 0)) :: F) ++ [blk b7 (.cells #[.int .i64 x60.f_Kind, .string x60.f_Key, .slice x60.f_Value.a (x60.f_Value.xs).length x60.f_Value.c, .int .i64 x60.f_N] 92 (0, 0)), blk b6 (.cells #[.int .i64 x55.f_Kind, .string x55.f_Key, .slice x55.f_Value.a (x55.f_Value.xs).length x55.f_Value.c, .int .i64 x55.f_N] 92 (0, 0))]) (fun w S => S.perm (List.perm_append_comm (l₁ := [blk b7 (.cells #[.int .i64 x60.f_Kind, .string x60.f_Key, .slice x60.f_Value.a (x60.f_Value.xs).length x60.f_Value.c, .int .i64 x60.f_N] 92 (0, 0)), blk b6 (.cells #[.int .i64 x55.f_Kind, .string x55.f_Key, .slice x55.f_Value.a (x55.f_Value.xs).length x55.f_Value.c, .int .i64 x55.f_N] 92 (0, 0))]) (l₂ := blk b3 (.cells #[.int .i64 b.f_Kind, .slice b.f_Reads.a (b.f_Reads.xs).length b.f_Reads.c, .slice b.f_Writes.a (b.f_Writes.xs).length b.f_Writes.c, .slice b.f_Ops.a (b.f_Ops.xs).length b.f_Ops.c, .int .i64 b.f_To] 30 (0, 0)) :: blk b2 (.cells #[.int .i64 a.f_Kind, .slice a.f_Reads.a (a.f_Reads.xs).length a.f_Reads.c, .slice a.f_Writes.a (a.f_Writes.xs).length a.f_Writes.c, .slice a.f_Ops.a (a.f_Ops.xs).length a.f_Ops.c, .int .i64 a.f_To] 30 (0, 0)) :: F))) ?_
        refine h_next ?_
        refine h_done (by kernel_rfl) ?_
        refine q_conv (L' := blk b7 (.cells #[.int .i64 x60.f_Kind, .string x60.f_Key, .slice x60.f_Value.a (x60.f_Value.xs).length x60.f_Value.c, .int .i64 x60.f_N] 92 (0, 0)) :: blk b6 (.cells #[.int .i64 x55.f_Kind, .string x55.f_Key, .slice x55.f_Value.a (x55.f_Value.xs).length x55.f_Value.c, .int .i64 x55.f_N] 92 (0, 0)) :: blk b3 (.cells #[.int .i64 b.f_Kind, .slice b.f_Reads.a (b.f_Reads.xs).length b.f_Reads.c, .slice b.f_Writes.a (b.f_Writes.xs).length b.f_Writes.c, .slice b.f_Ops.a (b.f_Ops.xs).length b.f_Ops.c, .int .i64 b.f_To] 30 (0, 0)) :: blk b2 (.cells #[.int .i64 a.f_Kind, .slice a.f_Reads.a (a.f_Reads.xs).length a.f_Reads.c, .slice a.f_Writes.a (a.f_Writes.xs).length a.f_Writes.c, .slice a.f_Ops.a (a.f_Ops.xs).length a.f_Ops.c, .int .i64 a.f_To] 30 (0, 0)) :: F) (fun w S => S.perm List.perm_append_comm) ?_
        refine q_then ?_
        refine c_seq ?_
        refine c_region ?_
        refine o_fieldAddr (q := ⟨b6, 0, none⟩) rfl rfl Tryz.underlying92 rfl ti3 rfl ?_
        refine o_load1 rfl rfl Tryz.underlying3 rfl (rd_mem 1 rfl rfl) ?_
        refine o_fieldAddr (q := ⟨b7, 0, none⟩) rfl rfl Tryz.underlying92 rfl ti3 rfl ?_
        refine o_load1 rfl rfl Tryz.underlying3 rfl (rd_mem 0 rfl rfl) ?_
        refine o_bin rfl rfl rfl b_neq ?_
        refine o_move rfl rfl ?_
        refine l_split (t := 67) rfl (fun h7 => ?_) (fun h7 => ?_)
        · -- h7T
         have h7b := h7
         try simp only [Bool.not_eq_true', decide_eq_false_iff_not, Int.not_lt, Int.not_le] at h7
         refine o_no rfl rfl rfl rfl ?_
         refine o_no rfl rfl rfl rfl ?_
         refine o_no rfl rfl rfl rfl ?_
         refine o_no rfl rfl rfl rfl ?_
         refine o_no rfl rfl rfl rfl ?_
         refine o_pick_true rfl rfl rfl ?_
         refine o_move rfl rfl ?_
         refine o_no rfl rfl rfl rfl ?_
         refine o_no rfl rfl rfl rfl ?_
         refine o_no rfl rfl rfl rfl ?_
         refine o_no rfl rfl rfl rfl ?_
         refine o_no rfl rfl rfl rfl ?_
         refine o_pick_true rfl rfl rfl ?_
         refine o_move rfl rfl ?_
         refine o_no rfl rfl rfl rfl ?_
         refine o_no rfl rfl rfl rfl ?_
         refine o_no rfl rfl rfl rfl ?_
         refine o_no rfl rfl rfl rfl ?_
         refine o_no rfl rfl rfl rfl ?_
         refine o_no rfl rfl rfl rfl ?_
         refine o_no rfl rfl rfl rfl ?_
         refine o_pick_true rfl rfl rfl ?_
         refine l_nil ?_
         refine q_then ?_
         refine c_true rfl ?_
         refine c_seq ?_
         have hno : ¬ SameOps a.f_Ops.xs b.f_Ops.xs a.f_Ops.xs.length := fun h9 => by have h10 := h9 i _ _ (by omega) hxA hxB; unfold SameOp at h10; simp_all [bts_eq]
         refine c_region ?_
         refine o_assign rfl rfl ?_
         refine l_nil ?_
         refine q_then ?_
         refine c_ret ?_
         refine q_block_ret ?_
         refine q_pass_ret ?_
         refine q_pass_ret ?_
         refine q_block_ret ?_
         refine q_pass_ret ?_
         refine q_conv (fun w S => S.tail) ?_
         refine q_conv (fun w S => S.tail) ?_
         refine q_conv (fun w S => S.tail) ?_
         refine q_conv (fun w S => S.tail) ?_
         exact f_ret (r_one rfl rfl) (⟨by first | exact vtrue (by unfold SameT; grind) | exact vfalse (by unfold SameT; grind), rfl⟩) (fun w S => S)
        · -- h7F
         have h7b := h7
         try simp only [Bool.not_eq_false', decide_eq_true_eq] at h7
         refine o_yes rfl rfl rfl ?_
         refine o_fieldAddr (q := ⟨b6, 1, none⟩) rfl rfl Tryz.underlying92 rfl ti9 rfl ?_
         refine o_yes rfl rfl rfl ?_
         refine o_load1 rfl rfl Tryz.underlying9 rfl (rd_mem 1 rfl rfl) ?_
         refine o_yes rfl rfl rfl ?_
         refine o_fieldAddr (q := ⟨b7, 1, none⟩) rfl rfl Tryz.underlying92 rfl ti9 rfl ?_
         refine o_yes rfl rfl rfl ?_
         refine o_load1 rfl rfl Tryz.underlying9 rfl (rd_mem 0 rfl rfl) ?_
         refine o_yes rfl rfl rfl ?_
         refine o_bin rfl rfl rfl b_sneq ?_
         refine o_pick_false rfl rfl rfl ?_
         refine o_move rfl rfl ?_
         refine l_split (t := 74) rfl (fun h8 => ?_) (fun h8 => ?_)
         · -- h8T
          have h8b := h8
          try simp only [Bool.not_eq_true', decide_eq_false_iff_not, Int.not_lt, Int.not_le] at h8
          refine o_no rfl rfl rfl rfl ?_
          refine o_no rfl rfl rfl rfl ?_
          refine o_no rfl rfl rfl rfl ?_
          refine o_no rfl rfl rfl rfl ?_
          refine o_no rfl rfl rfl rfl ?_
          refine o_pick_true rfl rfl rfl ?_
          refine o_move rfl rfl ?_
          refine o_no rfl rfl rfl rfl ?_
          refine o_no rfl rfl rfl rfl ?_
          refine o_no rfl rfl rfl rfl ?_
          refine o_no rfl rfl rfl rfl ?_
          refine o_no rfl rfl rfl rfl ?_
          refine o_no rfl rfl rfl rfl ?_
          refine o_no rfl rfl rfl rfl ?_
          refine o_pick_true rfl rfl rfl ?_
          refine l_nil ?_
          refine q_then ?_
          refine c_true rfl ?_
          refine c_seq ?_
          have hno : ¬ SameOps a.f_Ops.xs b.f_Ops.xs a.f_Ops.xs.length := fun h9 => by have h10 := h9 i _ _ (by omega) hxA hxB; unfold SameOp at h10; simp_all [bts_eq]
          refine c_region ?_
          refine o_assign rfl rfl ?_
          refine l_nil ?_
          refine q_then ?_
          refine c_ret ?_
          refine q_block_ret ?_
          refine q_pass_ret ?_
          refine q_pass_ret ?_
          refine q_block_ret ?_
          refine q_pass_ret ?_
          refine q_conv (fun w S => S.tail) ?_
          refine q_conv (fun w S => S.tail) ?_
          refine q_conv (fun w S => S.tail) ?_
          refine q_conv (fun w S => S.tail) ?_
          exact f_ret (r_one rfl rfl) (⟨by first | exact vtrue (by unfold SameT; grind) | exact vfalse (by unfold SameT; grind), rfl⟩) (fun w S => S)
         · -- h8F
          have h8b := h8
          try simp only [Bool.not_eq_false', decide_eq_true_eq] at h8
          refine o_yes rfl rfl rfl ?_
          refine o_fieldAddr (q := ⟨b6, 3, none⟩) rfl rfl Tryz.underlying92 rfl ti2 rfl ?_
          refine o_yes rfl rfl rfl ?_
          refine o_load1 rfl rfl Tryz.underlying2 rfl (rd_mem 1 rfl rfl) ?_
          refine o_yes rfl rfl rfl ?_
          refine o_fieldAddr (q := ⟨b7, 3, none⟩) rfl rfl Tryz.underlying92 rfl ti2 rfl ?_
          refine o_yes rfl rfl rfl ?_
          refine o_load1 rfl rfl Tryz.underlying2 rfl (rd_mem 0 rfl rfl) ?_
          refine o_yes rfl rfl rfl ?_
          refine o_bin rfl rfl rfl b_neq ?_
          refine o_pick_false rfl rfl rfl ?_
          refine o_move rfl rfl ?_
          refine l_split (t := 81) rfl (fun h9 => ?_) (fun h9 => ?_)
          · -- h9T
           have h9b := h9
           try simp only [Bool.not_eq_true', decide_eq_false_iff_not, Int.not_lt, Int.not_le] at h9
           refine o_no rfl rfl rfl rfl ?_
           refine o_no rfl rfl rfl rfl ?_
           refine o_no rfl rfl rfl rfl ?_
           refine o_no rfl rfl rfl rfl ?_
           refine o_no rfl rfl rfl rfl ?_
           refine o_no rfl rfl rfl rfl ?_
           refine o_no rfl rfl rfl rfl ?_
           refine o_pick_true rfl rfl rfl ?_
           refine l_nil ?_
           refine q_then ?_
           refine c_true rfl ?_
           refine c_seq ?_
           have hno : ¬ SameOps a.f_Ops.xs b.f_Ops.xs a.f_Ops.xs.length := fun h9 => by have h10 := h9 i _ _ (by omega) hxA hxB; unfold SameOp at h10; simp_all [bts_eq]
           refine c_region ?_
           refine o_assign rfl rfl ?_
           refine l_nil ?_
           refine q_then ?_
           refine c_ret ?_
           refine q_block_ret ?_
           refine q_pass_ret ?_
           refine q_pass_ret ?_
           refine q_block_ret ?_
           refine q_pass_ret ?_
           refine q_conv (fun w S => S.tail) ?_
           refine q_conv (fun w S => S.tail) ?_
           refine q_conv (fun w S => S.tail) ?_
           refine q_conv (fun w S => S.tail) ?_
           exact f_ret (r_one rfl rfl) (⟨by first | exact vtrue (by unfold SameT; grind) | exact vfalse (by unfold SameT; grind), rfl⟩) (fun w S => S)
          · -- h9F
           have h9b := h9
           try simp only [Bool.not_eq_false', decide_eq_true_eq] at h9
           refine o_yes rfl rfl rfl ?_
           refine o_fieldAddr (q := ⟨b6, 2, none⟩) rfl rfl Tryz.underlying92 rfl ti34 rfl ?_
           refine o_yes rfl rfl rfl ?_
           refine o_load1 rfl rfl Tryz.underlying34 rfl (rd_mem 1 rfl rfl) ?_
           refine o_yes rfl rfl rfl ?_
           refine o_bytesStr (e := e8) rfl rfl rfl Tryz.underlying34 Tryz.underlying5 Tryz.underlying9 ((TxR.c (TxR.c (TxR.c (TxR.c T_a)))).rv x55 (List.mem_of_getElem? hx55)) ?_
           refine o_yes rfl rfl rfl ?_
           refine o_fieldAddr (q := ⟨b7, 2, none⟩) rfl rfl Tryz.underlying92 rfl ti34 rfl ?_
           refine o_yes rfl rfl rfl ?_
           refine o_load1 rfl rfl Tryz.underlying34 rfl (rd_mem 0 rfl rfl) ?_
           refine o_yes rfl rfl rfl ?_
           refine o_bytesStr (e := e8) rfl rfl rfl Tryz.underlying34 Tryz.underlying5 Tryz.underlying9 ((TxR.c (TxR.c (TxR.c (TxR.c T_b)))).rv x60 (List.mem_of_getElem? hx60)) ?_
           refine o_yes rfl rfl rfl ?_
           refine o_bin rfl rfl rfl b_sneq ?_
           refine o_pick_false rfl rfl rfl ?_
           refine l_nil ?_
           refine q_then ?_
           refine c_cond rfl (fun h10 => ?_) (fun h10 => ?_)
           · -- h10T
            have h10b := h10
            try simp only [Bool.not_eq_true', decide_eq_false_iff_not, Int.not_lt, Int.not_le] at h10
            refine c_seq ?_
            have hno : ¬ SameOps a.f_Ops.xs b.f_Ops.xs a.f_Ops.xs.length := fun h9 => by have h10 := h9 i _ _ (by omega) hxA hxB; unfold SameOp at h10; simp_all [bts_eq]
            refine c_region ?_
            refine o_assign rfl rfl ?_
            refine l_nil ?_
            refine q_then ?_
            refine c_ret ?_
            refine q_block_ret ?_
            refine q_pass_ret ?_
            refine q_pass_ret ?_
            refine q_block_ret ?_
            refine q_pass_ret ?_
            refine q_conv (fun w S => S.tail) ?_
            refine q_conv (fun w S => S.tail) ?_
            refine q_conv (fun w S => S.tail) ?_
            refine q_conv (fun w S => S.tail) ?_
            exact f_ret (r_one rfl rfl) (⟨by first | exact vtrue (by unfold SameT; grind) | exact vfalse (by unfold SameT; grind), rfl⟩) (fun w S => S)
           · -- h10F
            have h10b := h10
            try simp only [Bool.not_eq_false', decide_eq_true_eq] at h10
            refine c_skip ?_
            refine q_block ?_
            refine q_then ?_
            have hop : SameOp x55 x60 := by unfold SameOp; simp_all [bts_eq]
            refine c_region ?_
            refine o_move rfl rfl ?_
            refine o_bin rfl rfl rfl (b_add (wrap_i64 (by omega) (by omega))) ?_
            refine o_assign rfl rfl ?_
            refine l_nil ?_
            refine q_conv (fun w S => S.tail) ?_
            refine q_conv (fun w S => S.tail) ?_
            exact q_round (i + 1) (by exact ⟨by omega, sameOps_on hso hxA hxB hop⟩) (by (try dsimp only); omega) ⟨(by first | rfl | exact vint (by omega)), (by first | rfl | exact vint (by omega)), (by first | rfl | exact vint (by omega)), trivial⟩ (fun w S => S)
       · -- 11 comes first
        refine l_conv (L' := blk b3 (.cells #[.int .i64 b.f_Kind, .slice b.f_Reads.a (b.f_Reads.xs).length b.f_Reads.c, .slice b.f_Writes.a (b.f_Writes.xs).length b.f_Writes.c, .slice b.f_Ops.a (b.f_Ops.xs).length b.f_Ops.c, .int .i64 b.f_To] 30 (0, 0)) :: blk b2 (.cells #[.int .i64 a.f_Kind, .slice a.f_Reads.a (a.f_Reads.xs).length a.f_Reads.c, .slice a.f_Writes.a (a.f_Writes.xs).length a.f_Writes.c, .slice a.f_Ops.a (a.f_Ops.xs).length a.f_Ops.c, .int .i64 a.f_To] 30 (0, 0)) :: F) (fun w S => S.perm List.perm_append_comm) ?_
        refine o_alloc rfl ti92 fun b7 => ?_
        refine l_nil ?_
        refine q_conv (L' := (blk b3 (.cells #[.int .i64 b.f_Kind, .slice b.f_Reads.a (b.f_Reads.xs).length b.f_Reads.c, .slice b.f_Writes.a (b.f_Writes.xs).length b.f_Writes.c, .slice b.f_Ops.a (b.f_Ops.xs).length b.f_Ops.c, .int .i64 b.f_To] 30 (0, 0)) :: blk b2 (.cells #[.int .i64 a.f_Kind, .slice a.f_Reads.a (a.f_Reads.xs).length a.f_Reads.c, .slice a.f_Writes.a (a.f_Writes.xs).length a.f_Writes.c, .slice a.f_Ops.a (a.f_Ops.xs).length a.f_Ops.c, .int .i64 a.f_To] 30 (0, 0)) :: F) ++ [blk b7 (.cells #[.int .i64 0, .string ByteArray.empty, .slice none 0 0, .int .i64 0] 92 (0, 0))]) (fun w S => S.perm (List.perm_append_comm (l₁ := [blk b7 (.cells #[.int .i64 0, .string ByteArray.empty, .slice none 0 0, .int .i64 0] 92 (0, 0))]) (l₂ := blk b3 (.cells #[.int .i64 b.f_Kind, .slice b.f_Reads.a (b.f_Reads.xs).length b.f_Reads.c, .slice b.f_Writes.a (b.f_Writes.xs).length b.f_Writes.c, .slice b.f_Ops.a (b.f_Ops.xs).length b.f_Ops.c, .int .i64 b.f_To] 30 (0, 0)) :: blk b2 (.cells #[.int .i64 a.f_Kind, .slice a.f_Reads.a (a.f_Reads.xs).length a.f_Reads.c, .slice a.f_Writes.a (a.f_Writes.xs).length a.f_Writes.c, .slice a.f_Ops.a (a.f_Ops.xs).length a.f_Ops.c, .int .i64 a.f_To] 30 (0, 0)) :: F))) ?_
        refine h_next ?_
        refine h_one 10 rfl (by kernel_rfl) ?_
        refine l_conv (L' := blk b7 (.cells #[.int .i64 0, .string ByteArray.empty, .slice none 0 0, .int .i64 0] 92 (0, 0)) :: blk b3 (.cells #[.int .i64 b.f_Kind, .slice b.f_Reads.a (b.f_Reads.xs).length b.f_Reads.c, .slice b.f_Writes.a (b.f_Writes.xs).length b.f_Writes.c, .slice b.f_Ops.a (b.f_Ops.xs).length b.f_Ops.c, .int .i64 b.f_To] 30 (0, 0)) :: blk b2 (.cells #[.int .i64 a.f_Kind, .slice a.f_Reads.a (a.f_Reads.xs).length a.f_Reads.c, .slice a.f_Writes.a (a.f_Writes.xs).length a.f_Writes.c, .slice a.f_Ops.a (a.f_Ops.xs).length a.f_Ops.c, .int .i64 a.f_To] 30 (0, 0)) :: F) (fun w S => S.perm List.perm_append_comm) ?_
        refine o_alloc rfl ti92 fun b6 => ?_
        refine l_nil ?_
        refine q_conv (L' := (blk b3 (.cells #[.int .i64 b.f_Kind, .slice b.f_Reads.a (b.f_Reads.xs).length b.f_Reads.c, .slice b.f_Writes.a (b.f_Writes.xs).length b.f_Writes.c, .slice b.f_Ops.a (b.f_Ops.xs).length b.f_Ops.c, .int .i64 b.f_To] 30 (0, 0)) :: blk b2 (.cells #[.int .i64 a.f_Kind, .slice a.f_Reads.a (a.f_Reads.xs).length a.f_Reads.c, .slice a.f_Writes.a (a.f_Writes.xs).length a.f_Writes.c, .slice a.f_Ops.a (a.f_Ops.xs).length a.f_Ops.c, .int .i64 a.f_To] 30 (0, 0)) :: F) ++ [blk b6 (.cells #[.int .i64 0, .string ByteArray.empty, .slice none 0 0, .int .i64 0] 92 (0, 0)), blk b7 (.cells #[.int .i64 0, .string ByteArray.empty, .slice none 0 0, .int .i64 0] 92 (0, 0))]) (fun w S => S.perm (List.perm_append_comm (l₁ := [blk b6 (.cells #[.int .i64 0, .string ByteArray.empty, .slice none 0 0, .int .i64 0] 92 (0, 0)), blk b7 (.cells #[.int .i64 0, .string ByteArray.empty, .slice none 0 0, .int .i64 0] 92 (0, 0))]) (l₂ := blk b3 (.cells #[.int .i64 b.f_Kind, .slice b.f_Reads.a (b.f_Reads.xs).length b.f_Reads.c, .slice b.f_Writes.a (b.f_Writes.xs).length b.f_Writes.c, .slice b.f_Ops.a (b.f_Ops.xs).length b.f_Ops.c, .int .i64 b.f_To] 30 (0, 0)) :: blk b2 (.cells #[.int .i64 a.f_Kind, .slice a.f_Reads.a (a.f_Reads.xs).length a.f_Reads.c, .slice a.f_Writes.a (a.f_Writes.xs).length a.f_Writes.c, .slice a.f_Ops.a (a.f_Ops.xs).length a.f_Ops.c, .int .i64 a.f_To] 30 (0, 0)) :: F))) ?_
        refine h_next ?_
        refine h_one 12 rfl (by kernel_rfl) ?_
        refine l_conv (L' := blk b6 (.cells #[.int .i64 0, .string ByteArray.empty, .slice none 0 0, .int .i64 0] 92 (0, 0)) :: blk b7 (.cells #[.int .i64 0, .string ByteArray.empty, .slice none 0 0, .int .i64 0] 92 (0, 0)) :: blk b3 (.cells #[.int .i64 b.f_Kind, .slice b.f_Reads.a (b.f_Reads.xs).length b.f_Reads.c, .slice b.f_Writes.a (b.f_Writes.xs).length b.f_Writes.c, .slice b.f_Ops.a (b.f_Ops.xs).length b.f_Ops.c, .int .i64 b.f_To] 30 (0, 0)) :: blk b2 (.cells #[.int .i64 a.f_Kind, .slice a.f_Reads.a (a.f_Reads.xs).length a.f_Reads.c, .slice a.f_Writes.a (a.f_Writes.xs).length a.f_Writes.c, .slice a.f_Ops.a (a.f_Ops.xs).length a.f_Ops.c, .int .i64 a.f_To] 30 (0, 0)) :: F) (fun w S => S.perm List.perm_append_comm) ?_
        refine o_storen rfl rfl ti92 rfl rfl rfl rfl ?_
        refine l_nil ?_
        refine q_conv (L' := (blk b3 (.cells #[.int .i64 b.f_Kind, .slice b.f_Reads.a (b.f_Reads.xs).length b.f_Reads.c, .slice b.f_Writes.a (b.f_Writes.xs).length b.f_Writes.c, .slice b.f_Ops.a (b.f_Ops.xs).length b.f_Ops.c, .int .i64 b.f_To] 30 (0, 0)) :: blk b2 (.cells #[.int .i64 a.f_Kind, .slice a.f_Reads.a (a.f_Reads.xs).length a.f_Reads.c, .slice a.f_Writes.a (a.f_Writes.xs).length a.f_Writes.c, .slice a.f_Ops.a (a.f_Ops.xs).length a.f_Ops.c, .int .i64 a.f_To] 30 (0, 0)) :: F) ++ [blk b6 (.cells #[.int .i64 x55.f_Kind, .string x55.f_Key, .slice x55.f_Value.a (x55.f_Value.xs).length x55.f_Value.c, .int .i64 x55.f_N] 92 (0, 0)), blk b7 (.cells #[.int .i64 0, .string ByteArray.empty, .slice none 0 0, .int .i64 0] 92 (0, 0))]) (fun w S => S.perm (List.perm_append_comm (l₁ := [blk b6 (.cells #[.int .i64 x55.f_Kind, .string x55.f_Key, .slice x55.f_Value.a (x55.f_Value.xs).length x55.f_Value.c, .int .i64 x55.f_N] 92 (0, 0)), blk b7 (.cells #[.int .i64 0, .string ByteArray.empty, .slice none 0 0, .int .i64 0] 92 (0, 0))]) (l₂ := blk b3 (.cells #[.int .i64 b.f_Kind, .slice b.f_Reads.a (b.f_Reads.xs).length b.f_Reads.c, .slice b.f_Writes.a (b.f_Writes.xs).length b.f_Writes.c, .slice b.f_Ops.a (b.f_Ops.xs).length b.f_Ops.c, .int .i64 b.f_To] 30 (0, 0)) :: blk b2 (.cells #[.int .i64 a.f_Kind, .slice a.f_Reads.a (a.f_Reads.xs).length a.f_Reads.c, .slice a.f_Writes.a (a.f_Writes.xs).length a.f_Writes.c, .slice a.f_Ops.a (a.f_Ops.xs).length a.f_Ops.c, .int .i64 a.f_To] 30 (0, 0)) :: F))) ?_
        refine h_next ?_
        refine h_one 13 rfl (by kernel_rfl) ?_
        refine l_conv (L' := blk b6 (.cells #[.int .i64 x55.f_Kind, .string x55.f_Key, .slice x55.f_Value.a (x55.f_Value.xs).length x55.f_Value.c, .int .i64 x55.f_N] 92 (0, 0)) :: blk b7 (.cells #[.int .i64 0, .string ByteArray.empty, .slice none 0 0, .int .i64 0] 92 (0, 0)) :: blk b3 (.cells #[.int .i64 b.f_Kind, .slice b.f_Reads.a (b.f_Reads.xs).length b.f_Reads.c, .slice b.f_Writes.a (b.f_Writes.xs).length b.f_Writes.c, .slice b.f_Ops.a (b.f_Ops.xs).length b.f_Ops.c, .int .i64 b.f_To] 30 (0, 0)) :: blk b2 (.cells #[.int .i64 a.f_Kind, .slice a.f_Reads.a (a.f_Reads.xs).length a.f_Reads.c, .slice a.f_Writes.a (a.f_Writes.xs).length a.f_Writes.c, .slice a.f_Ops.a (a.f_Ops.xs).length a.f_Ops.c, .int .i64 a.f_To] 30 (0, 0)) :: F) (fun w S => S.perm List.perm_append_comm) ?_
        refine l_f1 ?_
        refine o_storen rfl rfl ti92 rfl rfl rfl rfl ?_
        refine l_nil ?_
        refine q_conv (L' := (blk b3 (.cells #[.int .i64 b.f_Kind, .slice b.f_Reads.a (b.f_Reads.xs).length b.f_Reads.c, .slice b.f_Writes.a (b.f_Writes.xs).length b.f_Writes.c, .slice b.f_Ops.a (b.f_Ops.xs).length b.f_Ops.c, .int .i64 b.f_To] 30 (0, 0)) :: blk b2 (.cells #[.int .i64 a.f_Kind, .slice a.f_Reads.a (a.f_Reads.xs).length a.f_Reads.c, .slice a.f_Writes.a (a.f_Writes.xs).length a.f_Writes.c, .slice a.f_Ops.a (a.f_Ops.xs).length a.f_Ops.c, .int .i64 a.f_To] 30 (0, 0)) :: F) ++ [blk b7 (.cells #[.int .i64 x60.f_Kind, .string x60.f_Key, .slice x60.f_Value.a (x60.f_Value.xs).length x60.f_Value.c, .int .i64 x60.f_N] 92 (0, 0)), blk b6 (.cells #[.int .i64 x55.f_Kind, .string x55.f_Key, .slice x55.f_Value.a (x55.f_Value.xs).length x55.f_Value.c, .int .i64 x55.f_N] 92 (0, 0))]) (fun w S => S.perm (List.perm_append_comm (l₁ := [blk b7 (.cells #[.int .i64 x60.f_Kind, .string x60.f_Key, .slice x60.f_Value.a (x60.f_Value.xs).length x60.f_Value.c, .int .i64 x60.f_N] 92 (0, 0)), blk b6 (.cells #[.int .i64 x55.f_Kind, .string x55.f_Key, .slice x55.f_Value.a (x55.f_Value.xs).length x55.f_Value.c, .int .i64 x55.f_N] 92 (0, 0))]) (l₂ := blk b3 (.cells #[.int .i64 b.f_Kind, .slice b.f_Reads.a (b.f_Reads.xs).length b.f_Reads.c, .slice b.f_Writes.a (b.f_Writes.xs).length b.f_Writes.c, .slice b.f_Ops.a (b.f_Ops.xs).length b.f_Ops.c, .int .i64 b.f_To] 30 (0, 0)) :: blk b2 (.cells #[.int .i64 a.f_Kind, .slice a.f_Reads.a (a.f_Reads.xs).length a.f_Reads.c, .slice a.f_Writes.a (a.f_Writes.xs).length a.f_Writes.c, .slice a.f_Ops.a (a.f_Ops.xs).length a.f_Ops.c, .int .i64 a.f_To] 30 (0, 0)) :: F))) ?_
        refine h_next ?_
        refine h_done (by kernel_rfl) ?_
        refine q_conv (L' := blk b7 (.cells #[.int .i64 x60.f_Kind, .string x60.f_Key, .slice x60.f_Value.a (x60.f_Value.xs).length x60.f_Value.c, .int .i64 x60.f_N] 92 (0, 0)) :: blk b6 (.cells #[.int .i64 x55.f_Kind, .string x55.f_Key, .slice x55.f_Value.a (x55.f_Value.xs).length x55.f_Value.c, .int .i64 x55.f_N] 92 (0, 0)) :: blk b3 (.cells #[.int .i64 b.f_Kind, .slice b.f_Reads.a (b.f_Reads.xs).length b.f_Reads.c, .slice b.f_Writes.a (b.f_Writes.xs).length b.f_Writes.c, .slice b.f_Ops.a (b.f_Ops.xs).length b.f_Ops.c, .int .i64 b.f_To] 30 (0, 0)) :: blk b2 (.cells #[.int .i64 a.f_Kind, .slice a.f_Reads.a (a.f_Reads.xs).length a.f_Reads.c, .slice a.f_Writes.a (a.f_Writes.xs).length a.f_Writes.c, .slice a.f_Ops.a (a.f_Ops.xs).length a.f_Ops.c, .int .i64 a.f_To] 30 (0, 0)) :: F) (fun w S => S.perm List.perm_append_comm) ?_
        refine q_then ?_
        refine c_seq ?_
        refine c_region ?_
        refine o_fieldAddr (q := ⟨b6, 0, none⟩) rfl rfl Tryz.underlying92 rfl ti3 rfl ?_
        refine o_load1 rfl rfl Tryz.underlying3 rfl (rd_mem 1 rfl rfl) ?_
        refine o_fieldAddr (q := ⟨b7, 0, none⟩) rfl rfl Tryz.underlying92 rfl ti3 rfl ?_
        refine o_load1 rfl rfl Tryz.underlying3 rfl (rd_mem 0 rfl rfl) ?_
        refine o_bin rfl rfl rfl b_neq ?_
        refine o_move rfl rfl ?_
        refine l_split (t := 67) rfl (fun h11 => ?_) (fun h11 => ?_)
        · -- h11T
         have h11b := h11
         try simp only [Bool.not_eq_true', decide_eq_false_iff_not, Int.not_lt, Int.not_le] at h11
         refine o_no rfl rfl rfl rfl ?_
         refine o_no rfl rfl rfl rfl ?_
         refine o_no rfl rfl rfl rfl ?_
         refine o_no rfl rfl rfl rfl ?_
         refine o_no rfl rfl rfl rfl ?_
         refine o_pick_true rfl rfl rfl ?_
         refine o_move rfl rfl ?_
         refine o_no rfl rfl rfl rfl ?_
         refine o_no rfl rfl rfl rfl ?_
         refine o_no rfl rfl rfl rfl ?_
         refine o_no rfl rfl rfl rfl ?_
         refine o_no rfl rfl rfl rfl ?_
         refine o_pick_true rfl rfl rfl ?_
         refine o_move rfl rfl ?_
         refine o_no rfl rfl rfl rfl ?_
         refine o_no rfl rfl rfl rfl ?_
         refine o_no rfl rfl rfl rfl ?_
         refine o_no rfl rfl rfl rfl ?_
         refine o_no rfl rfl rfl rfl ?_
         refine o_no rfl rfl rfl rfl ?_
         refine o_no rfl rfl rfl rfl ?_
         refine o_pick_true rfl rfl rfl ?_
         refine l_nil ?_
         refine q_then ?_
         refine c_true rfl ?_
         refine c_seq ?_
         have hno : ¬ SameOps a.f_Ops.xs b.f_Ops.xs a.f_Ops.xs.length := fun h9 => by have h10 := h9 i _ _ (by omega) hxA hxB; unfold SameOp at h10; simp_all [bts_eq]
         refine c_region ?_
         refine o_assign rfl rfl ?_
         refine l_nil ?_
         refine q_then ?_
         refine c_ret ?_
         refine q_block_ret ?_
         refine q_pass_ret ?_
         refine q_pass_ret ?_
         refine q_block_ret ?_
         refine q_pass_ret ?_
         refine q_conv (fun w S => S.tail) ?_
         refine q_conv (fun w S => S.tail) ?_
         refine q_conv (fun w S => S.tail) ?_
         refine q_conv (fun w S => S.tail) ?_
         exact f_ret (r_one rfl rfl) (⟨by first | exact vtrue (by unfold SameT; grind) | exact vfalse (by unfold SameT; grind), rfl⟩) (fun w S => S)
        · -- h11F
         have h11b := h11
         try simp only [Bool.not_eq_false', decide_eq_true_eq] at h11
         refine o_yes rfl rfl rfl ?_
         refine o_fieldAddr (q := ⟨b6, 1, none⟩) rfl rfl Tryz.underlying92 rfl ti9 rfl ?_
         refine o_yes rfl rfl rfl ?_
         refine o_load1 rfl rfl Tryz.underlying9 rfl (rd_mem 1 rfl rfl) ?_
         refine o_yes rfl rfl rfl ?_
         refine o_fieldAddr (q := ⟨b7, 1, none⟩) rfl rfl Tryz.underlying92 rfl ti9 rfl ?_
         refine o_yes rfl rfl rfl ?_
         refine o_load1 rfl rfl Tryz.underlying9 rfl (rd_mem 0 rfl rfl) ?_
         refine o_yes rfl rfl rfl ?_
         refine o_bin rfl rfl rfl b_sneq ?_
         refine o_pick_false rfl rfl rfl ?_
         refine o_move rfl rfl ?_
         refine l_split (t := 74) rfl (fun h12 => ?_) (fun h12 => ?_)
         · -- h12T
          have h12b := h12
          try simp only [Bool.not_eq_true', decide_eq_false_iff_not, Int.not_lt, Int.not_le] at h12
          refine o_no rfl rfl rfl rfl ?_
          refine o_no rfl rfl rfl rfl ?_
          refine o_no rfl rfl rfl rfl ?_
          refine o_no rfl rfl rfl rfl ?_
          refine o_no rfl rfl rfl rfl ?_
          refine o_pick_true rfl rfl rfl ?_
          refine o_move rfl rfl ?_
          refine o_no rfl rfl rfl rfl ?_
          refine o_no rfl rfl rfl rfl ?_
          refine o_no rfl rfl rfl rfl ?_
          refine o_no rfl rfl rfl rfl ?_
          refine o_no rfl rfl rfl rfl ?_
          refine o_no rfl rfl rfl rfl ?_
          refine o_no rfl rfl rfl rfl ?_
          refine o_pick_true rfl rfl rfl ?_
          refine l_nil ?_
          refine q_then ?_
          refine c_true rfl ?_
          refine c_seq ?_
          have hno : ¬ SameOps a.f_Ops.xs b.f_Ops.xs a.f_Ops.xs.length := fun h9 => by have h10 := h9 i _ _ (by omega) hxA hxB; unfold SameOp at h10; simp_all [bts_eq]
          refine c_region ?_
          refine o_assign rfl rfl ?_
          refine l_nil ?_
          refine q_then ?_
          refine c_ret ?_
          refine q_block_ret ?_
          refine q_pass_ret ?_
          refine q_pass_ret ?_
          refine q_block_ret ?_
          refine q_pass_ret ?_
          refine q_conv (fun w S => S.tail) ?_
          refine q_conv (fun w S => S.tail) ?_
          refine q_conv (fun w S => S.tail) ?_
          refine q_conv (fun w S => S.tail) ?_
          exact f_ret (r_one rfl rfl) (⟨by first | exact vtrue (by unfold SameT; grind) | exact vfalse (by unfold SameT; grind), rfl⟩) (fun w S => S)
         · -- h12F
          have h12b := h12
          try simp only [Bool.not_eq_false', decide_eq_true_eq] at h12
          refine o_yes rfl rfl rfl ?_
          refine o_fieldAddr (q := ⟨b6, 3, none⟩) rfl rfl Tryz.underlying92 rfl ti2 rfl ?_
          refine o_yes rfl rfl rfl ?_
          refine o_load1 rfl rfl Tryz.underlying2 rfl (rd_mem 1 rfl rfl) ?_
          refine o_yes rfl rfl rfl ?_
          refine o_fieldAddr (q := ⟨b7, 3, none⟩) rfl rfl Tryz.underlying92 rfl ti2 rfl ?_
          refine o_yes rfl rfl rfl ?_
          refine o_load1 rfl rfl Tryz.underlying2 rfl (rd_mem 0 rfl rfl) ?_
          refine o_yes rfl rfl rfl ?_
          refine o_bin rfl rfl rfl b_neq ?_
          refine o_pick_false rfl rfl rfl ?_
          refine o_move rfl rfl ?_
          refine l_split (t := 81) rfl (fun h13 => ?_) (fun h13 => ?_)
          · -- h13T
           have h13b := h13
           try simp only [Bool.not_eq_true', decide_eq_false_iff_not, Int.not_lt, Int.not_le] at h13
           refine o_no rfl rfl rfl rfl ?_
           refine o_no rfl rfl rfl rfl ?_
           refine o_no rfl rfl rfl rfl ?_
           refine o_no rfl rfl rfl rfl ?_
           refine o_no rfl rfl rfl rfl ?_
           refine o_no rfl rfl rfl rfl ?_
           refine o_no rfl rfl rfl rfl ?_
           refine o_pick_true rfl rfl rfl ?_
           refine l_nil ?_
           refine q_then ?_
           refine c_true rfl ?_
           refine c_seq ?_
           have hno : ¬ SameOps a.f_Ops.xs b.f_Ops.xs a.f_Ops.xs.length := fun h9 => by have h10 := h9 i _ _ (by omega) hxA hxB; unfold SameOp at h10; simp_all [bts_eq]
           refine c_region ?_
           refine o_assign rfl rfl ?_
           refine l_nil ?_
           refine q_then ?_
           refine c_ret ?_
           refine q_block_ret ?_
           refine q_pass_ret ?_
           refine q_pass_ret ?_
           refine q_block_ret ?_
           refine q_pass_ret ?_
           refine q_conv (fun w S => S.tail) ?_
           refine q_conv (fun w S => S.tail) ?_
           refine q_conv (fun w S => S.tail) ?_
           refine q_conv (fun w S => S.tail) ?_
           exact f_ret (r_one rfl rfl) (⟨by first | exact vtrue (by unfold SameT; grind) | exact vfalse (by unfold SameT; grind), rfl⟩) (fun w S => S)
          · -- h13F
           have h13b := h13
           try simp only [Bool.not_eq_false', decide_eq_true_eq] at h13
           refine o_yes rfl rfl rfl ?_
           refine o_fieldAddr (q := ⟨b6, 2, none⟩) rfl rfl Tryz.underlying92 rfl ti34 rfl ?_
           refine o_yes rfl rfl rfl ?_
           refine o_load1 rfl rfl Tryz.underlying34 rfl (rd_mem 1 rfl rfl) ?_
           refine o_yes rfl rfl rfl ?_
           refine o_bytesStr (e := e8) rfl rfl rfl Tryz.underlying34 Tryz.underlying5 Tryz.underlying9 ((TxR.c (TxR.c (TxR.c (TxR.c T_a)))).rv x55 (List.mem_of_getElem? hx55)) ?_
           refine o_yes rfl rfl rfl ?_
           refine o_fieldAddr (q := ⟨b7, 2, none⟩) rfl rfl Tryz.underlying92 rfl ti34 rfl ?_
           refine o_yes rfl rfl rfl ?_
           refine o_load1 rfl rfl Tryz.underlying34 rfl (rd_mem 0 rfl rfl) ?_
           refine o_yes rfl rfl rfl ?_
           refine o_bytesStr (e := e8) rfl rfl rfl Tryz.underlying34 Tryz.underlying5 Tryz.underlying9 ((TxR.c (TxR.c (TxR.c (TxR.c T_b)))).rv x60 (List.mem_of_getElem? hx60)) ?_
           refine o_yes rfl rfl rfl ?_
           refine o_bin rfl rfl rfl b_sneq ?_
           refine o_pick_false rfl rfl rfl ?_
           refine l_nil ?_
           refine q_then ?_
           refine c_cond rfl (fun h14 => ?_) (fun h14 => ?_)
           · -- h14T
            have h14b := h14
            try simp only [Bool.not_eq_true', decide_eq_false_iff_not, Int.not_lt, Int.not_le] at h14
            refine c_seq ?_
            have hno : ¬ SameOps a.f_Ops.xs b.f_Ops.xs a.f_Ops.xs.length := fun h9 => by have h10 := h9 i _ _ (by omega) hxA hxB; unfold SameOp at h10; simp_all [bts_eq]
            refine c_region ?_
            refine o_assign rfl rfl ?_
            refine l_nil ?_
            refine q_then ?_
            refine c_ret ?_
            refine q_block_ret ?_
            refine q_pass_ret ?_
            refine q_pass_ret ?_
            refine q_block_ret ?_
            refine q_pass_ret ?_
            refine q_conv (fun w S => S.tail) ?_
            refine q_conv (fun w S => S.tail) ?_
            refine q_conv (fun w S => S.tail) ?_
            refine q_conv (fun w S => S.tail) ?_
            exact f_ret (r_one rfl rfl) (⟨by first | exact vtrue (by unfold SameT; grind) | exact vfalse (by unfold SameT; grind), rfl⟩) (fun w S => S)
           · -- h14F
            have h14b := h14
            try simp only [Bool.not_eq_false', decide_eq_true_eq] at h14
            refine c_skip ?_
            refine q_block ?_
            refine q_then ?_
            have hop : SameOp x55 x60 := by unfold SameOp; simp_all [bts_eq]
            refine c_region ?_
            refine o_move rfl rfl ?_
            refine o_bin rfl rfl rfl (b_add (wrap_i64 (by omega) (by omega))) ?_
            refine o_assign rfl rfl ?_
            refine l_nil ?_
            refine q_conv (fun w S => S.tail) ?_
            refine q_conv (fun w S => S.tail) ?_
            exact q_round (i + 1) (by exact ⟨by omega, sameOps_on hso hxA hxB hop⟩) (by (try dsimp only); omega) ⟨(by first | rfl | exact vint (by omega)), (by first | rfl | exact vint (by omega)), (by first | rfl | exact vint (by omega)), trivial⟩ (fun w S => S)
      · -- h6F
       have h6b := h6
       try simp only [decide_eq_false_iff_not, Int.not_lt, Int.not_le] at h6
       refine c_exit ?_
       refine q_pass_exit ?_
       refine q_pass_exit ?_
       refine q_hit ?_
       refine q_then ?_
       refine c_seq ?_
       refine c_region ?_
       refine o_assign rfl rfl ?_
       refine l_nil ?_
       refine q_then ?_
       refine c_ret ?_
       refine q_conv (fun w S => S.tail) ?_
       refine q_conv (fun w S => S.tail) ?_
       exact f_ret (r_one rfl rfl) (⟨by first | exact vtrue (by unfold SameT; grind) | exact vfalse (by unfold SameT; grind), rfl⟩) (fun w S => S)
end
section
set_option linter.unusedVariables false
set_option linter.unusedSimpArgs false
set_option maxRecDepth 10000
open Go.RowKit Classical
set_option maxHeartbeats 2000000 in
theorem same9_ {W : World} {F : List Res} {a b : Order} (T_a : OrdR W F a) (T_b : OrdR W F b) : CS Tryz.prog 12 #[.agg #[.int .i64 a.f_Tag_Id_Node, .int .u64 a.f_Tag_Id_Epoch, .int .u64 a.f_Tag_Id_Seq, .int .i64 a.f_Tag_Try, .int .i64 a.f_Txn_Kind, .slice a.f_Txn_Reads.a (a.f_Txn_Reads.xs).length a.f_Txn_Reads.c, .slice a.f_Txn_Writes.a (a.f_Txn_Writes.xs).length a.f_Txn_Writes.c, .slice a.f_Txn_Ops.a (a.f_Txn_Ops.xs).length a.f_Txn_Ops.c, .int .i64 a.f_Txn_To, .slice a.f_Marks.a (a.f_Marks.xs).length a.f_Marks.c], .agg #[.int .i64 b.f_Tag_Id_Node, .int .u64 b.f_Tag_Id_Epoch, .int .u64 b.f_Tag_Id_Seq, .int .i64 b.f_Tag_Try, .int .i64 b.f_Txn_Kind, .slice b.f_Txn_Reads.a (b.f_Txn_Reads.xs).length b.f_Txn_Reads.c, .slice b.f_Txn_Writes.a (b.f_Txn_Writes.xs).length b.f_Txn_Writes.c, .slice b.f_Txn_Ops.a (b.f_Txn_Ops.xs).length b.f_Txn_Ops.c, .int .i64 b.f_Txn_To, .slice b.f_Marks.a (b.f_Marks.xs).length b.f_Marks.c]] W (F) (fun r L' => r = .bool (decide (SameO a b)) ∧ F = L') := by
 have hla := T_a.lm
 refine f_door (l0 := [(0, .agg #[.int .i64 a.f_Tag_Id_Node, .int .u64 a.f_Tag_Id_Epoch, .int .u64 a.f_Tag_Id_Seq, .int .i64 a.f_Tag_Try, .int .i64 a.f_Txn_Kind, .slice a.f_Txn_Reads.a (a.f_Txn_Reads.xs).length a.f_Txn_Reads.c, .slice a.f_Txn_Writes.a (a.f_Txn_Writes.xs).length a.f_Txn_Writes.c, .slice a.f_Txn_Ops.a (a.f_Txn_Ops.xs).length a.f_Txn_Ops.c, .int .i64 a.f_Txn_To, .slice a.f_Marks.a (a.f_Marks.xs).length a.f_Marks.c]), (1, .agg #[.int .i64 b.f_Tag_Id_Node, .int .u64 b.f_Tag_Id_Epoch, .int .u64 b.f_Tag_Id_Seq, .int .i64 b.f_Tag_Try, .int .i64 b.f_Txn_Kind, .slice b.f_Txn_Reads.a (b.f_Txn_Reads.xs).length b.f_Txn_Reads.c, .slice b.f_Txn_Writes.a (b.f_Txn_Writes.xs).length b.f_Txn_Writes.c, .slice b.f_Txn_Ops.a (b.f_Txn_Ops.xs).length b.f_Txn_Ops.c, .int .i64 b.f_Txn_To, .slice b.f_Marks.a (b.f_Marks.xs).length b.f_Marks.c])]) Tryz.func12 Tryz.ntmps12 rfl rfl rfl ?_
 refine c_seq ?_
 refine c_region ?_
 refine o_box rfl rfl fun b2 => ?_
 refine o_box rfl rfl fun b3 => ?_
 refine o_assign rfl rfl ?_
 refine l_nil ?_
 refine q_then ?_
 refine c_seq ?_
 refine c_seq ?_
 refine c_region ?_
 refine o_fieldAddr (q := ⟨b2, 0, none⟩) rfl rfl Tryz.underlying33 rfl ti26 rfl ?_
 refine o_loadn (vs := [_, _, _, _]) rfl rfl Tryz.underlying26 rfl ti26 (rdn_lit 1 rfl rfl) ?_
 refine o_fieldAddr (q := ⟨b3, 0, none⟩) rfl rfl Tryz.underlying33 rfl ti26 rfl ?_
 refine o_loadn (vs := [_, _, _, _]) rfl rfl Tryz.underlying26 rfl ti26 (rdn_lit 0 rfl rfl) ?_
 refine o_bin rfl rfl rfl (b_neqS26 ⟨a.f_Tag_Id_Node, a.f_Tag_Id_Epoch, a.f_Tag_Id_Seq, a.f_Tag_Try⟩ ⟨b.f_Tag_Id_Node, b.f_Tag_Id_Epoch, b.f_Tag_Id_Seq, b.f_Tag_Try⟩) ?_
 refine o_move rfl rfl ?_
 refine l_split (t := 11) rfl (fun h1 => ?_) (fun h1 => ?_)
 · -- h1T
  have h1b := h1
  try simp only [Bool.not_eq_true', decide_eq_false_iff_not, Int.not_lt, Int.not_le] at h1
  refine o_no rfl rfl rfl rfl ?_
  refine o_no rfl rfl rfl rfl ?_
  refine o_no rfl rfl rfl rfl ?_
  refine o_no rfl rfl rfl rfl ?_
  refine o_no rfl rfl rfl rfl ?_
  refine o_no rfl rfl rfl rfl ?_
  refine o_pick_true rfl rfl rfl ?_
  refine o_move rfl rfl ?_
  refine o_no rfl rfl rfl rfl ?_
  refine o_no rfl rfl rfl rfl ?_
  refine o_no rfl rfl rfl rfl ?_
  refine o_no rfl rfl rfl rfl ?_
  refine o_no rfl rfl rfl rfl ?_
  refine o_no rfl rfl rfl rfl ?_
  refine o_no rfl rfl rfl rfl ?_
  refine o_pick_true rfl rfl rfl ?_
  refine l_nil ?_
  refine q_then ?_
  refine c_true rfl ?_
  refine c_seq ?_
  refine c_region ?_
  refine o_assign rfl rfl ?_
  refine l_nil ?_
  refine q_then ?_
  refine c_ret ?_
  refine q_pass_ret ?_
  refine q_conv (fun w S => S.tail) ?_
  refine q_conv (fun w S => S.tail) ?_
  exact f_ret (r_one rfl rfl) (⟨by first | exact vtrue' ⟨(by assumption), by assumption, eqAt_all heq (by omega) (by omega)⟩ | exact vfalse' (fun h9 => eqAt_not hxA hxB h6 h9.2.2) | exact vfalse' (fun h9 => by obtain ⟨q1, q2, q3⟩ := h9; simp_all) | exact vfalse' (fun h9 => by obtain ⟨q1, q2, q3⟩ := h9; rw [q3] at *; omega), rfl⟩) (fun w S => S)
 · -- h1F
  have h1b := h1
  try simp only [Bool.not_eq_false', decide_eq_true_eq] at h1
  refine o_yes rfl rfl rfl ?_
  refine o_fieldAddr (q := ⟨b2, 4, none⟩) rfl rfl Tryz.underlying33 rfl ti30 rfl ?_
  refine o_yes rfl rfl rfl ?_
  refine o_loadn (vs := [_, _, _, _, _]) rfl rfl Tryz.underlying30 rfl ti30 (rdn_lit 1 rfl rfl) ?_
  refine o_yes rfl rfl rfl ?_
  refine o_fieldAddr (q := ⟨b3, 4, none⟩) rfl rfl Tryz.underlying33 rfl ti30 rfl ?_
  refine o_yes rfl rfl rfl ?_
  refine o_loadn (vs := [_, _, _, _, _]) rfl rfl Tryz.underlying30 rfl ti30 (rdn_lit 0 rfl rfl) ?_
  refine o_yes rfl rfl rfl ?_
  refine o_call rfl cal32 rfl (same_ (a := a.txn) (b := b.txn) (OrdR.txn (OrdR.c (OrdR.c T_a))) (OrdR.txn (OrdR.c (OrdR.c T_b)))) ?_
  rintro _ _ ⟨rfl, rfl⟩
  refine o_yes rfl rfl rfl ?_
  refine o_not rfl rfl ?_
  refine o_pick_false rfl rfl rfl ?_
  refine o_move rfl rfl ?_
  refine l_split (t := 19) rfl (fun h2 => ?_) (fun h2 => ?_)
  · -- h2T
   have h2b := h2
   try simp only [Bool.not_eq_true', decide_eq_false_iff_not, Int.not_lt, Int.not_le] at h2
   refine o_no rfl rfl rfl rfl ?_
   refine o_no rfl rfl rfl rfl ?_
   refine o_no rfl rfl rfl rfl ?_
   refine o_no rfl rfl rfl rfl ?_
   refine o_no rfl rfl rfl rfl ?_
   refine o_no rfl rfl rfl rfl ?_
   refine o_no rfl rfl rfl rfl ?_
   refine o_pick_true rfl rfl rfl ?_
   refine l_nil ?_
   refine q_then ?_
   refine c_true rfl ?_
   refine c_seq ?_
   refine c_region ?_
   refine o_assign rfl rfl ?_
   refine l_nil ?_
   refine q_then ?_
   refine c_ret ?_
   refine q_pass_ret ?_
   refine q_conv (fun w S => S.tail) ?_
   refine q_conv (fun w S => S.tail) ?_
   exact f_ret (r_one rfl rfl) (⟨by first | exact vtrue' ⟨(by assumption), by assumption, eqAt_all heq (by omega) (by omega)⟩ | exact vfalse' (fun h9 => eqAt_not hxA hxB h6 h9.2.2) | exact vfalse' (fun h9 => by obtain ⟨q1, q2, q3⟩ := h9; simp_all) | exact vfalse' (fun h9 => by obtain ⟨q1, q2, q3⟩ := h9; rw [q3] at *; omega), rfl⟩) (fun w S => S)
  · -- h2F
   have h2b := h2
   try simp only [Bool.not_eq_false', decide_eq_true_eq] at h2
   refine o_yes rfl rfl rfl ?_
   refine o_fieldAddr (q := ⟨b2, 9, none⟩) rfl rfl Tryz.underlying33 rfl ti31 rfl ?_
   refine o_yes rfl rfl rfl ?_
   refine o_load1 rfl rfl Tryz.underlying31 rfl (rd_mem 1 rfl rfl) ?_
   refine o_yes rfl rfl rfl ?_
   refine o_len rfl rfl Tryz.underlying31 ?_
   refine o_yes rfl rfl rfl ?_
   refine o_fieldAddr (q := ⟨b3, 9, none⟩) rfl rfl Tryz.underlying33 rfl ti31 rfl ?_
   refine o_yes rfl rfl rfl ?_
   refine o_load1 rfl rfl Tryz.underlying31 rfl (rd_mem 0 rfl rfl) ?_
   refine o_yes rfl rfl rfl ?_
   refine o_len rfl rfl Tryz.underlying31 ?_
   refine o_yes rfl rfl rfl ?_
   refine o_bin rfl rfl rfl b_neq ?_
   refine o_pick_false rfl rfl rfl ?_
   refine l_nil ?_
   refine q_then ?_
   refine c_cond rfl (fun h3 => ?_) (fun h3 => ?_)
   · -- h3T
    have h3b := h3
    try simp only [Bool.not_eq_true', decide_eq_false_iff_not, Int.not_lt, Int.not_le] at h3
    refine c_seq ?_
    refine c_region ?_
    refine o_assign rfl rfl ?_
    refine l_nil ?_
    refine q_then ?_
    refine c_ret ?_
    refine q_pass_ret ?_
    refine q_conv (fun w S => S.tail) ?_
    refine q_conv (fun w S => S.tail) ?_
    exact f_ret (r_one rfl rfl) (⟨by first | exact vtrue' ⟨(by assumption), by assumption, eqAt_all heq (by omega) (by omega)⟩ | exact vfalse' (fun h9 => eqAt_not hxA hxB h6 h9.2.2) | exact vfalse' (fun h9 => by obtain ⟨q1, q2, q3⟩ := h9; simp_all) | exact vfalse' (fun h9 => by obtain ⟨q1, q2, q3⟩ := h9; rw [q3] at *; omega), rfl⟩) (fun w S => S)
   · -- h3F
    have h3b := h3
    try simp only [Bool.not_eq_false', decide_eq_true_eq] at h3
    refine c_skip ?_
    refine q_then ?_
    refine c_seq ?_
    refine c_seq ?_
    refine c_region ?_
    refine o_assign rfl rfl ?_
    refine l_nil ?_
    refine q_then ?_
    refine c_block ?_
    refine c_loop (α := Nat) (fun z => [(2, .pointer (some ⟨b2, 0, none⟩)), (3, .pointer (some ⟨b3, 0, none⟩)), (5, .int .i64 (z : Int))]) (fun z => blk b3 (.cells #[.int .i64 b.f_Tag_Id_Node, .int .u64 b.f_Tag_Id_Epoch, .int .u64 b.f_Tag_Id_Seq, .int .i64 b.f_Tag_Try, .int .i64 b.f_Txn_Kind, .slice b.f_Txn_Reads.a (b.f_Txn_Reads.xs).length b.f_Txn_Reads.c, .slice b.f_Txn_Writes.a (b.f_Txn_Writes.xs).length b.f_Txn_Writes.c, .slice b.f_Txn_Ops.a (b.f_Txn_Ops.xs).length b.f_Txn_Ops.c, .int .i64 b.f_Txn_To, .slice b.f_Marks.a (b.f_Marks.xs).length b.f_Marks.c] 33 (0, 0)) :: blk b2 (.cells #[.int .i64 a.f_Tag_Id_Node, .int .u64 a.f_Tag_Id_Epoch, .int .u64 a.f_Tag_Id_Seq, .int .i64 a.f_Tag_Try, .int .i64 a.f_Txn_Kind, .slice a.f_Txn_Reads.a (a.f_Txn_Reads.xs).length a.f_Txn_Reads.c, .slice a.f_Txn_Writes.a (a.f_Txn_Writes.xs).length a.f_Txn_Writes.c, .slice a.f_Txn_Ops.a (a.f_Txn_Ops.xs).length a.f_Txn_Ops.c, .int .i64 a.f_Txn_To, .slice a.f_Marks.a (a.f_Marks.xs).length a.f_Marks.c] 33 (0, 0)) :: F) (fun z => z ≤ a.f_Marks.xs.length ∧ ∀ j, j < z → a.f_Marks.xs[j]? = b.f_Marks.xs[j]?) (fun z => a.f_Marks.xs.length - z) (0) (by exact ⟨Nat.zero_le _, fun j h => absurd h (by omega)⟩) ⟨(by first | rfl | exact vint (by omega)), (by first | rfl | exact vint (by omega)), (by first | rfl | exact vint (by omega)), trivial⟩ (fun w S => S) ?_
    rintro i ⟨hi, heq⟩
    try dsimp only at *
    refine c_seq ?_
    refine c_seq ?_
    refine c_region ?_
    refine o_move rfl rfl ?_
    refine o_fieldAddr (q := ⟨b2, 9, none⟩) rfl rfl Tryz.underlying33 rfl ti31 rfl ?_
    refine o_load1 rfl rfl Tryz.underlying31 rfl (rd_mem 1 rfl rfl) ?_
    refine o_len rfl rfl Tryz.underlying31 ?_
    refine o_bin rfl rfl rfl b_lss ?_
    refine l_nil ?_
    refine q_then ?_
    refine c_cond rfl (fun h4 => ?_) (fun h4 => ?_)
    · -- h4T
     have h4b := h4
     try simp only [decide_eq_true_eq] at h4
     refine c_skip ?_
     refine q_then ?_
     refine c_seq ?_
     refine c_block ?_
     refine c_seq ?_
     refine c_fact (p := ∃ ad, a.f_Marks.a = some ad) (rds_some (e := e_Mark) (xs := a.f_Marks.xs) (OrdR.c (OrdR.c T_a)).rm (by intro h0; have h00 := congrArg List.length h0; simp only [List.length_nil] at h00; omega)) ?_
     rintro ⟨adx, eadx⟩
     refine c_fact (p := ∃ ad, b.f_Marks.a = some ad) (rds_some (e := e_Mark) (xs := b.f_Marks.xs) (OrdR.c (OrdR.c T_b)).rm (by intro h0; have h00 := congrArg List.length h0; simp only [List.length_nil] at h00; omega)) ?_
     rintro ⟨ady, eady⟩
     refine c_quiet (by kernel_rfl) (by kernel_rfl) ?_
     refine Qt.o_val rfl (v_fieldAddr (q := ⟨b2, 9, none⟩) rfl rfl Tryz.underlying33 rfl ti31 rfl) ?_
     refine Qt.o_val rfl (v_load1 rfl rfl Tryz.underlying31 rfl (rd_mem 1 rfl rfl)) ?_
     refine Qt.o_val rfl (v_move rfl rfl) ?_
     refine Qt.o_val rfl (v_indexK e_Mark_ok eadx rfl rfl rfl Tryz.underlying31 (by omega) (by omega)) ?_
     obtain ⟨x38, hx38⟩ : ∃ x, (a.f_Marks.xs)[((i : Int)).toNat]? = some x := ⟨_, List.getElem?_eq_getElem (by omega)⟩
     refine Qt.o_val rfl (v_loadn (vs := e_Mark.cells x38) rfl rfl Tryz.underlying60 rfl ti60 (rdn_sl e_Mark_ok eadx (OrdR.c (OrdR.c T_a)).rm hx38)) ?_
     refine Qt.o_val rfl (v_fieldAddr (q := ⟨b3, 9, none⟩) rfl rfl Tryz.underlying33 rfl ti31 rfl) ?_
     refine Qt.o_val rfl (v_load1 rfl rfl Tryz.underlying31 rfl (rd_mem 0 rfl rfl)) ?_
     refine Qt.o_val rfl (v_move rfl rfl) ?_
     refine Qt.o_val rfl (v_indexK e_Mark_ok eady rfl rfl rfl Tryz.underlying31 (by omega) (by omega)) ?_
     obtain ⟨x43, hx43⟩ : ∃ x, (b.f_Marks.xs)[((i : Int)).toNat]? = some x := ⟨_, List.getElem?_eq_getElem (by omega)⟩
     have hxA : a.f_Marks.xs[((i : Int)).toNat]? = some x38 := hx38
     have hxB : b.f_Marks.xs[((i : Int)).toNat]? = some x43 := hx43
     refine Qt.o_val rfl (v_loadn (vs := e_Mark.cells x43) rfl rfl Tryz.underlying60 rfl ti60 (rdn_sl e_Mark_ok eady (OrdR.c (OrdR.c T_b)).rm hx43)) ?_
     refine Qt.o_val rfl (v_bin rfl rfl rfl (b_neqS60 x38 x43)) ?_
     refine Qt.l_nil ?_
     refine q_then ?_
     refine c_cond rfl (fun h5 => ?_) (fun h5 => ?_)
     · -- h5T
      have h5b := h5
      try simp only [Bool.not_eq_true', decide_eq_false_iff_not, Int.not_lt, Int.not_le] at h5
      refine c_seq ?_
      refine c_region ?_
      refine o_assign rfl rfl ?_
      refine l_nil ?_
      refine q_then ?_
      refine c_ret ?_
      refine q_block_ret ?_
      refine q_pass_ret ?_
      refine q_pass_ret ?_
      refine q_block_ret ?_
      refine q_pass_ret ?_
      refine q_conv (fun w S => S.tail) ?_
      refine q_conv (fun w S => S.tail) ?_
      exact f_ret (r_one rfl rfl) (⟨by first | exact vtrue' ⟨(by assumption), by assumption, eqAt_all heq (by omega) (by omega)⟩ | exact vfalse' (fun h9 => eqAt_not hxA hxB h6 h9.2.2) | exact vfalse' (fun h9 => by obtain ⟨q1, q2, q3⟩ := h9; simp_all) | exact vfalse' (fun h9 => by obtain ⟨q1, q2, q3⟩ := h9; rw [q3] at *; omega), rfl⟩) (fun w S => S)
     · -- h5F
      have h5b := h5
      try simp only [Bool.not_eq_false', decide_eq_true_eq] at h5
      refine c_skip ?_
      refine q_block ?_
      refine q_then ?_
      refine c_region ?_
      refine o_move rfl rfl ?_
      refine o_bin rfl rfl rfl (b_add (wrap_i64 (by omega) (by omega))) ?_
      refine o_assign rfl rfl ?_
      refine l_nil ?_
      exact q_round (i + 1) (by exact ⟨by omega, eqAt_on heq hxA hxB (by assumption)⟩) (by (try dsimp only); omega) ⟨(by first | rfl | exact vint (by omega)), (by first | rfl | exact vint (by omega)), (by first | rfl | exact vint (by omega)), trivial⟩ (fun w S => S)
    · -- h4F
     have h4b := h4
     try simp only [decide_eq_false_iff_not, Int.not_lt, Int.not_le] at h4
     refine c_exit ?_
     refine q_pass_exit ?_
     refine q_pass_exit ?_
     refine q_hit ?_
     refine q_then ?_
     refine c_seq ?_
     refine c_region ?_
     refine o_assign rfl rfl ?_
     refine l_nil ?_
     refine q_then ?_
     refine c_ret ?_
     refine q_conv (fun w S => S.tail) ?_
     refine q_conv (fun w S => S.tail) ?_
     exact f_ret (r_one rfl rfl) (⟨by first | exact vtrue' ⟨(by assumption), by assumption, eqAt_all heq (by omega) (by omega)⟩ | exact vfalse' (fun h9 => eqAt_not hxA hxB h6 h9.2.2) | exact vfalse' (fun h9 => by obtain ⟨q1, q2, q3⟩ := h9; simp_all) | exact vfalse' (fun h9 => by obtain ⟨q1, q2, q3⟩ := h9; rw [q3] at *; omega), rfl⟩) (fun w S => S)
end
section
set_option linter.unusedVariables false
set_option linter.unusedSimpArgs false
open Go.RowKit Classical
section
variable {α κ β : Type} {key : α → κ} {lt : κ → κ → Prop} {val : α → β} {zero : β} (eI : Enc α) (eK : Enc Nat) (TN : Nat)
def Shape (d : Nat) (items : List α) (kids : List (Nat × List α)) : Prop := (d = 0 ∧ kids = []) ∨ (d ≠ 0 ∧ kids.length = items.length + 1 ∧ 1 ≤ items.length)
variable {eI eK TN} {P : Program} {N : FN} {l : Fr} {W w : World} {L : List Res} {Q : Exit → Act → World → Prop} {ops : Array Oper} {rest : List Oper} {cd : Code} {d mn b : Nat} {xs : List α}
structure Old (key : α → κ) (val : α → β) (zero : β) (x : α) (xs : List α) (old : β) (had : Bool) : Prop where
  hadI : had = true ↔ ∃ y ∈ xs, key y = key x
  old1 : ∀ y ∈ xs, key y = key x → old = val y
  old0 : had = false → old = zero
theorem Shape.or {items : List α} {kids : List (Nat × List α)} (h : Shape d items kids) : kids.map Prod.snd = [] ∨ (kids.map Prod.snd).length = items.length + 1 := by
  rcases h with ⟨_, h⟩ | ⟨_, h, _⟩
  · exact .inl (by rw [h]; rfl)
  · exact .inr (by rw [List.length_map]; exact h)
end
end
section
set_option linter.unusedVariables false
set_option linter.unusedSimpArgs false
open Go.RowKit
section
variable {P : Program} {N : FN} {l : Fr} {W : World} {L L' L0 : List Res} {Q : Exit → Act → World → Prop}
end
section
open Classical
variable {α κ : Type} {key : α → κ} {lt : κ → κ → Prop}
/-- Where a walk begins: at all, or at a key that lies in memory. -/
def FromOk (kv : κ → Value) (TK : Nat) (G : List Res) (fr : Option κ) (fp : Option Addr) : Prop := (fr = none ∧ fp = none) ∨ ∃ k kb, fr = some k ∧ fp = some ⟨kb, 0, none⟩ ∧ blk kb (.cells #[kv k] TK (0, 0)) ∈ G
theorem FromOk.some {kv : κ → Value} {TK : Nat} {G : List Res} {fr : Option κ} {fp : Option Addr} (h : FromOk kv TK G fr fp) (hn : fp ≠ none) : ∃ k kb, fr = Option.some k ∧ fp = Option.some ⟨kb, 0, none⟩ ∧ blk kb (.cells #[kv k] TK (0, 0)) ∈ G := by
  rcases h with ⟨_, h⟩ | h
  · exact absurd h hn
  · exact h
theorem FromOk.none {kv : κ → Value} {TK : Nat} {G : List Res} {fr : Option κ} {fp : Option Addr} (h : FromOk kv TK G fr fp) (hn : fp = none) : fr = Option.none := by
  rcases h with ⟨h, _⟩ | ⟨k, kb, _, h, _⟩
  · exact h
  · rw [hn] at h; cases h
theorem FromOk.more {kv : κ → Value} {TK : Nat} {G : List Res} {fr : Option κ} {fp : Option Addr} (h : FromOk kv TK G fr fp) (A : List Res) : FromOk kv TK (A ++ G) fr fp := by
  rcases h with h | ⟨k, kb, h1, h2, h3⟩
  · exact .inl h
  · exact .inr ⟨k, kb, h1, h2, List.mem_append_right _ h3⟩
end
section
open Classical
variable {α κ β : Type} {key : α → κ} {lt : κ → κ → Prop} {val : α → β} {zero : β} (eI : Enc α) (eK : Enc Nat) (TN TT : Nat)
variable {eI eK TN TT} {P : Program} {N : FN} {l : Fr} {W w : World} {L : List Res} {Q : Exit → Act → World → Prop} {ops : Array Oper} {rest : List Oper} {cd : Code} {t : Nat} {xs : List α}
theorem Old.len (o : Sto lt) {x : α} {old : β} {had : Bool} (hs : Srt key lt xs) (h : Old key val zero x xs old had) : ((ins key lt x xs).length : Int) = (xs.length : Int) + (if had then 0 else 1) := by
  have hgen : ∀ {ys : List α}, Srt key lt ys → ((∃ y ∈ ys, key y = key x) → (ins key lt x ys).length = ys.length) ∧ ((¬ ∃ y ∈ ys, key y = key x) → (ins key lt x ys).length = ys.length + 1) := by
    intro ys
    induction ys with
    | nil => intro _; exact ⟨fun ⟨y, hy, _⟩ => by simp at hy, fun _ => rfl⟩
    | cons y ys ih =>
      intro hys
      have h' := List.pairwise_cons.1 hys
      have ih' := ih h'.2
      rw [ins]
      split
      · rename_i h1
        refine ⟨fun ⟨z, hz, he⟩ => ?_, fun _ => rfl⟩
        rcases List.mem_cons.1 hz with rfl | hz
        · exact absurd (he ▸ h1) (o.irr _)
        · exact absurd (he ▸ o.tr h1 (h'.1 z hz)) (o.irr _)
      · rename_i h1
        split
        · rename_i h2
          refine ⟨fun ⟨z, hz, he⟩ => ?_, fun hn => ?_⟩
          · rcases List.mem_cons.1 hz with rfl | hz
            · exact absurd (he ▸ h2) (o.irr _)
            · rw [List.length_cons, ih'.1 ⟨z, hz, he⟩]; rfl
          · rw [List.length_cons, ih'.2 (fun ⟨z, hz, he⟩ => hn ⟨z, List.mem_cons_of_mem _ hz, he⟩)]; rfl
        · rename_i h2
          exact ⟨fun _ => rfl, fun hn => absurd ⟨y, by simp, (o.tri h1 h2).symm⟩ hn⟩
  have hg := hgen hs
  cases had with
  | true => rw [hg.1 (h.hadI.1 rfl)]; simp
  | false => rw [hg.2 (fun h9 => by have := h.hadI.2 h9; cases this)]; simp
end
end
end Go.Proofs.YtlblipkcbmcfkaaGreat
