/- Printed by eng2.py out of 09a/spec.py. -/
import Derived.Test.YtlblipkcbmcfkaaROp
set_option linter.unusedVariables false
set_option linter.unusedSimpArgs false
set_option maxRecDepth 10000
namespace Go.Proofs.Ytlblipkcbmcfkaa
open Go.RowKit Classical
set_option maxHeartbeats 1000000 in
theorem right_ {W : World} {F : List Res} {g : Int} {t : Txn} (T_t : TxR W F t) : CS Try.prog 28 #[.agg #[.int .i64 t.f_Kind, .slice t.f_Reads.a (t.f_Reads.xs).length t.f_Reads.c, .slice t.f_Writes.a (t.f_Writes.xs).length t.f_Writes.c, .slice t.f_Ops.a (t.f_Ops.xs).length t.f_Ops.c, .int .i64 t.f_To], .int .i64 g] W (F) (fun r L' => r = .bool (decide (RightOk t g)) ∧ F = L') := by
 refine f_door (l0 := [(0, .agg #[.int .i64 t.f_Kind, .slice t.f_Reads.a (t.f_Reads.xs).length t.f_Reads.c, .slice t.f_Writes.a (t.f_Writes.xs).length t.f_Writes.c, .slice t.f_Ops.a (t.f_Ops.xs).length t.f_Ops.c, .int .i64 t.f_To]), (1, .int .i64 g)]) Try.func28 Try.ntmps28 rfl rfl rfl ?_
 refine c_seq ?_
 refine c_region ?_
 refine o_box rfl rfl fun b2 => ?_
 refine o_assign rfl rfl ?_
 refine l_nil ?_
 refine q_then ?_
 refine c_seq ?_
 refine c_seq ?_
 refine c_region ?_
 refine o_move rfl rfl ?_
 refine o_bin rfl rfl rfl b_lss ?_
 refine o_move rfl rfl ?_
 refine l_split (t := 10) rfl (fun h1 => ?_) (fun h1 => ?_)
 · -- h1T
  have h1b := h1
  try simp only [decide_eq_true_eq] at h1
  refine o_no rfl rfl rfl rfl ?_
  refine o_no rfl rfl rfl rfl ?_
  refine o_pick_true rfl rfl rfl ?_
  refine o_move rfl rfl ?_
  refine o_no rfl rfl rfl rfl ?_
  refine o_no rfl rfl rfl rfl ?_
  refine o_no rfl rfl rfl rfl ?_
  refine o_no rfl rfl rfl rfl ?_
  refine o_pick_true rfl rfl rfl ?_
  refine o_move rfl rfl ?_
  refine o_no rfl rfl rfl rfl ?_
  refine o_no rfl rfl rfl rfl ?_
  refine o_no rfl rfl rfl rfl ?_
  refine o_no rfl rfl rfl rfl ?_
  refine o_pick_true rfl rfl rfl ?_
  refine o_move rfl rfl ?_
  refine o_no rfl rfl rfl rfl ?_
  refine o_no rfl rfl rfl rfl ?_
  refine o_no rfl rfl rfl rfl ?_
  refine o_no rfl rfl rfl rfl ?_
  refine o_pick_true rfl rfl rfl ?_
  refine o_move rfl rfl ?_
  refine o_no rfl rfl rfl rfl ?_
  refine o_no rfl rfl rfl rfl ?_
  refine o_no rfl rfl rfl rfl ?_
  refine o_no rfl rfl rfl rfl ?_
  refine o_pick_true rfl rfl rfl ?_
  refine o_move rfl rfl ?_
  refine o_no rfl rfl rfl rfl ?_
  refine o_no rfl rfl rfl rfl ?_
  refine o_no rfl rfl rfl rfl ?_
  refine o_no rfl rfl rfl rfl ?_
  refine o_no rfl rfl rfl rfl ?_
  refine o_no rfl rfl rfl rfl ?_
  refine o_no rfl rfl rfl rfl ?_
  refine o_no rfl rfl rfl rfl ?_
  refine o_pick_true rfl rfl rfl ?_
  refine l_nil ?_
  refine q_then ?_
  refine c_true rfl ?_
  refine c_seq ?_
  refine c_region ?_
  refine o_assign rfl rfl ?_
  refine l_nil ?_
  refine q_then ?_
  refine c_ret ?_
  refine q_pass_ret ?_
  refine q_conv (fun w S => S.tail) ?_
  exact f_ret (r_one rfl rfl) (⟨by first | exact vfalse (by unfold RightOk; grind) | exact vtrue (by unfold RightOk; grind) | exact bdec (by unfold RightOk; grind), rfl⟩) (fun w S => S)
 · -- h1F
  have h1b := h1
  try simp only [decide_eq_false_iff_not, Int.not_lt, Int.not_le] at h1
  refine o_yes rfl rfl rfl ?_
  refine o_move rfl rfl ?_
  refine o_yes rfl rfl rfl ?_
  refine o_bin rfl rfl rfl b_gtr ?_
  refine o_pick_false rfl rfl rfl ?_
  refine o_move rfl rfl ?_
  refine l_split (t := 14) rfl (fun h2 => ?_) (fun h2 => ?_)
  · -- h2T
   have h2b := h2
   try simp only [decide_eq_true_eq] at h2
   refine o_no rfl rfl rfl rfl ?_
   refine o_no rfl rfl rfl rfl ?_
   refine o_no rfl rfl rfl rfl ?_
   refine o_no rfl rfl rfl rfl ?_
   refine o_pick_true rfl rfl rfl ?_
   refine o_move rfl rfl ?_
   refine o_no rfl rfl rfl rfl ?_
   refine o_no rfl rfl rfl rfl ?_
   refine o_no rfl rfl rfl rfl ?_
   refine o_no rfl rfl rfl rfl ?_
   refine o_pick_true rfl rfl rfl ?_
   refine o_move rfl rfl ?_
   refine o_no rfl rfl rfl rfl ?_
   refine o_no rfl rfl rfl rfl ?_
   refine o_no rfl rfl rfl rfl ?_
   refine o_no rfl rfl rfl rfl ?_
   refine o_pick_true rfl rfl rfl ?_
   refine o_move rfl rfl ?_
   refine o_no rfl rfl rfl rfl ?_
   refine o_no rfl rfl rfl rfl ?_
   refine o_no rfl rfl rfl rfl ?_
   refine o_no rfl rfl rfl rfl ?_
   refine o_pick_true rfl rfl rfl ?_
   refine o_move rfl rfl ?_
   refine o_no rfl rfl rfl rfl ?_
   refine o_no rfl rfl rfl rfl ?_
   refine o_no rfl rfl rfl rfl ?_
   refine o_no rfl rfl rfl rfl ?_
   refine o_no rfl rfl rfl rfl ?_
   refine o_no rfl rfl rfl rfl ?_
   refine o_no rfl rfl rfl rfl ?_
   refine o_no rfl rfl rfl rfl ?_
   refine o_pick_true rfl rfl rfl ?_
   refine l_nil ?_
   refine q_then ?_
   refine c_true rfl ?_
   refine c_seq ?_
   refine c_region ?_
   refine o_assign rfl rfl ?_
   refine l_nil ?_
   refine q_then ?_
   refine c_ret ?_
   refine q_pass_ret ?_
   refine q_conv (fun w S => S.tail) ?_
   exact f_ret (r_one rfl rfl) (⟨by first | exact vfalse (by unfold RightOk; grind) | exact vtrue (by unfold RightOk; grind) | exact bdec (by unfold RightOk; grind), rfl⟩) (fun w S => S)
  · -- h2F
   have h2b := h2
   try simp only [decide_eq_false_iff_not, Int.not_lt, Int.not_le] at h2
   refine o_yes rfl rfl rfl ?_
   refine o_fieldAddr (q := ⟨b2, 1, none⟩) rfl rfl Try.underlying30 rfl ti27 rfl ?_
   refine o_yes rfl rfl rfl ?_
   refine o_load1 rfl rfl Try.underlying27 rfl (rd_mem 0 rfl rfl) ?_
   refine o_yes rfl rfl rfl ?_
   refine o_call rfl cal48 rfl (rising_ (TxR.c T_t).rr (by first | exact T_t.len.lr | exact T_t.len.lw | exact T_t.len.lo | omega)) ?_
   rintro _ _ ⟨rfl, rfl⟩
   refine o_yes rfl rfl rfl ?_
   refine o_not rfl rfl ?_
   refine o_pick_false rfl rfl rfl ?_
   refine o_move rfl rfl ?_
   refine l_split (t := 20) rfl (fun h3 => ?_) (fun h3 => ?_)
   · -- h3T
    have h3b := h3
    try simp only [Bool.not_eq_true', decide_eq_false_iff_not, Int.not_lt, Int.not_le] at h3
    refine o_no rfl rfl rfl rfl ?_
    refine o_no rfl rfl rfl rfl ?_
    refine o_no rfl rfl rfl rfl ?_
    refine o_no rfl rfl rfl rfl ?_
    refine o_pick_true rfl rfl rfl ?_
    refine o_move rfl rfl ?_
    refine o_no rfl rfl rfl rfl ?_
    refine o_no rfl rfl rfl rfl ?_
    refine o_no rfl rfl rfl rfl ?_
    refine o_no rfl rfl rfl rfl ?_
    refine o_pick_true rfl rfl rfl ?_
    refine o_move rfl rfl ?_
    refine o_no rfl rfl rfl rfl ?_
    refine o_no rfl rfl rfl rfl ?_
    refine o_no rfl rfl rfl rfl ?_
    refine o_no rfl rfl rfl rfl ?_
    refine o_pick_true rfl rfl rfl ?_
    refine o_move rfl rfl ?_
    refine o_no rfl rfl rfl rfl ?_
    refine o_no rfl rfl rfl rfl ?_
    refine o_no rfl rfl rfl rfl ?_
    refine o_no rfl rfl rfl rfl ?_
    refine o_no rfl rfl rfl rfl ?_
    refine o_no rfl rfl rfl rfl ?_
    refine o_no rfl rfl rfl rfl ?_
    refine o_no rfl rfl rfl rfl ?_
    refine o_pick_true rfl rfl rfl ?_
    refine l_nil ?_
    refine q_then ?_
    refine c_true rfl ?_
    refine c_seq ?_
    refine c_region ?_
    refine o_assign rfl rfl ?_
    refine l_nil ?_
    refine q_then ?_
    refine c_ret ?_
    refine q_pass_ret ?_
    refine q_conv (fun w S => S.tail) ?_
    exact f_ret (r_one rfl rfl) (⟨by first | exact vfalse (by unfold RightOk; grind) | exact vtrue (by unfold RightOk; grind) | exact bdec (by unfold RightOk; grind), rfl⟩) (fun w S => S)
   · -- h3F
    have h3b := h3
    try simp only [Bool.not_eq_false', decide_eq_true_eq] at h3
    refine o_yes rfl rfl rfl ?_
    refine o_fieldAddr (q := ⟨b2, 2, none⟩) rfl rfl Try.underlying30 rfl ti27 rfl ?_
    refine o_yes rfl rfl rfl ?_
    refine o_load1 rfl rfl Try.underlying27 rfl (rd_mem 0 rfl rfl) ?_
    refine o_yes rfl rfl rfl ?_
    refine o_call rfl cal48 rfl (rising_ (TxR.c T_t).rw (by first | exact T_t.len.lr | exact T_t.len.lw | exact T_t.len.lo | omega)) ?_
    rintro _ _ ⟨rfl, rfl⟩
    refine o_yes rfl rfl rfl ?_
    refine o_not rfl rfl ?_
    refine o_pick_false rfl rfl rfl ?_
    refine o_move rfl rfl ?_
    refine l_split (t := 26) rfl (fun h4 => ?_) (fun h4 => ?_)
    · -- h4T
     have h4b := h4
     try simp only [Bool.not_eq_true', decide_eq_false_iff_not, Int.not_lt, Int.not_le] at h4
     refine o_no rfl rfl rfl rfl ?_
     refine o_no rfl rfl rfl rfl ?_
     refine o_no rfl rfl rfl rfl ?_
     refine o_no rfl rfl rfl rfl ?_
     refine o_pick_true rfl rfl rfl ?_
     refine o_move rfl rfl ?_
     refine o_no rfl rfl rfl rfl ?_
     refine o_no rfl rfl rfl rfl ?_
     refine o_no rfl rfl rfl rfl ?_
     refine o_no rfl rfl rfl rfl ?_
     refine o_pick_true rfl rfl rfl ?_
     refine o_move rfl rfl ?_
     refine o_no rfl rfl rfl rfl ?_
     refine o_no rfl rfl rfl rfl ?_
     refine o_no rfl rfl rfl rfl ?_
     refine o_no rfl rfl rfl rfl ?_
     refine o_no rfl rfl rfl rfl ?_
     refine o_no rfl rfl rfl rfl ?_
     refine o_no rfl rfl rfl rfl ?_
     refine o_no rfl rfl rfl rfl ?_
     refine o_pick_true rfl rfl rfl ?_
     refine l_nil ?_
     refine q_then ?_
     refine c_true rfl ?_
     refine c_seq ?_
     refine c_region ?_
     refine o_assign rfl rfl ?_
     refine l_nil ?_
     refine q_then ?_
     refine c_ret ?_
     refine q_pass_ret ?_
     refine q_conv (fun w S => S.tail) ?_
     exact f_ret (r_one rfl rfl) (⟨by first | exact vfalse (by unfold RightOk; grind) | exact vtrue (by unfold RightOk; grind) | exact bdec (by unfold RightOk; grind), rfl⟩) (fun w S => S)
    · -- h4F
     have h4b := h4
     try simp only [Bool.not_eq_false', decide_eq_true_eq] at h4
     refine o_yes rfl rfl rfl ?_
     refine o_fieldAddr (q := ⟨b2, 1, none⟩) rfl rfl Try.underlying30 rfl ti27 rfl ?_
     refine o_yes rfl rfl rfl ?_
     refine o_load1 rfl rfl Try.underlying27 rfl (rd_mem 0 rfl rfl) ?_
     refine o_yes rfl rfl rfl ?_
     refine o_len rfl rfl Try.underlying27 ?_
     refine o_yes rfl rfl rfl ?_
     refine o_bin rfl rfl rfl b_gtr ?_
     refine o_pick_false rfl rfl rfl ?_
     refine o_move rfl rfl ?_
     refine l_split (t := 32) rfl (fun h5 => ?_) (fun h5 => ?_)
     · -- h5T
      have h5b := h5
      try simp only [decide_eq_true_eq] at h5
      refine o_no rfl rfl rfl rfl ?_
      refine o_no rfl rfl rfl rfl ?_
      refine o_no rfl rfl rfl rfl ?_
      refine o_no rfl rfl rfl rfl ?_
      refine o_pick_true rfl rfl rfl ?_
      refine o_move rfl rfl ?_
      refine o_no rfl rfl rfl rfl ?_
      refine o_no rfl rfl rfl rfl ?_
      refine o_no rfl rfl rfl rfl ?_
      refine o_no rfl rfl rfl rfl ?_
      refine o_no rfl rfl rfl rfl ?_
      refine o_no rfl rfl rfl rfl ?_
      refine o_no rfl rfl rfl rfl ?_
      refine o_no rfl rfl rfl rfl ?_
      refine o_pick_true rfl rfl rfl ?_
      refine l_nil ?_
      refine q_then ?_
      refine c_true rfl ?_
      refine c_seq ?_
      refine c_region ?_
      refine o_assign rfl rfl ?_
      refine l_nil ?_
      refine q_then ?_
      refine c_ret ?_
      refine q_pass_ret ?_
      refine q_conv (fun w S => S.tail) ?_
      exact f_ret (r_one rfl rfl) (⟨by first | exact vfalse (by unfold RightOk; grind) | exact vtrue (by unfold RightOk; grind) | exact bdec (by unfold RightOk; grind), rfl⟩) (fun w S => S)
     · -- h5F
      have h5b := h5
      try simp only [decide_eq_false_iff_not, Int.not_lt, Int.not_le] at h5
      refine o_yes rfl rfl rfl ?_
      refine o_fieldAddr (q := ⟨b2, 2, none⟩) rfl rfl Try.underlying30 rfl ti27 rfl ?_
      refine o_yes rfl rfl rfl ?_
      refine o_load1 rfl rfl Try.underlying27 rfl (rd_mem 0 rfl rfl) ?_
      refine o_yes rfl rfl rfl ?_
      refine o_len rfl rfl Try.underlying27 ?_
      refine o_yes rfl rfl rfl ?_
      refine o_bin rfl rfl rfl b_gtr ?_
      refine o_pick_false rfl rfl rfl ?_
      refine o_move rfl rfl ?_
      refine l_split (t := 38) rfl (fun h6 => ?_) (fun h6 => ?_)
      · -- h6T
       have h6b := h6
       try simp only [decide_eq_true_eq] at h6
       refine o_no rfl rfl rfl rfl ?_
       refine o_no rfl rfl rfl rfl ?_
       refine o_no rfl rfl rfl rfl ?_
       refine o_no rfl rfl rfl rfl ?_
       refine o_no rfl rfl rfl rfl ?_
       refine o_no rfl rfl rfl rfl ?_
       refine o_no rfl rfl rfl rfl ?_
       refine o_no rfl rfl rfl rfl ?_
       refine o_pick_true rfl rfl rfl ?_
       refine l_nil ?_
       refine q_then ?_
       refine c_true rfl ?_
       refine c_seq ?_
       refine c_region ?_
       refine o_assign rfl rfl ?_
       refine l_nil ?_
       refine q_then ?_
       refine c_ret ?_
       refine q_pass_ret ?_
       refine q_conv (fun w S => S.tail) ?_
       exact f_ret (r_one rfl rfl) (⟨by first | exact vfalse (by unfold RightOk; grind) | exact vtrue (by unfold RightOk; grind) | exact bdec (by unfold RightOk; grind), rfl⟩) (fun w S => S)
      · -- h6F
       have h6b := h6
       try simp only [decide_eq_false_iff_not, Int.not_lt, Int.not_le] at h6
       refine o_yes rfl rfl rfl ?_
       refine o_fieldAddr (q := ⟨b2, 1, none⟩) rfl rfl Try.underlying30 rfl ti27 rfl ?_
       refine o_yes rfl rfl rfl ?_
       refine o_load1 rfl rfl Try.underlying27 rfl (rd_mem 0 rfl rfl) ?_
       refine o_yes rfl rfl rfl ?_
       refine o_len rfl rfl Try.underlying27 ?_
       refine o_yes rfl rfl rfl ?_
       refine o_fieldAddr (q := ⟨b2, 2, none⟩) rfl rfl Try.underlying30 rfl ti27 rfl ?_
       refine o_yes rfl rfl rfl ?_
       refine o_load1 rfl rfl Try.underlying27 rfl (rd_mem 0 rfl rfl) ?_
       refine o_yes rfl rfl rfl ?_
       refine o_len rfl rfl Try.underlying27 ?_
       refine o_yes rfl rfl rfl ?_
       refine o_bin rfl rfl rfl (b_add (wrap_i64 (by omega) (by omega))) ?_
       refine o_yes rfl rfl rfl ?_
       refine o_bin rfl rfl rfl b_gtr ?_
       refine o_pick_false rfl rfl rfl ?_
       refine l_nil ?_
       refine q_then ?_
       refine c_cond rfl (fun h7 => ?_) (fun h7 => ?_)
       · -- h7T
        have h7b := h7
        try simp only [decide_eq_true_eq] at h7
        refine c_seq ?_
        refine c_region ?_
        refine o_assign rfl rfl ?_
        refine l_nil ?_
        refine q_then ?_
        refine c_ret ?_
        refine q_pass_ret ?_
        refine q_conv (fun w S => S.tail) ?_
        exact f_ret (r_one rfl rfl) (⟨by first | exact vfalse (by unfold RightOk; grind) | exact vtrue (by unfold RightOk; grind) | exact bdec (by unfold RightOk; grind), rfl⟩) (fun w S => S)
       · -- h7F
        have h7b := h7
        try simp only [decide_eq_false_iff_not, Int.not_lt, Int.not_le] at h7
        refine c_skip ?_
        refine q_then ?_
        refine c_seq ?_
        refine c_held [blk b2 (.cells #[.int .i64 t.f_Kind, .slice t.f_Reads.a (t.f_Reads.xs).length t.f_Reads.c, .slice t.f_Writes.a (t.f_Writes.xs).length t.f_Writes.c, .slice t.f_Ops.a (t.f_Ops.xs).length t.f_Ops.c, .int .i64 t.f_To] 30 (0, 0))] (by kernel_rfl) rfl ?_
        refine h_take 1 rfl rfl (by kernel_rfl) (by kernel_rfl) (by kernel_rfl) (fun L0 => v_fieldAddr (q := ⟨b2, 1, none⟩) rfl rfl Try.underlying30 rfl ti27 rfl) ?_
        refine h_take 2 rfl rfl (by kernel_rfl) (by kernel_rfl) (by kernel_rfl) (fun L0 => v_load1 rfl rfl Try.underlying27 rfl (rd_mem 0 rfl rfl)) ?_
        refine h_take 4 rfl rfl (by kernel_rfl) (by kernel_rfl) (by kernel_rfl) (fun L0 => v_fieldAddr (q := ⟨b2, 2, none⟩) rfl rfl Try.underlying30 rfl ti27 rfl) ?_
        refine h_take 5 rfl rfl (by kernel_rfl) (by kernel_rfl) (by kernel_rfl) (fun L0 => v_load1 rfl rfl Try.underlying27 rfl (rd_mem 0 rfl rfl)) ?_
        refine h_one 0 rfl (by kernel_rfl) ?_
        refine o_lit e_S_ok rfl Try.underlying27 rfl rfl rfl (lit_ok rfl) ([] : List ByteArray) rfl rfl fun a48 => ?_
        refine l_nil ?_
        refine q_conv (fun w S => S.perm p1) ?_
        refine h_next ?_
        refine h_one 3 rfl (by kernel_rfl) ?_
        refine l_f1 ?_
        refine o_append e_S_ok rfl rfl rfl Try.underlying27 (TxR.c (TxR.c T_t)).rr (by show (_ + _) * 16 ≤ _; (try simp only [List.length_append, List.length_cons, List.length_nil]); omega) (by (try simp only [List.length_append, List.length_cons, List.length_nil]); omega) fun a51 c51 => ?_
        refine l_nil ?_
        refine q_conv (fun w S => S.perm p1) ?_
        refine h_next ?_
        refine h_one 6 rfl (by kernel_rfl) ?_
        refine l_f1 ?_
        refine o_append e_S_ok rfl rfl rfl Try.underlying27 (TxR.c (TxR.c T_t)).rw (by show (_ + _) * 16 ≤ _; (try simp only [List.length_append, List.length_cons, List.length_nil]); omega) (by (try simp only [List.length_append, List.length_cons, List.length_nil]); omega) fun a54 c54 => ?_
        refine l_eq (t := 54) (v' := .slice a54 ((t.f_Reads.xs ++ t.f_Writes.xs)).length c54) rfl (by rfl) ?_
        refine l_conv (L' := row e_S.T e_S.sz a54 ((t.f_Reads.xs ++ t.f_Writes.xs)).length c54 (flat e_S (t.f_Reads.xs ++ t.f_Writes.xs)) :: _) (fun w S => by exact S) ?_
        refine l_nil ?_
        refine q_conv (fun w S => S.perm p1) ?_
        refine h_next ?_
        refine h_take 7 rfl rfl (by kernel_rfl) (by kernel_rfl) (by kernel_rfl) (fun L0 => v_assign rfl rfl) ?_
        refine h_done (by kernel_rfl) ?_
        refine q_then ?_
        refine c_seq ?_
        refine c_seq ?_
        have hal : (t.f_Reads.xs ++ t.f_Writes.xs).length = t.f_Reads.xs.length + t.f_Writes.xs.length := List.length_append
        refine c_region ?_
        refine o_assign rfl rfl ?_
        refine l_nil ?_
        refine q_then ?_
        refine c_block ?_
        refine c_loop (α := Nat) (fun z => [(1, .int .i64 g), (2, .pointer (some ⟨b2, 0, none⟩)), (5, .slice a54 ((t.f_Reads.xs ++ t.f_Writes.xs)).length c54), (6, .int .i64 (z : Int))]) (fun z => blk b2 (.cells #[.int .i64 t.f_Kind, .slice t.f_Reads.a (t.f_Reads.xs).length t.f_Reads.c, .slice t.f_Writes.a (t.f_Writes.xs).length t.f_Writes.c, .slice t.f_Ops.a (t.f_Ops.xs).length t.f_Ops.c, .int .i64 t.f_To] 30 (0, 0)) :: row e_S.T e_S.sz a54 ((t.f_Reads.xs ++ t.f_Writes.xs)).length c54 (flat e_S (t.f_Reads.xs ++ t.f_Writes.xs)) :: F) (fun z => z ≤ t.f_Reads.xs.length + t.f_Writes.xs.length ∧ AllKeys t z) (fun z => t.f_Reads.xs.length + t.f_Writes.xs.length - z) (0) (by exact ⟨Nat.zero_le _, fun j x h => absurd h (by omega)⟩) ⟨(by first | rfl | exact vint (by omega)), (by first | rfl | exact vint (by omega)), (by first | rfl | exact vint (by omega)), (by first | rfl | exact vint (by omega)), trivial⟩ (fun w S => S) ?_
        rintro i ⟨hi, hak⟩
        try dsimp only at *
        refine c_seq ?_
        refine c_seq ?_
        refine c_region ?_
        refine o_move rfl rfl ?_
        refine o_move rfl rfl ?_
        refine o_len rfl rfl Try.underlying27 ?_
        refine o_bin rfl rfl rfl b_lss ?_
        refine l_nil ?_
        refine q_then ?_
        refine c_cond rfl (fun h8 => ?_) (fun h8 => ?_)
        · -- h8T
         have h8b := h8
         try simp only [decide_eq_true_eq] at h8
         refine c_skip ?_
         refine q_then ?_
         refine c_seq ?_
         refine c_block ?_
         refine c_seq ?_
         refine c_fact (p := ∃ ad, a54 = some ad) (rds_some (e := e_S) (xs := (t.f_Reads.xs ++ t.f_Writes.xs)) (rds_own e_S_ok 1 rfl) (by intro h0; have h00 := congrArg List.length h0; simp only [List.length_nil] at h00; omega)) ?_
         rintro ⟨adx, eadx⟩
         refine c_held [blk b2 (.cells #[.int .i64 t.f_Kind, .slice t.f_Reads.a (t.f_Reads.xs).length t.f_Reads.c, .slice t.f_Writes.a (t.f_Writes.xs).length t.f_Writes.c, .slice t.f_Ops.a (t.f_Ops.xs).length t.f_Ops.c, .int .i64 t.f_To] 30 (0, 0)), row e_S.T e_S.sz a54 ((t.f_Reads.xs ++ t.f_Writes.xs)).length c54 (flat e_S (t.f_Reads.xs ++ t.f_Writes.xs))] (by kernel_rfl) rfl ?_
         refine h_take 0 rfl rfl (by kernel_rfl) (by kernel_rfl) (by kernel_rfl) (fun L0 => v_move rfl rfl) ?_
         refine h_take 1 rfl rfl (by kernel_rfl) (by kernel_rfl) (by kernel_rfl) (fun L0 => v_move rfl rfl) ?_
         refine h_take 2 rfl rfl (by kernel_rfl) (by kernel_rfl) (by kernel_rfl) (fun L0 => v_indexK e_S_ok eadx rfl rfl rfl Try.underlying27 (by omega) (by omega)) ?_
         obtain ⟨x63, hx63⟩ : ∃ x, ((t.f_Reads.xs ++ t.f_Writes.xs))[((i : Int)).toNat]? = some x := ⟨_, List.getElem?_eq_getElem (by omega)⟩
         refine h_take 3 rfl rfl (by kernel_rfl) (by kernel_rfl) (by kernel_rfl) (fun L0 => v_load1 rfl rfl Try.underlying9 rfl (rd_sl0 e_S_ok eadx (rds_own e_S_ok 1 rfl) hx63 rfl)) ?_
         refine h_take 4 rfl rfl (by kernel_rfl) (by kernel_rfl) (by kernel_rfl) (fun L0 => v_lenStr rfl rfl Try.underlying9) ?_
         refine h_take 5 rfl rfl (by kernel_rfl) (by kernel_rfl) (by kernel_rfl) (fun L0 => v_bin rfl rfl rfl b_lss) ?_
         refine h_take 6 rfl rfl (by kernel_rfl) (by kernel_rfl) (by kernel_rfl) (fun L0 => v_move rfl rfl) ?_
         refine h_split (t := 67) rfl (fun h9 => ?_) (fun h9 => ?_)
         · -- h9T
          have h9b := h9
          try simp only [decide_eq_true_eq] at h9
          refine h_take_no 7 rfl rfl rfl rfl rfl (by kernel_rfl) (by kernel_rfl) (by kernel_rfl) ?_
          refine h_take_no 8 rfl rfl rfl rfl rfl (by kernel_rfl) (by kernel_rfl) (by kernel_rfl) ?_
          refine h_take_no 9 rfl rfl rfl rfl rfl (by kernel_rfl) (by kernel_rfl) (by kernel_rfl) ?_
          refine h_take_no 10 rfl rfl rfl rfl rfl (by kernel_rfl) (by kernel_rfl) (by kernel_rfl) ?_
          refine h_take_no 11 rfl rfl rfl rfl rfl (by kernel_rfl) (by kernel_rfl) (by kernel_rfl) ?_
          refine h_take_no 12 rfl rfl rfl rfl rfl (by kernel_rfl) (by kernel_rfl) (by kernel_rfl) ?_
          refine h_take 13 rfl rfl (by kernel_rfl) (by kernel_rfl) (by kernel_rfl) (fun L0 => v_pick_true rfl rfl rfl) ?_
          refine h_take 14 rfl rfl (by kernel_rfl) (by kernel_rfl) (by kernel_rfl) (fun L0 => v_move rfl rfl) ?_
          refine h_take_no 15 rfl rfl rfl rfl rfl (by kernel_rfl) (by kernel_rfl) (by kernel_rfl) ?_
          refine h_take_no 16 rfl rfl rfl rfl rfl (by kernel_rfl) (by kernel_rfl) (by kernel_rfl) ?_
          refine h_take_no 17 rfl rfl rfl rfl rfl (by kernel_rfl) (by kernel_rfl) (by kernel_rfl) ?_
          refine h_take_no 18 rfl rfl rfl rfl rfl (by kernel_rfl) (by kernel_rfl) (by kernel_rfl) ?_
          refine h_take_no 19 rfl rfl rfl rfl rfl (by kernel_rfl) (by kernel_rfl) (by kernel_rfl) ?_
          refine h_take_no 20 rfl rfl rfl rfl rfl (by kernel_rfl) (by kernel_rfl) (by kernel_rfl) ?_
          refine h_take_no 21 rfl rfl rfl rfl rfl (by kernel_rfl) (by kernel_rfl) (by kernel_rfl) ?_
          refine h_take_no 22 rfl rfl rfl rfl rfl (by kernel_rfl) (by kernel_rfl) (by kernel_rfl) ?_
          refine h_take_no 23 rfl rfl rfl rfl rfl (by kernel_rfl) (by kernel_rfl) (by kernel_rfl) ?_
          refine h_take_no 24 rfl rfl rfl rfl rfl (by kernel_rfl) (by kernel_rfl) (by kernel_rfl) ?_
          refine h_take_no 25 rfl rfl rfl rfl rfl (by kernel_rfl) (by kernel_rfl) (by kernel_rfl) ?_
          refine h_take_no 26 rfl rfl rfl rfl rfl (by kernel_rfl) (by kernel_rfl) (by kernel_rfl) ?_
          refine h_take_no 27 rfl rfl rfl rfl rfl (by kernel_rfl) (by kernel_rfl) (by kernel_rfl) ?_
          refine h_take_no 28 rfl rfl rfl rfl rfl (by kernel_rfl) (by kernel_rfl) (by kernel_rfl) ?_
          refine h_take 29 rfl rfl (by kernel_rfl) (by kernel_rfl) (by kernel_rfl) (fun L0 => v_pick_true rfl rfl rfl) ?_
          refine h_done (by kernel_rfl) ?_
          refine q_then ?_
          refine c_true rfl ?_
          refine c_seq ?_
          have hno : ¬ AllKeys t (t.f_Reads.xs.length + t.f_Writes.xs.length) := fun h9 => by have := h9 i x63 (by omega) hx63; grind
          refine c_region ?_
          refine o_assign rfl rfl ?_
          refine l_nil ?_
          refine q_then ?_
          refine c_ret ?_
          refine q_block_ret ?_
          refine q_pass_ret ?_
          refine q_pass_ret ?_
          refine q_block_ret ?_
          refine q_pass_ret ?_
          refine q_conv (fun w S => S.tail) ?_
          refine q_conv (fun w S => S.tail) ?_
          exact f_ret (r_one rfl rfl) (⟨by first | exact vfalse (by unfold RightOk; grind) | exact vtrue (by unfold RightOk; grind) | exact bdec (by unfold RightOk; grind), rfl⟩) (fun w S => S)
         · -- h9F
          have h9b := h9
          try simp only [decide_eq_false_iff_not, Int.not_lt, Int.not_le] at h9
          refine h_take_yes 7 rfl rfl rfl rfl rfl (by kernel_rfl) (by kernel_rfl) (by kernel_rfl) (fun L0 => v_move rfl rfl) ?_
          refine h_take_yes 8 rfl rfl rfl rfl rfl (by kernel_rfl) (by kernel_rfl) (by kernel_rfl) (fun L0 => v_move rfl rfl) ?_
          refine h_take_yes 9 rfl rfl rfl rfl rfl (by kernel_rfl) (by kernel_rfl) (by kernel_rfl) (fun L0 => v_indexK e_S_ok eadx rfl rfl rfl Try.underlying27 (by omega) (by omega)) ?_
          obtain ⟨x70, hx70⟩ : ∃ x, ((t.f_Reads.xs ++ t.f_Writes.xs))[((i : Int)).toNat]? = some x := ⟨_, List.getElem?_eq_getElem (by omega)⟩
          have e70 : x70.size = x63.size := by rw [hx63] at hx70; rw [Option.some.inj hx70]
          refine h_take_yes 10 rfl rfl rfl rfl rfl (by kernel_rfl) (by kernel_rfl) (by kernel_rfl) (fun L0 => v_load1 rfl rfl Try.underlying9 rfl (rd_sl0 e_S_ok eadx (rds_own e_S_ok 1 rfl) hx70 rfl)) ?_
          refine h_take_yes 11 rfl rfl rfl rfl rfl (by kernel_rfl) (by kernel_rfl) (by kernel_rfl) (fun L0 => v_lenStr rfl rfl Try.underlying9) ?_
          refine h_take_yes 12 rfl rfl rfl rfl rfl (by kernel_rfl) (by kernel_rfl) (by kernel_rfl) (fun L0 => v_bin rfl rfl rfl b_gtr) ?_
          refine h_take 13 rfl rfl (by kernel_rfl) (by kernel_rfl) (by kernel_rfl) (fun L0 => v_pick_false rfl rfl rfl) ?_
          refine h_take 14 rfl rfl (by kernel_rfl) (by kernel_rfl) (by kernel_rfl) (fun L0 => v_move rfl rfl) ?_
          refine h_split (t := 75) rfl (fun h10 => ?_) (fun h10 => ?_)
          · -- h10T
           have h10b := h10
           try simp only [decide_eq_true_eq] at h10
           refine h_take_no 15 rfl rfl rfl rfl rfl (by kernel_rfl) (by kernel_rfl) (by kernel_rfl) ?_
           refine h_take_no 16 rfl rfl rfl rfl rfl (by kernel_rfl) (by kernel_rfl) (by kernel_rfl) ?_
           refine h_take_no 17 rfl rfl rfl rfl rfl (by kernel_rfl) (by kernel_rfl) (by kernel_rfl) ?_
           refine h_take_no 18 rfl rfl rfl rfl rfl (by kernel_rfl) (by kernel_rfl) (by kernel_rfl) ?_
           refine h_take_no 19 rfl rfl rfl rfl rfl (by kernel_rfl) (by kernel_rfl) (by kernel_rfl) ?_
           refine h_take_no 20 rfl rfl rfl rfl rfl (by kernel_rfl) (by kernel_rfl) (by kernel_rfl) ?_
           refine h_take_no 21 rfl rfl rfl rfl rfl (by kernel_rfl) (by kernel_rfl) (by kernel_rfl) ?_
           refine h_take_no 22 rfl rfl rfl rfl rfl (by kernel_rfl) (by kernel_rfl) (by kernel_rfl) ?_
           refine h_take_no 23 rfl rfl rfl rfl rfl (by kernel_rfl) (by kernel_rfl) (by kernel_rfl) ?_
           refine h_take_no 24 rfl rfl rfl rfl rfl (by kernel_rfl) (by kernel_rfl) (by kernel_rfl) ?_
           refine h_take_no 25 rfl rfl rfl rfl rfl (by kernel_rfl) (by kernel_rfl) (by kernel_rfl) ?_
           refine h_take_no 26 rfl rfl rfl rfl rfl (by kernel_rfl) (by kernel_rfl) (by kernel_rfl) ?_
           refine h_take_no 27 rfl rfl rfl rfl rfl (by kernel_rfl) (by kernel_rfl) (by kernel_rfl) ?_
           refine h_take_no 28 rfl rfl rfl rfl rfl (by kernel_rfl) (by kernel_rfl) (by kernel_rfl) ?_
           refine h_take 29 rfl rfl (by kernel_rfl) (by kernel_rfl) (by kernel_rfl) (fun L0 => v_pick_true rfl rfl rfl) ?_
           refine h_done (by kernel_rfl) ?_
           refine q_then ?_
           refine c_true rfl ?_
           refine c_seq ?_
           have hno : ¬ AllKeys t (t.f_Reads.xs.length + t.f_Writes.xs.length) := fun h9 => by have := h9 i x63 (by omega) hx63; grind
           refine c_region ?_
           refine o_assign rfl rfl ?_
           refine l_nil ?_
           refine q_then ?_
           refine c_ret ?_
           refine q_block_ret ?_
           refine q_pass_ret ?_
           refine q_pass_ret ?_
           refine q_block_ret ?_
           refine q_pass_ret ?_
           refine q_conv (fun w S => S.tail) ?_
           refine q_conv (fun w S => S.tail) ?_
           exact f_ret (r_one rfl rfl) (⟨by first | exact vfalse (by unfold RightOk; grind) | exact vtrue (by unfold RightOk; grind) | exact bdec (by unfold RightOk; grind), rfl⟩) (fun w S => S)
          · -- h10F
           have h10b := h10
           try simp only [decide_eq_false_iff_not, Int.not_lt, Int.not_le] at h10
           refine h_take_yes 15 rfl rfl rfl rfl rfl (by kernel_rfl) (by kernel_rfl) (by kernel_rfl) (fun L0 => v_move rfl rfl) ?_
           refine h_take_yes 16 rfl rfl rfl rfl rfl (by kernel_rfl) (by kernel_rfl) (by kernel_rfl) (fun L0 => v_fieldAddr (q := ⟨b2, 1, none⟩) rfl rfl Try.underlying30 rfl ti27 rfl) ?_
           refine h_take_yes 17 rfl rfl rfl rfl rfl (by kernel_rfl) (by kernel_rfl) (by kernel_rfl) (fun L0 => v_load1 rfl rfl Try.underlying27 rfl (rd_mem 0 rfl rfl)) ?_
           refine h_take_yes 18 rfl rfl rfl rfl rfl (by kernel_rfl) (by kernel_rfl) (by kernel_rfl) (fun L0 => v_len rfl rfl Try.underlying27) ?_
           refine h_take_yes 19 rfl rfl rfl rfl rfl (by kernel_rfl) (by kernel_rfl) (by kernel_rfl) (fun L0 => v_bin rfl rfl rfl b_lss) ?_
           refine h_take_yes 20 rfl rfl rfl rfl rfl (by kernel_rfl) (by kernel_rfl) (by kernel_rfl) (fun L0 => v_move rfl rfl) ?_
           refine h_split (t := 81) rfl (fun h11 => ?_) (fun h11 => ?_)
           · -- h11T
            have h11b := h11
            try simp only [decide_eq_true_eq] at h11
            refine h_take_yes 21 rfl rfl rfl rfl rfl (by kernel_rfl) (by kernel_rfl) (by kernel_rfl) (fun L0 => v_fieldAddr (q := ⟨b2, 2, none⟩) rfl rfl Try.underlying30 rfl ti27 rfl) ?_
            refine h_take_yes 22 rfl rfl rfl rfl rfl (by kernel_rfl) (by kernel_rfl) (by kernel_rfl) (fun L0 => v_load1 rfl rfl Try.underlying27 rfl (rd_mem 0 rfl rfl)) ?_
            refine h_take_yes 23 rfl rfl rfl rfl rfl (by kernel_rfl) (by kernel_rfl) (by kernel_rfl) (fun L0 => v_move rfl rfl) ?_
            refine h_take_yes 24 rfl rfl rfl rfl rfl (by kernel_rfl) (by kernel_rfl) (by kernel_rfl) (fun L0 => v_move rfl rfl) ?_
            refine h_take_yes 25 rfl rfl rfl rfl rfl (by kernel_rfl) (by kernel_rfl) (by kernel_rfl) (fun L0 => v_indexK e_S_ok eadx rfl rfl rfl Try.underlying27 (by omega) (by omega)) ?_
            obtain ⟨x86, hx86⟩ : ∃ x, ((t.f_Reads.xs ++ t.f_Writes.xs))[((i : Int)).toNat]? = some x := ⟨_, List.getElem?_eq_getElem (by omega)⟩
            have e86 : x86 = x63 := by rw [hx63] at hx86; exact (Option.some.inj hx86).symm
            refine h_take_yes 26 rfl rfl rfl rfl rfl (by kernel_rfl) (by kernel_rfl) (by kernel_rfl) (fun L0 => v_load1 rfl rfl Try.underlying9 rfl (rd_sl0 e_S_ok eadx (rds_own e_S_ok 1 rfl) hx86 rfl)) ?_
            refine h_one 27 rfl (by kernel_rfl) ?_
            refine o_yes rfl rfl rfl ?_
            refine o_call rfl cal49 rfl (in_ (TxR.c (TxR.c T_t)).rw (by first | exact T_t.len.lr | exact T_t.len.lw | exact T_t.len.lo | omega)) ?_
            rintro _ _ ⟨rfl, rfl⟩
            refine l_nil ?_
            refine h_next ?_
            refine h_take_yes 28 rfl rfl rfl rfl rfl (by kernel_rfl) (by kernel_rfl) (by kernel_rfl) (fun L0 => v_pick_true rfl rfl rfl) ?_
            refine h_take 29 rfl rfl (by kernel_rfl) (by kernel_rfl) (by kernel_rfl) (fun L0 => v_pick_false rfl rfl rfl) ?_
            refine h_done (by kernel_rfl) ?_
            refine q_then ?_
            refine c_cond rfl (fun h12 => ?_) (fun h12 => ?_)
            · -- h12T
             have h12b := h12
             try simp only [decide_eq_true_eq] at h12
             refine c_seq ?_
             have hno : ¬ AllKeys t (t.f_Reads.xs.length + t.f_Writes.xs.length) := fun h9 => by have := h9 i x63 (by omega) hx63; grind
             refine c_region ?_
             refine o_assign rfl rfl ?_
             refine l_nil ?_
             refine q_then ?_
             refine c_ret ?_
             refine q_block_ret ?_
             refine q_pass_ret ?_
             refine q_pass_ret ?_
             refine q_block_ret ?_
             refine q_pass_ret ?_
             refine q_conv (fun w S => S.tail) ?_
             refine q_conv (fun w S => S.tail) ?_
             exact f_ret (r_one rfl rfl) (⟨by first | exact vfalse (by unfold RightOk; grind) | exact vtrue (by unfold RightOk; grind) | exact bdec (by unfold RightOk; grind), rfl⟩) (fun w S => S)
            · -- h12F
             have h12b := h12
             try simp only [decide_eq_false_iff_not, Int.not_lt, Int.not_le] at h12
             refine c_skip ?_
             refine q_block ?_
             refine q_then ?_
             refine c_region ?_
             refine o_move rfl rfl ?_
             refine o_bin rfl rfl rfl (b_add (wrap_i64 (by omega) (by omega))) ?_
             refine o_assign rfl rfl ?_
             refine l_nil ?_
             exact q_round (i + 1) (by exact ⟨by omega, allKeys_on hak hx63 (by omega) (by omega) (by grind)⟩) (by (try dsimp only); omega) ⟨(by first | rfl | exact vint (by omega)), (by first | rfl | exact vint (by omega)), (by first | rfl | exact vint (by omega)), (by first | rfl | exact vint (by omega)), trivial⟩ (fun w S => S)
           · -- h11F
            have h11b := h11
            try simp only [decide_eq_false_iff_not, Int.not_lt, Int.not_le] at h11
            refine h_take_no 21 rfl rfl rfl rfl rfl (by kernel_rfl) (by kernel_rfl) (by kernel_rfl) ?_
            refine h_take_no 22 rfl rfl rfl rfl rfl (by kernel_rfl) (by kernel_rfl) (by kernel_rfl) ?_
            refine h_take_no 23 rfl rfl rfl rfl rfl (by kernel_rfl) (by kernel_rfl) (by kernel_rfl) ?_
            refine h_take_no 24 rfl rfl rfl rfl rfl (by kernel_rfl) (by kernel_rfl) (by kernel_rfl) ?_
            refine h_take_no 25 rfl rfl rfl rfl rfl (by kernel_rfl) (by kernel_rfl) (by kernel_rfl) ?_
            refine h_take_no 26 rfl rfl rfl rfl rfl (by kernel_rfl) (by kernel_rfl) (by kernel_rfl) ?_
            refine h_take_no 27 rfl rfl rfl rfl rfl (by kernel_rfl) (by kernel_rfl) (by kernel_rfl) ?_
            refine h_take_yes 28 rfl rfl rfl rfl rfl (by kernel_rfl) (by kernel_rfl) (by kernel_rfl) (fun L0 => v_pick_false rfl rfl rfl) ?_
            refine h_take 29 rfl rfl (by kernel_rfl) (by kernel_rfl) (by kernel_rfl) (fun L0 => v_pick_false rfl rfl rfl) ?_
            refine h_done (by kernel_rfl) ?_
            refine q_then ?_
            refine c_false rfl ?_
            refine c_skip ?_
            refine q_block ?_
            refine q_then ?_
            refine c_region ?_
            refine o_move rfl rfl ?_
            refine o_bin rfl rfl rfl (b_add (wrap_i64 (by omega) (by omega))) ?_
            refine o_assign rfl rfl ?_
            refine l_nil ?_
            exact q_round (i + 1) (by exact ⟨by omega, allKeys_on hak hx63 (by omega) (by omega) (by grind)⟩) (by (try dsimp only); omega) ⟨(by first | rfl | exact vint (by omega)), (by first | rfl | exact vint (by omega)), (by first | rfl | exact vint (by omega)), (by first | rfl | exact vint (by omega)), trivial⟩ (fun w S => S)
        · -- h8F
         have h8b := h8
         try simp only [decide_eq_false_iff_not, Int.not_lt, Int.not_le] at h8
         refine c_exit ?_
         refine q_pass_exit ?_
         refine q_pass_exit ?_
         refine q_hit ?_
         refine q_then ?_
         refine c_seq ?_
         refine c_seq ?_
         obtain rfl : i = t.f_Reads.xs.length + t.f_Writes.xs.length := by omega
         refine c_region ?_
         refine o_fieldAddr (q := ⟨b2, 0, none⟩) rfl rfl Try.underlying30 rfl ti3 rfl ?_
         refine o_load1 rfl rfl Try.underlying3 rfl (rd_mem 0 rfl rfl) ?_
         refine o_bin rfl rfl rfl b_eql ?_
         refine l_nil ?_
         refine q_then ?_
         refine c_cond rfl (fun h13 => ?_) (fun h13 => ?_)
         · -- h13T
          have h13b := h13
          try simp only [decide_eq_true_eq] at h13
          refine c_seq ?_
          refine c_region ?_
          refine o_fieldAddr (q := ⟨b2, 1, none⟩) rfl rfl Try.underlying30 rfl ti27 rfl ?_
          refine o_load1 rfl rfl Try.underlying27 rfl (rd_mem 0 rfl rfl) ?_
          refine o_len rfl rfl Try.underlying27 ?_
          refine o_bin rfl rfl rfl b_eql ?_
          refine o_move rfl rfl ?_
          refine l_split (t := 98) rfl (fun h14 => ?_) (fun h14 => ?_)
          · -- h14T
           have h14b := h14
           try simp only [decide_eq_true_eq] at h14
           refine o_yes rfl rfl rfl ?_
           refine o_fieldAddr (q := ⟨b2, 3, none⟩) rfl rfl Try.underlying30 rfl ti28 rfl ?_
           refine o_yes rfl rfl rfl ?_
           refine o_load1 rfl rfl Try.underlying28 rfl (rd_mem 0 rfl rfl) ?_
           refine o_yes rfl rfl rfl ?_
           refine o_len rfl rfl Try.underlying28 ?_
           refine o_yes rfl rfl rfl ?_
           refine o_bin rfl rfl rfl b_eql ?_
           refine o_pick_true rfl rfl rfl ?_
           refine o_move rfl rfl ?_
           refine l_split (t := 104) rfl (fun h15 => ?_) (fun h15 => ?_)
           · -- h15T
            have h15b := h15
            try simp only [decide_eq_true_eq] at h15
            refine o_yes rfl rfl rfl ?_
            refine o_fieldAddr (q := ⟨b2, 2, none⟩) rfl rfl Try.underlying30 rfl ti27 rfl ?_
            refine o_yes rfl rfl rfl ?_
            refine o_load1 rfl rfl Try.underlying27 rfl (rd_mem 0 rfl rfl) ?_
            refine o_yes rfl rfl rfl ?_
            refine o_len rfl rfl Try.underlying27 ?_
            refine o_yes rfl rfl rfl ?_
            refine o_bin rfl rfl rfl b_eql ?_
            refine o_pick_true rfl rfl rfl ?_
            refine o_move rfl rfl ?_
            refine l_split (t := 110) rfl (fun h16 => ?_) (fun h16 => ?_)
            · -- h16T
             have h16b := h16
             try simp only [decide_eq_true_eq] at h16
             refine o_yes rfl rfl rfl ?_
             refine o_fieldAddr (q := ⟨b2, 4, none⟩) rfl rfl Try.underlying30 rfl ti3 rfl ?_
             refine o_yes rfl rfl rfl ?_
             refine o_load1 rfl rfl Try.underlying3 rfl (rd_mem 0 rfl rfl) ?_
             refine o_yes rfl rfl rfl ?_
             refine o_bin rfl rfl rfl b_geq ?_
             refine o_pick_true rfl rfl rfl ?_
             refine o_move rfl rfl ?_
             refine l_split (t := 115) rfl (fun h17 => ?_) (fun h17 => ?_)
             · -- h17T
              have h17b := h17
              try simp only [decide_eq_true_eq] at h17
              refine o_yes rfl rfl rfl ?_
              refine o_fieldAddr (q := ⟨b2, 4, none⟩) rfl rfl Try.underlying30 rfl ti3 rfl ?_
              refine o_yes rfl rfl rfl ?_
              refine o_load1 rfl rfl Try.underlying3 rfl (rd_mem 0 rfl rfl) ?_
              refine o_yes rfl rfl rfl ?_
              refine o_move rfl rfl ?_
              refine o_yes rfl rfl rfl ?_
              refine o_bin rfl rfl rfl b_lss ?_
              refine o_pick_true rfl rfl rfl ?_
              refine o_assign rfl rfl ?_
              refine l_nil ?_
              refine q_then ?_
              refine c_ret ?_
              refine q_pass_ret ?_
              refine q_conv (fun w S => S.tail) ?_
              refine q_conv (fun w S => S.tail) ?_
              exact f_ret (r_one rfl rfl) (⟨by first | exact vfalse (by unfold RightOk; grind) | exact vtrue (by unfold RightOk; grind) | exact bdec (by unfold RightOk; grind), rfl⟩) (fun w S => S)
             · -- h17F
              have h17b := h17
              try simp only [decide_eq_false_iff_not, Int.not_lt, Int.not_le] at h17
              refine o_no rfl rfl rfl rfl ?_
              refine o_no rfl rfl rfl rfl ?_
              refine o_no rfl rfl rfl rfl ?_
              refine o_no rfl rfl rfl rfl ?_
              refine o_pick_false rfl rfl rfl ?_
              refine o_assign rfl rfl ?_
              refine l_nil ?_
              refine q_then ?_
              refine c_ret ?_
              refine q_pass_ret ?_
              refine q_conv (fun w S => S.tail) ?_
              refine q_conv (fun w S => S.tail) ?_
              exact f_ret (r_one rfl rfl) (⟨by first | exact vfalse (by unfold RightOk; grind) | exact vtrue (by unfold RightOk; grind) | exact bdec (by unfold RightOk; grind), rfl⟩) (fun w S => S)
            · -- h16F
             have h16b := h16
             try simp only [decide_eq_false_iff_not, Int.not_lt, Int.not_le] at h16
             refine o_no rfl rfl rfl rfl ?_
             refine o_no rfl rfl rfl rfl ?_
             refine o_no rfl rfl rfl rfl ?_
             refine o_pick_false rfl rfl rfl ?_
             refine o_move rfl rfl ?_
             refine o_no rfl rfl rfl rfl ?_
             refine o_no rfl rfl rfl rfl ?_
             refine o_no rfl rfl rfl rfl ?_
             refine o_no rfl rfl rfl rfl ?_
             refine o_pick_false rfl rfl rfl ?_
             refine o_assign rfl rfl ?_
             refine l_nil ?_
             refine q_then ?_
             refine c_ret ?_
             refine q_pass_ret ?_
             refine q_conv (fun w S => S.tail) ?_
             refine q_conv (fun w S => S.tail) ?_
             exact f_ret (r_one rfl rfl) (⟨by first | exact vfalse (by unfold RightOk; grind) | exact vtrue (by unfold RightOk; grind) | exact bdec (by unfold RightOk; grind), rfl⟩) (fun w S => S)
           · -- h15F
            have h15b := h15
            try simp only [decide_eq_false_iff_not, Int.not_lt, Int.not_le] at h15
            refine o_no rfl rfl rfl rfl ?_
            refine o_no rfl rfl rfl rfl ?_
            refine o_no rfl rfl rfl rfl ?_
            refine o_no rfl rfl rfl rfl ?_
            refine o_pick_false rfl rfl rfl ?_
            refine o_move rfl rfl ?_
            refine o_no rfl rfl rfl rfl ?_
            refine o_no rfl rfl rfl rfl ?_
            refine o_no rfl rfl rfl rfl ?_
            refine o_pick_false rfl rfl rfl ?_
            refine o_move rfl rfl ?_
            refine o_no rfl rfl rfl rfl ?_
            refine o_no rfl rfl rfl rfl ?_
            refine o_no rfl rfl rfl rfl ?_
            refine o_no rfl rfl rfl rfl ?_
            refine o_pick_false rfl rfl rfl ?_
            refine o_assign rfl rfl ?_
            refine l_nil ?_
            refine q_then ?_
            refine c_ret ?_
            refine q_pass_ret ?_
            refine q_conv (fun w S => S.tail) ?_
            refine q_conv (fun w S => S.tail) ?_
            exact f_ret (r_one rfl rfl) (⟨by first | exact vfalse (by unfold RightOk; grind) | exact vtrue (by unfold RightOk; grind) | exact bdec (by unfold RightOk; grind), rfl⟩) (fun w S => S)
          · -- h14F
           have h14b := h14
           try simp only [decide_eq_false_iff_not, Int.not_lt, Int.not_le] at h14
           refine o_no rfl rfl rfl rfl ?_
           refine o_no rfl rfl rfl rfl ?_
           refine o_no rfl rfl rfl rfl ?_
           refine o_no rfl rfl rfl rfl ?_
           refine o_pick_false rfl rfl rfl ?_
           refine o_move rfl rfl ?_
           refine o_no rfl rfl rfl rfl ?_
           refine o_no rfl rfl rfl rfl ?_
           refine o_no rfl rfl rfl rfl ?_
           refine o_no rfl rfl rfl rfl ?_
           refine o_pick_false rfl rfl rfl ?_
           refine o_move rfl rfl ?_
           refine o_no rfl rfl rfl rfl ?_
           refine o_no rfl rfl rfl rfl ?_
           refine o_no rfl rfl rfl rfl ?_
           refine o_pick_false rfl rfl rfl ?_
           refine o_move rfl rfl ?_
           refine o_no rfl rfl rfl rfl ?_
           refine o_no rfl rfl rfl rfl ?_
           refine o_no rfl rfl rfl rfl ?_
           refine o_no rfl rfl rfl rfl ?_
           refine o_pick_false rfl rfl rfl ?_
           refine o_assign rfl rfl ?_
           refine l_nil ?_
           refine q_then ?_
           refine c_ret ?_
           refine q_pass_ret ?_
           refine q_conv (fun w S => S.tail) ?_
           refine q_conv (fun w S => S.tail) ?_
           exact f_ret (r_one rfl rfl) (⟨by first | exact vfalse (by unfold RightOk; grind) | exact vtrue (by unfold RightOk; grind) | exact bdec (by unfold RightOk; grind), rfl⟩) (fun w S => S)
         · -- h13F
          have h13b := h13
          try simp only [decide_eq_false_iff_not, Int.not_lt, Int.not_le] at h13
          refine c_skip ?_
          refine q_then ?_
          refine c_seq ?_
          refine c_seq ?_
          refine c_region ?_
          refine o_fieldAddr (q := ⟨b2, 0, none⟩) rfl rfl Try.underlying30 rfl ti3 rfl ?_
          refine o_load1 rfl rfl Try.underlying3 rfl (rd_mem 0 rfl rfl) ?_
          refine o_bin rfl rfl rfl b_neq ?_
          refine o_move rfl rfl ?_
          refine l_split (t := 124) rfl (fun h18 => ?_) (fun h18 => ?_)
          · -- h18T
           have h18b := h18
           try simp only [Bool.not_eq_true', decide_eq_false_iff_not, Int.not_lt, Int.not_le] at h18
           refine o_no rfl rfl rfl rfl ?_
           refine o_no rfl rfl rfl rfl ?_
           refine o_no rfl rfl rfl rfl ?_
           refine o_pick_true rfl rfl rfl ?_
           refine o_move rfl rfl ?_
           refine o_no rfl rfl rfl rfl ?_
           refine o_no rfl rfl rfl rfl ?_
           refine o_no rfl rfl rfl rfl ?_
           refine o_no rfl rfl rfl rfl ?_
           refine o_pick_true rfl rfl rfl ?_
           refine l_nil ?_
           refine q_then ?_
           refine c_true rfl ?_
           refine c_seq ?_
           refine c_region ?_
           refine o_assign rfl rfl ?_
           refine l_nil ?_
           refine q_then ?_
           refine c_ret ?_
           refine q_pass_ret ?_
           refine q_conv (fun w S => S.tail) ?_
           refine q_conv (fun w S => S.tail) ?_
           exact f_ret (r_one rfl rfl) (⟨by first | exact vfalse (by unfold RightOk; grind) | exact vtrue (by unfold RightOk; grind) | exact bdec (by unfold RightOk; grind), rfl⟩) (fun w S => S)
          · -- h18F
           have h18b := h18
           try simp only [Bool.not_eq_false', decide_eq_true_eq] at h18
           refine o_yes rfl rfl rfl ?_
           refine o_fieldAddr (q := ⟨b2, 4, none⟩) rfl rfl Try.underlying30 rfl ti3 rfl ?_
           refine o_yes rfl rfl rfl ?_
           refine o_load1 rfl rfl Try.underlying3 rfl (rd_mem 0 rfl rfl) ?_
           refine o_yes rfl rfl rfl ?_
           refine o_bin rfl rfl rfl b_neq ?_
           refine o_pick_false rfl rfl rfl ?_
           refine o_move rfl rfl ?_
           refine l_split (t := 129) rfl (fun h19 => ?_) (fun h19 => ?_)
           · -- h19T
            have h19b := h19
            try simp only [Bool.not_eq_true', decide_eq_false_iff_not, Int.not_lt, Int.not_le] at h19
            refine o_no rfl rfl rfl rfl ?_
            refine o_no rfl rfl rfl rfl ?_
            refine o_no rfl rfl rfl rfl ?_
            refine o_no rfl rfl rfl rfl ?_
            refine o_pick_true rfl rfl rfl ?_
            refine l_nil ?_
            refine q_then ?_
            refine c_true rfl ?_
            refine c_seq ?_
            refine c_region ?_
            refine o_assign rfl rfl ?_
            refine l_nil ?_
            refine q_then ?_
            refine c_ret ?_
            refine q_pass_ret ?_
            refine q_conv (fun w S => S.tail) ?_
            refine q_conv (fun w S => S.tail) ?_
            exact f_ret (r_one rfl rfl) (⟨by first | exact vfalse (by unfold RightOk; grind) | exact vtrue (by unfold RightOk; grind) | exact bdec (by unfold RightOk; grind), rfl⟩) (fun w S => S)
           · -- h19F
            have h19b := h19
            try simp only [Bool.not_eq_false', decide_eq_true_eq] at h19
            refine o_yes rfl rfl rfl ?_
            refine o_fieldAddr (q := ⟨b2, 3, none⟩) rfl rfl Try.underlying30 rfl ti28 rfl ?_
            refine o_yes rfl rfl rfl ?_
            refine o_load1 rfl rfl Try.underlying28 rfl (rd_mem 0 rfl rfl) ?_
            refine o_yes rfl rfl rfl ?_
            refine o_len rfl rfl Try.underlying28 ?_
            refine o_yes rfl rfl rfl ?_
            refine o_bin rfl rfl rfl b_gtr ?_
            refine o_pick_false rfl rfl rfl ?_
            refine l_nil ?_
            refine q_then ?_
            refine c_cond rfl (fun h20 => ?_) (fun h20 => ?_)
            · -- h20T
             have h20b := h20
             try simp only [decide_eq_true_eq] at h20
             refine c_seq ?_
             refine c_region ?_
             refine o_assign rfl rfl ?_
             refine l_nil ?_
             refine q_then ?_
             refine c_ret ?_
             refine q_pass_ret ?_
             refine q_conv (fun w S => S.tail) ?_
             refine q_conv (fun w S => S.tail) ?_
             exact f_ret (r_one rfl rfl) (⟨by first | exact vfalse (by unfold RightOk; grind) | exact vtrue (by unfold RightOk; grind) | exact bdec (by unfold RightOk; grind), rfl⟩) (fun w S => S)
            · -- h20F
             have h20b := h20
             try simp only [decide_eq_false_iff_not, Int.not_lt, Int.not_le] at h20
             refine c_skip ?_
             refine q_then ?_
             refine c_seq ?_
             refine c_seq ?_
             refine c_region ?_
             refine o_assign rfl rfl ?_
             refine l_nil ?_
             refine q_then ?_
             refine c_block ?_
             refine c_loop (α := Nat) (fun z => [(2, .pointer (some ⟨b2, 0, none⟩)), (7, .int .i64 (z : Int))]) (fun z => blk b2 (.cells #[.int .i64 t.f_Kind, .slice t.f_Reads.a (t.f_Reads.xs).length t.f_Reads.c, .slice t.f_Writes.a (t.f_Writes.xs).length t.f_Writes.c, .slice t.f_Ops.a (t.f_Ops.xs).length t.f_Ops.c, .int .i64 t.f_To] 30 (0, 0)) :: row e_S.T e_S.sz a54 ((t.f_Reads.xs ++ t.f_Writes.xs)).length c54 (flat e_S (t.f_Reads.xs ++ t.f_Writes.xs)) :: F) (fun z => z ≤ t.f_Ops.xs.length ∧ OpsTo t z) (fun z => t.f_Ops.xs.length - z) (0) (by exact ⟨Nat.zero_le _, fun j o h => absurd h (by omega)⟩) ⟨(by first | rfl | exact vint (by omega)), (by first | rfl | exact vint (by omega)), trivial⟩ (fun w S => S) ?_
             rintro i2 ⟨hi2, hop⟩
             try dsimp only at *
             refine c_seq ?_
             refine c_seq ?_
             refine c_region ?_
             refine o_move rfl rfl ?_
             refine o_fieldAddr (q := ⟨b2, 3, none⟩) rfl rfl Try.underlying30 rfl ti28 rfl ?_
             refine o_load1 rfl rfl Try.underlying28 rfl (rd_mem 0 rfl rfl) ?_
             refine o_len rfl rfl Try.underlying28 ?_
             refine o_bin rfl rfl rfl b_lss ?_
             refine l_nil ?_
             refine q_then ?_
             refine c_cond rfl (fun h21 => ?_) (fun h21 => ?_)
             · -- h21T
              have h21b := h21
              try simp only [decide_eq_true_eq] at h21
              refine c_skip ?_
              refine q_then ?_
              refine c_seq ?_
              refine c_block ?_
              refine c_seq ?_
              refine c_fact (p := ∃ ad, t.f_Ops.a = some ad) (rds_some (e := e_Op) (xs := t.f_Ops.xs) (TxR.c (TxR.c T_t)).ro (by intro h0; have h00 := congrArg List.length h0; simp only [List.length_nil] at h00; omega)) ?_
              rintro ⟨adx, eadx⟩
              refine c_held [blk b2 (.cells #[.int .i64 t.f_Kind, .slice t.f_Reads.a (t.f_Reads.xs).length t.f_Reads.c, .slice t.f_Writes.a (t.f_Writes.xs).length t.f_Writes.c, .slice t.f_Ops.a (t.f_Ops.xs).length t.f_Ops.c, .int .i64 t.f_To] 30 (0, 0)), row e_S.T e_S.sz a54 ((t.f_Reads.xs ++ t.f_Writes.xs)).length c54 (flat e_S (t.f_Reads.xs ++ t.f_Writes.xs))] (by kernel_rfl) rfl ?_
              refine h_take 0 rfl rfl (by kernel_rfl) (by kernel_rfl) (by kernel_rfl) (fun L0 => v_loadn (vs := [_, _, _, _, _]) rfl rfl Try.underlying30 rfl ti30 (rdn_lit 0 rfl rfl)) ?_
              refine h_take 1 rfl rfl (by kernel_rfl) (by kernel_rfl) (by kernel_rfl) (fun L0 => v_fieldAddr (q := ⟨b2, 3, none⟩) rfl rfl Try.underlying30 rfl ti28 rfl) ?_
              refine h_take 2 rfl rfl (by kernel_rfl) (by kernel_rfl) (by kernel_rfl) (fun L0 => v_load1 rfl rfl Try.underlying28 rfl (rd_mem 0 rfl rfl)) ?_
              refine h_take 3 rfl rfl (by kernel_rfl) (by kernel_rfl) (by kernel_rfl) (fun L0 => v_move rfl rfl) ?_
              refine h_take 4 rfl rfl (by kernel_rfl) (by kernel_rfl) (by kernel_rfl) (fun L0 => v_indexK e_Op_ok eadx rfl rfl rfl Try.underlying28 (by omega) (by omega)) ?_
              obtain ⟨x146, hx146⟩ : ∃ x, (t.f_Ops.xs)[((i2 : Int)).toNat]? = some x := ⟨_, List.getElem?_eq_getElem (by omega)⟩
              refine h_one 5 rfl (by kernel_rfl) ?_
              refine o_loadn (vs := e_Op.cells x146) rfl rfl Try.underlying53 rfl ti53 (rdn_sl e_Op_ok eadx (TxR.c (TxR.c T_t)).ro hx146) ?_
              refine l_nil ?_
              refine h_next ?_
              refine h_one 6 rfl (by kernel_rfl) ?_
              refine o_call rfl cal50 rfl (op_ (o := x146) (TxR.c (TxR.c T_t)) ((TxR.c (TxR.c T_t)).rv x146 (List.mem_of_getElem? hx146))) ?_
              rintro _ _ ⟨rfl, rfl⟩
              refine l_nil ?_
              refine h_next ?_
              refine h_take 7 rfl rfl (by kernel_rfl) (by kernel_rfl) (by kernel_rfl) (fun L0 => v_not rfl rfl) ?_
              refine h_done (by kernel_rfl) ?_
              refine q_then ?_
              refine c_cond rfl (fun h22 => ?_) (fun h22 => ?_)
              · -- h22T
               have h22b := h22
               try simp only [Bool.not_eq_true', decide_eq_false_iff_not, Int.not_lt, Int.not_le] at h22
               refine c_seq ?_
               have hno2 : ¬ OpsTo t t.f_Ops.xs.length := fun h9 => absurd (h9 i2 x146 (by omega) hx146) (by assumption)
               refine c_region ?_
               refine o_assign rfl rfl ?_
               refine l_nil ?_
               refine q_then ?_
               refine c_ret ?_
               refine q_block_ret ?_
               refine q_pass_ret ?_
               refine q_pass_ret ?_
               refine q_block_ret ?_
               refine q_pass_ret ?_
               refine q_conv (fun w S => S.tail) ?_
               refine q_conv (fun w S => S.tail) ?_
               exact f_ret (r_one rfl rfl) (⟨by first | exact vfalse (by unfold RightOk; grind) | exact vtrue (by unfold RightOk; grind) | exact bdec (by unfold RightOk; grind), rfl⟩) (fun w S => S)
              · -- h22F
               have h22b := h22
               try simp only [Bool.not_eq_false', decide_eq_true_eq] at h22
               refine c_skip ?_
               refine q_block ?_
               refine q_then ?_
               refine c_region ?_
               refine o_move rfl rfl ?_
               refine o_bin rfl rfl rfl (b_add (wrap_i64 (by omega) (by omega))) ?_
               refine o_assign rfl rfl ?_
               refine l_nil ?_
               exact q_round (i2 + 1) (by exact ⟨by omega, opsTo_on hop hx146 (by grind)⟩) (by (try dsimp only); omega) ⟨(by first | rfl | exact vint (by omega)), (by first | rfl | exact vint (by omega)), trivial⟩ (fun w S => S)
             · -- h21F
              have h21b := h21
              try simp only [decide_eq_false_iff_not, Int.not_lt, Int.not_le] at h21
              refine c_exit ?_
              refine q_pass_exit ?_
              refine q_pass_exit ?_
              refine q_hit ?_
              refine q_then ?_
              refine c_seq ?_
              refine c_region ?_
              refine o_assign rfl rfl ?_
              refine l_nil ?_
              refine q_then ?_
              refine c_ret ?_
              refine q_conv (fun w S => S.tail) ?_
              refine q_conv (fun w S => S.tail) ?_
              exact f_ret (r_one rfl rfl) (⟨by first | exact vfalse (by unfold RightOk; grind) | exact vtrue (by unfold RightOk; grind) | exact bdec (by unfold RightOk; grind), rfl⟩) (fun w S => S)

end Go.Proofs.Ytlblipkcbmcfkaa
