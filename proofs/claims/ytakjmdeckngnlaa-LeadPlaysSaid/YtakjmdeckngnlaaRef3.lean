/- Printed by eng2.py out of 12/spec.py. -/
import Derived.Test.YtakjmdeckngnlaaRef2
set_option linter.unusedVariables false
set_option linter.unusedSimpArgs false
set_option maxRecDepth 10000
namespace Go.Proofs.Ytakjmdeckngnlaa
open Go.RowKit
theorem roffer {W : World} {F : List Res} {k : Nat} {rl : RlS} {x : ByteArray} : CS Try.prog 16 #[.pointer (some ⟨k, 0, none⟩), .string x] W (RlR k rl :: F) (fun r L' => r = .bool (rl.offer x).1 ∧ L' = RlR k (rl.offer x).2 :: F) := by
  refine f_door (l0 := [(0, .pointer (some ⟨k, 0, none⟩)), (1, .string x)]) Try.func16 Try.ntmps16 rfl rfl rfl ?_
  refine c_seq ?_
  refine c_region ?_
  refine o_assign rfl rfl ?_
  refine l_nil ?_
  refine q_then ?_
  refine c_seq ?_
  refine c_region ?_
  refine o_move rfl rfl ?_
  refine o_call rfl cal20 rfl (rvalue) ?_
  rintro _ _ ⟨rfl, rfl⟩
  refine o_move rfl rfl ?_
  refine o_extract rfl rfl rfl ?_
  refine o_extract rfl rfl rfl ?_
  refine o_assign rfl rfl ?_
  refine o_assign rfl rfl ?_
  refine l_nil ?_
  refine q_then ?_
  refine c_seq ?_
  refine c_seq ?_
  refine c_region ?_
  refine o_move rfl rfl ?_
  refine o_move rfl rfl ?_
  refine l_split (t := 13) rfl (fun h1 => ?_) (fun h1 => ?_)
  · -- h1T
    have h1b := h1
    try simp only [decide_eq_true_eq, decide_eq_false_iff_not, Bool.not_eq_eq_eq_not, Bool.not_true, Bool.not_false, Bool.not_eq_true', Bool.not_eq_false', Int.not_lt, Int.not_le, Bool.or_eq_true, Bool.and_eq_true] at h1
    refine o_no rfl rfl rfl rfl ?_
    refine o_no rfl rfl rfl rfl ?_
    refine o_no rfl rfl rfl rfl ?_
    refine o_pick_true rfl rfl rfl ?_
    refine o_move rfl rfl ?_
    refine o_no rfl rfl rfl rfl ?_
    refine o_no rfl rfl rfl rfl ?_
    refine o_no rfl rfl rfl rfl ?_
    refine o_no rfl rfl rfl rfl ?_
    refine o_no rfl rfl rfl rfl ?_
    refine o_pick_true rfl rfl rfl ?_
    refine l_nil ?_
    refine q_then ?_
    refine c_true rfl ?_
    refine c_seq ?_
    refine c_region ?_
    refine o_assign rfl rfl ?_
    refine l_nil ?_
    refine q_then ?_
    refine c_ret ?_
    refine q_pass_ret ?_
    exact f_ret (r_one rfl rfl) (⟨by grind [RlS.offer], rfl⟩) (by rw [show (rl.offer x).2 = rl from by grind [RlS.offer]]; exact fun w S => S)
  · -- h1F
    have h1b := h1
    try simp only [decide_eq_true_eq, decide_eq_false_iff_not, Bool.not_eq_eq_eq_not, Bool.not_true, Bool.not_false, Bool.not_eq_true', Bool.not_eq_false', Int.not_lt, Int.not_le, Bool.or_eq_true, Bool.and_eq_true] at h1
    refine o_yes rfl rfl rfl ?_
    refine o_move rfl rfl ?_
    refine o_yes rfl rfl rfl ?_
    refine o_call rfl cal22 rfl (rleads) ?_
    rintro _ _ ⟨rfl, rfl⟩
    refine o_yes rfl rfl rfl ?_
    refine o_not rfl rfl ?_
    refine o_pick_false rfl rfl rfl ?_
    refine o_move rfl rfl ?_
    refine l_split (t := 18) rfl (fun h2 => ?_) (fun h2 => ?_)
    · -- h2T
      have h2b := h2
      try simp only [decide_eq_true_eq, decide_eq_false_iff_not, Bool.not_eq_eq_eq_not, Bool.not_true, Bool.not_false, Bool.not_eq_true', Bool.not_eq_false', Int.not_lt, Int.not_le, Bool.or_eq_true, Bool.and_eq_true] at h2
      refine o_no rfl rfl rfl rfl ?_
      refine o_no rfl rfl rfl rfl ?_
      refine o_no rfl rfl rfl rfl ?_
      refine o_no rfl rfl rfl rfl ?_
      refine o_no rfl rfl rfl rfl ?_
      refine o_pick_true rfl rfl rfl ?_
      refine l_nil ?_
      refine q_then ?_
      refine c_true rfl ?_
      refine c_seq ?_
      refine c_region ?_
      refine o_assign rfl rfl ?_
      refine l_nil ?_
      refine q_then ?_
      refine c_ret ?_
      refine q_pass_ret ?_
      exact f_ret (r_one rfl rfl) (⟨by grind [RlS.offer], rfl⟩) (by rw [show (rl.offer x).2 = rl from by grind [RlS.offer]]; exact fun w S => S)
    · -- h2F
      have h2b := h2
      try simp only [decide_eq_true_eq, decide_eq_false_iff_not, Bool.not_eq_eq_eq_not, Bool.not_true, Bool.not_false, Bool.not_eq_true', Bool.not_eq_false', Int.not_lt, Int.not_le, Bool.or_eq_true, Bool.and_eq_true] at h2
      refine o_yes rfl rfl rfl ?_
      refine o_move rfl rfl ?_
      refine o_yes rfl rfl rfl ?_
      refine o_nil rfl rfl ?_
      refine o_yes rfl rfl rfl ?_
      refine l_obj ?_
      rintro ⟨a_1, c_1⟩ ok_1
      have s0_ok_1 := ok_1.s0
      have s1_ok_1 := ok_1.s1
      have v0_ok_1 := ok_1.v0
      have v1_ok_1 := ok_1.v1
      refine l_conv (L' := blk k (.cells (([.int .i64 rl.V, .int .i64 rl.S] : List Value) ++ ((flat e_B rl.pr) ++ (([.slice a_1 (rl.told).length c_1, .string rl.off, .bool rl.has] : List Value) ++ (flat e_B rl.tk)))).toArray 48 (0, 0)) :: row eVR.T eVR.sz a_1 (rl.told).length c_1 (flat eVR rl.told) :: _) (fun w S => S) ?_
      refine o_fieldAddr (q := ⟨k, 1, none⟩) rfl rfl Try.underlying48 rfl ti3 rfl ?_
      refine o_yes rfl rfl rfl ?_
      refine o_load1 rfl rfl Try.underlying3 rfl (rd_mem 0 rfl (sg_arr (sg_in rfl))) ?_
      refine o_yes rfl rfl rfl ?_
      refine o_bin rfl rfl rfl b_gtr ?_
      refine o_pick_false rfl rfl rfl ?_
      refine l_nil ?_
      refine q_then ?_
      refine c_cond rfl (fun h3 => ?_) (fun h3 => ?_)
      · -- h3T
        have h3b := h3
        try simp only [decide_eq_true_eq, decide_eq_false_iff_not, Bool.not_eq_eq_eq_not, Bool.not_true, Bool.not_false, Bool.not_eq_true', Bool.not_eq_false', Int.not_lt, Int.not_le, Bool.or_eq_true, Bool.and_eq_true] at h3
        refine c_seq ?_
        refine c_region ?_
        refine o_assign rfl rfl ?_
        refine l_nil ?_
        refine q_then ?_
        refine c_ret ?_
        refine q_pass_ret ?_
        refine q_conv (L' := RlR k rl :: _) (fun w S => Sat.obj_mk ⟨a_1, c_1⟩ ok_1 S) ?_
        exact f_ret (r_one rfl rfl) (⟨by grind [RlS.offer], rfl⟩) (by rw [show (rl.offer x).2 = rl from by grind [RlS.offer]]; exact fun w S => S)
      · -- h3F
        have h3b := h3
        try simp only [decide_eq_true_eq, decide_eq_false_iff_not, Bool.not_eq_eq_eq_not, Bool.not_true, Bool.not_false, Bool.not_eq_true', Bool.not_eq_false', Int.not_lt, Int.not_le, Bool.or_eq_true, Bool.and_eq_true] at h3
        refine c_skip ?_
        refine q_then ?_
        refine c_seq ?_
        refine c_region ?_
        refine o_move rfl rfl ?_
        refine o_move rfl rfl ?_
        refine o_nil rfl rfl ?_
        refine o_fieldAddr (q := ⟨k, 12, none⟩) rfl rfl Try.underlying48 rfl ti9 rfl ?_
        refine o_storeArr rfl rfl rfl ti9 (sz_arr (ln_app (show List.length _ = 2 from rfl) (ln_app (sg_len (s := 1) e_B_ok rfl ok_1.lp rfl) (ln_app (show List.length _ = 3 from rfl) (sg_len (s := 1) e_B_ok rfl ok_1.lt rfl)))) (by decide)) (st_arr (st_skip (j := 10) (show List.length _ = 2 from rfl) rfl (st_skip (j := 1) (sg_len (s := 1) e_B_ok rfl ok_1.lp rfl) rfl (st_in (show 1 < 3 by decide) rfl)))) ?_
        refine l_nil ?_
        refine q_then ?_
        refine c_seq ?_
        refine c_region ?_
        refine o_move rfl rfl ?_
        refine o_nil rfl rfl ?_
        refine o_fieldAddr (q := ⟨k, 13, none⟩) rfl rfl Try.underlying48 rfl ti4 rfl ?_
        refine o_storeArr rfl rfl rfl ti4 (sz_arr (ln_app (show List.length _ = 2 from rfl) (ln_app (sg_len (s := 1) e_B_ok rfl ok_1.lp rfl) (ln_app (show List.length _ = 3 from rfl) (sg_len (s := 1) e_B_ok rfl ok_1.lt rfl)))) (by decide)) (st_arr (st_skip (j := 11) (show List.length _ = 2 from rfl) rfl (st_skip (j := 2) (sg_len (s := 1) e_B_ok rfl ok_1.lp rfl) rfl (st_in (show 2 < 3 by decide) rfl)))) ?_
        refine l_nil ?_
        refine q_then ?_
        refine c_seq ?_
        refine c_region ?_
        refine o_assign rfl rfl ?_
        refine l_nil ?_
        refine q_then ?_
        refine c_ret ?_
        refine q_conv (L' := RlR k ⟨rl.V, rl.S, rl.pr, rl.tk, rl.told, x, true⟩ :: _) (fun w S => Sat.obj_mk ⟨a_1, c_1⟩ (by obtain ⟨o1, o2, o3, o4, o5, o6⟩ := ok_1; exact ⟨by (try dsimp only); omega, by (try dsimp only); omega, by (try dsimp only); omega, by (try dsimp only); omega, by (try dsimp only); (try simp only [List.length_set]); first | exact o5 | rfl, by (try dsimp only); (try simp only [List.length_set]); first | exact o6 | rfl⟩) S) ?_
        exact f_ret (r_one rfl rfl) (⟨by grind [RlS.offer], rfl⟩) (by rw [show (rl.offer x).2 = ⟨rl.V, rl.S, rl.pr, rl.tk, rl.told, x, true⟩ from by grind [RlS.offer]]; exact fun w S => S)

theorem rtaken {W : World} {F : List Res} {k : Nat} {rl : RlS} {i sl : Int} : CS Try.prog 18 #[.pointer (some ⟨k, 0, none⟩), .int .i64 i, .int .i64 sl] W (RlR k rl :: F) (fun r L' => r = .tuple #[.string (rl.taken i sl).1.1, .bool (rl.taken i sl).1.2] ∧ L' = RlR k (rl.taken i sl).2 :: F) := by
  refine f_door (l0 := [(0, .pointer (some ⟨k, 0, none⟩)), (1, .int .i64 i), (2, .int .i64 sl)]) Try.func18 Try.ntmps18 rfl rfl rfl ?_
  refine c_seq ?_
  refine c_region ?_
  refine o_assign rfl rfl ?_
  refine o_assign rfl rfl ?_
  refine l_nil ?_
  refine q_then ?_
  refine c_seq ?_
  refine c_region ?_
  refine o_move rfl rfl ?_
  refine o_call rfl cal20 rfl (rvalue) ?_
  rintro _ _ ⟨rfl, rfl⟩
  refine o_move rfl rfl ?_
  refine o_extract rfl rfl rfl ?_
  refine o_extract rfl rfl rfl ?_
  refine o_assign rfl rfl ?_
  refine o_assign rfl rfl ?_
  refine l_nil ?_
  refine q_then ?_
  refine c_seq ?_
  refine c_seq ?_
  refine c_region ?_
  refine o_move rfl rfl ?_
  refine o_not rfl rfl ?_
  refine o_move rfl rfl ?_
  refine l_split (t := 17) rfl (fun h1 => ?_) (fun h1 => ?_)
  · -- h1T
    have h1b := h1
    try simp only [decide_eq_true_eq, decide_eq_false_iff_not, Bool.not_eq_eq_eq_not, Bool.not_true, Bool.not_false, Bool.not_eq_true', Bool.not_eq_false', Int.not_lt, Int.not_le, Bool.or_eq_true, Bool.and_eq_true] at h1
    refine o_no rfl rfl rfl rfl ?_
    refine o_no rfl rfl rfl rfl ?_
    refine o_no rfl rfl rfl rfl ?_
    refine o_no rfl rfl rfl rfl ?_
    refine o_no rfl rfl rfl rfl ?_
    refine o_no rfl rfl rfl rfl ?_
    refine o_pick_true rfl rfl rfl ?_
    refine o_move rfl rfl ?_
    refine o_no rfl rfl rfl rfl ?_
    refine o_no rfl rfl rfl rfl ?_
    refine o_pick_true rfl rfl rfl ?_
    refine o_move rfl rfl ?_
    refine o_no rfl rfl rfl rfl ?_
    refine o_no rfl rfl rfl rfl ?_
    refine o_no rfl rfl rfl rfl ?_
    refine o_no rfl rfl rfl rfl ?_
    refine o_no rfl rfl rfl rfl ?_
    refine o_no rfl rfl rfl rfl ?_
    refine o_pick_true rfl rfl rfl ?_
    refine l_nil ?_
    refine q_then ?_
    refine c_true rfl ?_
    refine c_seq ?_
    refine c_region ?_
    refine o_assign rfl rfl ?_
    refine o_assign rfl rfl ?_
    refine l_nil ?_
    refine q_then ?_
    refine c_ret ?_
    refine q_pass_ret ?_
    exact f_ret (r_two rfl rfl rfl) (⟨by grind [RlS.taken, bae], rfl⟩) (by rw [show (rl.taken i sl).2 = rl from by grind [RlS.taken, bae]]; exact fun w S => S)
  · -- h1F
    have h1b := h1
    try simp only [decide_eq_true_eq, decide_eq_false_iff_not, Bool.not_eq_eq_eq_not, Bool.not_true, Bool.not_false, Bool.not_eq_true', Bool.not_eq_false', Int.not_lt, Int.not_le, Bool.or_eq_true, Bool.and_eq_true] at h1
    have hrs := rvalue_slot h1
    refine o_yes rfl rfl rfl ?_
    refine o_move rfl rfl ?_
    refine o_yes rfl rfl rfl ?_
    refine o_move rfl rfl ?_
    refine o_yes rfl rfl rfl ?_
    refine o_nil rfl rfl ?_
    refine o_yes rfl rfl rfl ?_
    refine l_obj ?_
    rintro ⟨a_1, c_1⟩ ok_1
    have s0_ok_1 := ok_1.s0
    have s1_ok_1 := ok_1.s1
    have v0_ok_1 := ok_1.v0
    have v1_ok_1 := ok_1.v1
    refine l_conv (L' := blk k (.cells (([.int .i64 rl.V, .int .i64 rl.S] : List Value) ++ ((flat e_B rl.pr) ++ (([.slice a_1 (rl.told).length c_1, .string rl.off, .bool rl.has] : List Value) ++ (flat e_B rl.tk)))).toArray 48 (0, 0)) :: row eVR.T eVR.sz a_1 (rl.told).length c_1 (flat eVR rl.told) :: _) (fun w S => S) ?_
    refine o_fieldAddr (q := ⟨k, 1, none⟩) rfl rfl Try.underlying48 rfl ti3 rfl ?_
    refine o_yes rfl rfl rfl ?_
    refine o_load1 rfl rfl Try.underlying3 rfl (rd_mem 0 rfl (sg_arr (sg_in rfl))) ?_
    refine o_yes rfl rfl rfl ?_
    refine o_bin rfl rfl rfl b_neq ?_
    refine o_pick_false rfl rfl rfl ?_
    refine o_move rfl rfl ?_
    refine l_split (t := 25) rfl (fun h2 => ?_) (fun h2 => ?_)
    · -- h2T
      have h2b := h2
      try simp only [decide_eq_true_eq, decide_eq_false_iff_not, Bool.not_eq_eq_eq_not, Bool.not_true, Bool.not_false, Bool.not_eq_true', Bool.not_eq_false', Int.not_lt, Int.not_le, Bool.or_eq_true, Bool.and_eq_true] at h2
      refine o_no rfl rfl rfl rfl ?_
      refine o_no rfl rfl rfl rfl ?_
      refine o_pick_true rfl rfl rfl ?_
      refine o_move rfl rfl ?_
      refine o_no rfl rfl rfl rfl ?_
      refine o_no rfl rfl rfl rfl ?_
      refine o_no rfl rfl rfl rfl ?_
      refine o_no rfl rfl rfl rfl ?_
      refine o_no rfl rfl rfl rfl ?_
      refine o_no rfl rfl rfl rfl ?_
      refine o_pick_true rfl rfl rfl ?_
      refine l_nil ?_
      refine q_then ?_
      refine c_true rfl ?_
      refine c_seq ?_
      refine c_region ?_
      refine o_assign rfl rfl ?_
      refine o_assign rfl rfl ?_
      refine l_nil ?_
      refine q_then ?_
      refine c_ret ?_
      refine q_pass_ret ?_
      refine q_conv (L' := RlR k rl :: _) (fun w S => Sat.obj_mk ⟨a_1, c_1⟩ ok_1 S) ?_
      exact f_ret (r_two rfl rfl rfl) (⟨by grind [RlS.taken, bae], rfl⟩) (by rw [show (rl.taken i sl).2 = rl from by grind [RlS.taken, bae]]; exact fun w S => S)
    · -- h2F
      have h2b := h2
      try simp only [decide_eq_true_eq, decide_eq_false_iff_not, Bool.not_eq_eq_eq_not, Bool.not_true, Bool.not_false, Bool.not_eq_true', Bool.not_eq_false', Int.not_lt, Int.not_le, Bool.or_eq_true, Bool.and_eq_true] at h2
      refine o_yes rfl rfl rfl ?_
      refine o_move rfl rfl ?_
      refine o_yes rfl rfl rfl ?_
      refine o_bin rfl rfl rfl b_lss ?_
      refine o_pick_false rfl rfl rfl ?_
      refine o_move rfl rfl ?_
      refine l_split (t := 29) rfl (fun h3 => ?_) (fun h3 => ?_)
      · -- h3T
        have h3b := h3
        try simp only [decide_eq_true_eq, decide_eq_false_iff_not, Bool.not_eq_eq_eq_not, Bool.not_true, Bool.not_false, Bool.not_eq_true', Bool.not_eq_false', Int.not_lt, Int.not_le, Bool.or_eq_true, Bool.and_eq_true] at h3
        refine o_no rfl rfl rfl rfl ?_
        refine o_no rfl rfl rfl rfl ?_
        refine o_no rfl rfl rfl rfl ?_
        refine o_no rfl rfl rfl rfl ?_
        refine o_no rfl rfl rfl rfl ?_
        refine o_no rfl rfl rfl rfl ?_
        refine o_pick_true rfl rfl rfl ?_
        refine l_nil ?_
        refine q_then ?_
        refine c_true rfl ?_
        refine c_seq ?_
        refine c_region ?_
        refine o_assign rfl rfl ?_
        refine o_assign rfl rfl ?_
        refine l_nil ?_
        refine q_then ?_
        refine c_ret ?_
        refine q_pass_ret ?_
        refine q_conv (L' := RlR k rl :: _) (fun w S => Sat.obj_mk ⟨a_1, c_1⟩ ok_1 S) ?_
        exact f_ret (r_two rfl rfl rfl) (⟨by grind [RlS.taken, bae], rfl⟩) (by rw [show (rl.taken i sl).2 = rl from by grind [RlS.taken, bae]]; exact fun w S => S)
      · -- h3F
        have h3b := h3
        try simp only [decide_eq_true_eq, decide_eq_false_iff_not, Bool.not_eq_eq_eq_not, Bool.not_true, Bool.not_false, Bool.not_eq_true', Bool.not_eq_false', Int.not_lt, Int.not_le, Bool.or_eq_true, Bool.and_eq_true] at h3
        refine o_yes rfl rfl rfl ?_
        refine o_move rfl rfl ?_
        refine o_yes rfl rfl rfl ?_
        refine o_move rfl rfl ?_
        refine o_yes rfl rfl rfl ?_
        refine o_nil rfl rfl ?_
        refine o_yes rfl rfl rfl ?_
        refine o_fieldAddr (q := ⟨k, 0, none⟩) rfl rfl Try.underlying48 rfl ti3 rfl ?_
        refine o_yes rfl rfl rfl ?_
        refine o_load1 rfl rfl Try.underlying3 rfl (rd_mem 0 rfl (sg_arr (sg_in rfl))) ?_
        refine o_yes rfl rfl rfl ?_
        refine o_bin rfl rfl rfl b_geq ?_
        refine o_pick_false rfl rfl rfl ?_
        refine l_nil ?_
        refine q_then ?_
        refine c_cond rfl (fun h4 => ?_) (fun h4 => ?_)
        · -- h4T
          have h4b := h4
          try simp only [decide_eq_true_eq, decide_eq_false_iff_not, Bool.not_eq_eq_eq_not, Bool.not_true, Bool.not_false, Bool.not_eq_true', Bool.not_eq_false', Int.not_lt, Int.not_le, Bool.or_eq_true, Bool.and_eq_true] at h4
          refine c_seq ?_
          refine c_region ?_
          refine o_assign rfl rfl ?_
          refine o_assign rfl rfl ?_
          refine l_nil ?_
          refine q_then ?_
          refine c_ret ?_
          refine q_pass_ret ?_
          refine q_conv (L' := RlR k rl :: _) (fun w S => Sat.obj_mk ⟨a_1, c_1⟩ ok_1 S) ?_
          exact f_ret (r_two rfl rfl rfl) (⟨by grind [RlS.taken, bae], rfl⟩) (by rw [show (rl.taken i sl).2 = rl from by grind [RlS.taken, bae]]; exact fun w S => S)
        · -- h4F
          have h4b := h4
          try simp only [decide_eq_true_eq, decide_eq_false_iff_not, Bool.not_eq_eq_eq_not, Bool.not_true, Bool.not_false, Bool.not_eq_true', Bool.not_eq_false', Int.not_lt, Int.not_le, Bool.or_eq_true, Bool.and_eq_true] at h4
          have hlt9 := ok_1.lt
          refine c_skip ?_
          refine q_then ?_
          refine c_seq ?_
          refine c_region ?_
          refine o_move rfl rfl ?_
          refine o_move rfl rfl ?_
          refine o_nil rfl rfl ?_
          refine o_fieldAddr (q := ⟨k, 14, none⟩) rfl rfl Try.underlying48 rfl ti46 rfl ?_
          refine o_indexArr rfl rfl rfl Try.underlying46 ti4 (by omega) (by omega) (Addr.add_mk _ _ _) ?_
          obtain ⟨x41, hx41⟩ : ∃ x, (rl.tk)[(i).toNat]? = some x := ⟨_, List.getElem?_eq_getElem (by have := ok_1.lt; omega)⟩
          refine o_storeArr rfl rfl rfl ti4 (sz_arr (ln_app (show List.length _ = 2 from rfl) (ln_app (sg_len (s := 1) e_B_ok rfl ok_1.lp rfl) (ln_app (show List.length _ = 3 from rfl) (sg_len (s := 1) e_B_ok rfl ok_1.lt rfl)))) (by omega)) (st_arr (st_skip (j := 9 + (3 + ((i).toNat * 1 + 0))) (show List.length _ = 2 from rfl) (by omega) (st_skip (j := 3 + ((i).toNat * 1 + 0)) (sg_len (s := 1) e_B_ok rfl ok_1.lp rfl) (by omega) (st_skip (j := (i).toNat * 1 + 0) (show List.length _ = 3 from rfl) (by omega) (st_flat (s := 1) (o := 0) (y := true) e_B_ok rfl hx41 (by decide) rfl rfl))))) ?_
          refine l_nil ?_
          refine q_then ?_
          refine c_seq ?_
          refine c_seq ?_
          refine c_held [blk k (.cells (([.int .i64 rl.V, .int .i64 rl.S] : List Value) ++ ((flat e_B rl.pr) ++ (([.slice a_1 (rl.told).length c_1, .string rl.off, .bool rl.has] : List Value) ++ (flat e_B ((rl.tk).set (i).toNat true))))).toArray 48 (0, 0)), row eVR.T eVR.sz a_1 (rl.told).length c_1 (flat eVR rl.told)] (by kernel_rfl) rfl ?_
          refine h_take 0 rfl rfl (by kernel_rfl) (by kernel_rfl) (by kernel_rfl) (fun L0 => v_move rfl rfl) ?_
          refine h_take 1 rfl rfl (by kernel_rfl) (by kernel_rfl) (by kernel_rfl) (fun L0 => v_nil rfl rfl) ?_
          refine h_take 2 rfl rfl (by kernel_rfl) (by kernel_rfl) (by kernel_rfl) (fun L0 => v_fieldAddr (q := ⟨k, 14, none⟩) rfl rfl Try.underlying48 rfl ti46 rfl) ?_
          refine h_take 3 rfl rfl (by kernel_rfl) (by kernel_rfl) (by kernel_rfl) (fun L0 => v_loadSeg (flat e_B ((rl.tk).set (i).toNat true)) 0 rfl rfl rfl Try.underlying46 rfl ti46 (sg_len (s := 1) e_B_ok rfl (List.length_set.trans ok_1.lt) rfl) (rn_skip (j := 12) (show List.length _ = 2 from rfl) rfl (rn_skip (j := 3) (sg_len (s := 1) e_B_ok rfl ok_1.lp rfl) rfl (rn_skip (j := 0) (show List.length _ = 3 from rfl) rfl rn_all)))) ?_
          refine h_take 6 rfl rfl (by kernel_rfl) (by kernel_rfl) (by kernel_rfl) (fun L0 => v_move rfl rfl) ?_
          refine h_take 7 rfl rfl (by kernel_rfl) (by kernel_rfl) (by kernel_rfl) (fun L0 => v_nil rfl rfl) ?_
          refine h_take 8 rfl rfl (by kernel_rfl) (by kernel_rfl) (by kernel_rfl) (fun L0 => v_fieldAddr (q := ⟨k, 0, none⟩) rfl rfl Try.underlying48 rfl ti3 rfl) ?_
          refine h_take 9 rfl rfl (by kernel_rfl) (by kernel_rfl) (by kernel_rfl) (fun L0 => v_load1 rfl rfl Try.underlying3 rfl (rd_mem 0 rfl (sg_arr (sg_in rfl)))) ?_
          refine h_one 4 rfl (by kernel_rfl) ?_
          refine o_call rfl cal39 rfl (rcount (pr := ((rl.tk).set (i).toNat true)) (List.length_set.trans ok_1.lt)) ?_
          rintro _ _ ⟨rfl, rfl⟩
          refine l_nil ?_
          refine h_next ?_
          have hcl := cnt_le (rl.tk.set i.toNat true)
          have hcl2 : (rl.tk.set i.toNat true).length = 9 := by rw [List.length_set]; exact ok_1.lt
          refine h_take 5 rfl rfl (by kernel_rfl) (by kernel_rfl) (by kernel_rfl) (fun L0 => v_bin rfl rfl rfl (b_mul (wrap_i64 (by omega) (by omega)))) ?_
          refine h_take 10 rfl rfl (by kernel_rfl) (by kernel_rfl) (by kernel_rfl) (fun L0 => v_bin rfl rfl rfl b_leq) ?_
          refine h_done (by kernel_rfl) ?_
          refine q_then ?_
          refine c_cond rfl (fun h5 => ?_) (fun h5 => ?_)
          · -- h5T
            have h5b := h5
            try simp only [decide_eq_true_eq, decide_eq_false_iff_not, Bool.not_eq_eq_eq_not, Bool.not_true, Bool.not_false, Bool.not_eq_true', Bool.not_eq_false', Int.not_lt, Int.not_le, Bool.or_eq_true, Bool.and_eq_true] at h5
            refine c_seq ?_
            refine c_region ?_
            refine o_assign rfl rfl ?_
            refine o_assign rfl rfl ?_
            refine l_nil ?_
            refine q_then ?_
            refine c_ret ?_
            refine q_pass_ret ?_
            refine q_conv (L' := RlR k ⟨rl.V, rl.S, rl.pr, (rl.tk).set (i).toNat true, rl.told, rl.off, rl.has⟩ :: _) (fun w S => Sat.obj_mk ⟨a_1, c_1⟩ (by obtain ⟨o1, o2, o3, o4, o5, o6⟩ := ok_1; exact ⟨by (try dsimp only); omega, by (try dsimp only); omega, by (try dsimp only); omega, by (try dsimp only); omega, by (try dsimp only); (try simp only [List.length_set]); first | exact o5 | rfl, by (try dsimp only); (try simp only [List.length_set]); first | exact o6 | rfl⟩) S) ?_
            exact f_ret (r_two rfl rfl rfl) (⟨by grind [RlS.taken, bae], rfl⟩) (by rw [show (rl.taken i sl).2 = ⟨rl.V, rl.S, rl.pr, (rl.tk).set (i).toNat true, rl.told, rl.off, rl.has⟩ from by grind [RlS.taken, bae]]; exact fun w S => S)
          · -- h5F
            have h5b := h5
            try simp only [decide_eq_true_eq, decide_eq_false_iff_not, Bool.not_eq_eq_eq_not, Bool.not_true, Bool.not_false, Bool.not_eq_true', Bool.not_eq_false', Int.not_lt, Int.not_le, Bool.or_eq_true, Bool.and_eq_true] at h5
            refine c_skip ?_
            refine q_then ?_
            refine c_seq ?_
            refine c_region ?_
            refine o_move rfl rfl ?_
            refine o_nil rfl rfl ?_
            refine o_fieldAddr (q := ⟨k, 1, none⟩) rfl rfl Try.underlying48 rfl ti3 rfl ?_
            refine o_load1 rfl rfl Try.underlying3 rfl (rd_mem 0 rfl (sg_arr (sg_in rfl))) ?_
            refine o_bin rfl rfl rfl (b_add (wrap_i64 (by omega) (by omega))) ?_
            refine o_nil rfl rfl ?_
            refine o_fieldAddr (q := ⟨k, 1, none⟩) rfl rfl Try.underlying48 rfl ti3 rfl ?_
            refine o_storeArr rfl rfl rfl ti3 (sz_arr (ln_app (show List.length _ = 2 from rfl) (ln_app (sg_len (s := 1) e_B_ok rfl ok_1.lp rfl) (ln_app (show List.length _ = 3 from rfl) (sg_len (s := 1) e_B_ok rfl (List.length_set.trans ok_1.lt) rfl)))) (by decide)) (st_arr (st_in (show 1 < 2 by decide) rfl)) ?_
            refine l_nil ?_
            refine q_then ?_
            refine c_seq ?_
            refine c_region ?_
            refine o_move rfl rfl ?_
            refine o_nil rfl rfl ?_
            refine o_fieldAddr (q := ⟨k, 12, none⟩) rfl rfl Try.underlying48 rfl ti9 rfl ?_
            refine o_storeArr rfl rfl rfl ti9 (sz_arr (ln_app (show List.length _ = 2 from rfl) (ln_app (sg_len (s := 1) e_B_ok rfl ok_1.lp rfl) (ln_app (show List.length _ = 3 from rfl) (sg_len (s := 1) e_B_ok rfl (List.length_set.trans ok_1.lt) rfl)))) (by decide)) (st_arr (st_skip (j := 10) (show List.length _ = 2 from rfl) rfl (st_skip (j := 1) (sg_len (s := 1) e_B_ok rfl ok_1.lp rfl) rfl (st_in (show 1 < 3 by decide) rfl)))) ?_
            refine l_nil ?_
            refine q_then ?_
            refine c_seq ?_
            refine c_region ?_
            refine o_move rfl rfl ?_
            refine o_nil rfl rfl ?_
            refine o_fieldAddr (q := ⟨k, 13, none⟩) rfl rfl Try.underlying48 rfl ti4 rfl ?_
            refine o_storeArr rfl rfl rfl ti4 (sz_arr (ln_app (show List.length _ = 2 from rfl) (ln_app (sg_len (s := 1) e_B_ok rfl ok_1.lp rfl) (ln_app (show List.length _ = 3 from rfl) (sg_len (s := 1) e_B_ok rfl (List.length_set.trans ok_1.lt) rfl)))) (by decide)) (st_arr (st_skip (j := 11) (show List.length _ = 2 from rfl) rfl (st_skip (j := 2) (sg_len (s := 1) e_B_ok rfl ok_1.lp rfl) rfl (st_in (show 2 < 3 by decide) rfl)))) ?_
            refine l_nil ?_
            refine q_then ?_
            refine c_seq ?_
            refine c_region ?_
            refine o_move rfl rfl ?_
            refine o_buildArr0 rfl Try.underlying46 ti46 ti4 ?_
            refine o_nil rfl rfl ?_
            refine o_fieldAddr (q := ⟨k, 14, none⟩) rfl rfl Try.underlying48 rfl ti46 rfl ?_
            refine o_storeSeg (vs := flat e_B (List.replicate 9 false)) rfl rfl ti46 (sg_len (s := 1) e_B_ok rfl List.length_replicate rfl) (ln_app (show List.length _ = 2 from rfl) (ln_app (sg_len (s := 1) e_B_ok rfl ok_1.lp rfl) (ln_app (show List.length _ = 3 from rfl) (sg_len (s := 1) e_B_ok rfl (List.length_set.trans ok_1.lt) rfl)))) (by decide) (flat_one e_B_ok _) (pn_skip (j := 12) (show List.length _ = 2 from rfl) rfl (pn_skip (j := 3) (sg_len (s := 1) e_B_ok rfl ok_1.lp rfl) rfl (pn_skip (j := 0) (show List.length _ = 3 from rfl) rfl (pn_all (by rw [(sg_len (s := 1) e_B_ok rfl List.length_replicate rfl), (sg_len (s := 1) e_B_ok rfl (List.length_set.trans ok_1.lt) rfl)]))))) ?_
            refine l_nil ?_
            refine q_then ?_
            refine c_seq ?_
            refine c_region ?_
            refine o_move rfl rfl ?_
            refine o_assign rfl rfl ?_
            refine o_assign rfl rfl ?_
            refine l_nil ?_
            refine q_then ?_
            refine c_ret ?_
            refine q_conv (L' := RlR k ⟨rl.V, rl.S + 1, rl.pr, List.replicate 9 false, rl.told, ByteArray.empty, false⟩ :: _) (fun w S => Sat.obj_mk ⟨a_1, c_1⟩ (by obtain ⟨o1, o2, o3, o4, o5, o6⟩ := ok_1; exact ⟨by (try dsimp only); omega, by (try dsimp only); omega, by (try dsimp only); omega, by (try dsimp only); omega, by (try dsimp only); (try simp only [List.length_set]); first | exact o5 | rfl, by (try dsimp only); (try simp only [List.length_set]); first | exact o6 | rfl⟩) S) ?_
            exact f_ret (r_two rfl rfl rfl) (⟨by grind [RlS.taken, bae], rfl⟩) (by rw [show (rl.taken i sl).2 = ⟨rl.V, rl.S + 1, rl.pr, List.replicate 9 false, rl.told, ByteArray.empty, false⟩ from by grind [RlS.taken, bae]]; exact fun w S => S)

theorem rpromised {W : World} {F : List Res} {k : Nat} {rl : RlS} {i : Int} {vs : List (Vt ByteArray)} {a : Option Addr} {c : Nat} (hs : RdS W F eVR a vs) (hB : rl.told.length + vs.length ≤ 1000000) : CS Try.prog 14 #[.pointer (some ⟨k, 0, none⟩), .int .i64 i, .slice a (vs).length c] W (RlR k rl :: F) (fun r L' => r = .tuple #[] ∧ L' = RlR k (rl.promised i vs) :: F) := by
  refine f_door (l0 := [(0, .pointer (some ⟨k, 0, none⟩)), (1, .int .i64 i), (2, .slice a (vs).length c)]) Try.func14 Try.ntmps14 rfl rfl rfl ?_
  refine c_seq ?_
  refine c_seq ?_
  refine c_region ?_
  refine o_move rfl rfl ?_
  refine o_call rfl cal22 rfl (rleads) ?_
  rintro _ _ ⟨rfl, rfl⟩
  refine o_move rfl rfl ?_
  refine l_split (t := 8) rfl (fun h1 => ?_) (fun h1 => ?_)
  · -- h1T
    have h1b := h1
    try simp only [decide_eq_true_eq, decide_eq_false_iff_not, Bool.not_eq_eq_eq_not, Bool.not_true, Bool.not_false, Bool.not_eq_true', Bool.not_eq_false', Int.not_lt, Int.not_le, Bool.or_eq_true, Bool.and_eq_true] at h1
    refine o_no rfl rfl rfl rfl ?_
    refine o_no rfl rfl rfl rfl ?_
    refine o_pick_true rfl rfl rfl ?_
    refine o_move rfl rfl ?_
    refine o_no rfl rfl rfl rfl ?_
    refine o_no rfl rfl rfl rfl ?_
    refine o_no rfl rfl rfl rfl ?_
    refine o_no rfl rfl rfl rfl ?_
    refine o_no rfl rfl rfl rfl ?_
    refine o_no rfl rfl rfl rfl ?_
    refine o_pick_true rfl rfl rfl ?_
    refine o_move rfl rfl ?_
    refine o_no rfl rfl rfl rfl ?_
    refine o_no rfl rfl rfl rfl ?_
    refine o_no rfl rfl rfl rfl ?_
    refine o_no rfl rfl rfl rfl ?_
    refine o_no rfl rfl rfl rfl ?_
    refine o_no rfl rfl rfl rfl ?_
    refine o_pick_true rfl rfl rfl ?_
    refine l_nil ?_
    refine q_then ?_
    refine c_true rfl ?_
    refine c_ret ?_
    refine q_pass_ret ?_
    exact f_ret (r_none rfl) (⟨rfl, rfl⟩) (by rw [show rl.promised i vs = rl from by grind [RlS.promised]]; exact fun w S => S)
  · -- h1F
    have h1b := h1
    try simp only [decide_eq_true_eq, decide_eq_false_iff_not, Bool.not_eq_eq_eq_not, Bool.not_true, Bool.not_false, Bool.not_eq_true', Bool.not_eq_false', Int.not_lt, Int.not_le, Bool.or_eq_true, Bool.and_eq_true] at h1
    refine o_yes rfl rfl rfl ?_
    refine o_move rfl rfl ?_
    refine o_yes rfl rfl rfl ?_
    refine o_bin rfl rfl rfl b_lss ?_
    refine o_pick_false rfl rfl rfl ?_
    refine o_move rfl rfl ?_
    refine l_split (t := 12) rfl (fun h2 => ?_) (fun h2 => ?_)
    · -- h2T
      have h2b := h2
      try simp only [decide_eq_true_eq, decide_eq_false_iff_not, Bool.not_eq_eq_eq_not, Bool.not_true, Bool.not_false, Bool.not_eq_true', Bool.not_eq_false', Int.not_lt, Int.not_le, Bool.or_eq_true, Bool.and_eq_true] at h2
      refine o_no rfl rfl rfl rfl ?_
      refine o_no rfl rfl rfl rfl ?_
      refine o_no rfl rfl rfl rfl ?_
      refine o_no rfl rfl rfl rfl ?_
      refine o_no rfl rfl rfl rfl ?_
      refine o_no rfl rfl rfl rfl ?_
      refine o_pick_true rfl rfl rfl ?_
      refine o_move rfl rfl ?_
      refine o_no rfl rfl rfl rfl ?_
      refine o_no rfl rfl rfl rfl ?_
      refine o_no rfl rfl rfl rfl ?_
      refine o_no rfl rfl rfl rfl ?_
      refine o_no rfl rfl rfl rfl ?_
      refine o_no rfl rfl rfl rfl ?_
      refine o_pick_true rfl rfl rfl ?_
      refine l_nil ?_
      refine q_then ?_
      refine c_true rfl ?_
      refine c_ret ?_
      refine q_pass_ret ?_
      exact f_ret (r_none rfl) (⟨rfl, rfl⟩) (by rw [show rl.promised i vs = rl from by grind [RlS.promised]]; exact fun w S => S)
    · -- h2F
      have h2b := h2
      try simp only [decide_eq_true_eq, decide_eq_false_iff_not, Bool.not_eq_eq_eq_not, Bool.not_true, Bool.not_false, Bool.not_eq_true', Bool.not_eq_false', Int.not_lt, Int.not_le, Bool.or_eq_true, Bool.and_eq_true] at h2
      refine o_yes rfl rfl rfl ?_
      refine o_move rfl rfl ?_
      refine o_yes rfl rfl rfl ?_
      refine o_move rfl rfl ?_
      refine o_yes rfl rfl rfl ?_
      refine o_nil rfl rfl ?_
      refine o_yes rfl rfl rfl ?_
      refine l_obj ?_
      rintro ⟨a_1, c_1⟩ ok_1
      have s0_ok_1 := ok_1.s0
      have s1_ok_1 := ok_1.s1
      have v0_ok_1 := ok_1.v0
      have v1_ok_1 := ok_1.v1
      refine l_conv (L' := blk k (.cells (([.int .i64 rl.V, .int .i64 rl.S] : List Value) ++ ((flat e_B rl.pr) ++ (([.slice a_1 (rl.told).length c_1, .string rl.off, .bool rl.has] : List Value) ++ (flat e_B rl.tk)))).toArray 48 (0, 0)) :: row eVR.T eVR.sz a_1 (rl.told).length c_1 (flat eVR rl.told) :: _) (fun w S => S) ?_
      refine o_fieldAddr (q := ⟨k, 0, none⟩) rfl rfl Try.underlying48 rfl ti3 rfl ?_
      refine o_yes rfl rfl rfl ?_
      refine o_load1 rfl rfl Try.underlying3 rfl (rd_mem 0 rfl (sg_arr (sg_in rfl))) ?_
      refine o_yes rfl rfl rfl ?_
      refine o_bin rfl rfl rfl b_geq ?_
      refine o_pick_false rfl rfl rfl ?_
      refine o_move rfl rfl ?_
      refine l_split (t := 20) rfl (fun h3 => ?_) (fun h3 => ?_)
      · -- h3T
        have h3b := h3
        try simp only [decide_eq_true_eq, decide_eq_false_iff_not, Bool.not_eq_eq_eq_not, Bool.not_true, Bool.not_false, Bool.not_eq_true', Bool.not_eq_false', Int.not_lt, Int.not_le, Bool.or_eq_true, Bool.and_eq_true] at h3
        refine o_no rfl rfl rfl rfl ?_
        refine o_no rfl rfl rfl rfl ?_
        refine o_no rfl rfl rfl rfl ?_
        refine o_no rfl rfl rfl rfl ?_
        refine o_no rfl rfl rfl rfl ?_
        refine o_no rfl rfl rfl rfl ?_
        refine o_pick_true rfl rfl rfl ?_
        refine l_nil ?_
        refine q_then ?_
        refine c_true rfl ?_
        refine c_ret ?_
        refine q_pass_ret ?_
        refine q_conv (L' := RlR k rl :: _) (fun w S => Sat.obj_mk ⟨a_1, c_1⟩ ok_1 S) ?_
        exact f_ret (r_none rfl) (⟨rfl, rfl⟩) (by rw [show rl.promised i vs = rl from by grind [RlS.promised]]; exact fun w S => S)
      · -- h3F
        have h3b := h3
        try simp only [decide_eq_true_eq, decide_eq_false_iff_not, Bool.not_eq_eq_eq_not, Bool.not_true, Bool.not_false, Bool.not_eq_true', Bool.not_eq_false', Int.not_lt, Int.not_le, Bool.or_eq_true, Bool.and_eq_true] at h3
        refine o_yes rfl rfl rfl ?_
        refine o_move rfl rfl ?_
        refine o_yes rfl rfl rfl ?_
        refine o_move rfl rfl ?_
        refine o_yes rfl rfl rfl ?_
        refine o_nil rfl rfl ?_
        refine o_yes rfl rfl rfl ?_
        refine o_fieldAddr (q := ⟨k, 2, none⟩) rfl rfl Try.underlying48 rfl ti46 rfl ?_
        refine o_yes rfl rfl rfl ?_
        refine o_indexArr rfl rfl rfl Try.underlying46 ti4 (by omega) (by omega) (Addr.add_mk _ _ _) ?_
        obtain ⟨x25, hx25⟩ : ∃ x, (rl.pr)[(i).toNat]? = some x := ⟨_, List.getElem?_eq_getElem (by have := ok_1.lp; omega)⟩
        have hx25' : rl.pr[i.toNat]? = some x25 := hx25
        refine o_yes rfl rfl rfl ?_
        refine o_load1 rfl rfl Try.underlying4 rfl (rd_mem 0 rfl (sg_arr (sg_skip (j := (i).toNat * 1 + 0) (show List.length _ = 2 from rfl) (by omega) (sg_in (sg_flat (s := 1) (o := 0) e_B_ok rfl hx25 rfl rfl))))) ?_
        refine o_pick_false rfl rfl rfl ?_
        refine l_nil ?_
        refine q_then ?_
        refine c_cond rfl (fun h4 => ?_) (fun h4 => ?_)
        · -- h4T
          have h4b := h4
          try simp only [decide_eq_true_eq, decide_eq_false_iff_not, Bool.not_eq_eq_eq_not, Bool.not_true, Bool.not_false, Bool.not_eq_true', Bool.not_eq_false', Int.not_lt, Int.not_le, Bool.or_eq_true, Bool.and_eq_true] at h4
          refine c_ret ?_
          refine q_pass_ret ?_
          refine q_conv (L' := RlR k rl :: _) (fun w S => Sat.obj_mk ⟨a_1, c_1⟩ ok_1 S) ?_
          exact f_ret (r_none rfl) (⟨rfl, rfl⟩) (by rw [show rl.promised i vs = rl from by grind [RlS.promised]]; exact fun w S => S)
        · -- h4F
          have h4b := h4
          try simp only [decide_eq_true_eq, decide_eq_false_iff_not, Bool.not_eq_eq_eq_not, Bool.not_true, Bool.not_false, Bool.not_eq_true', Bool.not_eq_false', Int.not_lt, Int.not_le, Bool.or_eq_true, Bool.and_eq_true] at h4
          refine c_skip ?_
          refine q_then ?_
          refine c_seq ?_
          refine c_region ?_
          refine o_move rfl rfl ?_
          refine o_move rfl rfl ?_
          refine o_nil rfl rfl ?_
          refine o_fieldAddr (q := ⟨k, 2, none⟩) rfl rfl Try.underlying48 rfl ti46 rfl ?_
          refine o_indexArr rfl rfl rfl Try.underlying46 ti4 (by omega) (by omega) (Addr.add_mk _ _ _) ?_
          obtain ⟨x32, hx32⟩ : ∃ x, (rl.pr)[(i).toNat]? = some x := ⟨_, List.getElem?_eq_getElem (by have := ok_1.lp; omega)⟩
          refine o_storeArr rfl rfl rfl ti4 (sz_arr (ln_app (show List.length _ = 2 from rfl) (ln_app (sg_len (s := 1) e_B_ok rfl ok_1.lp rfl) (ln_app (show List.length _ = 3 from rfl) (sg_len (s := 1) e_B_ok rfl ok_1.lt rfl)))) (by omega)) (st_arr (st_skip (j := (i).toNat * 1 + 0) (show List.length _ = 2 from rfl) (by omega) (st_in (by rw [(sg_len (s := 1) e_B_ok rfl ok_1.lp rfl)]; omega) (st_flat (s := 1) (o := 0) (y := true) e_B_ok rfl hx32 (by decide) rfl rfl)))) ?_
          refine l_nil ?_
          refine q_then ?_
          refine c_region ?_
          refine o_move rfl rfl ?_
          refine o_lit eVR_ok rfl Try.underlying32 rfl rfl rfl (lit_ok rfl) ([] : List (Vt ByteArray)) rfl rfl fun a34 => ?_
          refine o_move rfl rfl ?_
          refine o_nil rfl rfl ?_
          refine o_fieldAddr (q := ⟨k, 11, none⟩) rfl rfl Try.underlying48 rfl ti32 rfl ?_
          refine o_load1 rfl rfl Try.underlying32 rfl (rd_mem 1 rfl (sg_arr (sg_skip (j := 9) (show List.length _ = 2 from rfl) rfl (sg_skip (j := 0) (sg_len (s := 1) e_B_ok rfl (List.length_set.trans ok_1.lp) rfl) rfl (sg_in rfl))))) ?_
          refine o_append eVR_ok rfl rfl rfl Try.underlying32 (rds_own eVR_ok 2 rfl) (by show (_ + _) * 32 ≤ _; (try simp only [List.length_append, List.length_cons, List.length_nil]); omega) (by (try simp only [List.length_append, List.length_cons, List.length_nil]); omega) fun a39 c39 => ?_
          refine o_move rfl rfl ?_
          refine o_append eVR_ok rfl rfl rfl Try.underlying32 (rds_c (rds_c (rds_c hs))) (by show (_ + _) * 32 ≤ _; (try simp only [List.length_append, List.length_cons, List.length_nil]); omega) (by (try simp only [List.length_append, List.length_cons, List.length_nil]); omega) fun a41 c41 => ?_
          refine o_nil rfl rfl ?_
          refine o_fieldAddr (q := ⟨k, 11, none⟩) rfl rfl Try.underlying48 rfl ti32 rfl ?_
          refine l_f1 ?_
          refine o_storeArr rfl rfl rfl ti32 (sz_arr (ln_app (show List.length _ = 2 from rfl) (ln_app (sg_len (s := 1) e_B_ok rfl (List.length_set.trans ok_1.lp) rfl) (ln_app (show List.length _ = 3 from rfl) (sg_len (s := 1) e_B_ok rfl ok_1.lt rfl)))) (by decide)) (st_arr (st_skip (j := 9) (show List.length _ = 2 from rfl) rfl (st_skip (j := 0) (sg_len (s := 1) e_B_ok rfl (List.length_set.trans ok_1.lp) rfl) rfl (st_in (show 0 < 3 by decide) rfl)))) ?_
          refine l_nil ?_
          refine q_conv (L' := RlR k ⟨rl.V, rl.S, (rl.pr).set (i).toNat true, rl.tk, ([] : List (Vt ByteArray)) ++ rl.told ++ vs, rl.off, rl.has⟩ :: _) (fun w S => Sat.obj_mk ⟨a41, c41⟩ (by obtain ⟨o1, o2, o3, o4, o5, o6⟩ := ok_1; exact ⟨by (try dsimp only); omega, by (try dsimp only); omega, by (try dsimp only); omega, by (try dsimp only); omega, by (try dsimp only); (try simp only [List.length_set]); first | exact o5 | rfl, by (try dsimp only); (try simp only [List.length_set]); first | exact o6 | rfl⟩) S) ?_
          refine q_conv (fun w S => (S.perm p1).tail) ?_
          exact f_end (r_none rfl) (⟨rfl, rfl⟩) (by rw [show rl.promised i vs = ⟨rl.V, rl.S, (rl.pr).set (i).toNat true, rl.tk, ([] : List (Vt ByteArray)) ++ rl.told ++ vs, rl.off, rl.has⟩ from by grind [RlS.promised]]; exact fun w S => S)

theorem votes_ {W : World} {F : List Res} {vs : List (Vt ByteArray)} {a : Option Addr} {c : Nat} (hs : RdS W F eVR a vs) (hn : vs.length ≤ 100) : CS Try.prog 12 #[.slice a vs.length c] W (F) (fun r L' => ∃ (a' : Option Addr) (c' : Nat), r = .slice a' vs.length c' ∧ L' = row eVS.T eVS.sz a' vs.length c' (flat eVS vs) :: F) := by
  refine f_door (l0 := [(0, .slice a vs.length c)]) Try.func12 Try.ntmps12 rfl rfl rfl ?_
  refine c_seq ?_
  refine c_region ?_
  refine o_assign rfl rfl ?_
  refine l_nil ?_
  refine q_then ?_
  refine c_seq ?_
  refine c_region ?_
  refine o_lit eVS_ok rfl Try.underlying35 rfl rfl rfl (lit_ok rfl) ([] : List (Vt ByteArray)) rfl rfl fun a6 => ?_
  refine o_assign rfl rfl ?_
  refine l_nil ?_
  refine q_then ?_
  refine c_seq ?_
  refine c_seq ?_
  refine c_region ?_
  refine o_move rfl rfl ?_
  refine o_len rfl rfl Try.underlying32 ?_
  refine o_move rfl rfl ?_
  refine l_nil ?_
  refine q_then ?_
  refine c_block ?_
  refine c_loop (α := Nat × (List (Vt ByteArray)) × (Option Addr) × Nat) (fun z => [(3, .slice z.2.2.1 (z.2.1).length z.2.2.2), (7, .slice a (vs).length c), (8, .int .i64 ((vs).length : Int)), (9, .int .i64 (z.1 : Int))]) (fun z => row eVS.T eVS.sz z.2.2.1 (z.2.1).length z.2.2.2 (flat eVS z.2.1) :: F) (fun z => vs.take z.1 = z.2.1 ∧ z.1 ≤ vs.length ∧ z.2.1.length = z.1) (fun z => vs.length - z.1) (0, [], a6, 0) (by exact ⟨rfl, Nat.zero_le _, rfl⟩) ⟨(by first | rfl | exact vint (by omega)), (by first | rfl | exact vint (by omega)), (by first | rfl | exact vint (by omega)), (by first | rfl | exact vint (by omega)), trivial⟩ (fun w S => S) ?_
  rintro ⟨j, ys, a3, c3⟩ ⟨hys, hj, hyl⟩
  try dsimp only at *
  refine c_seq ?_
  refine c_region ?_
  refine o_bin rfl rfl rfl b_lss ?_
  refine l_nil ?_
  refine q_then ?_
  refine c_seq ?_
  refine c_cond rfl (fun h1 => ?_) (fun h1 => ?_)
  · -- h1T
    have h1b := h1
    try simp only [decide_eq_true_eq, decide_eq_false_iff_not, Bool.not_eq_eq_eq_not, Bool.not_true, Bool.not_false, Bool.not_eq_true', Bool.not_eq_false', Int.not_lt, Int.not_le, Bool.or_eq_true, Bool.and_eq_true] at h1
    refine c_skip ?_
    refine q_then ?_
    refine c_seq ?_
    refine c_block ?_
    refine c_seq ?_
    refine c_region ?_
    refine o_index eVR_ok rfl rfl rfl Try.underlying32 (by omega) (by omega) (rds_c hs) fun ad11 ead11 => ?_
    obtain ⟨x11, hx11⟩ : ∃ x, (vs)[((j : Int)).toNat]? = some x := ⟨_, List.getElem?_eq_getElem (by omega)⟩
    refine o_loadn (vs := eVR.cells x11) rfl rfl Try.underlying86 rfl ti86 (rdn_sl eVR_ok ead11 (rds_c hs) hx11) ?_
    refine o_alloc rfl ti86 fun b5 => ?_
    refine o_storen rfl rfl ti86 rfl rfl rfl rfl ?_
    refine l_nil ?_
    refine q_then ?_
    refine c_region ?_
    refine o_move rfl rfl ?_
    refine o_fieldAddr (q := ⟨b5, 0, none⟩) rfl rfl Try.underlying86 rfl ti3 rfl ?_
    refine o_load1 rfl rfl Try.underlying3 rfl (rd_mem 0 rfl rfl) ?_
    refine o_fieldAddr (q := ⟨b5, 1, none⟩) rfl rfl Try.underlying86 rfl ti29 rfl ?_
    refine o_load1 rfl rfl Try.underlying29 rfl (rd_mem 0 rfl rfl) ?_
    refine o_fieldAddr (q := ⟨b5, 2, none⟩) rfl rfl Try.underlying86 rfl ti9 rfl ?_
    refine o_load1 rfl rfl Try.underlying9 rfl (rd_mem 0 rfl rfl) ?_
    refine o_build rfl sp40 ti40 rfl ((fill_cons rfl rfl rfl rfl (fill_cons rfl rfl rfl rfl (fill_cons rfl rfl rfl rfl fill_nil)))) ?_
    refine o_lit eVS_ok rfl Try.underlying35 rfl rfl rfl (lit_ok rfl) [x11] rfl rfl fun a21 => ?_
    refine l_f2 ?_
    refine o_append eVS_ok rfl rfl rfl Try.underlying35 (rds_own eVS_ok 1 rfl) (by show (_ + _) * 32 ≤ _; (try simp only [List.length_append, List.length_cons, List.length_nil]); omega) (by (try simp only [List.length_append, List.length_cons, List.length_nil]); omega) fun a22 c22 => ?_
    refine l_f1 ?_
    refine l_drop ?_
    refine o_assign rfl rfl ?_
    refine l_nil ?_
    refine q_block ?_
    refine q_then ?_
    refine c_region ?_
    refine o_bin rfl rfl rfl (b_add (wrap_i64 (by omega) (by omega))) ?_
    refine o_move rfl rfl ?_
    refine l_nil ?_
    refine q_conv (fun w S => (S.perm p1).tail) ?_
    exact q_round (j + 1, ys ++ [x11], a22, c22) (by have hx9 : vs[j]? = some x11 := hx11; exact ⟨by rw [List.take_add_one, hx9, hys]; rfl, by omega, by simp [hyl]⟩) (by (try dsimp only); omega) ⟨(by first | rfl | exact vint (by omega)), (by first | rfl | exact vint (by omega)), (by first | rfl | exact vint (by omega)), (by first | rfl | exact vint (by omega)), trivial⟩ (fun w S => S)
  · -- h1F
    have h1b := h1
    try simp only [decide_eq_true_eq, decide_eq_false_iff_not, Bool.not_eq_eq_eq_not, Bool.not_true, Bool.not_false, Bool.not_eq_true', Bool.not_eq_false', Int.not_lt, Int.not_le, Bool.or_eq_true, Bool.and_eq_true] at h1
    refine c_exit ?_
    refine q_pass_exit ?_
    refine q_pass_exit ?_
    refine q_hit ?_
    refine q_then ?_
    refine c_seq ?_
    refine c_region ?_
    refine o_move rfl rfl ?_
    refine o_assign rfl rfl ?_
    refine l_nil ?_
    refine q_then ?_
    refine c_ret ?_
    exact f_ret (r_one rfl rfl) (⟨a3, c3, by rw [← hys, show j = vs.length by omega, List.take_length], by rw [show ys = vs by rw [← hys, show j = vs.length by omega, List.take_length]]⟩) (fun w S => S)

end Go.Proofs.Ytakjmdeckngnlaa
