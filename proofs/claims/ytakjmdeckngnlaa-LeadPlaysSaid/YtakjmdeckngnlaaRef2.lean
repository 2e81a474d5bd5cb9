/- Printed by eng2.py out of 12/spec.py. -/
import Derived.Test.YtakjmdeckngnlaaRef1
set_option linter.unusedVariables false
set_option linter.unusedSimpArgs false
set_option maxRecDepth 10000
namespace Go.Proofs.Ytakjmdeckngnlaa
open Go.RowKit
theorem rnew {W : World} {F : List Res} {v f : Int} : CS Try.prog 11 #[.int .i64 v, .int .i64 f] W (F) (fun r L' => ∃ p : Value, r = p ∧ ((p = .pointer none ∧ ¬ (1 ≤ v ∧ v ≤ 9 ∧ 0 ≤ f ∧ f ≤ 64) ∧ L' = F) ∨ ∃ k, p = .pointer (some ⟨k, 0, none⟩) ∧ (1 ≤ v ∧ v ≤ 9 ∧ 0 ≤ f ∧ f ≤ 64) ∧ L' = RlR k (rlNew v f) :: F)) := by
  refine f_door (l0 := [(0, .int .i64 v), (1, .int .i64 f)]) Try.func11 Try.ntmps11 rfl rfl rfl ?_
  refine c_seq ?_
  refine c_region ?_
  refine o_assign rfl rfl ?_
  refine l_nil ?_
  refine q_then ?_
  refine c_seq ?_
  refine c_seq ?_
  refine c_region ?_
  refine o_move rfl rfl ?_
  refine o_bin rfl rfl rfl b_lss ?_
  refine o_move rfl rfl ?_
  refine l_split (t := 7) rfl (fun h1 => ?_) (fun h1 => ?_)
  · -- h1T
    have h1b := h1
    try simp only [decide_eq_true_eq, decide_eq_false_iff_not, Bool.not_eq_eq_eq_not, Bool.not_true, Bool.not_false, Bool.not_eq_true', Bool.not_eq_false', Int.not_lt, Int.not_le, Bool.or_eq_true, Bool.and_eq_true] at h1
    refine o_no rfl rfl rfl rfl ?_
    refine o_no rfl rfl rfl rfl ?_
    refine o_pick_true rfl rfl rfl ?_
    refine o_move rfl rfl ?_
    refine o_no rfl rfl rfl rfl ?_
    refine o_no rfl rfl rfl rfl ?_
    refine o_pick_true rfl rfl rfl ?_
    refine o_move rfl rfl ?_
    refine o_no rfl rfl rfl rfl ?_
    refine o_no rfl rfl rfl rfl ?_
    refine o_pick_true rfl rfl rfl ?_
    refine l_nil ?_
    refine q_then ?_
    refine c_true rfl ?_
    refine c_seq ?_
    refine c_region ?_
    refine o_assign rfl rfl ?_
    refine l_nil ?_
    refine q_then ?_
    refine c_ret ?_
    refine q_pass_ret ?_
    exact f_ret (r_one rfl rfl) (⟨.pointer none, rfl, .inl ⟨rfl, by omega, rfl⟩⟩) (fun w S => S)
  · -- h1F
    have h1b := h1
    try simp only [decide_eq_true_eq, decide_eq_false_iff_not, Bool.not_eq_eq_eq_not, Bool.not_true, Bool.not_false, Bool.not_eq_true', Bool.not_eq_false', Int.not_lt, Int.not_le, Bool.or_eq_true, Bool.and_eq_true] at h1
    refine o_yes rfl rfl rfl ?_
    refine o_move rfl rfl ?_
    refine o_yes rfl rfl rfl ?_
    refine o_bin rfl rfl rfl b_gtr ?_
    refine o_pick_false rfl rfl rfl ?_
    refine o_move rfl rfl ?_
    refine l_split (t := 11) rfl (fun h2 => ?_) (fun h2 => ?_)
    · -- h2T
      have h2b := h2
      try simp only [decide_eq_true_eq, decide_eq_false_iff_not, Bool.not_eq_eq_eq_not, Bool.not_true, Bool.not_false, Bool.not_eq_true', Bool.not_eq_false', Int.not_lt, Int.not_le, Bool.or_eq_true, Bool.and_eq_true] at h2
      refine o_no rfl rfl rfl rfl ?_
      refine o_no rfl rfl rfl rfl ?_
      refine o_pick_true rfl rfl rfl ?_
      refine o_move rfl rfl ?_
      refine o_no rfl rfl rfl rfl ?_
      refine o_no rfl rfl rfl rfl ?_
      refine o_pick_true rfl rfl rfl ?_
      refine l_nil ?_
      refine q_then ?_
      refine c_true rfl ?_
      refine c_seq ?_
      refine c_region ?_
      refine o_assign rfl rfl ?_
      refine l_nil ?_
      refine q_then ?_
      refine c_ret ?_
      refine q_pass_ret ?_
      exact f_ret (r_one rfl rfl) (⟨.pointer none, rfl, .inl ⟨rfl, by omega, rfl⟩⟩) (fun w S => S)
    · -- h2F
      have h2b := h2
      try simp only [decide_eq_true_eq, decide_eq_false_iff_not, Bool.not_eq_eq_eq_not, Bool.not_true, Bool.not_false, Bool.not_eq_true', Bool.not_eq_false', Int.not_lt, Int.not_le, Bool.or_eq_true, Bool.and_eq_true] at h2
      refine o_yes rfl rfl rfl ?_
      refine o_move rfl rfl ?_
      refine o_yes rfl rfl rfl ?_
      refine o_bin rfl rfl rfl b_lss ?_
      refine o_pick_false rfl rfl rfl ?_
      refine o_move rfl rfl ?_
      refine l_split (t := 15) rfl (fun h3 => ?_) (fun h3 => ?_)
      · -- h3T
        have h3b := h3
        try simp only [decide_eq_true_eq, decide_eq_false_iff_not, Bool.not_eq_eq_eq_not, Bool.not_true, Bool.not_false, Bool.not_eq_true', Bool.not_eq_false', Int.not_lt, Int.not_le, Bool.or_eq_true, Bool.and_eq_true] at h3
        refine o_no rfl rfl rfl rfl ?_
        refine o_no rfl rfl rfl rfl ?_
        refine o_pick_true rfl rfl rfl ?_
        refine l_nil ?_
        refine q_then ?_
        refine c_true rfl ?_
        refine c_seq ?_
        refine c_region ?_
        refine o_assign rfl rfl ?_
        refine l_nil ?_
        refine q_then ?_
        refine c_ret ?_
        refine q_pass_ret ?_
        exact f_ret (r_one rfl rfl) (⟨.pointer none, rfl, .inl ⟨rfl, by omega, rfl⟩⟩) (fun w S => S)
      · -- h3F
        have h3b := h3
        try simp only [decide_eq_true_eq, decide_eq_false_iff_not, Bool.not_eq_eq_eq_not, Bool.not_true, Bool.not_false, Bool.not_eq_true', Bool.not_eq_false', Int.not_lt, Int.not_le, Bool.or_eq_true, Bool.and_eq_true] at h3
        refine o_yes rfl rfl rfl ?_
        refine o_move rfl rfl ?_
        refine o_yes rfl rfl rfl ?_
        refine o_bin rfl rfl rfl b_gtr ?_
        refine o_pick_false rfl rfl rfl ?_
        refine l_nil ?_
        refine q_then ?_
        refine c_cond rfl (fun h4 => ?_) (fun h4 => ?_)
        · -- h4T
          have h4b := h4
          try simp only [decide_eq_true_eq, decide_eq_false_iff_not, Bool.not_eq_eq_eq_not, Bool.not_true, Bool.not_false, Bool.not_eq_true', Bool.not_eq_false', Int.not_lt, Int.not_le, Bool.or_eq_true, Bool.and_eq_true] at h4
          refine c_seq ?_
          refine c_region ?_
          refine o_assign rfl rfl ?_
          refine l_nil ?_
          refine q_then ?_
          refine c_ret ?_
          refine q_pass_ret ?_
          exact f_ret (r_one rfl rfl) (⟨.pointer none, rfl, .inl ⟨rfl, by omega, rfl⟩⟩) (fun w S => S)
        · -- h4F
          have h4b := h4
          try simp only [decide_eq_true_eq, decide_eq_false_iff_not, Bool.not_eq_eq_eq_not, Bool.not_true, Bool.not_false, Bool.not_eq_true', Bool.not_eq_false', Int.not_lt, Int.not_le, Bool.or_eq_true, Bool.and_eq_true] at h4
          refine c_skip ?_
          refine q_then ?_
          refine c_seq ?_
          refine c_region ?_
          refine o_move rfl rfl ?_
          refine o_move rfl rfl ?_
          refine o_build rfl sp48 ti48 rfl ((fill_cons rfl rfl rfl rfl (fill_cons rfl rfl rfl rfl fill_nil))) ?_
          refine o_box rfl rfl fun b22 => ?_
          refine o_assign rfl rfl ?_
          refine l_nil ?_
          refine q_then ?_
          refine c_ret ?_
          refine q_nilrow eVR ?_
          refine q_conv (fun w S => S.perm p1) ?_
          exact f_ret (r_one rfl rfl) (⟨.pointer (some ⟨b22, 0, none⟩), rfl, .inr ⟨b22, rfl, by omega, rfl⟩⟩) (fun w S => Sat.obj_mk (⟨none, 0⟩) (⟨by simp only [rlNew]; omega, by simp only [rlNew]; omega, by simp only [rlNew]; omega, by simp only [rlNew]; omega, rfl, rfl⟩) S)

theorem rvalue {W : World} {F : List Res} {k : Nat} {rl : RlS} : CS Try.prog 20 #[.pointer (some ⟨k, 0, none⟩)] W (RlR k rl :: F) (fun r L' => r = .tuple #[.string rl.value.1, .bool rl.value.2] ∧ L' = RlR k rl :: F) := by
  refine f_door (l0 := [(0, .pointer (some ⟨k, 0, none⟩))]) Try.func20 Try.ntmps20 rfl rfl rfl ?_
  refine c_seq ?_
  refine c_region ?_
  refine o_assign rfl rfl ?_
  refine o_assign rfl rfl ?_
  refine l_nil ?_
  refine q_then ?_
  refine c_seq ?_
  refine c_seq ?_
  refine c_region ?_
  refine o_move rfl rfl ?_
  refine o_call rfl cal22 rfl (rleads) ?_
  rintro _ _ ⟨rfl, rfl⟩
  refine o_not rfl rfl ?_
  refine o_move rfl rfl ?_
  refine l_split (t := 11) rfl (fun h1 => ?_) (fun h1 => ?_)
  · -- h1T
    have h1b := h1
    try simp only [decide_eq_true_eq, decide_eq_false_iff_not, Bool.not_eq_eq_eq_not, Bool.not_true, Bool.not_false, Bool.not_eq_true', Bool.not_eq_false', Int.not_lt, Int.not_le, Bool.or_eq_true, Bool.and_eq_true] at h1
    refine o_no rfl rfl rfl rfl ?_
    refine o_no rfl rfl rfl rfl ?_
    refine o_no rfl rfl rfl rfl ?_
    refine o_no rfl rfl rfl rfl ?_
    refine o_no rfl rfl rfl rfl ?_
    refine o_pick_true rfl rfl rfl ?_
    refine l_nil ?_
    refine q_then ?_
    refine c_true rfl ?_
    refine c_seq ?_
    refine c_region ?_
    refine o_assign rfl rfl ?_
    refine o_assign rfl rfl ?_
    refine l_nil ?_
    refine q_then ?_
    refine c_ret ?_
    refine q_pass_ret ?_
    have hv : rl.value = (ByteArray.empty, false) := by (try rw [bae]); unfold RlS.value RlS.best; first | (simp [*]; done) | grind
    exact f_ret (r_two rfl rfl rfl) (⟨(by rw [hv] <;> rfl), rfl⟩) (fun w S => S)
  · -- h1F
    have h1b := h1
    try simp only [decide_eq_true_eq, decide_eq_false_iff_not, Bool.not_eq_eq_eq_not, Bool.not_true, Bool.not_false, Bool.not_eq_true', Bool.not_eq_false', Int.not_lt, Int.not_le, Bool.or_eq_true, Bool.and_eq_true] at h1
    refine o_yes rfl rfl rfl ?_
    refine o_move rfl rfl ?_
    refine o_yes rfl rfl rfl ?_
    refine o_nil rfl rfl ?_
    refine o_yes rfl rfl rfl ?_
    refine l_obj ?_
    rintro ⟨a_1, c_1⟩ ok_1
    have s0_ok_1 := ok_1.s0
    have s1_ok_1 := ok_1.s1
    have v0_ok_1 := ok_1.v0
    have v1_ok_1 := ok_1.v1
    refine l_conv (L' := blk k (.cells (([.int .i64 rl.V, .int .i64 rl.S] : List Value) ++ ((flat e_B rl.pr) ++ (([.slice a_1 (rl.told).length c_1, .string rl.off, .bool rl.has] : List Value) ++ (flat e_B rl.tk)))).toArray 48 (0, 0)) :: row eVR.T eVR.sz a_1 (rl.told).length c_1 (flat eVR rl.told) :: _) (fun w S => S) ?_
    refine o_fieldAddr (q := ⟨k, 1, none⟩) rfl rfl Try.underlying48 rfl ti3 rfl ?_
    refine o_yes rfl rfl rfl ?_
    refine o_load1 rfl rfl Try.underlying3 rfl (rd_mem 0 rfl (sg_arr (sg_in rfl))) ?_
    refine o_yes rfl rfl rfl ?_
    refine o_bin rfl rfl rfl b_gtr ?_
    refine o_pick_false rfl rfl rfl ?_
    refine l_nil ?_
    refine q_then ?_
    refine c_cond rfl (fun h2 => ?_) (fun h2 => ?_)
    · -- h2T
      have h2b := h2
      try simp only [decide_eq_true_eq, decide_eq_false_iff_not, Bool.not_eq_eq_eq_not, Bool.not_true, Bool.not_false, Bool.not_eq_true', Bool.not_eq_false', Int.not_lt, Int.not_le, Bool.or_eq_true, Bool.and_eq_true] at h2
      refine c_seq ?_
      refine c_region ?_
      refine o_assign rfl rfl ?_
      refine o_assign rfl rfl ?_
      refine l_nil ?_
      refine q_then ?_
      refine c_ret ?_
      refine q_pass_ret ?_
      have hv : rl.value = (ByteArray.empty, false) := by (try rw [bae]); unfold RlS.value RlS.best; first | (simp [*]; done) | grind
      refine q_conv (L' := RlR k rl :: _) (fun w S => Sat.obj_mk ⟨a_1, c_1⟩ ok_1 S) ?_
      exact f_ret (r_two rfl rfl rfl) (⟨(by rw [hv] <;> rfl), rfl⟩) (fun w S => S)
    · -- h2F
      have h2b := h2
      try simp only [decide_eq_true_eq, decide_eq_false_iff_not, Bool.not_eq_eq_eq_not, Bool.not_true, Bool.not_false, Bool.not_eq_true', Bool.not_eq_false', Int.not_lt, Int.not_le, Bool.or_eq_true, Bool.and_eq_true] at h2
      refine c_skip ?_
      refine q_then ?_
      refine c_seq ?_
      refine c_region ?_
      refine o_build rfl sp86 ti86 rfl rfl ?_
      refine o_alloc rfl ti86 fun b4 => ?_
      refine o_storen rfl rfl ti86 rfl rfl rfl rfl ?_
      refine o_assign rfl rfl ?_
      refine l_nil ?_
      refine q_then ?_
      refine c_seq ?_
      refine c_seq ?_
      refine c_fact (row_len 2 rfl) ?_
      intro hlen
      refine c_region ?_
      refine o_assign rfl rfl ?_
      refine l_nil ?_
      refine q_then ?_
      refine c_block ?_
      refine c_loop (α := Nat × (Vt ByteArray × Bool)) (fun z => [(0, .pointer (some ⟨k, 0, none⟩)), (4, .pointer (some ⟨b4, 0, none⟩)), (5, .bool z.2.2), (6, .int .i64 (z.1 : Int))]) (fun z => blk b4 (.cells #[.int .i64 z.2.1.Slot, .int .u64 z.2.1.Ballot, .string z.2.1.Value] 86 (0, 0)) :: blk k (.cells (([.int .i64 rl.V, .int .i64 rl.S] : List Value) ++ ((flat e_B rl.pr) ++ (([.slice a_1 (rl.told).length c_1, .string rl.off, .bool rl.has] : List Value) ++ (flat e_B rl.tk)))).toArray 48 (0, 0)) :: row eVR.T eVR.sz a_1 (rl.told).length c_1 (flat eVR rl.told) :: F) (fun z => z.2 = (rl.told.take z.1).foldl (bst rl.S) (z0V, false) ∧ z.1 ≤ rl.told.length) (fun z => rl.told.length - z.1) (0, (z0V, false)) (by exact ⟨rfl, Nat.zero_le _⟩) ⟨(by first | rfl | exact vint (by omega)), (by first | rfl | exact vint (by omega)), (by first | rfl | exact vint (by omega)), (by first | rfl | exact vint (by omega)), trivial⟩ (fun w S => S) ?_
      rintro ⟨j, ac⟩ ⟨hac, hj⟩
      try dsimp only at *
      refine c_seq ?_
      refine c_seq ?_
      refine c_region ?_
      refine o_move rfl rfl ?_
      refine o_move rfl rfl ?_
      refine o_nil rfl rfl ?_
      refine o_fieldAddr (q := ⟨k, 11, none⟩) rfl rfl Try.underlying48 rfl ti32 rfl ?_
      refine o_load1 rfl rfl Try.underlying32 rfl (rd_mem 1 rfl (sg_arr (sg_skip (j := 9) (show List.length _ = 2 from rfl) rfl (sg_skip (j := 0) (sg_len (s := 1) e_B_ok rfl ok_1.lp rfl) rfl (sg_in rfl))))) ?_
      refine o_len rfl rfl Try.underlying32 ?_
      refine o_bin rfl rfl rfl b_lss ?_
      refine l_nil ?_
      refine q_then ?_
      refine c_cond rfl (fun h3 => ?_) (fun h3 => ?_)
      · -- h3T
        have h3b := h3
        try simp only [decide_eq_true_eq, decide_eq_false_iff_not, Bool.not_eq_eq_eq_not, Bool.not_true, Bool.not_false, Bool.not_eq_true', Bool.not_eq_false', Int.not_lt, Int.not_le, Bool.or_eq_true, Bool.and_eq_true] at h3
        refine c_skip ?_
        refine q_then ?_
        refine c_seq ?_
        refine c_block ?_
        refine c_seq ?_
        refine c_region ?_
        refine o_move rfl rfl ?_
        refine o_nil rfl rfl ?_
        refine o_fieldAddr (q := ⟨k, 11, none⟩) rfl rfl Try.underlying48 rfl ti32 rfl ?_
        refine o_load1 rfl rfl Try.underlying32 rfl (rd_mem 1 rfl (sg_arr (sg_skip (j := 9) (show List.length _ = 2 from rfl) rfl (sg_skip (j := 0) (sg_len (s := 1) e_B_ok rfl ok_1.lp rfl) rfl (sg_in rfl))))) ?_
        refine o_move rfl rfl ?_
        refine o_index eVR_ok rfl rfl rfl Try.underlying32 (by omega) (by omega) (rds_own eVR_ok 2 rfl) fun ad33 ead33 => ?_
        obtain ⟨x33, hx33⟩ : ∃ x, (rl.told)[((j : Int)).toNat]? = some x := ⟨_, List.getElem?_eq_getElem (by omega)⟩
        refine o_loadn (vs := eVR.cells x33) rfl rfl Try.underlying86 rfl ti86 (rdn_sl eVR_ok ead33 (rds_own eVR_ok 2 rfl) hx33) ?_
        refine o_alloc rfl ti86 fun b7 => ?_
        refine o_storen rfl rfl ti86 rfl rfl rfl rfl ?_
        refine l_nil ?_
        refine q_then ?_
        refine c_seq ?_
        refine c_quiet (by kernel_rfl) (by kernel_rfl) ?_
        refine Qt.o_val rfl (v_fieldAddr (q := ⟨b7, 0, none⟩) rfl rfl Try.underlying86 rfl ti3 rfl) ?_
        refine Qt.o_val rfl (v_load1 rfl rfl Try.underlying3 rfl (rd_mem 0 rfl rfl)) ?_
        refine Qt.o_val rfl (v_move rfl rfl) ?_
        refine Qt.o_val rfl (v_nil rfl rfl) ?_
        refine Qt.o_val rfl (v_fieldAddr (q := ⟨k, 1, none⟩) rfl rfl Try.underlying48 rfl ti3 rfl) ?_
        refine Qt.o_val rfl (v_load1 rfl rfl Try.underlying3 rfl (rd_mem 2 rfl (sg_arr (sg_in rfl)))) ?_
        refine Qt.o_val rfl (v_bin rfl rfl rfl b_eql) ?_
        refine Qt.o_val rfl (v_move rfl rfl) ?_
        refine Qt.l_split (t := 42) rfl (fun h4 => ?_) (fun h4 => ?_)
        · -- h4T
          have h4b := h4
          try simp only [decide_eq_true_eq, decide_eq_false_iff_not, Bool.not_eq_eq_eq_not, Bool.not_true, Bool.not_false, Bool.not_eq_true', Bool.not_eq_false', Int.not_lt, Int.not_le, Bool.or_eq_true, Bool.and_eq_true] at h4
          refine Qt.o_yes rfl rfl rfl ?_
          refine Qt.o_val rfl (v_move rfl rfl) ?_
          refine Qt.o_yes rfl rfl rfl ?_
          refine Qt.o_val rfl (v_not rfl rfl) ?_
          refine Qt.o_yes rfl rfl rfl ?_
          refine Qt.o_val rfl (v_move rfl rfl) ?_
          refine Qt.l_split (t := 45) rfl (fun h5 => ?_) (fun h5 => ?_)
          · -- h5T
            have h5b := h5
            try simp only [decide_eq_true_eq, decide_eq_false_iff_not, Bool.not_eq_eq_eq_not, Bool.not_true, Bool.not_false, Bool.not_eq_true', Bool.not_eq_false', Int.not_lt, Int.not_le, Bool.or_eq_true, Bool.and_eq_true] at h5
            refine Qt.o_no rfl rfl rfl rfl ?_
            refine Qt.o_no rfl rfl rfl rfl ?_
            refine Qt.o_no rfl rfl rfl rfl ?_
            refine Qt.o_no rfl rfl rfl rfl ?_
            refine Qt.o_no rfl rfl rfl rfl ?_
            refine Qt.o_yes rfl rfl rfl ?_
            refine Qt.o_val rfl (v_pick_true rfl rfl rfl) ?_
            refine Qt.o_val rfl (v_pick_true rfl rfl rfl) ?_
            refine Qt.l_nil ?_
            refine q_then ?_
            refine c_true rfl ?_
            refine c_seq ?_
            refine c_region ?_
            refine o_loadn (vs := [_, _, _]) rfl rfl Try.underlying86 rfl ti86 (rdn_lit 0 rfl rfl) ?_
            refine l_f1 ?_
            refine o_storen rfl rfl ti86 rfl rfl rfl rfl ?_
            refine l_nil ?_
            refine q_then ?_
            refine c_region ?_
            refine o_assign rfl rfl ?_
            refine l_nil ?_
            refine q_block ?_
            refine q_then ?_
            have hx33' : rl.told[j]? = some x33 := hx33
            have hfs := take_foldl (bst rl.S) (z0V, false) hx33'
            rw [← hac] at hfs
            refine c_region ?_
            refine o_move rfl rfl ?_
            refine o_bin rfl rfl rfl (b_add (wrap_i64 (by omega) (by omega))) ?_
            refine o_assign rfl rfl ?_
            refine l_nil ?_
            have hb9 : bst rl.S ac x33 = (x33, true) := by unfold bst; first | (simp [*]; done) | grind
            refine q_conv (fun w S => (S.perm p1).tail) ?_
            exact q_round (j + 1, bst rl.S ac x33) (by exact ⟨hfs.symm, by omega⟩) (by (try dsimp only); omega) ⟨(by first | rfl | exact vint (by omega)), (by first | rfl | exact vint (by omega)), (by rw [hb9] <;> rfl), (by first | rfl | exact vint (by omega)), trivial⟩ (by rw [hb9]; exact fun w S => S)
          · -- h5F
            have h5b := h5
            try simp only [decide_eq_true_eq, decide_eq_false_iff_not, Bool.not_eq_eq_eq_not, Bool.not_true, Bool.not_false, Bool.not_eq_true', Bool.not_eq_false', Int.not_lt, Int.not_le, Bool.or_eq_true, Bool.and_eq_true] at h5
            refine Qt.o_yes rfl rfl rfl ?_
            refine Qt.o_val rfl (v_fieldAddr (q := ⟨b7, 1, none⟩) rfl rfl Try.underlying86 rfl ti29 rfl) ?_
            refine Qt.o_yes rfl rfl rfl ?_
            refine Qt.o_val rfl (v_load1 rfl rfl Try.underlying29 rfl (rd_mem 0 rfl rfl)) ?_
            refine Qt.o_yes rfl rfl rfl ?_
            refine Qt.o_val rfl (v_fieldAddr (q := ⟨b4, 1, none⟩) rfl rfl Try.underlying86 rfl ti29 rfl) ?_
            refine Qt.o_yes rfl rfl rfl ?_
            refine Qt.o_val rfl (v_load1 rfl rfl Try.underlying29 rfl (rd_mem 1 rfl rfl)) ?_
            refine Qt.o_yes rfl rfl rfl ?_
            refine Qt.o_val rfl (v_bin rfl rfl rfl b_gtr) ?_
            refine Qt.o_yes rfl rfl rfl ?_
            refine Qt.o_val rfl (v_pick_false rfl rfl rfl) ?_
            refine Qt.o_val rfl (v_pick_true rfl rfl rfl) ?_
            refine Qt.l_nil ?_
            refine q_then ?_
            refine c_cond rfl (fun h6 => ?_) (fun h6 => ?_)
            · -- h6T
              have h6b := h6
              try simp only [decide_eq_true_eq, decide_eq_false_iff_not, Bool.not_eq_eq_eq_not, Bool.not_true, Bool.not_false, Bool.not_eq_true', Bool.not_eq_false', Int.not_lt, Int.not_le, Bool.or_eq_true, Bool.and_eq_true] at h6
              refine c_seq ?_
              refine c_region ?_
              refine o_loadn (vs := [_, _, _]) rfl rfl Try.underlying86 rfl ti86 (rdn_lit 0 rfl rfl) ?_
              refine l_f1 ?_
              refine o_storen rfl rfl ti86 rfl rfl rfl rfl ?_
              refine l_nil ?_
              refine q_then ?_
              refine c_region ?_
              refine o_assign rfl rfl ?_
              refine l_nil ?_
              refine q_block ?_
              refine q_then ?_
              have hx33' : rl.told[j]? = some x33 := hx33
              have hfs := take_foldl (bst rl.S) (z0V, false) hx33'
              rw [← hac] at hfs
              refine c_region ?_
              refine o_move rfl rfl ?_
              refine o_bin rfl rfl rfl (b_add (wrap_i64 (by omega) (by omega))) ?_
              refine o_assign rfl rfl ?_
              refine l_nil ?_
              have hb9 : bst rl.S ac x33 = (x33, true) := by unfold bst; first | (simp [*]; done) | grind
              refine q_conv (fun w S => (S.perm p1).tail) ?_
              exact q_round (j + 1, bst rl.S ac x33) (by exact ⟨hfs.symm, by omega⟩) (by (try dsimp only); omega) ⟨(by first | rfl | exact vint (by omega)), (by first | rfl | exact vint (by omega)), (by rw [hb9] <;> rfl), (by first | rfl | exact vint (by omega)), trivial⟩ (by rw [hb9]; exact fun w S => S)
            · -- h6F
              have h6b := h6
              try simp only [decide_eq_true_eq, decide_eq_false_iff_not, Bool.not_eq_eq_eq_not, Bool.not_true, Bool.not_false, Bool.not_eq_true', Bool.not_eq_false', Int.not_lt, Int.not_le, Bool.or_eq_true, Bool.and_eq_true] at h6
              refine c_skip ?_
              refine q_block ?_
              refine q_then ?_
              have hx33' : rl.told[j]? = some x33 := hx33
              have hfs := take_foldl (bst rl.S) (z0V, false) hx33'
              rw [← hac] at hfs
              refine c_region ?_
              refine o_move rfl rfl ?_
              refine o_bin rfl rfl rfl (b_add (wrap_i64 (by omega) (by omega))) ?_
              refine o_assign rfl rfl ?_
              refine l_nil ?_
              have hb9 : bst rl.S ac x33 = (ac.1, ac.2) := by unfold bst; first | (simp [*]; done) | grind
              refine q_conv (fun w S => S.tail) ?_
              exact q_round (j + 1, bst rl.S ac x33) (by exact ⟨hfs.symm, by omega⟩) (by (try dsimp only); omega) ⟨(by first | rfl | exact vint (by omega)), (by first | rfl | exact vint (by omega)), (by rw [hb9] <;> rfl), (by first | rfl | exact vint (by omega)), trivial⟩ (by rw [hb9]; exact fun w S => S)
        · -- h4F
          have h4b := h4
          try simp only [decide_eq_true_eq, decide_eq_false_iff_not, Bool.not_eq_eq_eq_not, Bool.not_true, Bool.not_false, Bool.not_eq_true', Bool.not_eq_false', Int.not_lt, Int.not_le, Bool.or_eq_true, Bool.and_eq_true] at h4
          refine Qt.o_no rfl rfl rfl rfl ?_
          refine Qt.o_no rfl rfl rfl rfl ?_
          refine Qt.o_no rfl rfl rfl rfl ?_
          refine Qt.o_no rfl rfl rfl rfl ?_
          refine Qt.o_no rfl rfl rfl rfl ?_
          refine Qt.o_no rfl rfl rfl rfl ?_
          refine Qt.o_no rfl rfl rfl rfl ?_
          refine Qt.o_no rfl rfl rfl rfl ?_
          refine Qt.o_no rfl rfl rfl rfl ?_
          refine Qt.o_val rfl (v_pick_false rfl rfl rfl) ?_
          refine Qt.l_nil ?_
          refine q_then ?_
          refine c_false rfl ?_
          refine c_skip ?_
          refine q_block ?_
          refine q_then ?_
          have hx33' : rl.told[j]? = some x33 := hx33
          have hfs := take_foldl (bst rl.S) (z0V, false) hx33'
          rw [← hac] at hfs
          refine c_region ?_
          refine o_move rfl rfl ?_
          refine o_bin rfl rfl rfl (b_add (wrap_i64 (by omega) (by omega))) ?_
          refine o_assign rfl rfl ?_
          refine l_nil ?_
          have hb9 : bst rl.S ac x33 = (ac.1, ac.2) := by unfold bst; first | (simp [*]; done) | grind
          refine q_conv (fun w S => S.tail) ?_
          exact q_round (j + 1, bst rl.S ac x33) (by exact ⟨hfs.symm, by omega⟩) (by (try dsimp only); omega) ⟨(by first | rfl | exact vint (by omega)), (by first | rfl | exact vint (by omega)), (by rw [hb9] <;> rfl), (by first | rfl | exact vint (by omega)), trivial⟩ (by rw [hb9]; exact fun w S => S)
      · -- h3F
        have h3b := h3
        try simp only [decide_eq_true_eq, decide_eq_false_iff_not, Bool.not_eq_eq_eq_not, Bool.not_true, Bool.not_false, Bool.not_eq_true', Bool.not_eq_false', Int.not_lt, Int.not_le, Bool.or_eq_true, Bool.and_eq_true] at h3
        refine c_exit ?_
        refine q_pass_exit ?_
        refine q_pass_exit ?_
        refine q_hit ?_
        refine q_then ?_
        refine c_seq ?_
        refine c_seq ?_
        refine c_region ?_
        refine o_move rfl rfl ?_
        refine l_nil ?_
        refine q_then ?_
        refine c_cond rfl (fun h7 => ?_) (fun h7 => ?_)
        · -- h7T
          have h7b := h7
          try simp only [decide_eq_true_eq, decide_eq_false_iff_not, Bool.not_eq_eq_eq_not, Bool.not_true, Bool.not_false, Bool.not_eq_true', Bool.not_eq_false', Int.not_lt, Int.not_le, Bool.or_eq_true, Bool.and_eq_true] at h7
          refine c_seq ?_
          refine c_region ?_
          refine o_fieldAddr (q := ⟨b4, 2, none⟩) rfl rfl Try.underlying86 rfl ti9 rfl ?_
          refine o_load1 rfl rfl Try.underlying9 rfl (rd_mem 0 rfl rfl) ?_
          refine o_assign rfl rfl ?_
          refine o_assign rfl rfl ?_
          refine l_nil ?_
          refine q_then ?_
          refine c_ret ?_
          refine q_pass_ret ?_
          have hv : rl.value = (ac.1.Value, true) := by (try rw [bae]); unfold RlS.value RlS.best; first | (simp [*]; done) | grind
          refine q_conv (fun w S => S.perm p2) ?_
          refine q_conv (fun w S => S.perm p2) ?_
          refine q_conv (L' := RlR k rl :: _) (fun w S => Sat.obj_mk ⟨a_1, c_1⟩ ok_1 S) ?_
          refine q_conv (fun w S => (S.perm p1).tail) ?_
          exact f_ret (r_two rfl rfl rfl) (⟨(by rw [hv] <;> rfl), rfl⟩) (fun w S => S)
        · -- h7F
          have h7b := h7
          try simp only [decide_eq_true_eq, decide_eq_false_iff_not, Bool.not_eq_eq_eq_not, Bool.not_true, Bool.not_false, Bool.not_eq_true', Bool.not_eq_false', Int.not_lt, Int.not_le, Bool.or_eq_true, Bool.and_eq_true] at h7
          refine c_skip ?_
          refine q_then ?_
          refine c_seq ?_
          refine c_quiet (by kernel_rfl) (by kernel_rfl) ?_
          refine Qt.o_val rfl (v_move rfl rfl) ?_
          refine Qt.o_val rfl (v_nil rfl rfl) ?_
          refine Qt.o_val rfl (v_fieldAddr (q := ⟨k, 12, none⟩) rfl rfl Try.underlying48 rfl ti9 rfl) ?_
          refine Qt.o_val rfl (v_load1 rfl rfl Try.underlying9 rfl (rd_mem 1 rfl (sg_arr (sg_skip (j := 10) (show List.length _ = 2 from rfl) rfl (sg_skip (j := 1) (sg_len (s := 1) e_B_ok rfl ok_1.lp rfl) rfl (sg_in rfl)))))) ?_
          refine Qt.o_val rfl (v_move rfl rfl) ?_
          refine Qt.o_val rfl (v_nil rfl rfl) ?_
          refine Qt.o_val rfl (v_fieldAddr (q := ⟨k, 13, none⟩) rfl rfl Try.underlying48 rfl ti4 rfl) ?_
          refine Qt.o_val rfl (v_load1 rfl rfl Try.underlying4 rfl (rd_mem 1 rfl (sg_arr (sg_skip (j := 11) (show List.length _ = 2 from rfl) rfl (sg_skip (j := 2) (sg_len (s := 1) e_B_ok rfl ok_1.lp rfl) rfl (sg_in rfl)))))) ?_
          refine Qt.o_val rfl (v_assign rfl rfl) ?_
          refine Qt.o_val rfl (v_assign rfl rfl) ?_
          refine Qt.l_nil ?_
          refine q_then ?_
          refine c_ret ?_
          have hv : rl.value = (rl.off, rl.has) := by (try rw [bae]); unfold RlS.value RlS.best; first | (simp [*]; done) | grind
          refine q_conv (fun w S => S.perm p2) ?_
          refine q_conv (fun w S => S.perm p2) ?_
          refine q_conv (L' := RlR k rl :: _) (fun w S => Sat.obj_mk ⟨a_1, c_1⟩ ok_1 S) ?_
          refine q_conv (fun w S => (S.perm p1).tail) ?_
          exact f_ret (r_two rfl rfl rfl) (⟨(by rw [hv] <;> rfl), rfl⟩) (fun w S => S)

end Go.Proofs.Ytakjmdeckngnlaa
