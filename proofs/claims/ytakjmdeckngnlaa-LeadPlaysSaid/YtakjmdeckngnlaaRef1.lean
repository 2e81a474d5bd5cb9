/- Printed by eng2.py out of 12/spec.py. -/
import Derived.Test.YtakjmdeckngnlaaTy
import Derived.Test.YtakjmdeckngnlaaBits
set_option linter.unusedVariables false
set_option linter.unusedSimpArgs false
set_option maxRecDepth 10000
namespace Go.Proofs.Ytakjmdeckngnlaa
open Go.RowKit
theorem rcount {W : World} {F : List Res} {pr : List Bool} (hp : pr.length = 9) : CS Try.prog 39 #[.agg (flat e_B pr).toArray] W (F) (fun r L' => r = .int .i64 (cnt pr : Int) ∧ F = L') := by
  refine f_door (l0 := [(0, .agg (flat e_B pr).toArray)]) Try.func39 Try.ntmps39 rfl rfl rfl ?_
  refine c_seq ?_
  refine c_region ?_
  refine o_boxSeg rfl rfl fun b1 => ?_
  refine o_assign rfl rfl ?_
  refine l_nil ?_
  refine q_then ?_
  refine c_seq ?_
  refine c_region ?_
  refine o_assign rfl rfl ?_
  refine l_nil ?_
  refine q_then ?_
  refine c_seq ?_
  refine c_seq ?_
  refine c_region ?_
  refine o_assign rfl rfl ?_
  refine l_nil ?_
  refine q_then ?_
  refine c_block ?_
  refine c_loop (α := Nat) (fun z => [(1, .pointer (some ⟨b1, 0, none⟩)), (3, .int .i64 (cnt (pr.take z) : Int)), (4, .int .i64 (z : Int))]) (fun z => blk b1 (.cells (flat e_B pr).toArray 46 (0, 0)) :: F) (fun z => z ≤ 9) (fun z => 9 - z) (0) (by omega) ⟨(by first | rfl | exact vint (by omega)), (by first | rfl | exact vint (by omega)), (by first | rfl | exact vint (by omega)), trivial⟩ (fun w S => S) ?_
  rintro i hi
  try dsimp only at *
  have hcl := cnt_le (pr.take i)
  have hcl2 : (pr.take i).length ≤ i := by rw [List.length_take]; omega
  refine c_seq ?_
  refine c_seq ?_
  refine c_region ?_
  refine o_move rfl rfl ?_
  refine o_bin rfl rfl rfl b_lss ?_
  refine l_nil ?_
  refine q_then ?_
  refine c_cond rfl (fun h1 => ?_) (fun h1 => ?_)
  · -- h1T
    have h1b := h1
    try simp only [decide_eq_true_eq, decide_eq_false_iff_not, Bool.not_eq_eq_eq_not, Bool.not_true, Bool.not_false, Bool.not_eq_true', Bool.not_eq_false', Int.not_lt, Int.not_le, Bool.or_eq_true, Bool.and_eq_true] at h1
    refine c_skip ?_
    refine q_then ?_
    refine c_seq ?_
    refine c_block ?_
    refine c_seq ?_
    refine c_region ?_
    refine o_move rfl rfl ?_
    refine o_indexArr rfl rfl rfl Try.underlying46 ti4 (by omega) (by omega) (Addr.add_mk _ _ _) ?_
    obtain ⟨x10, hx10⟩ : ∃ x, (pr)[((i : Int)).toNat]? = some x := ⟨_, List.getElem?_eq_getElem (by have := hp; omega)⟩
    refine o_load1 rfl rfl Try.underlying4 rfl (rd_mem 0 rfl (sg_arr (sg_flat (s := 1) (o := 0) e_B_ok rfl hx10 rfl (by omega)))) ?_
    refine l_nil ?_
    refine q_then ?_
    refine c_cond rfl (fun h2 => ?_) (fun h2 => ?_)
    · -- h2T
      have h2b := h2
      try simp only [decide_eq_true_eq, decide_eq_false_iff_not, Bool.not_eq_eq_eq_not, Bool.not_true, Bool.not_false, Bool.not_eq_true', Bool.not_eq_false', Int.not_lt, Int.not_le, Bool.or_eq_true, Bool.and_eq_true] at h2
      have hx10' : pr[i]? = some x10 := hx10
      have hct := cnt_take hx10'
      rw [h2b] at hct
      simp only [if_true] at hct
      refine c_region ?_
      refine o_move rfl rfl ?_
      refine o_bin rfl rfl rfl (b_add (wrap_i64 (by omega) (by omega))) ?_
      refine o_assign rfl rfl ?_
      refine l_nil ?_
      refine q_block ?_
      refine q_then ?_
      refine c_region ?_
      refine o_move rfl rfl ?_
      refine o_bin rfl rfl rfl (b_add (wrap_i64 (by omega) (by omega))) ?_
      refine o_assign rfl rfl ?_
      refine l_nil ?_
      exact q_round (i + 1) (by omega) (by (try dsimp only); omega) ⟨(by first | rfl | exact vint (by omega)), (by first | rfl | exact vint (by omega)), (by first | rfl | exact vint (by omega)), trivial⟩ (fun w S => S)
    · -- h2F
      have h2b := h2
      try simp only [decide_eq_true_eq, decide_eq_false_iff_not, Bool.not_eq_eq_eq_not, Bool.not_true, Bool.not_false, Bool.not_eq_true', Bool.not_eq_false', Int.not_lt, Int.not_le, Bool.or_eq_true, Bool.and_eq_true] at h2
      have hx10' : pr[i]? = some x10 := hx10
      have hct := cnt_take hx10'
      rw [h2b] at hct
      simp only [Bool.false_eq_true, if_false, Nat.add_zero] at hct
      refine c_skip ?_
      refine q_block ?_
      refine q_then ?_
      refine c_region ?_
      refine o_move rfl rfl ?_
      refine o_bin rfl rfl rfl (b_add (wrap_i64 (by omega) (by omega))) ?_
      refine o_assign rfl rfl ?_
      refine l_nil ?_
      exact q_round (i + 1) (by omega) (by (try dsimp only); omega) ⟨(by first | rfl | exact vint (by omega)), (by first | rfl | exact vint (by omega)), (by first | rfl | exact vint (by omega)), trivial⟩ (fun w S => S)
  · -- h1F
    have h1b := h1
    try simp only [decide_eq_true_eq, decide_eq_false_iff_not, Bool.not_eq_eq_eq_not, Bool.not_true, Bool.not_false, Bool.not_eq_true', Bool.not_eq_false', Int.not_lt, Int.not_le, Bool.or_eq_true, Bool.and_eq_true] at h1
    refine c_exit ?_
    refine q_pass_exit ?_
    refine q_pass_exit ?_
    refine q_hit ?_
    refine q_then ?_
    refine c_seq ?_
    refine c_region ?_
    refine o_move rfl rfl ?_
    refine o_assign rfl rfl ?_
    refine l_nil ?_
    refine q_then ?_
    refine c_ret ?_
    refine q_conv (fun w S => S.tail) ?_
    exact f_ret (r_one rfl rfl) (⟨by rw [show cnt pr = cnt (pr.take i) by rw [List.take_of_length_le (by omega)]], rfl⟩) (fun w S => S)

theorem rleads {W : World} {F : List Res} {k : Nat} {rl : RlS} : CS Try.prog 22 #[.pointer (some ⟨k, 0, none⟩)] W (RlR k rl :: F) (fun r L' => r = .bool rl.leads ∧ L' = RlR k rl :: F) := by
  refine f_door (l0 := [(0, .pointer (some ⟨k, 0, none⟩))]) Try.func22 Try.ntmps22 rfl rfl rfl ?_
  refine c_seq ?_
  refine c_region ?_
  refine o_assign rfl rfl ?_
  refine l_nil ?_
  refine q_then ?_
  refine c_seq ?_
  refine c_obj ?_
  rintro ⟨a_1, c_1⟩ ok_1
  have s0_ok_1 := ok_1.s0
  have s1_ok_1 := ok_1.s1
  have v0_ok_1 := ok_1.v0
  have v1_ok_1 := ok_1.v1
  refine c_conv (L' := blk k (.cells (([.int .i64 rl.V, .int .i64 rl.S] : List Value) ++ ((flat e_B rl.pr) ++ (([.slice a_1 (rl.told).length c_1, .string rl.off, .bool rl.has] : List Value) ++ (flat e_B rl.tk)))).toArray 48 (0, 0)) :: row eVR.T eVR.sz a_1 (rl.told).length c_1 (flat eVR rl.told) :: _) (fun w S => S) ?_
  refine c_held [blk k (.cells (([.int .i64 rl.V, .int .i64 rl.S] : List Value) ++ ((flat e_B rl.pr) ++ (([.slice a_1 (rl.told).length c_1, .string rl.off, .bool rl.has] : List Value) ++ (flat e_B rl.tk)))).toArray 48 (0, 0)), row eVR.T eVR.sz a_1 (rl.told).length c_1 (flat eVR rl.told)] (by kernel_rfl) rfl ?_
  refine h_take 0 rfl rfl (by kernel_rfl) (by kernel_rfl) (by kernel_rfl) (fun L0 => v_move rfl rfl) ?_
  refine h_take 1 rfl rfl (by kernel_rfl) (by kernel_rfl) (by kernel_rfl) (fun L0 => v_nil rfl rfl) ?_
  refine h_take 2 rfl rfl (by kernel_rfl) (by kernel_rfl) (by kernel_rfl) (fun L0 => v_fieldAddr (q := ⟨k, 2, none⟩) rfl rfl Try.underlying48 rfl ti46 rfl) ?_
  refine h_take 3 rfl rfl (by kernel_rfl) (by kernel_rfl) (by kernel_rfl) (fun L0 => v_loadSeg (flat e_B rl.pr) 0 rfl rfl rfl Try.underlying46 rfl ti46 (sg_len (s := 1) e_B_ok rfl ok_1.lp rfl) (rn_skip (j := 0) (show List.length _ = 2 from rfl) rfl (rn_in rn_all))) ?_
  refine h_take 6 rfl rfl (by kernel_rfl) (by kernel_rfl) (by kernel_rfl) (fun L0 => v_move rfl rfl) ?_
  refine h_take 7 rfl rfl (by kernel_rfl) (by kernel_rfl) (by kernel_rfl) (fun L0 => v_nil rfl rfl) ?_
  refine h_take 8 rfl rfl (by kernel_rfl) (by kernel_rfl) (by kernel_rfl) (fun L0 => v_fieldAddr (q := ⟨k, 0, none⟩) rfl rfl Try.underlying48 rfl ti3 rfl) ?_
  refine h_take 9 rfl rfl (by kernel_rfl) (by kernel_rfl) (by kernel_rfl) (fun L0 => v_load1 rfl rfl Try.underlying3 rfl (rd_mem 0 rfl (sg_arr (sg_in rfl)))) ?_
  refine h_one 4 rfl (by kernel_rfl) ?_
  refine o_call rfl cal39 rfl (rcount (pr := rl.pr) ok_1.lp) ?_
  rintro _ _ ⟨rfl, rfl⟩
  refine l_nil ?_
  refine h_next ?_
  have hcl := cnt_le rl.pr
  have hlp := ok_1.lp
  refine h_take 5 rfl rfl (by kernel_rfl) (by kernel_rfl) (by kernel_rfl) (fun L0 => v_bin rfl rfl rfl (b_mul (wrap_i64 (by omega) (by omega)))) ?_
  refine h_take 10 rfl rfl (by kernel_rfl) (by kernel_rfl) (by kernel_rfl) (fun L0 => v_bin rfl rfl rfl b_gtr) ?_
  refine h_take 11 rfl rfl (by kernel_rfl) (by kernel_rfl) (by kernel_rfl) (fun L0 => v_assign rfl rfl) ?_
  refine h_done (by kernel_rfl) ?_
  refine q_then ?_
  refine c_ret ?_
  refine q_conv (L' := RlR k rl :: _) (fun w S => Sat.obj_mk ⟨a_1, c_1⟩ ok_1 S) ?_
  exact f_ret (r_one rfl rfl) (⟨rfl, rfl⟩) (fun w S => S)

end Go.Proofs.Ytakjmdeckngnlaa
