/- Printed by eng.py out of 18/base.py. -/
import Derived.Test.YtoigakfglgdjdaaSlices
set_option linter.unusedVariables false
set_option linter.unusedSimpArgs false
set_option maxRecDepth 10000
namespace Go.Proofs.Ytoigakfglgdjdaa
open Go.RowKit
theorem sum8 {W : World} {F : List Res} {xs : List UInt8} {a : Option Addr} {c : Nat} (hs : RdS W F e8 a xs) (hn : xs.length ≤ 70000000000000) : CS Try.prog 19 #[.slice a xs.length c] W (F) (fun r L' => r = .int .u32 (v32 (sumB xs)) ∧ F = L') := by
 refine f_door (l0 := [(0, .slice a xs.length c)]) Try.func19 Try.ntmps19 rfl rfl rfl ?_
 refine c_seq ?_
 refine c_region ?_
 refine o_assign rfl rfl ?_
 refine l_nil ?_
 refine q_then ?_
 refine c_seq ?_
 refine c_region ?_
 refine o_assign rfl rfl ?_
 refine l_nil ?_
 refine q_then ?_
 refine c_seq ?_
 refine c_seq ?_
 refine c_region ?_
 refine o_move rfl rfl ?_
 refine o_len rfl rfl Try.underlying28 ?_
 refine o_move rfl rfl ?_
 refine l_nil ?_
 refine q_then ?_
 refine c_block ?_
 refine c_loop (α := Nat) (fun z => [(3, .int .u32 (v32 (crcL (xs.take z)))), (7, .slice a xs.length c), (8, .int .i64 (xs.length : Int)), (9, .int .i64 (z : Int))]) (fun z => F) (fun z => z ≤ xs.length) (fun z => xs.length - z) (0) (by exact Nat.zero_le _) ⟨(by rfl), (by first | rfl | exact vint (by omega)), (by first | rfl | exact vint (by omega)), (by first | rfl | exact vint (by omega)), trivial⟩ (fun w S => S) ?_
 rintro i hi
 try dsimp only at *
 refine c_seq ?_
 refine c_region ?_
 refine o_bin rfl rfl rfl b_lss ?_
 refine l_nil ?_
 refine q_then ?_
 refine c_seq ?_
 refine c_cond rfl (fun h1 => ?_) (fun h1 => ?_)
 · -- h1T
  try simp only [decide_eq_true_eq, decide_eq_false_iff_not, Bool.not_eq_eq_eq_not, Bool.not_true, Bool.not_false, Bool.not_eq_true', Bool.not_eq_false', Int.not_lt, Int.not_le, Bool.or_eq_true, Bool.and_eq_true] at h1
  refine c_skip ?_
  refine q_then ?_
  refine c_seq ?_
  refine c_block ?_
  refine c_seq ?_
  refine c_region ?_
  refine o_index e8_ok rfl rfl rfl Try.underlying28 (by omega) (by omega) hs fun ad11 ead11 => ?_
  obtain ⟨x11, hx11⟩ : ∃ x, (xs)[((i : Int)).toNat]? = some x := ⟨_, List.getElem?_eq_getElem (by omega)⟩
  refine o_load1 rfl rfl Try.underlying5 rfl (rd_sl0 e8_ok ead11 hs hx11 rfl) ?_
  refine o_assign rfl rfl ?_
  refine l_nil ?_
  refine q_then ?_
  refine c_seq ?_
  refine c_region ?_
  refine o_move rfl rfl ?_
  refine o_move rfl rfl ?_
  refine o_int rfl rfl Try.underlying5 Try.underlying55 (cv32 x11) ?_
  refine o_bin rfl rfl rfl (b_xor (xor32 _ _)) ?_
  refine o_assign rfl rfl ?_
  refine l_nil ?_
  refine q_then ?_
  refine c_seq ?_
  refine c_region ?_
  refine o_move rfl rfl ?_
  refine l_nil ?_
  refine q_then ?_
  refine c_block ?_
  refine c_loop (α := Nat) (fun z => [(3, .int .u32 (v32 (crcN z (crcL (xs.take i) ^^^ x11.toBitVec.zeroExtend 32)))), (7, .slice a xs.length c), (8, .int .i64 (xs.length : Int)), (9, .int .i64 (i : Int)), (17, .int .i64 (z : Int))]) (fun z => F) (fun z => z ≤ 8) (fun z => 8 - z) (0) (by exact Nat.zero_le _) ⟨(by rfl), (by first | rfl | exact vint (by omega)), (by first | rfl | exact vint (by omega)), (by first | rfl | exact vint (by omega)), (by first | rfl | exact vint (by omega)), trivial⟩ (fun w S => S) ?_
  rintro k hk
  try dsimp only at *
  refine c_seq ?_
  refine c_region ?_
  refine o_bin rfl rfl rfl b_lss ?_
  refine l_nil ?_
  refine q_then ?_
  refine c_seq ?_
  refine c_cond rfl (fun h2 => ?_) (fun h2 => ?_)
  · -- h2T
   try simp only [decide_eq_true_eq, decide_eq_false_iff_not, Bool.not_eq_eq_eq_not, Bool.not_true, Bool.not_false, Bool.not_eq_true', Bool.not_eq_false', Int.not_lt, Int.not_le, Bool.or_eq_true, Bool.and_eq_true] at h2
   refine c_skip ?_
   refine q_then ?_
   refine c_seq ?_
   refine c_block ?_
   refine c_seq ?_
   refine c_region ?_
   refine o_move rfl rfl ?_
   refine o_bin rfl rfl rfl (b_and (and32 _)) ?_
   refine o_assign rfl rfl ?_
   refine l_nil ?_
   refine q_then ?_
   refine c_seq ?_
   refine c_region ?_
   refine o_move rfl rfl ?_
   refine o_bin rfl rfl rfl (b_shr (by omega) (shr1_32 _)) ?_
   refine o_assign rfl rfl ?_
   refine l_nil ?_
   refine q_then ?_
   refine c_seq ?_
   refine c_region ?_
   refine o_move rfl rfl ?_
   refine o_bin rfl rfl rfl b_eql ?_
   refine l_nil ?_
   refine q_then ?_
   refine c_cond rfl (fun h3 => ?_) (fun h3 => ?_)
   · -- h3T
    try simp only [decide_eq_true_eq, decide_eq_false_iff_not, Bool.not_eq_eq_eq_not, Bool.not_true, Bool.not_false, Bool.not_eq_true', Bool.not_eq_false', Int.not_lt, Int.not_le, Bool.or_eq_true, Bool.and_eq_true] at h3
    have h9 := crc1_T h3
    refine c_region ?_
    refine o_move rfl rfl ?_
    refine o_bin rfl rfl rfl (b_xor (xorPoly _)) ?_
    refine o_assign rfl rfl ?_
    refine l_nil ?_
    refine q_block ?_
    refine q_then ?_
    refine c_region ?_
    refine o_bin rfl rfl rfl (b_add (wrap_i64 (by omega) (by omega))) ?_
    refine o_move rfl rfl ?_
    refine l_nil ?_
    exact q_round (k + 1) (by (try dsimp only); omega) (by (try dsimp only); omega) ⟨(vint h9), (by first | rfl | exact vint (by omega)), (by first | rfl | exact vint (by omega)), (by first | rfl | exact vint (by omega)), (by first | rfl | exact vint (by omega)), trivial⟩ (fun w S => S)
   · -- h3F
    try simp only [decide_eq_true_eq, decide_eq_false_iff_not, Bool.not_eq_eq_eq_not, Bool.not_true, Bool.not_false, Bool.not_eq_true', Bool.not_eq_false', Int.not_lt, Int.not_le, Bool.or_eq_true, Bool.and_eq_true] at h3
    have h9 := crc1_F h3
    refine c_skip ?_
    refine q_block ?_
    refine q_then ?_
    refine c_region ?_
    refine o_bin rfl rfl rfl (b_add (wrap_i64 (by omega) (by omega))) ?_
    refine o_move rfl rfl ?_
    refine l_nil ?_
    exact q_round (k + 1) (by (try dsimp only); omega) (by (try dsimp only); omega) ⟨(vint h9), (by first | rfl | exact vint (by omega)), (by first | rfl | exact vint (by omega)), (by first | rfl | exact vint (by omega)), (by first | rfl | exact vint (by omega)), trivial⟩ (fun w S => S)
  · -- h2F
   try simp only [decide_eq_true_eq, decide_eq_false_iff_not, Bool.not_eq_eq_eq_not, Bool.not_true, Bool.not_false, Bool.not_eq_true', Bool.not_eq_false', Int.not_lt, Int.not_le, Bool.or_eq_true, Bool.and_eq_true] at h2
   obtain rfl : k = 8 := by omega
   refine c_exit ?_
   refine q_pass_exit ?_
   refine q_pass_exit ?_
   refine q_hit ?_
   refine q_block ?_
   refine q_then ?_
   refine c_region ?_
   refine o_bin rfl rfl rfl (b_add (wrap_i64 (by omega) (by omega))) ?_
   refine o_move rfl rfl ?_
   refine l_nil ?_
   exact q_round (i + 1) (by (try dsimp only); omega) (by (try dsimp only); omega) ⟨(vint (by rw [crcL_succ (i := i) hx11])), (by first | rfl | exact vint (by omega)), (by first | rfl | exact vint (by omega)), (by first | rfl | exact vint (by omega)), trivial⟩ (fun w S => S)
 · -- h1F
  try simp only [decide_eq_true_eq, decide_eq_false_iff_not, Bool.not_eq_eq_eq_not, Bool.not_true, Bool.not_false, Bool.not_eq_true', Bool.not_eq_false', Int.not_lt, Int.not_le, Bool.or_eq_true, Bool.and_eq_true] at h1
  obtain rfl : i = xs.length := by omega
  refine c_exit ?_
  refine q_pass_exit ?_
  refine q_pass_exit ?_
  refine q_hit ?_
  refine q_then ?_
  refine c_seq ?_
  refine c_region ?_
  refine o_move rfl rfl ?_
  refine o_uxor rfl rfl rfl ?_
  refine o_assign rfl rfl ?_
  refine l_nil ?_
  refine q_then ?_
  refine c_ret ?_
  exact f_ret (r_one rfl rfl) (⟨by rw [List.take_length, not32]; rfl, rfl⟩) (fun w S => S)

end Go.Proofs.Ytoigakfglgdjdaa
