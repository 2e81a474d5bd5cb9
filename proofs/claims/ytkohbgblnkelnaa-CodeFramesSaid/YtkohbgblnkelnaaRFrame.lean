/- Printed by eng.py out of 01/spec.py. -/
import Derived.Test.YtkohbgblnkelnaaFrame
import Derived.Test.YtkohbgblnkelnaaRSum
import Derived.Test.YtkohbgblnkelnaaRFramep
set_option linter.unusedVariables false
set_option linter.unusedSimpArgs false
set_option maxRecDepth 10000
namespace Go.Proofs.Ytkohbgblnkelnaa
open Go.RowKit
theorem rframe {W : World} {F : List Res} {xs : List UInt8} {a : Option Addr} {c : Nat} (hs : RdS W F e8 a xs) (hn : xs.length ≤ 60000000000000) : CS Try.prog 25 #[.slice a xs.length c] W (F) (fun r L' => ∃ (out : List UInt8) (a2 : Option Addr) (c2 : Nat), out = (frR xs).1 ∧ r = .tuple #[.slice a2 out.length c2, .int .i64 ((frR xs).2 : Int)] ∧ L' = row e8.T e8.sz a2 (out).length c2 (flat e8 out) :: F) := by
  refine f_door (l0 := [(0, .slice a xs.length c)]) Try.func25 Try.ntmps25 rfl rfl rfl ?_
  refine c_seq ?_
  refine c_region ?_
  refine o_assign rfl rfl ?_
  refine o_assign rfl rfl ?_
  refine l_nil ?_
  refine q_then ?_
  refine c_seq ?_
  refine c_region ?_
  refine o_move rfl rfl ?_
  refine o_len rfl rfl Try.underlying25 ?_
  refine o_assign rfl rfl ?_
  refine l_nil ?_
  refine q_then ?_
  refine c_seq ?_
  refine c_seq ?_
  refine c_region ?_
  refine o_move rfl rfl ?_
  refine o_bin rfl rfl rfl b_gtr ?_
  refine l_nil ?_
  refine q_then ?_
  refine c_cond rfl (fun h1 => ?_) (fun h1 => ?_)
  · -- h1T
    have h1b := h1
    try simp only [decide_eq_true_eq, decide_eq_false_iff_not, Bool.not_eq_eq_eq_not, Bool.not_true, Bool.not_false, Bool.not_eq_true', Bool.not_eq_false', Int.not_lt, Int.not_le, Bool.or_eq_true, Bool.and_eq_true] at h1
    refine c_seq ?_
    refine c_region ?_
    refine o_lit e8_ok rfl Try.underlying25 rfl rfl rfl (lit_ok rfl) ([] : List UInt8) rfl rfl fun a12 => ?_
    refine o_assign rfl rfl ?_
    refine o_assign rfl rfl ?_
    refine l_nil ?_
    refine q_then ?_
    refine c_ret ?_
    refine q_pass_ret ?_
    exact f_ret (r_two rfl rfl rfl) (⟨[], a12, 0, by rw [frR_no (by omega)], by rw [frR_no (by omega)]; rfl, rfl⟩) (fun w S => S)
  · -- h1F
    have h1b := h1
    try simp only [decide_eq_true_eq, decide_eq_false_iff_not, Bool.not_eq_eq_eq_not, Bool.not_true, Bool.not_false, Bool.not_eq_true', Bool.not_eq_false', Int.not_lt, Int.not_le, Bool.or_eq_true, Bool.and_eq_true] at h1
    refine c_skip ?_
    refine q_then ?_
    refine c_seq ?_
    refine c_region ?_
    refine o_move rfl rfl ?_
    refine o_bin rfl rfl rfl (b_quo (by omega) (wtdiv (by omega))) ?_
    refine o_int rfl rfl Try.underlying3 Try.underlying5 (cv8 _) ?_
    refine o_move rfl rfl ?_
    refine o_bin rfl rfl rfl (b_rem (by omega) (tmodI)) ?_
    refine o_int rfl rfl Try.underlying3 Try.underlying5 (cv8m _) ?_
    refine o_lit e8_ok rfl Try.underlying25 rfl rfl rfl (lit_ok rfl) (headB xs.length) rfl rfl fun a19 => ?_
    refine o_assign rfl rfl ?_
    refine l_nil ?_
    refine q_then ?_
    refine c_seq ?_
    refine c_region ?_
    refine o_lit e8_ok rfl Try.underlying25 rfl rfl rfl (lit_ok rfl) ([] : List UInt8) rfl rfl fun a20 => ?_
    refine o_move rfl rfl ?_
    refine o_append e8_ok rfl rfl rfl Try.underlying25 (rds_own e8_ok 1 rfl) (by show (_ + _) * 1 ≤ _; simp only [headB, sum4, List.length_append, List.length_cons, List.length_nil, List.length_take, List.nil_append]; omega) (by simp only [headB, sum4, List.length_append, List.length_cons, List.length_nil, List.length_take, List.nil_append]; omega) fun a22 c22 => ?_
    refine o_move rfl rfl ?_
    refine o_append e8_ok rfl rfl rfl Try.underlying25 (rds_c (rds_c hs)) (by show (_ + _) * 1 ≤ _; simp only [headB, sum4, List.length_append, List.length_cons, List.length_nil, List.length_take, List.nil_append]; omega) (by simp only [headB, sum4, List.length_append, List.length_cons, List.length_nil, List.length_take, List.nil_append]; omega) fun a24 c24 => ?_
    refine o_call rfl cal29 rfl (rsum (rds_own e8_ok 0 rfl) (by simp only [headB, sum4, List.length_append, List.length_cons, List.length_nil, List.length_take, List.nil_append]; omega)) ?_
    rintro _ _ ⟨rfl, rfl⟩
    refine o_assign rfl rfl ?_
    refine l_nil ?_
    refine q_then ?_
    refine c_seq ?_
    refine c_seq ?_
    refine c_conv (fun w S => S.perm p1) ?_
    refine c_conv (L' := row e8.T e8.sz a19 (headB xs.length ++ (sum4 (sealB xs)).take 0).length 2 (flat e8 (headB xs.length ++ (sum4 (sealB xs)).take 0)) :: _) (fun w S => by rw [List.take_zero, List.append_nil]; exact S) ?_
    refine c_region ?_
    refine o_assign rfl rfl ?_
    refine l_nil ?_
    refine q_then ?_
    refine c_block ?_
    refine c_loop (α := Nat × (Option Addr) × Nat) (fun z => [(0, .slice a (xs).length c), (5, .slice z.2.1 (headB xs.length ++ (sum4 (sealB xs)).take z.1).length z.2.2), (6, .int .u32 (v32 (sumB (([] : List UInt8) ++ (headB xs.length) ++ xs)))), (7, .int .i64 (z.1 : Int))]) (fun z => row e8.T e8.sz z.2.1 (headB xs.length ++ (sum4 (sealB xs)).take z.1).length z.2.2 (flat e8 (headB xs.length ++ (sum4 (sealB xs)).take z.1)) :: row e8.T e8.sz a24 (([] : List UInt8) ++ (headB xs.length) ++ xs).length c24 (flat e8 (([] : List UInt8) ++ (headB xs.length) ++ xs)) :: F) (fun z => z.1 ≤ 4) (fun z => 4 - z.1) (0, a19, 2) (by exact Nat.zero_le _) ⟨(by first | rfl | exact vint (by omega)), (by first | rfl | exact vint (by omega)), (by first | rfl | exact vint (by omega)), (by first | rfl | exact vint (by omega)), trivial⟩ (fun w S => S) ?_
    rintro ⟨i, a5, c5⟩ hi
    try dsimp only at *
    refine c_seq ?_
    refine c_seq ?_
    refine c_region ?_
    refine o_move rfl rfl ?_
    refine o_bin rfl rfl rfl b_lss ?_
    refine l_nil ?_
    refine q_then ?_
    refine c_cond rfl (fun h2 => ?_) (fun h2 => ?_)
    · -- h2T
      have h2b := h2
      try simp only [decide_eq_true_eq, decide_eq_false_iff_not, Bool.not_eq_eq_eq_not, Bool.not_true, Bool.not_false, Bool.not_eq_true', Bool.not_eq_false', Int.not_lt, Int.not_le, Bool.or_eq_true, Bool.and_eq_true] at h2
      refine c_skip ?_
      refine q_then ?_
      refine c_seq ?_
      refine c_block ?_
      refine c_region ?_
      refine o_move rfl rfl ?_
      refine o_move rfl rfl ?_
      refine o_move rfl rfl ?_
      refine o_bin rfl rfl rfl (b_mul (show IntKind.i64.wrap (8 * (i : Int)) = ((8 * i : Nat) : Int) from by rw [wrap_i64 (by omega) (by omega)]; omega)) ?_
      refine o_int rfl rfl Try.underlying3 Try.underlying44 (wrap_u64 (by omega) (by omega)) ?_
      refine o_bin rfl rfl rfl (b_shr (by omega) (shr32k _ (by omega))) ?_
      refine o_int rfl rfl Try.underlying55 Try.underlying5 (cv8 _) ?_
      refine o_lit e8_ok rfl Try.underlying25 rfl rfl rfl (lit_ok rfl) [UInt8.ofNat ((sealB xs).toNat / 2 ^ (8 * i))] rfl rfl fun a37 => ?_
      refine l_f1 ?_
      refine o_append e8_ok rfl rfl rfl Try.underlying25 (rds_own e8_ok 1 rfl) (by show (_ + _) * 1 ≤ _; simp only [headB, sum4, List.length_append, List.length_cons, List.length_nil, List.length_take, List.nil_append]; omega) (by simp only [headB, sum4, List.length_append, List.length_cons, List.length_nil, List.length_take, List.nil_append]; omega) fun a38 c38 => ?_
      refine l_f1 ?_
      refine l_drop ?_
      refine l_eq (t := 38) (v' := .slice a38 (headB xs.length ++ (sum4 (sealB xs)).take (i + 1)).length c38) rfl (by rw [List.append_assoc, sum4_take _ (by omega)]) ?_
      refine l_conv (L' := row e8.T e8.sz a38 (headB xs.length ++ (sum4 (sealB xs)).take (i + 1)).length c38 (flat e8 (headB xs.length ++ (sum4 (sealB xs)).take (i + 1))) :: _) (fun w S => by rw [List.append_assoc, sum4_take _ (by omega)] at S; exact S) ?_
      refine o_assign rfl rfl ?_
      refine l_nil ?_
      refine q_block ?_
      refine q_then ?_
      refine c_region ?_
      refine o_move rfl rfl ?_
      refine o_bin rfl rfl rfl (b_add (wrap_i64 (by omega) (by omega))) ?_
      refine o_assign rfl rfl ?_
      refine l_nil ?_
      exact q_round (i + 1, a38, c38) (by (try dsimp only); omega) (by (try dsimp only); omega) ⟨(by first | rfl | exact vint (by omega)), (by first | rfl | exact vint (by omega)), (by first | rfl | exact vint (by omega)), (by first | rfl | exact vint (by omega)), trivial⟩ (fun w S => S)
    · -- h2F
      have h2b := h2
      try simp only [decide_eq_true_eq, decide_eq_false_iff_not, Bool.not_eq_eq_eq_not, Bool.not_true, Bool.not_false, Bool.not_eq_true', Bool.not_eq_false', Int.not_lt, Int.not_le, Bool.or_eq_true, Bool.and_eq_true] at h2
      obtain rfl : i = 4 := by omega
      refine c_exit ?_
      refine q_pass_exit ?_
      refine q_pass_exit ?_
      refine q_hit ?_
      refine q_then ?_
      refine c_seq ?_
      refine c_region ?_
      refine o_move rfl rfl ?_
      refine o_move rfl rfl ?_
      refine o_append e8_ok rfl rfl rfl Try.underlying25 (rds_c (rds_c hs)) (by show (_ + _) * 1 ≤ _; simp only [headB, sum4, List.length_append, List.length_cons, List.length_nil, List.length_take, List.nil_append]; omega) (by simp only [headB, sum4, List.length_append, List.length_cons, List.length_nil, List.length_take, List.nil_append]; omega) fun a41 c41 => ?_
      refine l_eq (t := 41) (v' := .slice a41 (frameB xs).length c41) rfl (by rfl) ?_
      refine l_conv (L' := row e8.T e8.sz a41 (frameB xs).length c41 (flat e8 (frameB xs)) :: _) (fun w S => by exact S) ?_
      refine o_assign rfl rfl ?_
      refine o_assign rfl rfl ?_
      refine l_nil ?_
      refine q_then ?_
      refine c_ret ?_
      refine q_conv (fun w S => (S.perm p1).tail) ?_
      exact f_ret (r_two rfl rfl rfl) (⟨frameB xs, a41, c41, by rw [frR_yes (by omega)], by rw [frR_yes (by omega)]; rfl, rfl⟩) (fun w S => S)

end Go.Proofs.Ytkohbgblnkelnaa
