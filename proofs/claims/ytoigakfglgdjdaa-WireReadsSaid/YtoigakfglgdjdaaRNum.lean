/- Printed by eng.py out of 18/base.py. -/
import Derived.Test.YtoigakfglgdjdaaPen
set_option linter.unusedVariables false
set_option linter.unusedSimpArgs false
set_option maxRecDepth 10000
namespace Go.Proofs.Ytoigakfglgdjdaa
open Go.RowKit
theorem rNum {W : World} {F : List Res} {v : Nat} (hv : v < 18446744073709551616) : CS Try.prog 22 #[.int .u64 (v : Int)] W (F) (fun r L' => ∃ (a' : Option Addr) (c' : Nat), r = .slice a' (numB v).length c' ∧ L' = row e8.T e8.sz a' (numB v).length c' (flat e8 (numB v)) :: F) := by
 refine f_door (l0 := [(0, .int .u64 (v : Int))]) Try.func22 Try.ntmps22 rfl rfl rfl ?_
 refine c_seq ?_
 refine c_region ?_
 refine o_assign rfl rfl ?_
 refine l_nil ?_
 refine q_then ?_
 refine c_seq ?_
 refine c_region ?_
 refine o_lit e8_ok rfl Try.underlying28 rfl rfl rfl (lit_ok rfl) ([] : List UInt8) rfl rfl fun a5 => ?_
 refine o_assign rfl rfl ?_
 refine l_nil ?_
 refine q_then ?_
 refine c_seq ?_
 refine c_region ?_
 refine o_move rfl rfl ?_
 refine o_assign rfl rfl ?_
 refine l_nil ?_
 refine q_then ?_
 refine c_seq ?_
 refine c_block ?_
 refine c_loop (α := Nat × (List UInt8) × (Option Addr) × Nat) (fun z => [(3, .slice z.2.2.1 z.2.1.length z.2.2.2), (4, .int .u64 (z.1 : Int))]) (fun z => row e8.T e8.sz z.2.2.1 (z.2.1).length z.2.2.2 (flat e8 z.2.1) :: F) (fun z => z.2.1 ++ numB z.1 = numB v ∧ z.1 < 18446744073709551616 ∧ z.2.1.length + (numB z.1).length ≤ 10) (fun z => z.1) (v, [], a5, 0) (by exact ⟨rfl, hv, by have := numB_len_le 10 v (by omega) (by omega); simp; omega⟩) ⟨(by first | rfl | exact vint (by omega)), (by first | rfl | exact vint (by omega)), trivial⟩ (fun w S => S) ?_
 rintro ⟨u, ys, a, c⟩ ⟨hq, hu, hl⟩
 try dsimp only at *
 have hnp := numB_pos u
 refine c_seq ?_
 refine c_seq ?_
 refine c_region ?_
 refine o_move rfl rfl ?_
 refine o_bin rfl rfl rfl b_geq ?_
 refine l_nil ?_
 refine q_then ?_
 refine c_cond rfl (fun h1 => ?_) (fun h1 => ?_)
 · -- h1T
  try simp only [decide_eq_true_eq, decide_eq_false_iff_not, Bool.not_eq_eq_eq_not, Bool.not_true, Bool.not_false, Bool.not_eq_true', Bool.not_eq_false', Int.not_lt, Int.not_le, Bool.or_eq_true, Bool.and_eq_true] at h1
  refine c_skip ?_
  refine q_then ?_
  refine c_block ?_
  refine c_seq ?_
  refine c_region ?_
  refine o_move rfl rfl ?_
  refine o_move rfl rfl ?_
  refine o_bin rfl rfl rfl (b_rem (by omega) (tmod128 u)) ?_
  refine o_bin rfl rfl rfl (b_add (addlow u)) ?_
  refine o_int rfl rfl Try.underlying23 Try.underlying5 (cv8 _) ?_
  refine o_lit e8_ok rfl Try.underlying28 rfl rfl rfl (lit_ok rfl) [UInt8.ofNat (u % 128 + 128)] rfl rfl fun a14 => ?_
  refine l_f1 ?_
  refine o_append e8_ok rfl rfl rfl Try.underlying28 (rds_own e8_ok 1 rfl) (by show (_ + _) * 1 ≤ _; (try simp only [List.length_append, List.length_cons, List.length_nil]); omega) (by (try simp only [List.length_append, List.length_cons, List.length_nil]); omega) fun a15 c15 => ?_
  refine l_f1 ?_
  refine l_drop ?_
  refine o_assign rfl rfl ?_
  refine l_nil ?_
  refine q_then ?_
  refine c_region ?_
  refine o_move rfl rfl ?_
  refine o_bin rfl rfl rfl (b_quo (by omega) (tdiv128 hu)) ?_
  refine o_assign rfl rfl ?_
  refine l_nil ?_
  refine q_block ?_
  exact q_round (u / 128, ys ++ [UInt8.ofNat (u % 128 + 128)], a15, c15) (by have h9 := numB_ge (n := u) (by omega); exact ⟨by rw [← hq, h9, add_low]; simp, by omega, by rw [h9] at hl; simp only [List.length_append, List.length_cons, List.length_nil] at hl ⊢; omega⟩) (by (try dsimp only); omega) ⟨(by first | rfl | exact vint (by omega)), (by first | rfl | exact vint (by omega)), trivial⟩ (fun w S => S)
 · -- h1F
  try simp only [decide_eq_true_eq, decide_eq_false_iff_not, Bool.not_eq_eq_eq_not, Bool.not_true, Bool.not_false, Bool.not_eq_true', Bool.not_eq_false', Int.not_lt, Int.not_le, Bool.or_eq_true, Bool.and_eq_true] at h1
  have hq' : ys ++ [UInt8.ofNat u] = numB v := by rw [← hq, numB_lt (by omega)]
  refine c_exit ?_
  refine q_pass_exit ?_
  refine q_pass_exit ?_
  refine q_hit ?_
  refine q_then ?_
  refine c_seq ?_
  refine c_region ?_
  refine o_move rfl rfl ?_
  refine o_move rfl rfl ?_
  refine o_int rfl rfl Try.underlying23 Try.underlying5 (cv8 u) ?_
  refine o_lit e8_ok rfl Try.underlying28 rfl rfl rfl (lit_ok rfl) [UInt8.ofNat u] rfl rfl fun a21 => ?_
  refine l_f1 ?_
  refine o_append e8_ok rfl rfl rfl Try.underlying28 (rds_own e8_ok 1 rfl) (by show (_ + _) * 1 ≤ _; (try simp only [List.length_append, List.length_cons, List.length_nil]); omega) (by (try simp only [List.length_append, List.length_cons, List.length_nil]); omega) fun a22 c22 => ?_
  refine l_f1 ?_
  refine l_drop ?_
  refine o_assign rfl rfl ?_
  refine l_nil ?_
  refine q_then ?_
  refine c_ret ?_
  exact f_ret (r_one rfl rfl) (⟨a22, c22, by rw [← hq'], by rw [← hq']⟩) (fun w S => S)

theorem rText {W : World} {F : List Res} {ts : List UInt8} {ta : Option Addr} {tc : Nat} (hs : RdS W F e8 ta ts) (ht : ts.length ≤ 70000000000000) : CS Try.prog 23 #[.slice ta ts.length tc] W (F) (fun r L' => ∃ (a' : Option Addr) (c' : Nat), r = .slice a' ((numB ts.length ++ ts)).length c' ∧ L' = row e8.T e8.sz a' ((numB ts.length ++ ts)).length c' (flat e8 (numB ts.length ++ ts)) :: F) := by
 have hnb := numB_len_le 10 ts.length (by omega) (by omega)
 refine f_door (l0 := [(0, .slice ta ts.length tc)]) Try.func23 Try.ntmps23 rfl rfl rfl ?_
 refine c_seq ?_
 refine c_region ?_
 refine o_assign rfl rfl ?_
 refine l_nil ?_
 refine q_then ?_
 refine c_seq ?_
 refine c_region ?_
 refine o_move rfl rfl ?_
 refine o_len rfl rfl Try.underlying28 ?_
 refine o_int rfl rfl Try.underlying3 Try.underlying23 (wrap_u64 (by omega) (by omega)) ?_
 refine o_call rfl cal22 rfl (rNum (v := ts.length) (by omega)) ?_
 rintro _ _ ⟨a6, c6, rfl, rfl⟩
 refine o_move rfl rfl ?_
 refine o_append e8_ok rfl rfl rfl Try.underlying28 (rds_c hs) (by show (_ + _) * 1 ≤ _; (try simp only [List.length_append, List.length_cons, List.length_nil]); omega) (by (try simp only [List.length_append, List.length_cons, List.length_nil]); omega) fun a8 c8 => ?_
 refine o_assign rfl rfl ?_
 refine l_nil ?_
 refine q_then ?_
 refine c_ret ?_
 exact f_ret (r_one rfl rfl) (⟨a8, c8, rfl, rfl⟩) (fun w S => S)

end Go.Proofs.Ytoigakfglgdjdaa
