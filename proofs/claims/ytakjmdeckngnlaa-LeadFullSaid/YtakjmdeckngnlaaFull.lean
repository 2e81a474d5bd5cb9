/- Printed by eng2.py out of 12/spec.py. -/
import Derived.Test.YtakjmdeckngnlaaSpeaks
import Derived.Test.YtakjmdeckngnlaaLaws
import Derived.Test.YtakjmdeckngnlaaBits
set_option linter.unusedVariables false
set_option linter.unusedSimpArgs false
set_option maxRecDepth 10000
namespace Go.Proofs.Ytakjmdeckngnlaa
open Go.RowKit
set_option maxHeartbeats 1000000 in
theorem full_ {W : World} {F : List Res} {f n : Int} : CS Try.prog 4 #[.int .i64 f, .int .i64 n] W (F) (fun r L' => r = .bool true ∧ F = L') := by
  refine f_door (l0 := [(0, .int .i64 f), (1, .int .i64 n)]) Try.func4 Try.ntmps4 rfl rfl rfl ?_
  refine c_seq ?_
  refine c_region ?_
  refine o_assign rfl rfl ?_
  refine l_nil ?_
  refine q_then ?_
  refine c_seq ?_
  refine c_seq ?_
  refine c_region ?_
  refine o_call rfl cal8 rfl (speaks_) ?_
  rintro _ _ ⟨rfl, rfl⟩
  refine o_not rfl rfl ?_
  refine l_nil ?_
  refine q_then ?_
  refine c_false rfl ?_
  refine c_skip ?_
  refine q_then ?_
  refine c_seq ?_
  refine c_region ?_
  refine o_move rfl rfl ?_
  refine o_bin rfl rfl rfl (b_and rfl) ?_
  obtain ⟨q20, hq20, eq20⟩ := band64 f 1023 (by omega)
  refine l_eq (t := 20) (v' := .int .i64 (q20 : Int)) rfl (by first | exact congrArg _ eq20) ?_
  refine o_bin rfl rfl rfl (b_rem (by omega) (show _ = ((q20 % 65 : Nat) : Int) from tmodI)) ?_
  refine o_assign rfl rfl ?_
  refine l_nil ?_
  refine q_then ?_
  refine c_seq ?_
  refine c_region ?_
  refine o_move rfl rfl ?_
  refine o_call rfl cal24 rfl (lnewOkI (by omega)) ?_
  rintro _ _ ⟨kk, rfl, rfl⟩
  refine o_move rfl rfl ?_
  refine o_extract rfl rfl rfl ?_
  refine o_extract rfl rfl rfl ?_
  refine o_assign rfl rfl ?_
  refine o_assign rfl rfl ?_
  refine l_nil ?_
  refine q_then ?_
  refine c_seq ?_
  refine c_seq ?_
  refine c_region ?_
  refine o_move rfl rfl ?_
  refine o_bin rfl rfl rfl (b_peq Try.underlying50 _) ?_
  refine o_move rfl rfl ?_
  refine o_yes rfl rfl rfl ?_
  refine o_move rfl rfl ?_
  refine o_yes rfl rfl rfl ?_
  refine o_bin rfl rfl rfl b_neq ?_
  refine o_pick_false rfl rfl rfl ?_
  refine o_move rfl rfl ?_
  refine o_yes rfl rfl rfl ?_
  refine o_move rfl rfl ?_
  refine o_yes rfl rfl rfl ?_
  refine o_call rfl cal25 rfl (offerI) ?_
  rintro _ _ ⟨rfl, rfl⟩
  refine l_eq (t := 35) (v' := .bool false) rfl (show _ = Value.bool false from by rw [full_first] <;> rfl) ?_
  refine l_conv (L' := LdRI kk (ldNew Int 1 1 ((q20 % 65 : Nat) : Int)) :: _) (fun w S => by rw [show ((ldNew Int 1 1 ((q20 % 65 : Nat) : Int)).offer (0 : Int) 3).2 = ldNew Int 1 1 ((q20 % 65 : Nat) : Int) from by rw [full_first]] at S; exact S) ?_
  refine o_pick_false rfl rfl rfl ?_
  refine l_nil ?_
  refine q_then ?_
  refine c_false rfl ?_
  refine c_skip ?_
  refine q_then ?_
  refine c_seq ?_
  refine c_region ?_
  refine o_move rfl rfl ?_
  refine o_call rfl cal26 rfl (promisedI (vs := []) (a := none) (c := 0) (rds_nil _ _) (by first | decide | omega | (simp; omega))) ?_
  rintro _ _ ⟨rfl, rfl⟩
  refine l_conv (L' := LdRI kk (LF ((q20 % 65 : Nat) : Int) []) :: _) (fun w S => by rw [show ((ldNew Int 1 1 ((q20 % 65 : Nat) : Int)).promised z0I 0 []) = LF ((q20 % 65 : Nat) : Int) [] from full_promised] at S; exact S) ?_
  refine l_nil ?_
  refine q_then ?_
  refine c_seq ?_
  refine c_seq ?_
  refine c_region ?_
  refine o_move rfl rfl ?_
  refine o_assign rfl rfl ?_
  refine l_nil ?_
  refine q_then ?_
  refine c_block ?_
  refine c_loop (α := Nat) (fun z => [(1, .int .i64 n), (6, .pointer (some ⟨kk, 0, none⟩)), (8, .int .i64 (z : Int))]) (fun z => LdRI kk (LF (z : Int) []) :: F) (fun z => z ≤ 64) (fun z => 64 - z) (q20 % 65) (by (try dsimp only); omega) ⟨(by first | rfl | exact vint (by omega)), (by first | rfl | exact vint (by omega)), (by first | rfl | exact vint (by omega)), trivial⟩ (fun w S => S) ?_
  rintro j hj
  try dsimp only at *
  refine c_seq ?_
  refine c_seq ?_
  refine c_region ?_
  refine o_move rfl rfl ?_
  refine o_bin rfl rfl rfl b_lss ?_
  refine l_nil ?_
  refine q_then ?_
  refine c_cond rfl (fun h1 => ?_) (fun h1 => ?_)
  · -- h1T
    have h1b := h1
    try simp only [decide_eq_true_eq, decide_eq_false_iff_not, Bool.not_eq_eq_eq_not, Bool.not_true, Bool.not_false, Bool.not_eq_true', Bool.not_eq_false', Int.not_lt, Int.not_le, Bool.or_eq_true, Bool.and_eq_true] at h1
    refine c_skip ?_
    refine q_then ?_
    refine c_seq ?_
    refine c_block ?_
    refine c_seq ?_
    refine c_region ?_
    refine o_move rfl rfl ?_
    refine o_move rfl rfl ?_
    refine o_call rfl cal25 rfl (offerI) ?_
    rintro _ _ ⟨rfl, rfl⟩
    refine l_eq (t := 46) (v' := .bool true) rfl (show _ = Value.bool true from by rw [full_offer (by omega)] <;> rfl) ?_
    refine l_conv (L' := LdRI kk (LF (j : Int) [(j : Int)]) :: _) (fun w S => by rw [show ((LF (j : Int) []).offer (0 : Int) (j : Int)).2 = LF (j : Int) [(j : Int)] from by rw [full_offer (by omega)]] at S; exact S) ?_
    refine o_assign rfl rfl ?_
    refine l_nil ?_
    refine q_then ?_
    refine c_seq ?_
    refine c_region ?_
    refine o_move rfl rfl ?_
    refine o_move rfl rfl ?_
    refine o_bin rfl rfl rfl (b_add (wrap_i64 (by omega) (by omega))) ?_
    refine o_call rfl cal25 rfl (offerI) ?_
    rintro _ _ ⟨rfl, rfl⟩
    refine l_eq (t := 50) (v' := .bool false) rfl (show _ = Value.bool false from by rw [full_again (by omega)] <;> rfl) ?_
    refine l_conv (L' := LdRI kk (LF (j : Int) [(j : Int)]) :: _) (fun w S => by rw [show ((LF (j : Int) [(j : Int)]).offer (0 : Int) ((j : Int) + 1)).2 = LF (j : Int) [(j : Int)] from by rw [full_again (by omega)]] at S; exact S) ?_
    refine o_assign rfl rfl ?_
    refine l_nil ?_
    refine q_then ?_
    refine c_seq ?_
    refine c_region ?_
    refine o_move rfl rfl ?_
    refine o_move rfl rfl ?_
    refine o_call rfl cal27 rfl (takenI) ?_
    rintro _ _ ⟨rfl, rfl⟩
    refine l_conv (L' := LdRI kk (LF ((j : Int) + 1) []) :: _) (fun w S => by rw [show ((LF (j : Int) [(j : Int)]).taken (0 : Int) 0 (j : Int)).2 = LF ((j : Int) + 1) [] from by rw [full_taken (by omega)]] at S; exact S) ?_
    refine o_move rfl rfl ?_
    refine o_extract rfl rfl rfl ?_
    refine l_eq (t := 55) (v' := .int .i64 (j : Int)) rfl (by rw [full_taken (by omega)] <;> rfl) ?_
    refine o_extract rfl rfl rfl ?_
    refine l_eq (t := 56) (v' := .bool true) rfl (show _ = Value.bool true from by rw [full_taken (by omega)] <;> rfl) ?_
    refine o_assign rfl rfl ?_
    refine o_assign rfl rfl ?_
    refine l_nil ?_
    refine q_then ?_
    refine c_seq ?_
    refine c_region ?_
    refine o_move rfl rfl ?_
    refine o_not rfl rfl ?_
    refine o_move rfl rfl ?_
    refine o_yes rfl rfl rfl ?_
    refine o_move rfl rfl ?_
    refine o_pick_false rfl rfl rfl ?_
    refine o_move rfl rfl ?_
    refine o_yes rfl rfl rfl ?_
    refine o_move rfl rfl ?_
    refine o_yes rfl rfl rfl ?_
    refine o_not rfl rfl ?_
    refine o_pick_false rfl rfl rfl ?_
    refine o_move rfl rfl ?_
    refine o_yes rfl rfl rfl ?_
    refine o_move rfl rfl ?_
    refine o_yes rfl rfl rfl ?_
    refine o_move rfl rfl ?_
    refine o_yes rfl rfl rfl ?_
    refine o_bin rfl rfl rfl b_neq ?_
    refine l_eq (t := 69) (v' := .bool false) rfl (show _ = Value.bool false from by simp) ?_
    refine o_pick_false rfl rfl rfl ?_
    refine o_move rfl rfl ?_
    refine o_yes rfl rfl rfl ?_
    refine o_move rfl rfl ?_
    refine o_yes rfl rfl rfl ?_
    refine o_call rfl cal28 rfl (slotI) ?_
    rintro _ _ ⟨rfl, rfl⟩
    refine o_yes rfl rfl rfl ?_
    refine o_move rfl rfl ?_
    refine o_yes rfl rfl rfl ?_
    refine o_bin rfl rfl rfl (b_add (wrap_i64 (by omega) (by omega))) ?_
    refine o_yes rfl rfl rfl ?_
    refine o_bin rfl rfl rfl b_neq ?_
    refine l_eq (t := 76) (v' := .bool false) rfl (show _ = Value.bool false from by simp) ?_
    refine o_pick_false rfl rfl rfl ?_
    refine l_nil ?_
    refine q_then ?_
    refine c_false rfl ?_
    refine c_skip ?_
    refine q_block ?_
    refine q_then ?_
    refine c_region ?_
    refine o_move rfl rfl ?_
    refine o_bin rfl rfl rfl (b_add (wrap_i64 (by omega) (by omega))) ?_
    refine o_assign rfl rfl ?_
    refine l_nil ?_
    exact q_round (j + 1) (by (try dsimp only); omega) (by (try dsimp only); omega) ⟨(by first | rfl | exact vint (by omega)), (by first | rfl | exact vint (by omega)), (by first | rfl | exact vint (by omega)), trivial⟩ (by rw [show ((j + 1 : Nat) : Int) = (j : Int) + 1 by omega]; exact fun w S => S)
  · -- h1F
    have h1b := h1
    try simp only [decide_eq_true_eq, decide_eq_false_iff_not, Bool.not_eq_eq_eq_not, Bool.not_true, Bool.not_false, Bool.not_eq_true', Bool.not_eq_false', Int.not_lt, Int.not_le, Bool.or_eq_true, Bool.and_eq_true] at h1
    have hj64 : (j : Int) = 64 := by omega
    refine c_exit ?_
    refine q_pass_exit ?_
    refine q_pass_exit ?_
    refine q_hit ?_
    refine q_then ?_
    refine c_seq ?_
    refine c_region ?_
    refine o_move rfl rfl ?_
    refine o_call rfl cal29 rfl (valueI) ?_
    rintro _ _ ⟨rfl, rfl⟩
    refine o_move rfl rfl ?_
    refine o_extract rfl rfl rfl ?_
    refine o_extract rfl rfl rfl ?_
    refine l_eq (t := 82) (v' := .bool false) rfl (show _ = Value.bool false from by rw [hj64, full_value] <;> rfl) ?_
    refine o_assign rfl rfl ?_
    refine o_assign rfl rfl ?_
    refine l_nil ?_
    refine q_then ?_
    refine c_seq ?_
    refine c_region ?_
    refine o_move rfl rfl ?_
    refine o_move rfl rfl ?_
    refine o_call rfl cal27 rfl (takenI) ?_
    rintro _ _ ⟨rfl, rfl⟩
    refine l_conv (L' := LdRI kk (LF 64 []) :: _) (fun w S => by rw [show ((LF (j : Int) []).taken (0 : Int) 0 n).2 = LF 64 [] from by rw [hj64, full_end]] at S; exact S) ?_
    refine o_move rfl rfl ?_
    refine o_extract rfl rfl rfl ?_
    refine o_extract rfl rfl rfl ?_
    refine l_eq (t := 88) (v' := .bool false) rfl (show _ = Value.bool false from by rw [hj64, full_end] <;> rfl) ?_
    refine o_assign rfl rfl ?_
    refine o_assign rfl rfl ?_
    refine l_nil ?_
    refine q_then ?_
    refine c_seq ?_
    refine c_region ?_
    refine o_move rfl rfl ?_
    refine o_call rfl cal25 rfl (offerI) ?_
    rintro _ _ ⟨rfl, rfl⟩
    refine l_eq (t := 90) (v' := .bool false) rfl (show _ = Value.bool false from by rw [full_endOffer] <;> rfl) ?_
    refine l_conv (L' := LdRI kk (LF 64 []) :: _) (fun w S => by rw [show ((LF 64 []).offer (0 : Int) 1).2 = LF 64 [] from by rw [full_endOffer]] at S; exact S) ?_
    refine o_not rfl rfl ?_
    refine o_move rfl rfl ?_
    refine o_yes rfl rfl rfl ?_
    refine o_move rfl rfl ?_
    refine o_yes rfl rfl rfl ?_
    refine o_not rfl rfl ?_
    refine o_pick_true rfl rfl rfl ?_
    refine o_move rfl rfl ?_
    refine o_yes rfl rfl rfl ?_
    refine o_move rfl rfl ?_
    refine o_yes rfl rfl rfl ?_
    refine o_not rfl rfl ?_
    refine o_pick_true rfl rfl rfl ?_
    refine o_move rfl rfl ?_
    refine o_yes rfl rfl rfl ?_
    refine o_move rfl rfl ?_
    refine o_yes rfl rfl rfl ?_
    refine o_call rfl cal28 rfl (slotI) ?_
    rintro _ _ ⟨rfl, rfl⟩
    refine o_yes rfl rfl rfl ?_
    refine o_bin rfl rfl rfl b_eql ?_
    refine l_eq (t := 103) (v' := .bool true) rfl (show _ = Value.bool true from by simp) ?_
    refine o_pick_true rfl rfl rfl ?_
    refine o_assign rfl rfl ?_
    refine l_nil ?_
    refine q_then ?_
    refine c_ret ?_
    refine q_conv (fun w S => S.tail) ?_
    exact f_ret (r_one rfl rfl) (⟨rfl, rfl⟩) (fun w S => S)

end Go.Proofs.Ytakjmdeckngnlaa
