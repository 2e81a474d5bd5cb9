/- Printed by eng.py out of 01/spec.py. -/
import Derived.Test.YtkohbgblnkelnaaOrder
import Derived.Test.YtkohbgblnkelnaaEye
set_option linter.unusedVariables false
set_option linter.unusedSimpArgs false
set_option maxRecDepth 10000
namespace Go.Proofs.Ytkohbgblnkelnaa
open Go.RowKit
set_option maxHeartbeats 1000000 in
theorem back_ {W : World} {F : List Res} {n : Nat} {k : Int} (hn : n < 18446744073709551616) : CS Try.prog 6 #[.int .u64 (n : Int), .int .i64 k] W (F) (fun r L' => r = .bool true ∧ F = L') := by
  have ln := numB_len_le 10 n (by omega) (by omega)
  have lp := numB_pos n
  have lself := numR_self hn
  refine f_door (l0 := [(0, .int .u64 (n : Int)), (1, .int .i64 k)]) Try.func6 Try.ntmps6 rfl rfl rfl ?_
  refine c_seq ?_
  refine c_region ?_
  refine o_assign rfl rfl ?_
  refine l_nil ?_
  refine q_then ?_
  refine c_seq ?_
  refine c_seq ?_
  refine c_region ?_
  refine o_call rfl cal12 rfl (speaks_) ?_
  rintro _ _ ⟨rfl, rfl⟩
  refine o_not rfl rfl ?_
  refine l_nil ?_
  refine q_then ?_
  refine c_false rfl ?_
  refine c_skip ?_
  refine q_then ?_
  refine c_seq ?_
  refine c_region ?_
  refine o_build rfl sp27 ti27 rfl rfl ?_
  refine o_box rfl rfl fun b18 => ?_
  refine l_nilrow e8 ?_
  refine l_conv (L' := blk b18 (.cells #[.slice none (([] : List UInt8)).length 0] 27 (0, 0)) :: row e8.T e8.sz none (([] : List UInt8)).length 0 (flat e8 ([] : List UInt8)) :: _) (fun w S => S.perm p1) ?_
  refine o_assign rfl rfl ?_
  refine l_nil ?_
  refine q_then ?_
  refine c_seq ?_
  refine c_region ?_
  refine o_move rfl rfl ?_
  refine o_move rfl rfl ?_
  refine l_f1 ?_
  refine l_f1 ?_
  refine o_call rfl cal13 rfl (penNum (v := n) hn (by simp)) ?_
  rintro _ _ ⟨a21, c21, rfl, rfl⟩
  refine l_conv (L' := blk b18 (.cells #[.slice a21 ((numB n)).length c21] 27 (0, 0)) :: row e8.T e8.sz a21 ((numB n)).length c21 (flat e8 (numB n)) :: _) (fun w S => S) ?_
  refine l_nil ?_
  refine q_then ?_
  refine c_seq ?_
  refine c_region ?_
  refine o_move rfl rfl ?_
  refine l_f1 ?_
  refine l_f1 ?_
  refine o_call rfl cal14 rfl (penData (by omega)) ?_
  rintro _ _ ⟨a23, c23, rfl, rfl⟩
  refine l_fact (row_cap 0 rfl) ?_
  intro hcap23
  refine o_assign rfl rfl ?_
  refine l_nil ?_
  refine q_then ?_
  refine c_seq ?_
  refine c_region ?_
  refine o_move rfl rfl ?_
  refine o_call rfl cal21 rfl (newEye (rds_own e8_ok 0 rfl) (by omega)) ?_
  rintro _ _ ⟨k25, a25, c25, hc25, rfl, rfl⟩
  have ok25 := eyeOk_start (W := W) (a := a25) hc25 (show ((numB n)).length ≤ 70000000000000 by omega)
  refine o_assign rfl rfl ?_
  refine l_nil ?_
  refine q_then ?_
  refine c_seq ?_
  refine c_region ?_
  refine o_move rfl rfl ?_
  refine o_move rfl rfl ?_
  refine o_bin rfl rfl rfl (b_and rfl) ?_
  have hmod := fun q : Nat => Nat.mod_lt q lp
  obtain ⟨q28, hq28, eq28⟩ := and_mask k 15 (by omega)
  refine l_eq (t := 28) (v' := .int .i64 (q28 : Int)) rfl (by first | exact congrArg _ eq28) ?_
  have hmq := hmod q28
  refine o_move rfl rfl ?_
  refine o_len rfl rfl Try.underlying25 ?_
  refine o_bin rfl rfl rfl (b_rem (by omega) tmodN) ?_
  refine o_cut (l' := 0) (h' := (q28 % (numB n).length)) (m := c23) rfl rfl Try.underlying25 ti5 (.inl ⟨rfl, rfl⟩) (.inr ⟨_, _, rfl, icast rfl rfl, (by omega)⟩) (.inl ⟨rfl, rfl⟩) ?_
  obtain ⟨ys32, ay32, cut32, hys32, hlys32, eay32⟩ : ∃ ys_ ay_, (∀ {L : List Res}, RdS W L e8 a23 (numB n) → RdS W L e8 ay_ ys_) ∧ ys_ = sub (numB n) 0 (q28 % (numB n).length) ∧ ys_.length = (q28 % (numB n).length) - 0 ∧ cutA a23 c23 0 1 = ay_ := ⟨_, _, fun h => rds_cut e8_ok h _ _ _ (by omega), rfl, sub_len (by omega), rfl⟩
  refine l_eq (t := 32) (v' := .slice ay32 ys32.length (c23 - 0)) rfl (by rw [eay32, hlys32]) ?_
  refine o_call rfl cal21 rfl (newEye (cut32 (rds_own e8_ok 2 rfl)) (by omega)) ?_
  rintro _ _ ⟨k33, a33, c33, hc33, rfl, rfl⟩
  have ok33 := eyeOk_start (W := W) (a := a33) hc33 (show (ys32).length ≤ 70000000000000 by omega)
  refine o_assign rfl rfl ?_
  refine l_nil ?_
  refine q_then ?_
  refine c_seq ?_
  refine c_seq ?_
  refine c_region ?_
  refine o_move rfl rfl ?_
  refine o_bin rfl rfl rfl (b_peq Try.underlying39 _) ?_
  refine o_move rfl rfl ?_
  refine o_yes rfl rfl rfl ?_
  refine o_move rfl rfl ?_
  refine o_yes rfl rfl rfl ?_
  refine o_bin rfl rfl rfl (b_peq Try.underlying39 _) ?_
  refine o_pick_false rfl rfl rfl ?_
  refine l_nil ?_
  refine q_then ?_
  refine c_false rfl ?_
  refine c_skip ?_
  refine q_then ?_
  refine c_seq ?_
  refine c_region ?_
  refine o_move rfl rfl ?_
  refine l_f3 ?_
  refine l_f3 ?_
  refine o_call rfl cal22 rfl (eyeNum ok25) ?_
  rintro _ _ ⟨ys42, ay42, cy42, ok42, rfl, rfl⟩
  have hys42 : ys42.length = 0 := by rw [ok42.len, lself]; simp
  refine o_move rfl rfl ?_
  refine o_extract rfl rfl rfl ?_
  refine o_extract rfl rfl rfl ?_
  refine o_assign rfl rfl ?_
  refine o_assign rfl rfl ?_
  refine l_nil ?_
  refine q_then ?_
  refine c_seq ?_
  refine c_region ?_
  refine o_move rfl rfl ?_
  refine l_f3 ?_
  refine l_f3 ?_
  refine o_call rfl cal22 rfl (eyeNum ok33) ?_
  rintro _ _ ⟨ys47, ay47, cy47, ok47, rfl, rfl⟩
  have hcut : numR 0 0 ys32 = (0, 30, 0) := by rw [hys32, sub_take]; exact numR_part hn hmq
  refine o_move rfl rfl ?_
  refine o_extract rfl rfl rfl ?_
  refine o_extract rfl rfl rfl ?_
  refine o_assign rfl rfl ?_
  refine o_assign rfl rfl ?_
  refine l_nil ?_
  refine q_then ?_
  refine c_seq ?_
  refine c_region ?_
  refine o_assign rfl rfl ?_
  refine l_nil ?_
  refine q_then ?_
  refine c_seq ?_
  refine c_seq ?_
  refine c_region ?_
  refine o_move rfl rfl ?_
  refine o_bin rfl rfl rfl (b_shr (by omega) (fdiv128 _)) ?_
  refine o_assign rfl rfl ?_
  refine l_nil ?_
  refine q_then ?_
  refine c_block ?_
  refine c_conv (fun w S => S.tail) ?_
  refine c_conv (fun w S => S.tail) ?_
  refine c_conv (fun w S => (S.perm p3).tail) ?_
  refine c_conv (fun w S => (S.perm p3).tail) ?_
  refine c_loop (α := Nat × Nat) (fun z => [(0, .int .u64 (n : Int)), (6, .slice a23 (numB n).length c23), (7, .pointer (some ⟨k25, 0, none⟩)), (9, .int .u64 ((numR 0 0 (numB n)).1 : Int)), (10, .int .i64 ((numR 0 0 (numB n)).2.1 : Int)), (12, .int .i64 ((numR 0 0 ys32).2.1 : Int)), (13, .int .i64 (z.1 : Int)), (14, .int .u64 (z.2 : Int))]) (fun z => blk k25 (.cells #[.slice ay42 (ys42).length cy42] 77 (0, 0)) :: row e8.T e8.sz a25 ((numB n)).length c25 (flat e8 (numB n)) :: row e8.T e8.sz a23 ((numB n)).length c23 (flat e8 (numB n)) :: F) (fun z => (numB n).length = z.1 + (if z.2 = 0 then 0 else (numB z.2).length) ∧ z.1 ≤ 10) (fun z => z.2) (1, n / 128) (by exact ⟨numB_split n, by omega⟩) ⟨(by first | rfl | exact vint (by omega)), (by first | rfl | exact vint (by omega)), (by first | rfl | exact vint (by omega)), (by first | rfl | exact vint (by omega)), (by first | rfl | exact vint (by omega)), (by first | rfl | exact vint (by omega)), (by first | rfl | exact vint (by omega)), (by first | rfl | exact vint (by omega)), trivial⟩ (fun w S => S) ?_
  rintro ⟨s, r⟩ ⟨hsz, hs10⟩
  try dsimp only at *
  refine c_seq ?_
  refine c_seq ?_
  refine c_region ?_
  refine o_move rfl rfl ?_
  refine o_bin rfl rfl rfl b_gtr ?_
  refine l_nil ?_
  refine q_then ?_
  refine c_cond rfl (fun h1 => ?_) (fun h1 => ?_)
  · -- h1T
    try simp only [decide_eq_true_eq, decide_eq_false_iff_not, Bool.not_eq_eq_eq_not, Bool.not_true, Bool.not_false, Bool.not_eq_true', Bool.not_eq_false', Int.not_lt, Int.not_le, Bool.or_eq_true, Bool.and_eq_true] at h1
    refine c_skip ?_
    refine q_then ?_
    refine c_seq ?_
    refine c_block ?_
    refine c_region ?_
    refine o_move rfl rfl ?_
    refine o_bin rfl rfl rfl (b_add (wrap_i64 (by omega) (by omega))) ?_
    refine o_assign rfl rfl ?_
    refine l_nil ?_
    refine q_block ?_
    refine q_then ?_
    refine c_region ?_
    refine o_move rfl rfl ?_
    refine o_bin rfl rfl rfl (b_shr (by omega) (fdiv128 _)) ?_
    refine o_assign rfl rfl ?_
    refine l_nil ?_
    exact q_round (s + 1, r / 128) (by have h9 := numB_split r; rw [if_neg (by omega)] at hsz; exact ⟨by dsimp only; omega, by dsimp only; omega⟩) (by (try dsimp only); omega) ⟨(by first | rfl | exact vint (by omega)), (by first | rfl | exact vint (by omega)), (by first | rfl | exact vint (by omega)), (by first | rfl | exact vint (by omega)), (by first | rfl | exact vint (by omega)), (by first | rfl | exact vint (by omega)), (by first | rfl | exact vint (by omega)), (by first | rfl | exact vint (by omega)), trivial⟩ (fun w S => S)
  · -- h1F
    try simp only [decide_eq_true_eq, decide_eq_false_iff_not, Bool.not_eq_eq_eq_not, Bool.not_true, Bool.not_false, Bool.not_eq_true', Bool.not_eq_false', Int.not_lt, Int.not_le, Bool.or_eq_true, Bool.and_eq_true] at h1
    obtain rfl : r = 0 := by omega
    have hsz' : (numB n).length = s := by simpa using hsz
    refine c_exit ?_
    refine q_pass_exit ?_
    refine q_pass_exit ?_
    refine q_hit ?_
    refine q_then ?_
    refine c_seq ?_
    refine c_region ?_
    have hend : endR ys42 = 0 := by rw [endR, if_neg (by omega)]
    refine o_move rfl rfl ?_
    refine o_bin rfl rfl rfl b_eql ?_
    refine l_eq (t := 59) (v' := .bool true) rfl (show _ = Value.bool true from by rw [lself]; rfl) ?_
    refine o_move rfl rfl ?_
    refine o_yes rfl rfl rfl ?_
    refine o_move rfl rfl ?_
    refine o_yes rfl rfl rfl ?_
    refine o_move rfl rfl ?_
    refine o_yes rfl rfl rfl ?_
    refine o_bin rfl rfl rfl b_eql ?_
    refine l_eq (t := 63) (v' := .bool true) rfl (show _ = Value.bool true from by rw [lself]; simp) ?_
    refine o_pick_true rfl rfl rfl ?_
    refine o_move rfl rfl ?_
    refine o_yes rfl rfl rfl ?_
    refine o_move rfl rfl ?_
    refine o_yes rfl rfl rfl ?_
    refine l_f1 ?_
    refine l_f1 ?_
    refine o_call rfl cal23 rfl (eyeEnd ok42) ?_
    rintro _ _ ⟨rfl, rfl⟩
    refine o_yes rfl rfl rfl ?_
    refine o_bin rfl rfl rfl b_eql ?_
    refine l_eq (t := 68) (v' := .bool true) rfl (show _ = Value.bool true from by rw [hend]; rfl) ?_
    refine o_pick_true rfl rfl rfl ?_
    refine o_move rfl rfl ?_
    refine o_yes rfl rfl rfl ?_
    refine o_move rfl rfl ?_
    refine o_yes rfl rfl rfl ?_
    refine o_bin rfl rfl rfl b_eql ?_
    refine l_eq (t := 72) (v' := .bool true) rfl (show _ = Value.bool true from by rw [hcut]; rfl) ?_
    refine o_pick_true rfl rfl rfl ?_
    refine o_move rfl rfl ?_
    refine o_yes rfl rfl rfl ?_
    refine o_move rfl rfl ?_
    refine o_yes rfl rfl rfl ?_
    refine o_len rfl rfl Try.underlying25 ?_
    refine o_yes rfl rfl rfl ?_
    refine o_move rfl rfl ?_
    refine o_yes rfl rfl rfl ?_
    refine o_bin rfl rfl rfl b_eql ?_
    refine l_eq (t := 78) (v' := .bool true) rfl (show _ = Value.bool true from by rw [decide_eq_true (by omega)]) ?_
    refine o_pick_true rfl rfl rfl ?_
    refine o_assign rfl rfl ?_
    refine l_nil ?_
    refine q_then ?_
    refine c_ret ?_
    refine q_conv (fun w S => S.tail) ?_
    refine q_conv (fun w S => S.tail) ?_
    refine q_conv (fun w S => S.tail) ?_
    exact f_ret (r_one rfl rfl) (⟨rfl, rfl⟩) (fun w S => S)

end Go.Proofs.Ytkohbgblnkelnaa
