/- Printed by eng.py out of 01/spec.py. -/
import Derived.Test.YtkohbgblnkelnaaOrder
import Derived.Test.YtkohbgblnkelnaaEye
set_option linter.unusedVariables false
set_option linter.unusedSimpArgs false
set_option maxRecDepth 10000
namespace Go.Proofs.Ytkohbgblnkelnaa
open Go.RowKit
set_option maxHeartbeats 1000000 in
theorem cuts_ {W : World} {F : List Res} {xs : List UInt8} {a : Option Addr} {c : Nat} {k : Int} (hs : SlR W e8 a xs) : CS Try.prog 11 #[.slice a xs.length c, .int .i64 k] W (F) (fun r L' => r = .bool true ∧ F = L') := by
  refine f_door (l0 := [(0, .slice a xs.length c), (1, .int .i64 k)]) Try.func11 Try.ntmps11 rfl rfl rfl ?_
  refine c_seq ?_
  refine c_region ?_
  refine o_assign rfl rfl ?_
  refine l_nil ?_
  refine q_then ?_
  refine c_seq ?_
  refine c_seq ?_
  refine c_region ?_
  refine o_call rfl cal12 rfl (speaks_) ?_
  rintro _ _ ⟨rfl, rfl⟩
  refine o_not rfl rfl ?_
  refine l_nil ?_
  refine q_then ?_
  refine c_false rfl ?_
  refine c_skip ?_
  refine q_then ?_
  refine c_seq ?_
  refine c_seq ?_
  refine c_region ?_
  refine o_move rfl rfl ?_
  refine o_len rfl rfl Try.underlying25 ?_
  refine o_bin rfl rfl rfl b_gtr ?_
  refine l_nil ?_
  refine q_then ?_
  refine c_cond rfl (fun h1 => ?_) (fun h1 => ?_)
  · -- h1T
    try simp only [decide_eq_true_eq, decide_eq_false_iff_not, Bool.not_eq_eq_eq_not, Bool.not_true, Bool.not_false, Bool.not_eq_true', Bool.not_eq_false', Int.not_lt, Int.not_le, Bool.or_eq_true, Bool.and_eq_true] at h1
    refine c_seq ?_
    refine c_region ?_
    refine o_assign rfl rfl ?_
    refine l_nil ?_
    refine q_then ?_
    refine c_ret ?_
    refine q_pass_ret ?_
    exact f_ret (r_one rfl rfl) (⟨rfl, rfl⟩) (fun w S => S)
  · -- h1F
    try simp only [decide_eq_true_eq, decide_eq_false_iff_not, Bool.not_eq_eq_eq_not, Bool.not_true, Bool.not_false, Bool.not_eq_true', Bool.not_eq_false', Int.not_lt, Int.not_le, Bool.or_eq_true, Bool.and_eq_true] at h1
    have hnb := numB_len_le 10 xs.length (by omega) (by omega)
    have hlD : (numB xs.length ++ xs).length = (numB xs.length).length + xs.length := by simp
    have lp : 0 < (numB xs.length ++ xs).length := by rw [hlD]; have := numB_pos xs.length; omega
    refine c_skip ?_
    refine q_then ?_
    refine c_seq ?_
    refine c_region ?_
    refine o_build rfl sp27 ti27 rfl rfl ?_
    refine o_box rfl rfl fun b20 => ?_
    refine l_nilrow e8 ?_
    refine l_conv (L' := blk b20 (.cells #[.slice none (([] : List UInt8)).length 0] 27 (0, 0)) :: row e8.T e8.sz none (([] : List UInt8)).length 0 (flat e8 ([] : List UInt8)) :: _) (fun w S => S.perm p1) ?_
    refine o_assign rfl rfl ?_
    refine l_nil ?_
    refine q_then ?_
    refine c_seq ?_
    refine c_region ?_
    refine o_move rfl rfl ?_
    refine o_move rfl rfl ?_
    refine l_f1 ?_
    refine l_f1 ?_
    refine l_f1 ?_
    refine l_f1 ?_
    refine o_call rfl cal17 rfl (penText (rds_old hs) (by first | omega | simp) (by first | omega | simp)) ?_
    rintro _ _ ⟨a23, c23, rfl, rfl⟩
    refine l_conv (L' := blk b20 (.cells #[.slice a23 ((numB (xs).length ++ xs)).length c23] 27 (0, 0)) :: row e8.T e8.sz a23 ((numB (xs).length ++ xs)).length c23 (flat e8 (numB (xs).length ++ xs)) :: _) (fun w S => S) ?_
    refine l_nil ?_
    refine q_then ?_
    refine c_seq ?_
    refine c_region ?_
    refine o_move rfl rfl ?_
    refine l_f1 ?_
    refine l_f1 ?_
    refine o_call rfl cal14 rfl (penData (by rw [hlD]; omega)) ?_
    rintro _ _ ⟨a25, c25, rfl, rfl⟩
    refine l_fact (row_cap 0 rfl) ?_
    intro hcap25
    refine o_assign rfl rfl ?_
    refine l_nil ?_
    refine q_then ?_
    refine c_seq ?_
    refine c_region ?_
    refine o_move rfl rfl ?_
    refine o_bin rfl rfl rfl (b_and rfl) ?_
    obtain ⟨q27, hq27, eq27⟩ := and_mask k 65535 (by omega)
    refine l_eq (t := 27) (v' := .int .i64 (q27 : Int)) rfl (by first | exact congrArg _ eq27) ?_
    refine o_move rfl rfl ?_
    refine o_len rfl rfl Try.underlying25 ?_
    refine o_bin rfl rfl rfl (b_rem (by omega) tmodN) ?_
    obtain ⟨n, hnq⟩ : ∃ n, n = q27 % (numB xs.length ++ xs).length := ⟨_, rfl⟩
    have hnlt : n < (numB xs.length ++ xs).length := by rw [hnq]; exact Nat.mod_lt _ lp
    refine l_eq (t := 30) (v' := .int .i64 (n : Int)) rfl (by rw [hnq]) ?_
    refine o_assign rfl rfl ?_
    refine l_nil ?_
    refine q_then ?_
    refine c_seq ?_
    refine c_region ?_
    refine o_move rfl rfl ?_
    refine o_move rfl rfl ?_
    refine o_cut (l' := 0) (h' := n) (m := c25) rfl rfl Try.underlying25 ti5 (.inl ⟨rfl, rfl⟩) (.inr ⟨_, _, rfl, icast rfl rfl, (by omega)⟩) (.inl ⟨rfl, rfl⟩) ?_
    obtain ⟨ys33, ay33, cut33, hys33, hlys33, eay33⟩ : ∃ ys_ ay_, (∀ {L : List Res}, RdS W L e8 a25 (numB (xs).length ++ xs) → RdS W L e8 ay_ ys_) ∧ ys_ = sub (numB (xs).length ++ xs) 0 n ∧ ys_.length = n - 0 ∧ cutA a25 c25 0 1 = ay_ := ⟨_, _, fun h => rds_cut e8_ok h _ _ _ (by omega), rfl, sub_len (by omega), rfl⟩
    refine l_eq (t := 33) (v' := .slice ay33 ys33.length (c25 - 0)) rfl (by rw [eay33, hlys33]) ?_
    refine o_call rfl cal21 rfl (newEye (cut33 (rds_own e8_ok 0 rfl)) (by omega)) ?_
    rintro _ _ ⟨k34, a34, c34, hc34, rfl, rfl⟩
    have ok34 := eyeOk_start (W := W) (a := a34) hc34 (show (ys33).length ≤ 70000000000000 by omega)
    refine o_assign rfl rfl ?_
    refine l_nil ?_
    refine q_then ?_
    refine c_seq ?_
    refine c_seq ?_
    refine c_region ?_
    refine o_move rfl rfl ?_
    refine o_bin rfl rfl rfl (b_peq Try.underlying39 _) ?_
    refine l_nil ?_
    refine q_then ?_
    refine c_false rfl ?_
    refine c_skip ?_
    refine q_then ?_
    refine c_seq ?_
    refine c_region ?_
    refine o_move rfl rfl ?_
    refine l_f1 ?_
    refine l_f1 ?_
    refine o_call rfl cal31 rfl (eyeText ok34) ?_
    rintro _ _ ⟨out39, ys39, ay39, cy39, a39, c39, hout39, ok39, rfl, rfl⟩
    have htx : textR ys33 = ([], 30, 0) := by rw [hys33, sub_take]; exact textR_cut (by omega) hnlt
    rw [htx] at ok39 hout39
    refine o_move rfl rfl ?_
    refine o_extract rfl rfl rfl ?_
    refine o_extract rfl rfl rfl ?_
    refine o_assign rfl rfl ?_
    refine o_assign rfl rfl ?_
    refine l_nil ?_
    refine q_then ?_
    refine c_seq ?_
    refine c_seq ?_
    refine c_region ?_
    refine o_move rfl rfl ?_
    refine o_bin rfl rfl rfl b_neq ?_
    refine l_eq (t := 43) (v' := .bool false) rfl (show _ = Value.bool false from by rw [htx]; rfl) ?_
    refine o_move rfl rfl ?_
    refine o_yes rfl rfl rfl ?_
    refine o_move rfl rfl ?_
    refine o_yes rfl rfl rfl ?_
    refine o_len rfl rfl Try.underlying25 ?_
    refine o_yes rfl rfl rfl ?_
    refine o_bin rfl rfl rfl b_neq ?_
    refine l_eq (t := 47) (v' := .bool false) rfl (show _ = Value.bool false from by rw [hout39]; rfl) ?_
    refine o_pick_false rfl rfl rfl ?_
    refine l_nil ?_
    refine q_then ?_
    refine c_false rfl ?_
    refine c_skip ?_
    refine q_then ?_
    refine c_seq ?_
    refine c_seq ?_
    refine c_region ?_
    refine o_assign rfl rfl ?_
    refine l_nil ?_
    refine q_then ?_
    refine c_block ?_
    refine c_conv (fun w S => S.tail) ?_
    refine c_conv (fun w S => (S.perm p3).tail) ?_
    refine c_conv (fun w S => (S.perm p3).tail) ?_
    refine c_loop (α := Nat × (List UInt8) × (Option Addr) × Nat) (fun z => [(6, .slice a25 (numB xs.length ++ xs).length c25), (7, .int .i64 (n : Int)), (8, .pointer (some ⟨k34, 0, none⟩)), (11, .int .i64 (z.1 : Int))]) (fun z => blk k34 (.cells #[.slice z.2.2.1 (z.2.1).length z.2.2.2] 77 (0, 0)) :: row e8.T e8.sz a34 (ys33).length c34 (flat e8 ys33) :: row e8.T e8.sz a25 ((numB xs.length ++ xs)).length c25 (flat e8 (numB xs.length ++ xs)) :: F) (fun z => EyeOk W a34 ys33 z.1 z.2.1 z.2.2.1 z.2.2.2 ∧ z.1 ≤ n) (fun z => n - z.1) (0, ys39, ay39, cy39) (by exact ⟨ok39, Nat.zero_le _⟩) ⟨(by first | rfl | exact vint (by omega)), (by first | rfl | exact vint (by omega)), (by first | rfl | exact vint (by omega)), (by first | rfl | exact vint (by omega)), trivial⟩ (fun w S => S) ?_
    rintro ⟨i, ysi, ayi, cyi⟩ ⟨oki, hin⟩
    try dsimp only at *
    refine c_seq ?_
    refine c_seq ?_
    refine c_region ?_
    refine o_move rfl rfl ?_
    refine o_move rfl rfl ?_
    refine o_bin rfl rfl rfl b_lss ?_
    refine l_nil ?_
    refine q_then ?_
    refine c_cond rfl (fun h2 => ?_) (fun h2 => ?_)
    · -- h2T
      try simp only [decide_eq_true_eq, decide_eq_false_iff_not, Bool.not_eq_eq_eq_not, Bool.not_true, Bool.not_false, Bool.not_eq_true', Bool.not_eq_false', Int.not_lt, Int.not_le, Bool.or_eq_true, Bool.and_eq_true] at h2
      refine c_skip ?_
      refine q_then ?_
      refine c_seq ?_
      refine c_block ?_
      refine c_seq ?_
      refine c_region ?_
      refine o_move rfl rfl ?_
      refine l_f1 ?_
      refine l_f1 ?_
      refine o_call rfl cal33 rfl (eyeByte oki) ?_
      rintro _ _ ⟨ys56, ay56, cy56, ok56, rfl, rfl⟩
      obtain ⟨dd, hdd⟩ : ∃ x, (numB xs.length ++ xs)[i]? = some x := ⟨_, List.getElem?_eq_getElem (by omega)⟩
      have hb : byteR ysi = (dd, 0, 1) := byteR_at hys33 oki.is (by omega) hdd
      rw [hb] at ok56
      refine o_move rfl rfl ?_
      refine o_extract rfl rfl rfl ?_
      refine o_extract rfl rfl rfl ?_
      refine o_assign rfl rfl ?_
      refine o_assign rfl rfl ?_
      refine l_nil ?_
      refine q_then ?_
      refine c_seq ?_
      refine c_region ?_
      refine o_move rfl rfl ?_
      refine o_bin rfl rfl rfl b_neq ?_
      refine l_eq (t := 60) (v' := .bool false) rfl (show _ = Value.bool false from by rw [hb]; rfl) ?_
      refine o_move rfl rfl ?_
      refine o_yes rfl rfl rfl ?_
      refine o_move rfl rfl ?_
      refine o_yes rfl rfl rfl ?_
      refine o_move rfl rfl ?_
      refine o_yes rfl rfl rfl ?_
      refine o_move rfl rfl ?_
      refine o_yes rfl rfl rfl ?_
      refine o_index e8_ok rfl rfl rfl Try.underlying25 (by omega) (by omega) (rds_own e8_ok 2 rfl) fun ad65 ead65 => ?_
      obtain ⟨x65, hx65⟩ : ∃ x, ((numB xs.length ++ xs))[((i : Int)).toNat]? = some x := ⟨_, List.getElem?_eq_getElem (by omega)⟩
      obtain rfl : dd = x65 := Option.some.inj (hdd.symm.trans hx65)
      refine o_yes rfl rfl rfl ?_
      refine o_load1 rfl rfl Try.underlying5 rfl (rd_sl0 e8_ok ead65 (rds_own e8_ok 2 rfl) hx65 rfl) ?_
      refine o_yes rfl rfl rfl ?_
      refine o_bin rfl rfl rfl b_neq ?_
      refine l_eq (t := 67) (v' := .bool false) rfl (show _ = Value.bool false from by rw [hb]; simp) ?_
      refine o_pick_false rfl rfl rfl ?_
      refine l_nil ?_
      refine q_then ?_
      refine c_false rfl ?_
      refine c_skip ?_
      refine q_block ?_
      refine q_then ?_
      refine c_region ?_
      refine o_move rfl rfl ?_
      refine o_bin rfl rfl rfl (b_add (wrap_i64 (by omega) (by omega))) ?_
      refine o_assign rfl rfl ?_
      refine l_nil ?_
      exact q_round (i + 1, ys56, ay56, cy56) (by exact ⟨ok56, by omega⟩) (by (try dsimp only); omega) ⟨(by first | rfl | exact vint (by omega)), (by first | rfl | exact vint (by omega)), (by first | rfl | exact vint (by omega)), (by first | rfl | exact vint (by omega)), trivial⟩ (fun w S => S)
    · -- h2F
      try simp only [decide_eq_true_eq, decide_eq_false_iff_not, Bool.not_eq_eq_eq_not, Bool.not_true, Bool.not_false, Bool.not_eq_true', Bool.not_eq_false', Int.not_lt, Int.not_le, Bool.or_eq_true, Bool.and_eq_true] at h2
      refine c_exit ?_
      refine q_pass_exit ?_
      refine q_pass_exit ?_
      refine q_hit ?_
      refine q_then ?_
      refine c_seq ?_
      refine c_region ?_
      have hend : endR ysi = 0 := by rw [endR, if_neg (by have := oki.len; omega)]
      refine o_move rfl rfl ?_
      refine l_f1 ?_
      refine l_f1 ?_
      refine o_call rfl cal23 rfl (eyeEnd oki) ?_
      rintro _ _ ⟨rfl, rfl⟩
      refine o_bin rfl rfl rfl b_eql ?_
      refine l_eq (t := 71) (v' := .bool true) rfl (show _ = Value.bool true from by rw [hend]; rfl) ?_
      refine o_assign rfl rfl ?_
      refine l_nil ?_
      refine q_then ?_
      refine c_ret ?_
      refine q_conv (fun w S => S.tail) ?_
      refine q_conv (fun w S => S.tail) ?_
      refine q_conv (fun w S => S.tail) ?_
      exact f_ret (r_one rfl rfl) (⟨rfl, rfl⟩) (fun w S => S)

end Go.Proofs.Ytkohbgblnkelnaa
