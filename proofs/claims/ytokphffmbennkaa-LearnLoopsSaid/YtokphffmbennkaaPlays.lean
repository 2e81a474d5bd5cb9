/- Printed by eng.py out of 13/spec.py. -/
import Derived.Test.YtokphffmbennkaaOnce
import Derived.Test.YtokphffmbennkaaRef
set_option linter.unusedVariables false
set_option linter.unusedSimpArgs false
set_option maxRecDepth 10000
namespace Go.Proofs.Ytokphffmbennkaa
open Go.RowKit
theorem rcs0 : ((.agg #[.bool false, .bool false, .bool false, .bool false, .bool false, .bool false, .bool false, .bool false, .bool false, .bool false, .bool false, .bool false, .bool false, .bool false, .bool false, .bool false, .bool false, .bool false, .bool false, .bool false, .bool false, .bool false, .bool false, .bool false, .bool false, .bool false, .bool false, .bool false, .bool false, .bool false, .bool false, .bool false, .bool false, .bool false, .bool false, .bool false, .bool false, .bool false, .bool false, .bool false, .bool false, .bool false, .bool false, .bool false, .bool false, .bool false, .bool false, .bool false, .bool false, .bool false, .bool false, .bool false, .bool false, .bool false, .bool false, .bool false, .bool false, .bool false, .bool false, .bool false, .bool false, .bool false, .bool false, .bool false, .string ByteArray.empty, .string ByteArray.empty, .string ByteArray.empty, .string ByteArray.empty, .string ByteArray.empty, .string ByteArray.empty, .string ByteArray.empty, .string ByteArray.empty, .string ByteArray.empty, .string ByteArray.empty, .string ByteArray.empty, .string ByteArray.empty, .string ByteArray.empty, .string ByteArray.empty, .string ByteArray.empty, .string ByteArray.empty, .string ByteArray.empty, .string ByteArray.empty, .string ByteArray.empty, .string ByteArray.empty, .string ByteArray.empty, .string ByteArray.empty, .string ByteArray.empty, .string ByteArray.empty, .string ByteArray.empty, .string ByteArray.empty, .string ByteArray.empty, .string ByteArray.empty, .string ByteArray.empty, .string ByteArray.empty, .string ByteArray.empty, .string ByteArray.empty, .string ByteArray.empty, .string ByteArray.empty, .string ByteArray.empty, .string ByteArray.empty, .string ByteArray.empty, .string ByteArray.empty, .string ByteArray.empty, .string ByteArray.empty, .string ByteArray.empty, .string ByteArray.empty, .string ByteArray.empty, .string ByteArray.empty, .string ByteArray.empty, .string ByteArray.empty, .string ByteArray.empty, .string ByteArray.empty, .string ByteArray.empty, .string ByteArray.empty, .string ByteArray.empty, .string ByteArray.empty, .string ByteArray.empty, .string ByteArray.empty, .string ByteArray.empty, .string ByteArray.empty, .string ByteArray.empty, .string ByteArray.empty, .string ByteArray.empty, .string ByteArray.empty, .string ByteArray.empty, .string ByteArray.empty, .string ByteArray.empty, .string ByteArray.empty]) : Value).cells = rcs kn0 vl0 := by kernel_rfl
set_option maxHeartbeats 1000000 in
theorem plays_ {W : World} {F : List Res} {xs : List Op} {a : Option Addr} {c : Nat} (hs : SlR W eOp a xs) : CS Try.prog 4 #[.slice a xs.length c] W (F) (fun r L' => r = .bool true ∧ F = L') := by
  refine f_door (l0 := [(0, .slice a xs.length c)]) Try.func4 Try.ntmps4 rfl rfl rfl ?_
  refine c_seq ?_
  refine c_region ?_
  refine o_assign rfl rfl ?_
  refine l_nil ?_
  refine q_then ?_
  refine c_seq ?_
  refine c_seq ?_
  refine c_region ?_
  refine o_call rfl cal7 rfl (speaks_) ?_
  rintro _ _ ⟨rfl, rfl⟩
  refine o_not rfl rfl ?_
  refine l_nil ?_
  refine q_then ?_
  refine c_false rfl ?_
  refine c_skip ?_
  refine q_then ?_
  refine c_seq ?_
  refine c_seq ?_
  refine c_region ?_
  refine o_move rfl rfl ?_
  refine o_len rfl rfl Try.underlying30 ?_
  refine o_bin rfl rfl rfl b_gtr ?_
  refine l_nil ?_
  refine q_then ?_
  refine c_cond rfl (fun h1 => ?_) (fun h1 => ?_)
  · -- h1T
    try simp only [decide_eq_true_eq, decide_eq_false_iff_not, Bool.not_eq_eq_eq_not, Bool.not_true, Bool.not_false, Bool.not_eq_true', Bool.not_eq_false', Int.not_lt, Int.not_le, Bool.or_eq_true, Bool.and_eq_true] at h1
    refine c_seq ?_
    refine c_region ?_
    refine o_assign rfl rfl ?_
    refine l_nil ?_
    refine q_then ?_
    refine c_ret ?_
    refine q_pass_ret ?_
    exact f_ret (r_one rfl rfl) (⟨rfl, rfl⟩) (fun w S => S)
  · -- h1F
    try simp only [decide_eq_true_eq, decide_eq_false_iff_not, Bool.not_eq_eq_eq_not, Bool.not_true, Bool.not_false, Bool.not_eq_true', Bool.not_eq_false', Int.not_lt, Int.not_le, Bool.or_eq_true, Bool.and_eq_true] at h1
    refine c_skip ?_
    refine q_then ?_
    refine c_seq ?_
    refine c_region ?_
    refine o_call rfl cal12 rfl (newS) ?_
    rintro _ _ ⟨k19, m19, rfl, rfl⟩
    refine o_build rfl sp37 ti37 rfl rfl ?_
    refine o_box rfl rfl fun b21 => ?_
    refine l_conv (L' := blk b21 (.cells (rcs kn0 vl0) 37 (0, 0)) :: _) (fun w S => by rw [← rcs0]; exact S) ?_
    refine o_assign rfl rfl ?_
    refine o_assign rfl rfl ?_
    refine l_nil ?_
    refine q_then ?_
    refine c_seq ?_
    refine c_seq ?_
    refine c_region ?_
    refine o_move rfl rfl ?_
    refine o_bin rfl rfl rfl (b_peq Try.underlying31 _) ?_
    refine l_nil ?_
    refine q_then ?_
    refine c_false rfl ?_
    refine c_skip ?_
    refine q_then ?_
    refine c_seq ?_
    refine c_seq ?_
    refine c_region ?_
    refine o_move rfl rfl ?_
    refine o_len rfl rfl Try.underlying30 ?_
    refine o_move rfl rfl ?_
    refine l_nil ?_
    refine q_then ?_
    refine c_block ?_
    refine c_conv (fun w S => S.perm p2) ?_
    refine c_conv (fun w S => S.perm p2) ?_
    refine c_loop (α := Nat × (List (Int × ByteArray)) × Nat × (List Bool) × (List ByteArray)) (fun z => [(3, .pointer (some ⟨k19, 0, none⟩)), (4, .pointer (some ⟨b21, 0, none⟩)), (24, .slice a xs.length c), (25, .int .i64 (xs.length : Int)), (26, .int .i64 (z.1 : Int))]) (fun z => blk k19 (.cells #[.map (some m19), .int .i64 (z.2.2.1 : Int)] 57 (0, 0)) :: mapR kvI vvS m19 z.2.1 :: blk b21 (.cells (rcs z.2.2.2.1 z.2.2.2.2) 37 (0, 0)) :: F) (fun z => z.1 ≤ xs.length ∧ ChOk z.2.1 z.2.2.1 ∧ RefOk z.2.1 z.2.2.2.1 z.2.2.2.2) (fun z => xs.length - z.1) (0, [], 0, kn0, vl0) (by exact ⟨Nat.zero_le _, chOk_nil, refOk_nil⟩) ⟨(by first | rfl | exact vint (by omega)), (by first | rfl | exact vint (by omega)), (by first | rfl | exact vint (by omega)), (by first | rfl | exact vint (by omega)), (by first | rfl | exact vint (by omega)), trivial⟩ (fun w S => S) ?_
    rintro ⟨i, D, wh, kn, vl⟩ ⟨hi, ok, rok⟩
    try dsimp only at *
    refine c_seq ?_
    refine c_region ?_
    refine o_bin rfl rfl rfl b_lss ?_
    refine l_nil ?_
    refine q_then ?_
    refine c_seq ?_
    refine c_cond rfl (fun h2 => ?_) (fun h2 => ?_)
    · -- h2T
      try simp only [decide_eq_true_eq, decide_eq_false_iff_not, Bool.not_eq_eq_eq_not, Bool.not_true, Bool.not_false, Bool.not_eq_true', Bool.not_eq_false', Int.not_lt, Int.not_le, Bool.or_eq_true, Bool.and_eq_true] at h2
      refine c_skip ?_
      refine q_then ?_
      refine c_seq ?_
      refine c_block ?_
      refine c_seq ?_
      refine c_region ?_
      refine o_index eOp_ok rfl rfl rfl Try.underlying30 (by omega) (by omega) (rds_old hs) fun ad28 ead28 => ?_
      obtain ⟨x28, hx28⟩ : ∃ x, (xs)[((i : Int)).toNat]? = some x := ⟨_, List.getElem?_eq_getElem (by omega)⟩
      refine o_loadn (vs := eOp.cells x28) rfl rfl Try.underlying39 rfl ti39 (rdn_sl eOp_ok ead28 (rds_old hs) hx28) ?_
      refine o_alloc rfl ti39 fun b6 => ?_
      refine o_storen rfl rfl ti39 rfl rfl rfl rfl ?_
      refine l_nil ?_
      refine q_then ?_
      refine c_seq ?_
      refine c_seq ?_
      refine c_held [blk b6 (.cells #[_, _, _, _] 39 (0, 0))] (by kernel_rfl) rfl ?_
      refine h_take 0 rfl rfl (by kernel_rfl) (by kernel_rfl) (by kernel_rfl) (fun L0 => v_move rfl rfl) ?_
      refine h_take 1 rfl rfl (by kernel_rfl) (by kernel_rfl) (by kernel_rfl) (fun L0 => v_fieldAddr (q := ⟨b6, 0, none⟩) rfl rfl Try.underlying39 rfl ti3 rfl) ?_
      refine h_take 2 rfl rfl (by kernel_rfl) (by kernel_rfl) (by kernel_rfl) (fun L0 => v_load1 rfl rfl Try.underlying3 rfl (rd_mem 0 rfl rfl)) ?_
      refine h_take 3 rfl rfl (by kernel_rfl) (by kernel_rfl) (by kernel_rfl) (fun L0 => v_fieldAddr (q := ⟨b6, 1, none⟩) rfl rfl Try.underlying39 rfl ti9 rfl) ?_
      refine h_take 4 rfl rfl (by kernel_rfl) (by kernel_rfl) (by kernel_rfl) (fun L0 => v_load1 rfl rfl Try.underlying9 rfl (rd_mem 0 rfl rfl)) ?_
      refine h_take 6 rfl rfl (by kernel_rfl) (by kernel_rfl) (by kernel_rfl) (fun L0 => v_move rfl rfl) ?_
      refine h_take 7 rfl rfl (by kernel_rfl) (by kernel_rfl) (by kernel_rfl) (fun L0 => v_fieldAddr (q := ⟨b6, 0, none⟩) rfl rfl Try.underlying39 rfl ti3 rfl) ?_
      refine h_take 8 rfl rfl (by kernel_rfl) (by kernel_rfl) (by kernel_rfl) (fun L0 => v_load1 rfl rfl Try.underlying3 rfl (rd_mem 0 rfl rfl)) ?_
      refine h_take 9 rfl rfl (by kernel_rfl) (by kernel_rfl) (by kernel_rfl) (fun L0 => v_fieldAddr (q := ⟨b6, 1, none⟩) rfl rfl Try.underlying39 rfl ti9 rfl) ?_
      refine h_take 10 rfl rfl (by kernel_rfl) (by kernel_rfl) (by kernel_rfl) (fun L0 => v_load1 rfl rfl Try.underlying9 rfl (rd_mem 0 rfl rfl)) ?_
      refine h_one 5 rfl (by kernel_rfl) ?_
      refine l_f2 ?_
      refine l_f2 ?_
      refine o_call rfl cal13 rfl (learnS ok) ?_
      rintro _ _ ⟨wh35, ok35, rfl, rfl⟩
      refine l_nil ?_
      refine q_conv (fun w S => S.perm p3) ?_
      refine q_conv (fun w S => S.perm p2) ?_
      refine q_conv (fun w S => S.perm p2) ?_
      refine q_conv (fun w S => S.perm p3) ?_
      refine h_next ?_
      refine h_one 11 rfl (by kernel_rfl) ?_
      refine l_f3 ?_
      refine o_call rfl cal14 rfl (rlearn rok) ?_
      rintro _ _ ⟨kn41, vl41, rok41, rfl, rfl⟩
      refine l_nil ?_
      refine q_conv (fun w S => S.perm p3) ?_
      refine q_conv (fun w S => S.perm p3) ?_
      refine q_conv (fun w S => S.perm p2) ?_
      refine q_conv (fun w S => S.perm p3) ?_
      refine h_next ?_
      refine h_take 12 rfl rfl (by kernel_rfl) (by kernel_rfl) (by kernel_rfl) (fun L0 => v_bin rfl rfl rfl (b_bne Try.underlying4 _ _)) ?_
      refine h_eq (t := 42) (v' := .bool false) rfl (show _ = Value.bool false from by simp) ?_
      refine h_take 13 rfl rfl (by kernel_rfl) (by kernel_rfl) (by kernel_rfl) (fun L0 => v_move rfl rfl) ?_
      refine h_take_yes 14 rfl rfl rfl rfl rfl (by kernel_rfl) (by kernel_rfl) (by kernel_rfl) (fun L0 => v_move rfl rfl) ?_
      refine h_take_yes 16 rfl rfl rfl rfl rfl (by kernel_rfl) (by kernel_rfl) (by kernel_rfl) (fun L0 => v_move rfl rfl) ?_
      refine h_one 15 rfl (by kernel_rfl) ?_
      refine o_yes rfl rfl rfl ?_
      refine l_f3 ?_
      refine l_f3 ?_
      refine o_call rfl cal15 rfl (lenS ok35) ?_
      rintro _ _ ⟨rfl, rfl⟩
      refine l_nil ?_
      refine q_conv (fun w S => S.perm p3) ?_
      refine q_conv (fun w S => S.perm p2) ?_
      refine q_conv (fun w S => S.perm p2) ?_
      refine q_conv (fun w S => S.perm p3) ?_
      refine h_next ?_
      refine h_one 17 rfl (by kernel_rfl) ?_
      refine o_yes rfl rfl rfl ?_
      refine l_f3 ?_
      refine o_call rfl cal16 rfl (rlen rok41 ok35) ?_
      rintro _ _ ⟨rfl, rfl⟩
      refine l_nil ?_
      refine q_conv (fun w S => S.perm p3) ?_
      refine q_conv (fun w S => S.perm p3) ?_
      refine q_conv (fun w S => S.perm p2) ?_
      refine q_conv (fun w S => S.perm p3) ?_
      refine h_next ?_
      refine h_take_yes 18 rfl rfl rfl rfl rfl (by kernel_rfl) (by kernel_rfl) (by kernel_rfl) (fun L0 => v_bin rfl rfl rfl b_neq) ?_
      refine h_eq (t := 48) (v' := .bool false) rfl (show _ = Value.bool false from by simp) ?_
      refine h_take 19 rfl rfl (by kernel_rfl) (by kernel_rfl) (by kernel_rfl) (fun L0 => v_pick_false rfl rfl rfl) ?_
      refine h_done (by kernel_rfl) ?_
      refine q_then ?_
      refine c_false rfl ?_
      refine c_skip ?_
      refine q_then ?_
      refine c_seq ?_
      refine c_region ?_
      refine o_move rfl rfl ?_
      refine o_fieldAddr (q := ⟨b6, 2, none⟩) rfl rfl Try.underlying39 rfl ti3 rfl ?_
      refine o_load1 rfl rfl Try.underlying3 rfl (rd_mem 0 rfl rfl) ?_
      refine l_f3 ?_
      refine l_f3 ?_
      refine o_call rfl cal17 rfl (getS ok35) ?_
      rintro _ _ ⟨rfl, rfl⟩
      refine o_move rfl rfl ?_
      refine o_extract rfl rfl rfl ?_
      refine o_extract rfl rfl rfl ?_
      refine o_assign rfl rfl ?_
      refine o_assign rfl rfl ?_
      refine l_nil ?_
      refine q_then ?_
      refine c_seq ?_
      refine c_region ?_
      refine o_move rfl rfl ?_
      refine o_fieldAddr (q := ⟨b6, 2, none⟩) rfl rfl Try.underlying39 rfl ti3 rfl ?_
      refine o_load1 rfl rfl Try.underlying3 rfl (rd_mem 2 rfl rfl) ?_
      refine l_f3 ?_
      refine o_call rfl cal18 rfl (rget rok41 ok35.range) ?_
      rintro _ _ ⟨rfl, rfl⟩
      refine o_move rfl rfl ?_
      refine o_extract rfl rfl rfl ?_
      refine o_extract rfl rfl rfl ?_
      refine o_assign rfl rfl ?_
      refine o_assign rfl rfl ?_
      refine l_nil ?_
      refine q_then ?_
      refine c_seq ?_
      refine c_conv (fun w S => S.perm p2) ?_
      refine c_conv (fun w S => S.perm p2) ?_
      refine c_conv (fun w S => S.perm p2) ?_
      refine c_conv (fun w S => S.perm p3) ?_
      refine c_held [blk b6 (.cells #[_, _, _, _] 39 (0, 0))] (by kernel_rfl) rfl ?_
      refine h_take 0 rfl rfl (by kernel_rfl) (by kernel_rfl) (by kernel_rfl) (fun L0 => v_move rfl rfl) ?_
      refine h_take 1 rfl rfl (by kernel_rfl) (by kernel_rfl) (by kernel_rfl) (fun L0 => v_fieldAddr (q := ⟨b6, 2, none⟩) rfl rfl Try.underlying39 rfl ti3 rfl) ?_
      refine h_take 2 rfl rfl (by kernel_rfl) (by kernel_rfl) (by kernel_rfl) (fun L0 => v_load1 rfl rfl Try.underlying3 rfl (rd_mem 0 rfl rfl)) ?_
      refine h_take 3 rfl rfl (by kernel_rfl) (by kernel_rfl) (by kernel_rfl) (fun L0 => v_fieldAddr (q := ⟨b6, 3, none⟩) rfl rfl Try.underlying39 rfl ti3 rfl) ?_
      refine h_take 4 rfl rfl (by kernel_rfl) (by kernel_rfl) (by kernel_rfl) (fun L0 => v_load1 rfl rfl Try.underlying3 rfl (rd_mem 0 rfl rfl)) ?_
      refine h_take 6 rfl rfl (by kernel_rfl) (by kernel_rfl) (by kernel_rfl) (fun L0 => v_move rfl rfl) ?_
      refine h_take 7 rfl rfl (by kernel_rfl) (by kernel_rfl) (by kernel_rfl) (fun L0 => v_fieldAddr (q := ⟨b6, 2, none⟩) rfl rfl Try.underlying39 rfl ti3 rfl) ?_
      refine h_take 8 rfl rfl (by kernel_rfl) (by kernel_rfl) (by kernel_rfl) (fun L0 => v_load1 rfl rfl Try.underlying3 rfl (rd_mem 0 rfl rfl)) ?_
      refine h_take 9 rfl rfl (by kernel_rfl) (by kernel_rfl) (by kernel_rfl) (fun L0 => v_fieldAddr (q := ⟨b6, 3, none⟩) rfl rfl Try.underlying39 rfl ti3 rfl) ?_
      refine h_take 10 rfl rfl (by kernel_rfl) (by kernel_rfl) (by kernel_rfl) (fun L0 => v_load1 rfl rfl Try.underlying3 rfl (rd_mem 0 rfl rfl)) ?_
      refine h_one 5 rfl (by kernel_rfl) ?_
      refine l_f3 ?_
      refine l_f3 ?_
      refine o_call rfl cal19 rfl (fromS ok35) ?_
      rintro _ _ ⟨xs69, a69, c69, hxs69, rfl, rfl⟩
      refine l_nil ?_
      refine q_conv (fun w S => S.perm p4) ?_
      refine q_conv (fun w S => S.perm p3) ?_
      refine q_conv (fun w S => S.perm p3) ?_
      refine q_conv (fun w S => S.perm p3) ?_
      refine q_conv (fun w S => S.perm p4) ?_
      refine h_next ?_
      refine h_one 11 rfl (by kernel_rfl) ?_
      refine l_f4 ?_
      refine o_call rfl cal20 rfl (rfrom rok41 ok35.range) ?_
      rintro _ _ ⟨xs75, a75, c75, hxs75, rfl, rfl⟩
      refine l_nil ?_
      refine q_conv (fun w S => S.perm p5) ?_
      refine q_conv (fun w S => S.perm p5) ?_
      refine q_conv (fun w S => S.perm p5) ?_
      refine q_conv (fun w S => S.perm p4) ?_
      refine q_conv (fun w S => S.perm p4) ?_
      refine q_conv (fun w S => S.perm p5) ?_
      refine h_next ?_
      refine h_take 12 rfl rfl (by kernel_rfl) (by kernel_rfl) (by kernel_rfl) (fun L0 => v_assign rfl rfl) ?_
      refine h_take 13 rfl rfl (by kernel_rfl) (by kernel_rfl) (by kernel_rfl) (fun L0 => v_assign rfl rfl) ?_
      refine h_done (by kernel_rfl) ?_
      refine q_then ?_
      refine c_seq ?_
      refine c_seq ?_
      refine c_region ?_
      refine o_move rfl rfl ?_
      refine o_move rfl rfl ?_
      refine o_bin rfl rfl rfl b_sneq ?_
      refine l_eq (t := 78) (v' := .bool false) rfl (show _ = Value.bool false from by simp) ?_
      refine o_move rfl rfl ?_
      refine o_yes rfl rfl rfl ?_
      refine o_move rfl rfl ?_
      refine o_yes rfl rfl rfl ?_
      refine o_move rfl rfl ?_
      refine o_yes rfl rfl rfl ?_
      refine o_bin rfl rfl rfl (b_bne Try.underlying4 _ _) ?_
      refine l_eq (t := 82) (v' := .bool false) rfl (show _ = Value.bool false from by simp) ?_
      refine o_pick_false rfl rfl rfl ?_
      refine o_move rfl rfl ?_
      refine o_yes rfl rfl rfl ?_
      refine o_move rfl rfl ?_
      refine o_yes rfl rfl rfl ?_
      refine o_len rfl rfl Try.underlying43 ?_
      refine o_yes rfl rfl rfl ?_
      refine o_move rfl rfl ?_
      refine o_yes rfl rfl rfl ?_
      refine o_len rfl rfl Try.underlying43 ?_
      refine o_yes rfl rfl rfl ?_
      refine o_bin rfl rfl rfl b_neq ?_
      refine l_eq (t := 89) (v' := .bool false) rfl (show _ = Value.bool false from by rw [hxs69, hxs75]; simp) ?_
      refine o_pick_false rfl rfl rfl ?_
      refine l_nil ?_
      refine q_then ?_
      refine c_false rfl ?_
      refine c_skip ?_
      refine q_then ?_
      refine c_seq ?_
      refine c_region ?_
      have hxx : xs69 = xs75 := by rw [hxs69, hxs75]
      refine o_move rfl rfl ?_
      refine o_len rfl rfl Try.underlying43 ?_
      refine o_move rfl rfl ?_
      refine l_nil ?_
      refine q_then ?_
      refine c_block ?_
      refine c_conv (fun w S => S.tail) ?_
      refine c_conv (fun w S => S.perm p2) ?_
      refine c_conv (fun w S => S.perm p2) ?_
      refine c_conv (fun w S => S.perm p4) ?_
      refine c_conv (fun w S => S.perm p4) ?_
      refine c_loop (α := Nat × (List ByteArray)) (fun z => [(3, .pointer (some ⟨k19, 0, none⟩)), (4, .pointer (some ⟨b21, 0, none⟩)), (24, .slice a xs.length c), (25, .int .i64 (xs.length : Int)), (26, .int .i64 (i : Int)), (11, .slice a69 z.2.length c69), (12, .slice a75 xs75.length c75), (92, .int .i64 (xs69.length : Int)), (93, .int .i64 (z.1 : Int))]) (fun z => blk k19 (.cells #[.map (some m19), .int .i64 (wh35 : Int)] 57 (0, 0)) :: mapR kvI vvS m19 (lrn D x28.f_Slot x28.f_Value) :: blk b21 (.cells (rcs kn41 vl41) 37 (0, 0)) :: row eS.T eS.sz a69 (z.2).length c69 (flat eS z.2) :: row eS.T eS.sz a75 (xs75).length c75 (flat eS xs75) :: F) (fun z => z.1 ≤ xs69.length ∧ z.2.length = xs69.length ∧ ∀ q : Nat, z.1 ≤ q → z.2[q]? = xs69[q]?) (fun z => xs69.length - z.1) (0, xs69) (by exact ⟨Nat.zero_le _, rfl, fun _ _ => rfl⟩) ⟨(by first | rfl | exact vint (by omega)), (by first | rfl | exact vint (by omega)), (by first | rfl | exact vint (by omega)), (by first | rfl | exact vint (by omega)), (by first | rfl | exact vint (by omega)), (by first | rfl | exact vint (by omega)), (by first | rfl | exact vint (by omega)), (by first | rfl | exact vint (by omega)), (by first | rfl | exact vint (by omega)), trivial⟩ (fun w S => S) ?_
      rintro ⟨j, ys⟩ ⟨hj, hyl, hys⟩
      try dsimp only at *
      refine c_seq ?_
      refine c_region ?_
      refine o_bin rfl rfl rfl b_lss ?_
      refine l_nil ?_
      refine q_then ?_
      refine c_seq ?_
      refine c_cond rfl (fun h3 => ?_) (fun h3 => ?_)
      · -- h3T
        try simp only [decide_eq_true_eq, decide_eq_false_iff_not, Bool.not_eq_eq_eq_not, Bool.not_true, Bool.not_false, Bool.not_eq_true', Bool.not_eq_false', Int.not_lt, Int.not_le, Bool.or_eq_true, Bool.and_eq_true] at h3
        refine c_skip ?_
        refine q_then ?_
        refine c_seq ?_
        refine c_block ?_
        refine c_seq ?_
        refine c_region ?_
        refine o_move rfl rfl ?_
        refine o_assign rfl rfl ?_
        refine l_nil ?_
        refine q_then ?_
        refine c_seq ?_
        refine c_seq ?_
        refine c_fact (row_len 3 rfl) ?_
        intro hl11
        have hxl : xs75.length = xs69.length := by rw [hxx]
        refine c_fact (p := ∃ ad, a69 = some ad) (rds_some (e := eS) (xs := ys) (rds_own eS_ok 3 rfl) (by intro h0; rw [h0] at hyl; simp at hyl; omega)) ?_
        rintro ⟨ad11, ead11⟩
        refine c_fact (p := ∃ ad, a75 = some ad) (rds_some (e := eS) (xs := xs75) (rds_own eS_ok 4 rfl) (by intro h0; rw [h0] at hxl; simp at hxl; omega)) ?_
        rintro ⟨ad12, ead12⟩
        refine c_quiet (by kernel_rfl) (by kernel_rfl) ?_
        refine Qt.o_val rfl (v_move rfl rfl) ?_
        refine Qt.o_val rfl (v_move rfl rfl) ?_
        refine Qt.o_val rfl (v_indexK eS_ok ead11 rfl rfl rfl Try.underlying43 (by omega) (by omega)) ?_
        obtain ⟨x98, hx98⟩ : ∃ x, (ys)[((j : Int)).toNat]? = some x := ⟨_, List.getElem?_eq_getElem (by omega)⟩
        refine Qt.o_val rfl (v_load1 rfl rfl Try.underlying9 rfl (rd_sl0 eS_ok ead11 (rds_own eS_ok 3 rfl) hx98 rfl)) ?_
        refine Qt.o_val rfl (v_move rfl rfl) ?_
        refine Qt.o_val rfl (v_move rfl rfl) ?_
        refine Qt.o_val rfl (v_indexK eS_ok ead12 rfl rfl rfl Try.underlying43 (by omega) (by omega)) ?_
        obtain ⟨x102, hx102⟩ : ∃ x, (xs75)[((j : Int)).toNat]? = some x := ⟨_, List.getElem?_eq_getElem (by omega)⟩
        refine Qt.o_val rfl (v_load1 rfl rfl Try.underlying9 rfl (rd_sl0 eS_ok ead12 (rds_own eS_ok 4 rfl) hx102 rfl)) ?_
        have hsame : x98 = x102 := by have h9 := hys (j : Int).toNat (by omega); rw [hx98, hxx, hx102] at h9; exact Option.some.inj h9
        refine Qt.o_val rfl (v_bin rfl rfl rfl b_sneq) ?_
        refine Qt.l_eq (t := 104) (v' := .bool false) rfl (show _ = Value.bool false from by rw [hsame]; simp) ?_
        refine Qt.l_nil ?_
        refine q_then ?_
        refine c_false rfl ?_
        refine c_skip ?_
        refine q_then ?_
        refine c_region ?_
        refine o_move rfl rfl ?_
        refine o_move rfl rfl ?_
        refine o_indexK eS_ok ead11 rfl rfl rfl Try.underlying43 (by omega) (by omega) ?_
        obtain ⟨x107, hx107⟩ : ∃ x, (ys)[((j : Int)).toNat]? = some x := ⟨_, List.getElem?_eq_getElem (by omega)⟩
        refine l_f3 ?_
        refine o_storeRow0 (x1 := ⟨#[115, 112, 111, 105, 108, 116]⟩) eS_ok ead11 rfl rfl rfl ti9 hx107 rfl ?_
        refine l_nil ?_
        refine q_block ?_
        refine q_then ?_
        refine c_region ?_
        refine o_bin rfl rfl rfl (b_add (wrap_i64 (by omega) (by omega))) ?_
        refine o_move rfl rfl ?_
        refine l_nil ?_
        refine q_conv (fun w S => S.perm p4) ?_
        refine q_conv (fun w S => S.perm p1) ?_
        refine q_conv (fun w S => S.perm p4) ?_
        refine q_conv (fun w S => S.perm p4) ?_
        refine q_conv (fun w S => S.perm p4) ?_
        exact q_round (j + 1, ys.set (j : Int).toNat ⟨#[115, 112, 111, 105, 108, 116]⟩) (by exact ⟨by omega, by simp [hyl], fun q hq => by rw [List.getElem?_set_ne (by omega)]; exact hys q (by omega)⟩) (by (try dsimp only); omega) ⟨(by first | rfl | exact vint (by omega)), (by first | rfl | exact vint (by omega)), (by first | rfl | exact vint (by omega)), (by first | rfl | exact vint (by omega)), (by first | rfl | exact vint (by omega)), (by rw [List.length_set]; rfl), (by first | rfl | exact vint (by omega)), (by first | rfl | exact vint (by omega)), (by first | rfl | exact vint (by omega)), trivial⟩ (fun w S => S)
      · -- h3F
        try simp only [decide_eq_true_eq, decide_eq_false_iff_not, Bool.not_eq_eq_eq_not, Bool.not_true, Bool.not_false, Bool.not_eq_true', Bool.not_eq_false', Int.not_lt, Int.not_le, Bool.or_eq_true, Bool.and_eq_true] at h3
        refine c_exit ?_
        refine q_pass_exit ?_
        refine q_pass_exit ?_
        refine q_hit ?_
        refine q_block ?_
        refine q_then ?_
        refine c_region ?_
        refine o_bin rfl rfl rfl (b_add (wrap_i64 (by omega) (by omega))) ?_
        refine o_move rfl rfl ?_
        refine l_nil ?_
        refine q_conv (fun w S => (S.perm p3).tail) ?_
        refine q_conv (fun w S => (S.perm p3).tail) ?_
        exact q_round (i + 1, lrn D x28.f_Slot x28.f_Value, wh35, kn41, vl41) (by exact ⟨by omega, ok35, rok41⟩) (by (try dsimp only); omega) ⟨(by first | rfl | exact vint (by omega)), (by first | rfl | exact vint (by omega)), (by first | rfl | exact vint (by omega)), (by first | rfl | exact vint (by omega)), (by first | rfl | exact vint (by omega)), trivial⟩ (fun w S => S)
    · -- h2F
      try simp only [decide_eq_true_eq, decide_eq_false_iff_not, Bool.not_eq_eq_eq_not, Bool.not_true, Bool.not_false, Bool.not_eq_true', Bool.not_eq_false', Int.not_lt, Int.not_le, Bool.or_eq_true, Bool.and_eq_true] at h2
      refine c_exit ?_
      refine q_pass_exit ?_
      refine q_pass_exit ?_
      refine q_hit ?_
      refine q_then ?_
      refine c_seq ?_
      refine c_region ?_
      refine o_assign rfl rfl ?_
      refine l_nil ?_
      refine q_then ?_
      refine c_ret ?_
      refine q_conv (fun w S => S.tail) ?_
      refine q_conv (fun w S => S.tail) ?_
      refine q_conv (fun w S => S.tail) ?_
      exact f_ret (r_one rfl rfl) (⟨rfl, rfl⟩) (fun w S => S)

end Go.Proofs.Ytokphffmbennkaa
