/- Printed by eng.py out of 13/spec.py. -/
import Derived.Test.YtokphffmbennkaaLearn
set_option linter.unusedVariables false
set_option linter.unusedSimpArgs false
set_option maxRecDepth 10000
namespace Go.Proofs.Ytokphffmbennkaa
open Go.RowKit
theorem speaks_ {W : World} {F : List Res} : CS Try.prog 7 #[] W (F) (fun r L' => r = .bool true ∧ F = L') := by
  refine f_door (l0 := []) Try.func7 Try.ntmps7 rfl rfl rfl ?_
  refine c_seq ?_
  refine c_region ?_
  refine o_assign rfl rfl ?_
  refine l_nil ?_
  refine q_then ?_
  refine c_seq ?_
  refine c_region ?_
  refine o_call rfl cal12 rfl (newS) ?_
  rintro _ _ ⟨k5, m5, rfl, rfl⟩
  refine o_assign rfl rfl ?_
  refine l_nil ?_
  refine q_then ?_
  refine c_seq ?_
  refine c_seq ?_
  refine c_region ?_
  refine o_move rfl rfl ?_
  refine o_bin rfl rfl rfl (b_peq Try.underlying31 _) ?_
  refine l_nil ?_
  refine q_then ?_
  refine c_false rfl ?_
  refine c_skip ?_
  refine q_then ?_
  refine c_seq ?_
  refine c_region ?_
  refine o_move rfl rfl ?_
  refine l_f1 ?_
  refine l_f1 ?_
  refine o_call rfl cal13 rfl (learnS (chOk_nil (β := ByteArray))) ?_
  rintro _ _ ⟨wh9, ok9, rfl, rfl⟩
  refine l_eq (t := 9) (v' := .bool true) rfl (show _ = Value.bool true from by rfl) ?_
  refine o_move rfl rfl ?_
  refine l_f1 ?_
  refine l_f1 ?_
  refine o_call rfl cal13 rfl (learnS ok9) ?_
  rintro _ _ ⟨wh11, ok11, rfl, rfl⟩
  refine l_eq (t := 11) (v' := .bool true) rfl (show _ = Value.bool true from by rfl) ?_
  refine o_move rfl rfl ?_
  refine l_f1 ?_
  refine l_f1 ?_
  refine o_call rfl cal13 rfl (learnS ok11) ?_
  rintro _ _ ⟨wh13, ok13, rfl, rfl⟩
  refine l_eq (t := 13) (v' := .bool true) rfl (show _ = Value.bool true from by rfl) ?_
  obtain rfl : wh13 = 2 := chOk_wh ok13 2 (fun j hj => by rcases j with _ | _ | j <;> first | (exfalso; omega) | (intro h; cases h)) rfl
  refine o_assign rfl rfl ?_
  refine o_assign rfl rfl ?_
  refine o_assign rfl rfl ?_
  refine l_nil ?_
  refine q_then ?_
  refine c_seq ?_
  refine c_region ?_
  refine o_move rfl rfl ?_
  refine o_move rfl rfl ?_
  refine o_yes rfl rfl rfl ?_
  refine o_move rfl rfl ?_
  refine o_pick_true rfl rfl rfl ?_
  refine o_move rfl rfl ?_
  refine o_yes rfl rfl rfl ?_
  refine o_move rfl rfl ?_
  refine o_pick_true rfl rfl rfl ?_
  refine o_move rfl rfl ?_
  refine o_yes rfl rfl rfl ?_
  refine o_move rfl rfl ?_
  refine o_yes rfl rfl rfl ?_
  refine l_f1 ?_
  refine l_f1 ?_
  refine o_call rfl cal15 rfl (lenS ok13) ?_
  rintro _ _ ⟨rfl, rfl⟩
  refine o_yes rfl rfl rfl ?_
  refine o_bin rfl rfl rfl b_eql ?_
  refine l_eq (t := 24) (v' := .bool true) rfl (show _ = Value.bool true from by rfl) ?_
  refine o_pick_true rfl rfl rfl ?_
  refine o_move rfl rfl ?_
  refine o_yes rfl rfl rfl ?_
  refine o_move rfl rfl ?_
  refine o_yes rfl rfl rfl ?_
  refine l_f1 ?_
  refine l_f1 ?_
  refine o_call rfl cal19 rfl (fromS ok13) ?_
  rintro _ _ ⟨xs28, a28, c28, hxs28, rfl, rfl⟩
  refine o_yes rfl rfl rfl ?_
  refine o_len rfl rfl Try.underlying43 ?_
  refine o_yes rfl rfl rfl ?_
  refine o_bin rfl rfl rfl b_eql ?_
  refine l_eq (t := 30) (v' := .bool true) rfl (show _ = Value.bool true from by rw [hxs28]; rfl) ?_
  refine o_pick_true rfl rfl rfl ?_
  refine o_assign rfl rfl ?_
  refine l_nil ?_
  refine q_then ?_
  refine c_ret ?_
  refine q_conv (fun w S => S.tail) ?_
  refine q_conv (fun w S => S.tail) ?_
  refine q_conv (fun w S => S.tail) ?_
  exact f_ret (r_one rfl rfl) (⟨rfl, rfl⟩) (fun w S => S)

theorem once_ {W : World} {F : List Res} {xs : List Op} {a : Option Addr} {c : Nat} {o : Op} (hs : SlR W eOp a xs) : CS Try.prog 5 #[.slice a xs.length c, .agg #[.int .i64 o.f_Slot, .string o.f_Value, .int .i64 o.f_From, .int .i64 o.f_Most]] W (F) (fun r L' => r = .bool true ∧ F = L') := by
  refine f_door (l0 := [(0, .slice a xs.length c), (1, .agg #[.int .i64 o.f_Slot, .string o.f_Value, .int .i64 o.f_From, .int .i64 o.f_Most])]) Try.func5 Try.ntmps5 rfl rfl rfl ?_
  refine c_seq ?_
  refine c_region ?_
  refine o_box rfl rfl fun b3 => ?_
  refine o_assign rfl rfl ?_
  refine l_nil ?_
  refine q_then ?_
  refine c_seq ?_
  refine c_seq ?_
  refine c_region ?_
  refine o_call rfl cal7 rfl (speaks_) ?_
  rintro _ _ ⟨rfl, rfl⟩
  refine o_not rfl rfl ?_
  refine l_nil ?_
  refine q_then ?_
  refine c_false rfl ?_
  refine c_skip ?_
  refine q_then ?_
  refine c_seq ?_
  refine c_seq ?_
  refine c_region ?_
  refine o_move rfl rfl ?_
  refine o_len rfl rfl Try.underlying30 ?_
  refine o_bin rfl rfl rfl b_gtr ?_
  refine l_nil ?_
  refine q_then ?_
  refine c_cond rfl (fun h1 => ?_) (fun h1 => ?_)
  · -- h1T
    try simp only [decide_eq_true_eq, decide_eq_false_iff_not, Bool.not_eq_eq_eq_not, Bool.not_true, Bool.not_false, Bool.not_eq_true', Bool.not_eq_false', Int.not_lt, Int.not_le, Bool.or_eq_true, Bool.and_eq_true] at h1
    refine c_seq ?_
    refine c_region ?_
    refine o_assign rfl rfl ?_
    refine l_nil ?_
    refine q_then ?_
    refine c_ret ?_
    refine q_pass_ret ?_
    refine q_conv (fun w S => S.tail) ?_
    exact f_ret (r_one rfl rfl) (⟨rfl, rfl⟩) (fun w S => S)
  · -- h1F
    try simp only [decide_eq_true_eq, decide_eq_false_iff_not, Bool.not_eq_eq_eq_not, Bool.not_true, Bool.not_false, Bool.not_eq_true', Bool.not_eq_false', Int.not_lt, Int.not_le, Bool.or_eq_true, Bool.and_eq_true] at h1
    refine c_skip ?_
    refine q_then ?_
    refine c_seq ?_
    refine c_region ?_
    refine o_call rfl cal12 rfl (newS) ?_
    rintro _ _ ⟨k17, m17, rfl, rfl⟩
    refine o_assign rfl rfl ?_
    refine l_nil ?_
    refine q_then ?_
    refine c_seq ?_
    refine c_seq ?_
    refine c_region ?_
    refine o_move rfl rfl ?_
    refine o_bin rfl rfl rfl (b_peq Try.underlying31 _) ?_
    refine l_nil ?_
    refine q_then ?_
    refine c_false rfl ?_
    refine c_skip ?_
    refine q_then ?_
    refine c_seq ?_
    refine c_region ?_
    refine o_move rfl rfl ?_
    refine o_fieldAddr (q := ⟨b3, 0, none⟩) rfl rfl Try.underlying39 rfl ti3 rfl ?_
    refine o_load1 rfl rfl Try.underlying3 rfl (rd_mem 2 rfl rfl) ?_
    refine o_fieldAddr (q := ⟨b3, 1, none⟩) rfl rfl Try.underlying39 rfl ti9 rfl ?_
    refine o_load1 rfl rfl Try.underlying9 rfl (rd_mem 2 rfl rfl) ?_
    refine l_f1 ?_
    refine l_f1 ?_
    refine o_call rfl cal13 rfl (learnS (chOk_nil (β := ByteArray))) ?_
    rintro _ _ ⟨wh25, ok25, rfl, rfl⟩
    refine o_move rfl rfl ?_
    refine l_f1 ?_
    refine l_f1 ?_
    refine o_call rfl cal15 rfl (lenS ok25) ?_
    rintro _ _ ⟨rfl, rfl⟩
    refine o_assign rfl rfl ?_
    refine o_assign rfl rfl ?_
    refine l_nil ?_
    refine q_then ?_
    refine c_seq ?_
    refine c_seq ?_
    refine c_mid (α := Unit) (fun z => [(0, .slice a xs.length c), (3, .pointer (some ⟨b3, 0, none⟩)), (5, .pointer (some ⟨k17, 0, none⟩)), (6, .bool (fresh ([] : List (Int × ByteArray)) o.f_Slot)), (7, .int .i64 (wh25 : Int)), (37, .bool false)]) (fun z => blk k17 (.cells #[.map (some m17), .int .i64 (wh25 : Int)] 57 (0, 0)) :: mapR kvI vvS m17 (lrn ([] : List (Int × ByteArray)) o.f_Slot o.f_Value) :: blk b3 (.cells #[.int .i64 o.f_Slot, .string o.f_Value, .int .i64 o.f_From, .int .i64 o.f_Most] 39 (0, 0)) :: F) (fun z => True) ?_ ?_
    · -- cut
      refine c_region ?_
      refine o_move rfl rfl ?_
      refine o_fieldAddr (q := ⟨b3, 0, none⟩) rfl rfl Try.underlying39 rfl ti3 rfl ?_
      refine o_load1 rfl rfl Try.underlying3 rfl (rd_mem 2 rfl rfl) ?_
      refine o_bin rfl rfl rfl b_geq ?_
      refine o_move rfl rfl ?_
      refine l_split (t := 32) rfl (fun h2 => ?_) (fun h2 => ?_)
      · -- h2T
        try simp only [decide_eq_true_eq, decide_eq_false_iff_not, Bool.not_eq_eq_eq_not, Bool.not_true, Bool.not_false, Bool.not_eq_true', Bool.not_eq_false', Int.not_lt, Int.not_le, Bool.or_eq_true, Bool.and_eq_true] at h2
        refine o_yes rfl rfl rfl ?_
        refine o_fieldAddr (q := ⟨b3, 0, none⟩) rfl rfl Try.underlying39 rfl ti3 rfl ?_
        refine o_yes rfl rfl rfl ?_
        refine o_load1 rfl rfl Try.underlying3 rfl (rd_mem 2 rfl rfl) ?_
        refine o_yes rfl rfl rfl ?_
        refine o_bin rfl rfl rfl b_lss ?_
        refine o_pick_true rfl rfl rfl ?_
        refine o_bin rfl rfl rfl (b_bne Try.underlying4 _ _) ?_
        refine l_eq (t := 37) (v' := .bool false) rfl (show _ = Value.bool false from by rw [fresh_nil]; first | (simp [h2]; done) | (rw [decide_eq_false (p := 0 ≤ o.f_Slot ∧ o.f_Slot < 64) (by omega)]; rfl)) ?_
        refine l_nil ?_
        exact q_mid (()) (by trivial) ⟨(by first | rfl | exact vint (by omega)), (by first | rfl | exact vint (by omega)), (by first | rfl | exact vint (by omega)), (by first | rfl | exact vint (by omega)), (by first | rfl | exact vint (by omega)), (by first | rfl | exact vint (by omega)), trivial⟩ (fun w S => S)
      · -- h2F
        try simp only [decide_eq_true_eq, decide_eq_false_iff_not, Bool.not_eq_eq_eq_not, Bool.not_true, Bool.not_false, Bool.not_eq_true', Bool.not_eq_false', Int.not_lt, Int.not_le, Bool.or_eq_true, Bool.and_eq_true] at h2
        refine o_no rfl rfl rfl rfl ?_
        refine o_no rfl rfl rfl rfl ?_
        refine o_no rfl rfl rfl rfl ?_
        refine o_pick_false rfl rfl rfl ?_
        refine o_bin rfl rfl rfl (b_bne Try.underlying4 _ _) ?_
        refine l_eq (t := 37) (v' := .bool false) rfl (show _ = Value.bool false from by rw [fresh_nil]; first | (simp [h2]; done) | (rw [decide_eq_false (p := 0 ≤ o.f_Slot ∧ o.f_Slot < 64) (by omega)]; rfl)) ?_
        refine l_nil ?_
        exact q_mid (()) (by trivial) ⟨(by first | rfl | exact vint (by omega)), (by first | rfl | exact vint (by omega)), (by first | rfl | exact vint (by omega)), (by first | rfl | exact vint (by omega)), (by first | rfl | exact vint (by omega)), (by first | rfl | exact vint (by omega)), trivial⟩ (fun w S => S)
    · -- behind the cut
      rintro _ _hp
      try dsimp only at *
      refine c_false rfl ?_
      refine c_skip ?_
      refine q_then ?_
      refine c_seq ?_
      refine c_seq ?_
      refine c_region ?_
      refine o_move rfl rfl ?_
      refine o_len rfl rfl Try.underlying30 ?_
      refine o_move rfl rfl ?_
      refine l_nil ?_
      refine q_then ?_
      refine c_block ?_
      refine c_loop (α := Nat × (List (Int × ByteArray)) × Nat) (fun z => [(3, .pointer (some ⟨b3, 0, none⟩)), (5, .pointer (some ⟨k17, 0, none⟩)), (6, .bool (fresh ([] : List (Int × ByteArray)) o.f_Slot)), (7, .int .i64 (z.2.2 : Int)), (38, .slice a xs.length c), (39, .int .i64 (xs.length : Int)), (40, .int .i64 (z.1 : Int))]) (fun z => blk k17 (.cells #[.map (some m17), .int .i64 (z.2.2 : Int)] 57 (0, 0)) :: mapR kvI vvS m17 z.2.1 :: blk b3 (.cells #[.int .i64 o.f_Slot, .string o.f_Value, .int .i64 o.f_From, .int .i64 o.f_Most] 39 (0, 0)) :: F) (fun z => z.1 ≤ xs.length ∧ ChOk z.2.1 z.2.2 ∧ mget z.2.1 o.f_Slot = if fresh ([] : List (Int × ByteArray)) o.f_Slot = true then some o.f_Value else none) (fun z => xs.length - z.1) (0, lrn [] o.f_Slot o.f_Value, wh25) (by exact ⟨Nat.zero_le _, ok25, once_start⟩) ⟨(by first | rfl | exact vint (by omega)), (by first | rfl | exact vint (by omega)), (by first | rfl | exact vint (by omega)), (by first | rfl | exact vint (by omega)), (by first | rfl | exact vint (by omega)), (by first | rfl | exact vint (by omega)), (by first | rfl | exact vint (by omega)), trivial⟩ (fun w S => S) ?_
      rintro ⟨i, D, wh⟩ ⟨hi, ok, hget⟩
      try dsimp only at *
      refine c_seq ?_
      refine c_region ?_
      refine o_bin rfl rfl rfl b_lss ?_
      refine l_nil ?_
      refine q_then ?_
      refine c_seq ?_
      refine c_cond rfl (fun h3 => ?_) (fun h3 => ?_)
      · -- h3T
        try simp only [decide_eq_true_eq, decide_eq_false_iff_not, Bool.not_eq_eq_eq_not, Bool.not_true, Bool.not_false, Bool.not_eq_true', Bool.not_eq_false', Int.not_lt, Int.not_le, Bool.or_eq_true, Bool.and_eq_true] at h3
        refine c_skip ?_
        refine q_then ?_
        refine c_seq ?_
        refine c_block ?_
        refine c_seq ?_
        refine c_region ?_
        refine o_index eOp_ok rfl rfl rfl Try.underlying30 (by omega) (by omega) (rds_old hs) fun ad42 ead42 => ?_
        obtain ⟨x42, hx42⟩ : ∃ x, (xs)[((i : Int)).toNat]? = some x := ⟨_, List.getElem?_eq_getElem (by omega)⟩
        refine o_loadn (vs := eOp.cells x42) rfl rfl Try.underlying39 rfl ti39 (rdn_sl eOp_ok ead42 (rds_old hs) hx42) ?_
        refine o_alloc rfl ti39 fun b9 => ?_
        refine o_storen rfl rfl ti39 rfl rfl rfl rfl ?_
        refine l_nil ?_
        refine q_then ?_
        refine c_seq ?_
        refine c_region ?_
        refine o_move rfl rfl ?_
        refine o_fieldAddr (q := ⟨b9, 0, none⟩) rfl rfl Try.underlying39 rfl ti3 rfl ?_
        refine o_load1 rfl rfl Try.underlying3 rfl (rd_mem 0 rfl rfl) ?_
        refine o_fieldAddr (q := ⟨b9, 1, none⟩) rfl rfl Try.underlying39 rfl ti9 rfl ?_
        refine o_load1 rfl rfl Try.underlying9 rfl (rd_mem 0 rfl rfl) ?_
        refine l_f2 ?_
        refine l_f2 ?_
        refine o_call rfl cal13 rfl (learnS ok) ?_
        rintro _ _ ⟨wh49, ok49, rfl, rfl⟩
        have hget' := once_next (slot := x42.f_Slot) (v := x42.f_Value) ok hget
        have hget := hget'
        have hfb : (if fresh ([] : List (Int × ByteArray)) o.f_Slot = true then some o.f_Value else none).isSome = fresh ([] : List (Int × ByteArray)) o.f_Slot := by cases fresh ([] : List (Int × ByteArray)) o.f_Slot <;> rfl
        refine l_nil ?_
        refine q_then ?_
        refine c_seq ?_
        refine c_region ?_
        refine o_move rfl rfl ?_
        refine o_fieldAddr (q := ⟨b3, 0, none⟩) rfl rfl Try.underlying39 rfl ti3 rfl ?_
        refine o_load1 rfl rfl Try.underlying3 rfl (rd_mem 3 rfl rfl) ?_
        refine l_f1 ?_
        refine l_f1 ?_
        refine o_call rfl cal17 rfl (getS ok49) ?_
        rintro _ _ ⟨rfl, rfl⟩
        refine o_move rfl rfl ?_
        refine o_extract rfl rfl rfl ?_
        refine o_extract rfl rfl rfl ?_
        refine o_assign rfl rfl ?_
        refine o_assign rfl rfl ?_
        refine l_nil ?_
        refine q_then ?_
        refine c_seq ?_
        refine c_seq ?_
        refine c_mid (α := Unit) (fun z => [(5, .pointer (some ⟨k17, 0, none⟩)), (3, .pointer (some ⟨b3, 0, none⟩)), (6, .bool (fresh ([] : List (Int × ByteArray)) o.f_Slot)), (38, .slice a xs.length c), (39, .int .i64 (xs.length : Int)), (40, .int .i64 (i : Int)), (74, .bool false)]) (fun z => blk k17 (.cells #[.map (some m17), .int .i64 (wh49 : Int)] 57 (0, 0)) :: mapR kvI vvS m17 (lrn D x42.f_Slot x42.f_Value) :: blk b3 (.cells #[.int .i64 o.f_Slot, .string o.f_Value, .int .i64 o.f_From, .int .i64 o.f_Most] 39 (0, 0)) :: F) (fun z => True) ?_ ?_
        · -- cut
          refine c_region ?_
          refine o_move rfl rfl ?_
          refine o_move rfl rfl ?_
          refine o_bin rfl rfl rfl (b_bne Try.underlying4 _ _) ?_
          refine l_eq (t := 59) (v' := .bool false) rfl (show _ = Value.bool false from by rw [hget, hfb]; simp) ?_
          refine o_move rfl rfl ?_
          refine o_yes rfl rfl rfl ?_
          refine o_move rfl rfl ?_
          refine o_yes rfl rfl rfl ?_
          refine o_move rfl rfl ?_
          refine l_split (t := 62) rfl (fun h4 => ?_) (fun h4 => ?_)
          · -- h4T
            try simp only [decide_eq_true_eq, decide_eq_false_iff_not, Bool.not_eq_eq_eq_not, Bool.not_true, Bool.not_false, Bool.not_eq_true', Bool.not_eq_false', Int.not_lt, Int.not_le, Bool.or_eq_true, Bool.and_eq_true] at h4
            refine o_yes rfl rfl rfl ?_
            refine o_move rfl rfl ?_
            refine o_yes rfl rfl rfl ?_
            refine o_fieldAddr (q := ⟨b3, 1, none⟩) rfl rfl Try.underlying39 rfl ti9 rfl ?_
            refine o_yes rfl rfl rfl ?_
            refine o_load1 rfl rfl Try.underlying9 rfl (rd_mem 3 rfl rfl) ?_
            refine o_yes rfl rfl rfl ?_
            refine o_bin rfl rfl rfl b_sneq ?_
            refine l_eq (t := 66) (v' := .bool false) rfl (show _ = Value.bool false from by rw [hget, if_pos h4]; simp) ?_
            refine o_yes rfl rfl rfl ?_
            refine o_pick_true rfl rfl rfl ?_
            refine o_pick_false rfl rfl rfl ?_
            refine o_move rfl rfl ?_
            refine o_yes rfl rfl rfl ?_
            refine o_move rfl rfl ?_
            refine o_yes rfl rfl rfl ?_
            refine l_f1 ?_
            refine l_f1 ?_
            refine o_call rfl cal15 rfl (lenS ok49) ?_
            rintro _ _ ⟨rfl, rfl⟩
            refine o_yes rfl rfl rfl ?_
            refine o_move rfl rfl ?_
            refine o_yes rfl rfl rfl ?_
            refine o_bin rfl rfl rfl b_lss ?_
            refine l_eq (t := 73) (v' := .bool false) rfl (congrArg Value.bool (decide_eq_false (by have := chOk_mono ok ok49; omega))) ?_
            refine o_pick_false rfl rfl rfl ?_
            refine l_nil ?_
            refine q_conv (fun w S => (S.perm p2).tail) ?_
            exact q_mid (()) (by trivial) ⟨(by first | rfl | exact vint (by omega)), (by first | rfl | exact vint (by omega)), (by first | rfl | exact vint (by omega)), (by first | rfl | exact vint (by omega)), (by first | rfl | exact vint (by omega)), (by first | rfl | exact vint (by omega)), (by first | rfl | exact vint (by omega)), trivial⟩ (fun w S => S)
          · -- h4F
            try simp only [decide_eq_true_eq, decide_eq_false_iff_not, Bool.not_eq_eq_eq_not, Bool.not_true, Bool.not_false, Bool.not_eq_true', Bool.not_eq_false', Int.not_lt, Int.not_le, Bool.or_eq_true, Bool.and_eq_true] at h4
            refine o_no rfl rfl rfl rfl ?_
            refine o_no rfl rfl rfl rfl ?_
            refine o_no rfl rfl rfl rfl ?_
            refine o_no rfl rfl rfl rfl ?_
            refine o_yes rfl rfl rfl ?_
            refine o_pick_false rfl rfl rfl ?_
            refine o_pick_false rfl rfl rfl ?_
            refine o_move rfl rfl ?_
            refine o_yes rfl rfl rfl ?_
            refine o_move rfl rfl ?_
            refine o_yes rfl rfl rfl ?_
            refine l_f1 ?_
            refine l_f1 ?_
            refine o_call rfl cal15 rfl (lenS ok49) ?_
            rintro _ _ ⟨rfl, rfl⟩
            refine o_yes rfl rfl rfl ?_
            refine o_move rfl rfl ?_
            refine o_yes rfl rfl rfl ?_
            refine o_bin rfl rfl rfl b_lss ?_
            refine l_eq (t := 73) (v' := .bool false) rfl (congrArg Value.bool (decide_eq_false (by have := chOk_mono ok ok49; omega))) ?_
            refine o_pick_false rfl rfl rfl ?_
            refine l_nil ?_
            refine q_conv (fun w S => (S.perm p2).tail) ?_
            exact q_mid (()) (by trivial) ⟨(by first | rfl | exact vint (by omega)), (by first | rfl | exact vint (by omega)), (by first | rfl | exact vint (by omega)), (by first | rfl | exact vint (by omega)), (by first | rfl | exact vint (by omega)), (by first | rfl | exact vint (by omega)), (by first | rfl | exact vint (by omega)), trivial⟩ (fun w S => S)
        · -- behind the cut
          rintro _ _hp
          try dsimp only at *
          refine c_false rfl ?_
          refine c_skip ?_
          refine q_then ?_
          refine c_region ?_
          refine o_move rfl rfl ?_
          refine l_f1 ?_
          refine l_f1 ?_
          refine o_call rfl cal15 rfl (lenS ok49) ?_
          rintro _ _ ⟨rfl, rfl⟩
          refine o_assign rfl rfl ?_
          refine l_nil ?_
          refine q_block ?_
          refine q_then ?_
          refine c_region ?_
          refine o_bin rfl rfl rfl (b_add (wrap_i64 (by omega) (by omega))) ?_
          refine o_move rfl rfl ?_
          refine l_nil ?_
          exact q_round (i + 1, lrn D x42.f_Slot x42.f_Value, wh49) (by exact ⟨by omega, ok49, hget'⟩) (by (try dsimp only); omega) ⟨(by first | rfl | exact vint (by omega)), (by first | rfl | exact vint (by omega)), (by first | rfl | exact vint (by omega)), (by first | rfl | exact vint (by omega)), (by first | rfl | exact vint (by omega)), (by first | rfl | exact vint (by omega)), (by first | rfl | exact vint (by omega)), trivial⟩ (fun w S => S)
      · -- h3F
        try simp only [decide_eq_true_eq, decide_eq_false_iff_not, Bool.not_eq_eq_eq_not, Bool.not_true, Bool.not_false, Bool.not_eq_true', Bool.not_eq_false', Int.not_lt, Int.not_le, Bool.or_eq_true, Bool.and_eq_true] at h3
        refine c_exit ?_
        refine q_pass_exit ?_
        refine q_pass_exit ?_
        refine q_hit ?_
        refine q_then ?_
        refine c_seq ?_
        refine c_region ?_
        refine o_move rfl rfl ?_
        refine o_bin rfl rfl rfl b_leq ?_
        refine l_eq (t := 79) (v' := .bool true) rfl (congrArg Value.bool (decide_eq_true (by have := chOk_le ok; omega))) ?_
        refine o_assign rfl rfl ?_
        refine l_nil ?_
        refine q_then ?_
        refine c_ret ?_
        refine q_conv (fun w S => S.tail) ?_
        refine q_conv (fun w S => S.tail) ?_
        refine q_conv (fun w S => S.tail) ?_
        exact f_ret (r_one rfl rfl) (⟨rfl, rfl⟩) (fun w S => S)

end Go.Proofs.Ytokphffmbennkaa
