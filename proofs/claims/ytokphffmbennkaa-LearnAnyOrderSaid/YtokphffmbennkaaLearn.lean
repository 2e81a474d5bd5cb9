/- Printed by eng.py out of 13/spec.py. -/
import Derived.Test.YtokphffmbennkaaTy
import Derived.Test.YtokphffmbennkaaPlain
set_option linter.unusedVariables false
set_option linter.unusedSimpArgs false
set_option maxRecDepth 10000
namespace Go.Proofs.Ytokphffmbennkaa
open Go.RowKit
theorem newS {W : World} {F : List Res} : CS Try.prog 12 #[] W (F) (fun r L' => ∃ k mb : Nat, r = .pointer (some ⟨k, 0, none⟩) ∧ L' = blk k (.cells #[.map (some mb), .int .i64 ((0 : Nat) : Int)] 57 (0, 0)) :: mapR kvI vvS mb ([] : List (Int × ByteArray)) :: F) := by
  refine f_door (l0 := []) Try.func12 Try.ntmps12 rfl rfl rfl ?_
  refine c_seq ?_
  refine c_region ?_
  refine o_assign rfl rfl ?_
  refine l_nil ?_
  refine q_then ?_
  refine c_seq ?_
  refine c_region ?_
  refine o_makeMap kvI vvS rfl fun m1 => ?_
  refine o_build rfl sp57 ti57 rfl rfl ?_
  refine o_box rfl rfl fun b3 => ?_
  refine o_assign rfl rfl ?_
  refine l_nil ?_
  refine q_then ?_
  refine c_ret ?_
  exact f_ret (r_one rfl rfl) (⟨b3, m1, rfl, rfl⟩) (fun w S => S)

theorem lenS {W : World} {F : List Res} {k mb wh : Nat} {D : List (Int × ByteArray)} (ok : ChOk D wh) : CS Try.prog 15 #[.pointer (some ⟨k, 0, none⟩)] W (blk k (.cells #[.map (some mb), .int .i64 (wh : Int)] 57 (0, 0)) :: mapR kvI vvS mb D :: F) (fun r L' => r = .int .i64 (wh : Int) ∧ L' = blk k (.cells #[.map (some mb), .int .i64 (wh : Int)] 57 (0, 0)) :: mapR kvI vvS mb D :: F) := by
  refine f_door (l0 := [(0, .pointer (some ⟨k, 0, none⟩))]) Try.func15 Try.ntmps15 rfl rfl rfl ?_
  refine c_seq ?_
  refine c_region ?_
  refine o_assign rfl rfl ?_
  refine l_nil ?_
  refine q_then ?_
  refine c_seq ?_
  refine c_region ?_
  refine o_move rfl rfl ?_
  refine o_nil rfl rfl ?_
  refine o_fieldAddr (q := ⟨k, 1, none⟩) rfl rfl Try.underlying57 rfl ti3 rfl ?_
  refine o_load1 rfl rfl Try.underlying3 rfl (rd_mem 0 rfl rfl) ?_
  refine o_assign rfl rfl ?_
  refine l_nil ?_
  refine q_then ?_
  refine c_ret ?_
  exact f_ret (r_one rfl rfl) (⟨rfl, rfl⟩) (fun w S => S)

theorem learnS {W : World} {F : List Res} {k mb wh : Nat} {D : List (Int × ByteArray)} (ok : ChOk D wh) {slot : Int} {v : ByteArray} : CS Try.prog 13 #[.pointer (some ⟨k, 0, none⟩), .int .i64 slot, .string v] W (blk k (.cells #[.map (some mb), .int .i64 (wh : Int)] 57 (0, 0)) :: mapR kvI vvS mb D :: F) (fun r L' => ∃ wh', ChOk (lrn D slot v) wh' ∧ r = .bool (fresh D slot) ∧ L' = blk k (.cells #[.map (some mb), .int .i64 (wh' : Int)] 57 (0, 0)) :: mapR kvI vvS mb (lrn D slot v) :: F) := by
  refine f_door (l0 := [(0, .pointer (some ⟨k, 0, none⟩)), (1, .int .i64 slot), (2, .string v)]) Try.func13 Try.ntmps13 rfl rfl rfl ?_
  refine c_seq ?_
  refine c_region ?_
  refine o_assign rfl rfl ?_
  refine l_nil ?_
  refine q_then ?_
  refine c_seq ?_
  refine c_seq ?_
  refine c_region ?_
  refine o_move rfl rfl ?_
  refine o_nil rfl rfl ?_
  refine o_fieldAddr (q := ⟨k, 0, none⟩) rfl rfl Try.underlying57 rfl ti55 rfl ?_
  refine o_load1 rfl rfl Try.underlying55 rfl (rd_mem 0 rfl rfl) ?_
  refine o_move rfl rfl ?_
  refine o_lookupOk (kv := kvI) (vv := vvS) 1 rfl koI rfl rfl rfl Try.underlying55 ti9 ?_
  refine o_move rfl rfl ?_
  refine o_extract rfl rfl rfl ?_
  refine o_extract rfl rfl rfl ?_
  refine o_assign rfl rfl ?_
  refine o_assign rfl rfl ?_
  refine l_nil ?_
  refine q_then ?_
  refine c_seq ?_
  refine c_region ?_
  refine o_move rfl rfl ?_
  refine o_move rfl rfl ?_
  refine l_split (t := 21) rfl (fun h1 => ?_) (fun h1 => ?_)
  · -- h1T
    try simp only [decide_eq_true_eq, decide_eq_false_iff_not, Bool.not_eq_eq_eq_not, Bool.not_true, Bool.not_false, Bool.not_eq_true', Bool.not_eq_false', Int.not_lt, Int.not_le, Bool.or_eq_true, Bool.and_eq_true] at h1
    have nf : fresh D slot = false := fresh_t h1
    refine o_no rfl rfl rfl rfl ?_
    refine o_no rfl rfl rfl rfl ?_
    refine o_pick_true rfl rfl rfl ?_
    refine o_move rfl rfl ?_
    refine o_no rfl rfl rfl rfl ?_
    refine o_no rfl rfl rfl rfl ?_
    refine o_pick_true rfl rfl rfl ?_
    refine l_nil ?_
    refine q_then ?_
    refine c_true rfl ?_
    refine c_seq ?_
    refine c_region ?_
    refine o_assign rfl rfl ?_
    refine l_nil ?_
    refine q_then ?_
    refine c_ret ?_
    refine q_pass_ret ?_
    exact f_ret (r_one rfl rfl) (⟨wh, by rw [lrn_no nf]; exact ok, by rw [nf], by rw [lrn_no nf]⟩) (fun w S => S)
  · -- h1F
    try simp only [decide_eq_true_eq, decide_eq_false_iff_not, Bool.not_eq_eq_eq_not, Bool.not_true, Bool.not_false, Bool.not_eq_true', Bool.not_eq_false', Int.not_lt, Int.not_le, Bool.or_eq_true, Bool.and_eq_true] at h1
    refine o_yes rfl rfl rfl ?_
    refine o_move rfl rfl ?_
    refine o_yes rfl rfl rfl ?_
    refine o_bin rfl rfl rfl b_lss ?_
    refine o_pick_false rfl rfl rfl ?_
    refine o_move rfl rfl ?_
    refine l_split (t := 25) rfl (fun h2 => ?_) (fun h2 => ?_)
    · -- h2T
      try simp only [decide_eq_true_eq, decide_eq_false_iff_not, Bool.not_eq_eq_eq_not, Bool.not_true, Bool.not_false, Bool.not_eq_true', Bool.not_eq_false', Int.not_lt, Int.not_le, Bool.or_eq_true, Bool.and_eq_true] at h2
      have nf : fresh D slot = false := fresh_lt h2
      refine o_no rfl rfl rfl rfl ?_
      refine o_no rfl rfl rfl rfl ?_
      refine o_pick_true rfl rfl rfl ?_
      refine l_nil ?_
      refine q_then ?_
      refine c_true rfl ?_
      refine c_seq ?_
      refine c_region ?_
      refine o_assign rfl rfl ?_
      refine l_nil ?_
      refine q_then ?_
      refine c_ret ?_
      refine q_pass_ret ?_
      exact f_ret (r_one rfl rfl) (⟨wh, by rw [lrn_no nf]; exact ok, by rw [nf], by rw [lrn_no nf]⟩) (fun w S => S)
    · -- h2F
      try simp only [decide_eq_true_eq, decide_eq_false_iff_not, Bool.not_eq_eq_eq_not, Bool.not_true, Bool.not_false, Bool.not_eq_true', Bool.not_eq_false', Int.not_lt, Int.not_le, Bool.or_eq_true, Bool.and_eq_true] at h2
      refine o_yes rfl rfl rfl ?_
      refine o_move rfl rfl ?_
      refine o_yes rfl rfl rfl ?_
      refine o_bin rfl rfl rfl b_geq ?_
      refine o_pick_false rfl rfl rfl ?_
      refine l_nil ?_
      refine q_then ?_
      refine c_cond rfl (fun h3 => ?_) (fun h3 => ?_)
      · -- h3T
        try simp only [decide_eq_true_eq, decide_eq_false_iff_not, Bool.not_eq_eq_eq_not, Bool.not_true, Bool.not_false, Bool.not_eq_true', Bool.not_eq_false', Int.not_lt, Int.not_le, Bool.or_eq_true, Bool.and_eq_true] at h3
        have nf : fresh D slot = false := fresh_ge h3
        refine c_seq ?_
        refine c_region ?_
        refine o_assign rfl rfl ?_
        refine l_nil ?_
        refine q_then ?_
        refine c_ret ?_
        refine q_pass_ret ?_
        exact f_ret (r_one rfl rfl) (⟨wh, by rw [lrn_no nf]; exact ok, by rw [nf], by rw [lrn_no nf]⟩) (fun w S => S)
      · -- h3F
        try simp only [decide_eq_true_eq, decide_eq_false_iff_not, Bool.not_eq_eq_eq_not, Bool.not_true, Bool.not_false, Bool.not_eq_true', Bool.not_eq_false', Int.not_lt, Int.not_le, Bool.or_eq_true, Bool.and_eq_true] at h3
        have hf : fresh D slot = true := fresh_of h1 h2 h3
        have hb := chOk_le ok
        refine c_skip ?_
        refine q_then ?_
        refine c_seq ?_
        refine c_region ?_
        refine o_move rfl rfl ?_
        refine o_nil rfl rfl ?_
        refine o_fieldAddr (q := ⟨k, 0, none⟩) rfl rfl Try.underlying57 rfl ti55 rfl ?_
        refine o_load1 rfl rfl Try.underlying55 rfl (rd_mem 0 rfl rfl) ?_
        refine o_move rfl rfl ?_
        refine o_move rfl rfl ?_
        refine l_f1 ?_
        refine o_mapUpdate koI rfl rfl rfl Try.underlying55 ?_
        refine l_nil ?_
        refine q_then ?_
        refine c_block ?_
        refine c_conv (fun w S => S.perm p1) ?_
        refine c_loop (α := Nat) (fun z => [(0, .pointer (some ⟨k, 0, none⟩))]) (fun z => blk k (.cells #[.map (some mb), .int .i64 (z : Int)] 57 (0, 0)) :: mapR kvI vvS mb (mset D slot v) :: F) (fun z => ∀ j : Nat, j < z → mget (mset D slot v) (j : Int) ≠ none) (fun z => 64 - z) (wh) (by exact chOk_start ok) ⟨(by first | rfl | exact vint (by omega)), trivial⟩ (fun w S => S) ?_
        rintro u hu
        try dsimp only at *
        refine c_block ?_
        refine c_seq ?_
        refine c_seq ?_
        refine c_quiet (by kernel_rfl) (by kernel_rfl) ?_
        refine Qt.o_val rfl (v_move rfl rfl) ?_
        refine Qt.o_val rfl (v_nil rfl rfl) ?_
        refine Qt.o_val rfl (v_fieldAddr (q := ⟨k, 0, none⟩) rfl rfl Try.underlying57 rfl ti55 rfl) ?_
        refine Qt.o_val rfl (v_load1 rfl rfl Try.underlying55 rfl (rd_mem 0 rfl rfl)) ?_
        refine Qt.o_val rfl (v_move rfl rfl) ?_
        refine Qt.o_val rfl (v_nil rfl rfl) ?_
        refine Qt.o_val rfl (v_fieldAddr (q := ⟨k, 1, none⟩) rfl rfl Try.underlying57 rfl ti3 rfl) ?_
        refine Qt.o_val rfl (v_load1 rfl rfl Try.underlying3 rfl (rd_mem 0 rfl rfl)) ?_
        refine Qt.o_val rfl (v_lookupOk (kv := kvI) (vv := vvS) 1 rfl koI rfl rfl rfl Try.underlying55 ti9) ?_
        refine Qt.o_val rfl (v_move rfl rfl) ?_
        refine Qt.o_val rfl (v_extract rfl rfl rfl) ?_
        refine Qt.o_val rfl (v_extract rfl rfl rfl) ?_
        refine Qt.o_val rfl (v_assign rfl rfl) ?_
        refine Qt.o_val rfl (v_assign rfl rfl) ?_
        refine Qt.l_nil ?_
        refine q_then ?_
        refine c_seq ?_
        refine c_region ?_
        refine o_move rfl rfl ?_
        refine o_not rfl rfl ?_
        refine l_nil ?_
        refine q_then ?_
        refine c_cond rfl (fun h4 => ?_) (fun h4 => ?_)
        · -- h4T
          try simp only [decide_eq_true_eq, decide_eq_false_iff_not, Bool.not_eq_eq_eq_not, Bool.not_true, Bool.not_false, Bool.not_eq_true', Bool.not_eq_false', Int.not_lt, Int.not_le, Bool.or_eq_true, Bool.and_eq_true] at h4
          simp only [Option.isSome_eq_false_iff, Option.isNone_iff_eq_none] at h4
          refine c_seq ?_
          refine c_region ?_
          refine o_assign rfl rfl ?_
          refine l_nil ?_
          refine q_then ?_
          refine c_ret ?_
          refine q_pass_ret ?_
          refine q_block_ret ?_
          refine q_pass_ret ?_
          refine q_block_ret ?_
          exact f_ret (r_one rfl rfl) (⟨u, by rw [lrn_yes hf]; exact chOk_end ok hf hu h4, by rw [hf], by rw [lrn_yes hf]⟩) (fun w S => S)
        · -- h4F
          try simp only [decide_eq_true_eq, decide_eq_false_iff_not, Bool.not_eq_eq_eq_not, Bool.not_true, Bool.not_false, Bool.not_eq_true', Bool.not_eq_false', Int.not_lt, Int.not_le, Bool.or_eq_true, Bool.and_eq_true] at h4
          have h5 := chOk_less ok hf (u := u) (v := v) h4
          refine c_skip ?_
          refine q_then ?_
          refine c_region ?_
          refine o_move rfl rfl ?_
          refine o_nil rfl rfl ?_
          refine o_fieldAddr (q := ⟨k, 1, none⟩) rfl rfl Try.underlying57 rfl ti3 rfl ?_
          refine o_load1 rfl rfl Try.underlying3 rfl (rd_mem 0 rfl rfl) ?_
          refine o_bin rfl rfl rfl (b_add (wrap_i64 (by omega) (by omega))) ?_
          refine o_nil rfl rfl ?_
          refine o_fieldAddr (q := ⟨k, 1, none⟩) rfl rfl Try.underlying57 rfl ti3 rfl ?_
          refine o_store1 rfl rfl rfl ti3 rfl rfl ?_
          refine l_nil ?_
          refine q_block ?_
          exact q_round (u + 1) (by exact chOk_next hu h4) (by (try dsimp only); omega) ⟨(by first | rfl | exact vint (by omega)), trivial⟩ (by rw [show ((u : Int) + 1) = ((u + 1 : Nat) : Int) by omega]; exact fun w S => S)

theorem getS {W : World} {F : List Res} {k mb wh : Nat} {D : List (Int × ByteArray)} (ok : ChOk D wh) {slot : Int} : CS Try.prog 17 #[.pointer (some ⟨k, 0, none⟩), .int .i64 slot] W (blk k (.cells #[.map (some mb), .int .i64 (wh : Int)] 57 (0, 0)) :: mapR kvI vvS mb D :: F) (fun r L' => r = .tuple #[.string ((mget D slot).getD ByteArray.empty), .bool (mget D slot).isSome] ∧ L' = blk k (.cells #[.map (some mb), .int .i64 (wh : Int)] 57 (0, 0)) :: mapR kvI vvS mb D :: F) := by
  refine f_door (l0 := [(0, .pointer (some ⟨k, 0, none⟩)), (1, .int .i64 slot)]) Try.func17 Try.ntmps17 rfl rfl rfl ?_
  refine c_seq ?_
  refine c_region ?_
  refine o_assign rfl rfl ?_
  refine o_assign rfl rfl ?_
  refine l_nil ?_
  refine q_then ?_
  refine c_seq ?_
  refine c_region ?_
  refine o_move rfl rfl ?_
  refine o_nil rfl rfl ?_
  refine o_fieldAddr (q := ⟨k, 0, none⟩) rfl rfl Try.underlying57 rfl ti55 rfl ?_
  refine o_load1 rfl rfl Try.underlying55 rfl (rd_mem 0 rfl rfl) ?_
  refine o_move rfl rfl ?_
  refine o_lookupOk (kv := kvI) (vv := vvS) 1 rfl koI rfl rfl rfl Try.underlying55 ti9 ?_
  refine o_move rfl rfl ?_
  refine o_extract rfl rfl rfl ?_
  refine o_extract rfl rfl rfl ?_
  refine o_assign rfl rfl ?_
  refine o_assign rfl rfl ?_
  refine l_nil ?_
  refine q_then ?_
  refine c_seq ?_
  refine c_region ?_
  refine o_move rfl rfl ?_
  refine o_move rfl rfl ?_
  refine o_assign rfl rfl ?_
  refine o_assign rfl rfl ?_
  refine l_nil ?_
  refine q_then ?_
  refine c_ret ?_
  exact f_ret (r_two rfl rfl rfl) (⟨by cases mget D slot <;> rfl, rfl⟩) (fun w S => S)

theorem fromS {W : World} {F : List Res} {k mb wh : Nat} {D : List (Int × ByteArray)} (ok : ChOk D wh) {slot most : Int} : CS Try.prog 19 #[.pointer (some ⟨k, 0, none⟩), .int .i64 slot, .int .i64 most] W (blk k (.cells #[.map (some mb), .int .i64 (wh : Int)] 57 (0, 0)) :: mapR kvI vvS mb D :: F) (fun r L' => ∃ (xs : List ByteArray) (a : Option Addr) (c : Nat), xs = fromL D slot most.toNat ∧ r = .slice a xs.length c ∧ L' = row eS.T eS.sz a (xs).length c (flat eS xs) :: blk k (.cells #[.map (some mb), .int .i64 (wh : Int)] 57 (0, 0)) :: mapR kvI vvS mb D :: F) := by
  refine f_door (l0 := [(0, .pointer (some ⟨k, 0, none⟩)), (1, .int .i64 slot), (2, .int .i64 most)]) Try.func19 Try.ntmps19 rfl rfl rfl ?_
  refine c_seq ?_
  refine c_region ?_
  refine o_assign rfl rfl ?_
  refine l_nil ?_
  refine q_then ?_
  refine c_seq ?_
  refine c_block ?_
  refine c_nilrow eS ?_
  refine c_loop (α := (List ByteArray) × Int × (Option Addr) × Nat) (fun z => [(0, .pointer (some ⟨k, 0, none⟩)), (1, .int .i64 z.2.1), (2, .int .i64 most), (6, .slice z.2.2.1 z.1.length z.2.2.2)]) (fun z => row eS.T eS.sz z.2.2.1 (z.1).length z.2.2.2 (flat eS z.1) :: blk k (.cells #[.map (some mb), .int .i64 (wh : Int)] 57 (0, 0)) :: mapR kvI vvS mb D :: F) (fun z => fromL D slot most.toNat = z.1 ++ fromL D z.2.1 (most.toNat - z.1.length) ∧ (z.1.length : Int) = z.2.1 - slot ∧ (z.1 ≠ [] → 0 ≤ slot) ∧ z.1.length ≤ 64) (fun z => 65 - z.1.length) ([], slot, none, 0) (by exact ⟨by simp, by simp, fun h => absurd rfl h, by simp⟩) ⟨(by first | rfl | exact vint (by omega)), (by first | rfl | exact vint (by omega)), (by first | rfl | exact vint (by omega)), (by first | rfl | exact vint (by omega)), trivial⟩ (fun w S => S) ?_
  rintro ⟨xs, q, a, c⟩ ⟨hq, hlen, hpos, hle⟩
  try dsimp only at *
  refine c_seq ?_
  refine c_seq ?_
  refine c_region ?_
  refine o_move rfl rfl ?_
  refine o_len rfl rfl Try.underlying43 ?_
  refine o_move rfl rfl ?_
  refine o_bin rfl rfl rfl b_lss ?_
  refine l_nil ?_
  refine q_then ?_
  refine c_cond rfl (fun h1 => ?_) (fun h1 => ?_)
  · -- h1T
    try simp only [decide_eq_true_eq, decide_eq_false_iff_not, Bool.not_eq_eq_eq_not, Bool.not_true, Bool.not_false, Bool.not_eq_true', Bool.not_eq_false', Int.not_lt, Int.not_le, Bool.or_eq_true, Bool.and_eq_true] at h1
    refine c_skip ?_
    refine q_then ?_
    refine c_seq ?_
    refine c_block ?_
    refine c_seq ?_
    refine c_region ?_
    refine o_move rfl rfl ?_
    refine o_nil rfl rfl ?_
    refine o_fieldAddr (q := ⟨k, 0, none⟩) rfl rfl Try.underlying57 rfl ti55 rfl ?_
    refine o_load1 rfl rfl Try.underlying55 rfl (rd_mem 1 rfl rfl) ?_
    refine o_move rfl rfl ?_
    refine o_lookupOk (kv := kvI) (vv := vvS) 2 rfl koI rfl rfl rfl Try.underlying55 ti9 ?_
    refine o_move rfl rfl ?_
    refine o_extract rfl rfl rfl ?_
    refine o_extract rfl rfl rfl ?_
    refine o_assign rfl rfl ?_
    refine o_assign rfl rfl ?_
    refine l_nil ?_
    refine q_then ?_
    refine c_seq ?_
    refine c_seq ?_
    refine c_region ?_
    refine o_move rfl rfl ?_
    refine o_not rfl rfl ?_
    refine l_nil ?_
    refine q_then ?_
    refine c_cond rfl (fun h2 => ?_) (fun h2 => ?_)
    · -- h2T
      try simp only [decide_eq_true_eq, decide_eq_false_iff_not, Bool.not_eq_eq_eq_not, Bool.not_true, Bool.not_false, Bool.not_eq_true', Bool.not_eq_false', Int.not_lt, Int.not_le, Bool.or_eq_true, Bool.and_eq_true] at h2
      simp only [Option.isSome_eq_false_iff, Option.isNone_iff_eq_none] at h2
      refine c_exit ?_
      refine q_pass_exit ?_
      refine q_miss rfl ?_
      refine q_pass_exit ?_
      refine q_pass_exit ?_
      refine q_hit ?_
      refine q_then ?_
      refine c_seq ?_
      refine c_region ?_
      refine o_move rfl rfl ?_
      refine o_assign rfl rfl ?_
      refine l_nil ?_
      refine q_then ?_
      refine c_ret ?_
      exact f_ret (r_one rfl rfl) (⟨xs, a, c, by rw [hq, fromL_none h2]; simp, rfl, rfl⟩) (fun w S => S)
    · -- h2F
      try simp only [decide_eq_true_eq, decide_eq_false_iff_not, Bool.not_eq_eq_eq_not, Bool.not_true, Bool.not_false, Bool.not_eq_true', Bool.not_eq_false', Int.not_lt, Int.not_le, Bool.or_eq_true, Bool.and_eq_true] at h2
      refine c_skip ?_
      refine q_then ?_
      refine c_region ?_
      obtain ⟨v9, hv9⟩ : ∃ v, mget D q = some v := Option.isSome_iff_exists.1 h2
      refine l_eq (t := 7) rfl (show _ = .string v9 from by rw [hv9]; rfl) ?_
      have hr9 := ok.range q (by rw [hv9]; simp)
      have hl9 := from_le ok hq hlen
      refine o_move rfl rfl ?_
      refine o_move rfl rfl ?_
      refine o_lit eS_ok rfl Try.underlying43 rfl rfl rfl (lit_ok rfl) [v9] rfl rfl fun a28 => ?_
      refine l_f1 ?_
      refine o_append eS_ok rfl rfl rfl Try.underlying43 (rds_own eS_ok 1 rfl) (by show (_ + _) * 16 ≤ _; (try simp only [List.length_append, List.length_cons, List.length_nil]); omega) (by (try simp only [List.length_append, List.length_cons, List.length_nil]); omega) fun a29 c29 => ?_
      refine l_f1 ?_
      refine l_drop ?_
      refine o_assign rfl rfl ?_
      refine l_nil ?_
      refine q_block ?_
      refine q_then ?_
      refine c_region ?_
      refine o_move rfl rfl ?_
      refine o_bin rfl rfl rfl (b_add (wrap_i64 (by omega) (by omega))) ?_
      refine o_assign rfl rfl ?_
      refine l_nil ?_
      exact q_round (xs ++ [v9], q + 1, a29, c29) (by exact from_next ok hq hlen hpos (by omega) hv9) (by (try dsimp only); simp only [List.length_append, List.length_cons, List.length_nil]; omega) ⟨(by first | rfl | exact vint (by omega)), (by first | rfl | exact vint (by omega)), (by first | rfl | exact vint (by omega)), (by first | rfl | exact vint (by omega)), trivial⟩ (fun w S => S)
  · -- h1F
    try simp only [decide_eq_true_eq, decide_eq_false_iff_not, Bool.not_eq_eq_eq_not, Bool.not_true, Bool.not_false, Bool.not_eq_true', Bool.not_eq_false', Int.not_lt, Int.not_le, Bool.or_eq_true, Bool.and_eq_true] at h1
    refine c_exit ?_
    refine q_pass_exit ?_
    refine q_pass_exit ?_
    refine q_hit ?_
    refine q_then ?_
    refine c_seq ?_
    refine c_region ?_
    refine o_move rfl rfl ?_
    refine o_assign rfl rfl ?_
    refine l_nil ?_
    refine q_then ?_
    refine c_ret ?_
    exact f_ret (r_one rfl rfl) (⟨xs, a, c, by rw [hq, fromL_stop (by omega)]; simp, rfl, rfl⟩) (fun w S => S)

theorem newI {W : World} {F : List Res} : CS Try.prog 8 #[] W (F) (fun r L' => ∃ k mb : Nat, r = .pointer (some ⟨k, 0, none⟩) ∧ L' = blk k (.cells #[.map (some mb), .int .i64 ((0 : Nat) : Int)] 53 (0, 0)) :: mapR kvI vvI mb ([] : List (Int × Int)) :: F) := by
  refine f_door (l0 := []) Try.func8 Try.ntmps8 rfl rfl rfl ?_
  refine c_seq ?_
  refine c_region ?_
  refine o_assign rfl rfl ?_
  refine l_nil ?_
  refine q_then ?_
  refine c_seq ?_
  refine c_region ?_
  refine o_makeMap kvI vvI rfl fun m1 => ?_
  refine o_build rfl sp53 ti53 rfl rfl ?_
  refine o_box rfl rfl fun b3 => ?_
  refine o_assign rfl rfl ?_
  refine l_nil ?_
  refine q_then ?_
  refine c_ret ?_
  exact f_ret (r_one rfl rfl) (⟨b3, m1, rfl, rfl⟩) (fun w S => S)

theorem lenI {W : World} {F : List Res} {k mb wh : Nat} {D : List (Int × Int)} (ok : ChOk D wh) : CS Try.prog 9 #[.pointer (some ⟨k, 0, none⟩)] W (blk k (.cells #[.map (some mb), .int .i64 (wh : Int)] 53 (0, 0)) :: mapR kvI vvI mb D :: F) (fun r L' => r = .int .i64 (wh : Int) ∧ L' = blk k (.cells #[.map (some mb), .int .i64 (wh : Int)] 53 (0, 0)) :: mapR kvI vvI mb D :: F) := by
  refine f_door (l0 := [(0, .pointer (some ⟨k, 0, none⟩))]) Try.func9 Try.ntmps9 rfl rfl rfl ?_
  refine c_seq ?_
  refine c_region ?_
  refine o_assign rfl rfl ?_
  refine l_nil ?_
  refine q_then ?_
  refine c_seq ?_
  refine c_region ?_
  refine o_move rfl rfl ?_
  refine o_nil rfl rfl ?_
  refine o_fieldAddr (q := ⟨k, 1, none⟩) rfl rfl Try.underlying53 rfl ti3 rfl ?_
  refine o_load1 rfl rfl Try.underlying3 rfl (rd_mem 0 rfl rfl) ?_
  refine o_assign rfl rfl ?_
  refine l_nil ?_
  refine q_then ?_
  refine c_ret ?_
  exact f_ret (r_one rfl rfl) (⟨rfl, rfl⟩) (fun w S => S)

theorem learnI {W : World} {F : List Res} {k mb wh : Nat} {D : List (Int × Int)} (ok : ChOk D wh) {slot : Int} {v : Int} : CS Try.prog 10 #[.pointer (some ⟨k, 0, none⟩), .int .i64 slot, .int .i64 v] W (blk k (.cells #[.map (some mb), .int .i64 (wh : Int)] 53 (0, 0)) :: mapR kvI vvI mb D :: F) (fun r L' => ∃ wh', ChOk (lrn D slot v) wh' ∧ r = .bool (fresh D slot) ∧ L' = blk k (.cells #[.map (some mb), .int .i64 (wh' : Int)] 53 (0, 0)) :: mapR kvI vvI mb (lrn D slot v) :: F) := by
  refine f_door (l0 := [(0, .pointer (some ⟨k, 0, none⟩)), (1, .int .i64 slot), (2, .int .i64 v)]) Try.func10 Try.ntmps10 rfl rfl rfl ?_
  refine c_seq ?_
  refine c_region ?_
  refine o_assign rfl rfl ?_
  refine l_nil ?_
  refine q_then ?_
  refine c_seq ?_
  refine c_seq ?_
  refine c_region ?_
  refine o_move rfl rfl ?_
  refine o_nil rfl rfl ?_
  refine o_fieldAddr (q := ⟨k, 0, none⟩) rfl rfl Try.underlying53 rfl ti51 rfl ?_
  refine o_load1 rfl rfl Try.underlying51 rfl (rd_mem 0 rfl rfl) ?_
  refine o_move rfl rfl ?_
  refine o_lookupOk (kv := kvI) (vv := vvI) 1 rfl koI rfl rfl rfl Try.underlying51 ti3 ?_
  refine o_move rfl rfl ?_
  refine o_extract rfl rfl rfl ?_
  refine o_extract rfl rfl rfl ?_
  refine o_assign rfl rfl ?_
  refine o_assign rfl rfl ?_
  refine l_nil ?_
  refine q_then ?_
  refine c_seq ?_
  refine c_region ?_
  refine o_move rfl rfl ?_
  refine o_move rfl rfl ?_
  refine l_split (t := 21) rfl (fun h1 => ?_) (fun h1 => ?_)
  · -- h1T
    try simp only [decide_eq_true_eq, decide_eq_false_iff_not, Bool.not_eq_eq_eq_not, Bool.not_true, Bool.not_false, Bool.not_eq_true', Bool.not_eq_false', Int.not_lt, Int.not_le, Bool.or_eq_true, Bool.and_eq_true] at h1
    have nf : fresh D slot = false := fresh_t h1
    refine o_no rfl rfl rfl rfl ?_
    refine o_no rfl rfl rfl rfl ?_
    refine o_pick_true rfl rfl rfl ?_
    refine o_move rfl rfl ?_
    refine o_no rfl rfl rfl rfl ?_
    refine o_no rfl rfl rfl rfl ?_
    refine o_pick_true rfl rfl rfl ?_
    refine l_nil ?_
    refine q_then ?_
    refine c_true rfl ?_
    refine c_seq ?_
    refine c_region ?_
    refine o_assign rfl rfl ?_
    refine l_nil ?_
    refine q_then ?_
    refine c_ret ?_
    refine q_pass_ret ?_
    exact f_ret (r_one rfl rfl) (⟨wh, by rw [lrn_no nf]; exact ok, by rw [nf], by rw [lrn_no nf]⟩) (fun w S => S)
  · -- h1F
    try simp only [decide_eq_true_eq, decide_eq_false_iff_not, Bool.not_eq_eq_eq_not, Bool.not_true, Bool.not_false, Bool.not_eq_true', Bool.not_eq_false', Int.not_lt, Int.not_le, Bool.or_eq_true, Bool.and_eq_true] at h1
    refine o_yes rfl rfl rfl ?_
    refine o_move rfl rfl ?_
    refine o_yes rfl rfl rfl ?_
    refine o_bin rfl rfl rfl b_lss ?_
    refine o_pick_false rfl rfl rfl ?_
    refine o_move rfl rfl ?_
    refine l_split (t := 25) rfl (fun h2 => ?_) (fun h2 => ?_)
    · -- h2T
      try simp only [decide_eq_true_eq, decide_eq_false_iff_not, Bool.not_eq_eq_eq_not, Bool.not_true, Bool.not_false, Bool.not_eq_true', Bool.not_eq_false', Int.not_lt, Int.not_le, Bool.or_eq_true, Bool.and_eq_true] at h2
      have nf : fresh D slot = false := fresh_lt h2
      refine o_no rfl rfl rfl rfl ?_
      refine o_no rfl rfl rfl rfl ?_
      refine o_pick_true rfl rfl rfl ?_
      refine l_nil ?_
      refine q_then ?_
      refine c_true rfl ?_
      refine c_seq ?_
      refine c_region ?_
      refine o_assign rfl rfl ?_
      refine l_nil ?_
      refine q_then ?_
      refine c_ret ?_
      refine q_pass_ret ?_
      exact f_ret (r_one rfl rfl) (⟨wh, by rw [lrn_no nf]; exact ok, by rw [nf], by rw [lrn_no nf]⟩) (fun w S => S)
    · -- h2F
      try simp only [decide_eq_true_eq, decide_eq_false_iff_not, Bool.not_eq_eq_eq_not, Bool.not_true, Bool.not_false, Bool.not_eq_true', Bool.not_eq_false', Int.not_lt, Int.not_le, Bool.or_eq_true, Bool.and_eq_true] at h2
      refine o_yes rfl rfl rfl ?_
      refine o_move rfl rfl ?_
      refine o_yes rfl rfl rfl ?_
      refine o_bin rfl rfl rfl b_geq ?_
      refine o_pick_false rfl rfl rfl ?_
      refine l_nil ?_
      refine q_then ?_
      refine c_cond rfl (fun h3 => ?_) (fun h3 => ?_)
      · -- h3T
        try simp only [decide_eq_true_eq, decide_eq_false_iff_not, Bool.not_eq_eq_eq_not, Bool.not_true, Bool.not_false, Bool.not_eq_true', Bool.not_eq_false', Int.not_lt, Int.not_le, Bool.or_eq_true, Bool.and_eq_true] at h3
        have nf : fresh D slot = false := fresh_ge h3
        refine c_seq ?_
        refine c_region ?_
        refine o_assign rfl rfl ?_
        refine l_nil ?_
        refine q_then ?_
        refine c_ret ?_
        refine q_pass_ret ?_
        exact f_ret (r_one rfl rfl) (⟨wh, by rw [lrn_no nf]; exact ok, by rw [nf], by rw [lrn_no nf]⟩) (fun w S => S)
      · -- h3F
        try simp only [decide_eq_true_eq, decide_eq_false_iff_not, Bool.not_eq_eq_eq_not, Bool.not_true, Bool.not_false, Bool.not_eq_true', Bool.not_eq_false', Int.not_lt, Int.not_le, Bool.or_eq_true, Bool.and_eq_true] at h3
        have hf : fresh D slot = true := fresh_of h1 h2 h3
        have hb := chOk_le ok
        refine c_skip ?_
        refine q_then ?_
        refine c_seq ?_
        refine c_region ?_
        refine o_move rfl rfl ?_
        refine o_nil rfl rfl ?_
        refine o_fieldAddr (q := ⟨k, 0, none⟩) rfl rfl Try.underlying53 rfl ti51 rfl ?_
        refine o_load1 rfl rfl Try.underlying51 rfl (rd_mem 0 rfl rfl) ?_
        refine o_move rfl rfl ?_
        refine o_move rfl rfl ?_
        refine l_f1 ?_
        refine o_mapUpdate koI rfl rfl rfl Try.underlying51 ?_
        refine l_nil ?_
        refine q_then ?_
        refine c_block ?_
        refine c_conv (fun w S => S.perm p1) ?_
        refine c_loop (α := Nat) (fun z => [(0, .pointer (some ⟨k, 0, none⟩))]) (fun z => blk k (.cells #[.map (some mb), .int .i64 (z : Int)] 53 (0, 0)) :: mapR kvI vvI mb (mset D slot v) :: F) (fun z => ∀ j : Nat, j < z → mget (mset D slot v) (j : Int) ≠ none) (fun z => 64 - z) (wh) (by exact chOk_start ok) ⟨(by first | rfl | exact vint (by omega)), trivial⟩ (fun w S => S) ?_
        rintro u hu
        try dsimp only at *
        refine c_block ?_
        refine c_seq ?_
        refine c_seq ?_
        refine c_quiet (by kernel_rfl) (by kernel_rfl) ?_
        refine Qt.o_val rfl (v_move rfl rfl) ?_
        refine Qt.o_val rfl (v_nil rfl rfl) ?_
        refine Qt.o_val rfl (v_fieldAddr (q := ⟨k, 0, none⟩) rfl rfl Try.underlying53 rfl ti51 rfl) ?_
        refine Qt.o_val rfl (v_load1 rfl rfl Try.underlying51 rfl (rd_mem 0 rfl rfl)) ?_
        refine Qt.o_val rfl (v_move rfl rfl) ?_
        refine Qt.o_val rfl (v_nil rfl rfl) ?_
        refine Qt.o_val rfl (v_fieldAddr (q := ⟨k, 1, none⟩) rfl rfl Try.underlying53 rfl ti3 rfl) ?_
        refine Qt.o_val rfl (v_load1 rfl rfl Try.underlying3 rfl (rd_mem 0 rfl rfl)) ?_
        refine Qt.o_val rfl (v_lookupOk (kv := kvI) (vv := vvI) 1 rfl koI rfl rfl rfl Try.underlying51 ti3) ?_
        refine Qt.o_val rfl (v_move rfl rfl) ?_
        refine Qt.o_val rfl (v_extract rfl rfl rfl) ?_
        refine Qt.o_val rfl (v_extract rfl rfl rfl) ?_
        refine Qt.o_val rfl (v_assign rfl rfl) ?_
        refine Qt.o_val rfl (v_assign rfl rfl) ?_
        refine Qt.l_nil ?_
        refine q_then ?_
        refine c_seq ?_
        refine c_region ?_
        refine o_move rfl rfl ?_
        refine o_not rfl rfl ?_
        refine l_nil ?_
        refine q_then ?_
        refine c_cond rfl (fun h4 => ?_) (fun h4 => ?_)
        · -- h4T
          try simp only [decide_eq_true_eq, decide_eq_false_iff_not, Bool.not_eq_eq_eq_not, Bool.not_true, Bool.not_false, Bool.not_eq_true', Bool.not_eq_false', Int.not_lt, Int.not_le, Bool.or_eq_true, Bool.and_eq_true] at h4
          simp only [Option.isSome_eq_false_iff, Option.isNone_iff_eq_none] at h4
          refine c_seq ?_
          refine c_region ?_
          refine o_assign rfl rfl ?_
          refine l_nil ?_
          refine q_then ?_
          refine c_ret ?_
          refine q_pass_ret ?_
          refine q_block_ret ?_
          refine q_pass_ret ?_
          refine q_block_ret ?_
          exact f_ret (r_one rfl rfl) (⟨u, by rw [lrn_yes hf]; exact chOk_end ok hf hu h4, by rw [hf], by rw [lrn_yes hf]⟩) (fun w S => S)
        · -- h4F
          try simp only [decide_eq_true_eq, decide_eq_false_iff_not, Bool.not_eq_eq_eq_not, Bool.not_true, Bool.not_false, Bool.not_eq_true', Bool.not_eq_false', Int.not_lt, Int.not_le, Bool.or_eq_true, Bool.and_eq_true] at h4
          have h5 := chOk_less ok hf (u := u) (v := v) h4
          refine c_skip ?_
          refine q_then ?_
          refine c_region ?_
          refine o_move rfl rfl ?_
          refine o_nil rfl rfl ?_
          refine o_fieldAddr (q := ⟨k, 1, none⟩) rfl rfl Try.underlying53 rfl ti3 rfl ?_
          refine o_load1 rfl rfl Try.underlying3 rfl (rd_mem 0 rfl rfl) ?_
          refine o_bin rfl rfl rfl (b_add (wrap_i64 (by omega) (by omega))) ?_
          refine o_nil rfl rfl ?_
          refine o_fieldAddr (q := ⟨k, 1, none⟩) rfl rfl Try.underlying53 rfl ti3 rfl ?_
          refine o_store1 rfl rfl rfl ti3 rfl rfl ?_
          refine l_nil ?_
          refine q_block ?_
          exact q_round (u + 1) (by exact chOk_next hu h4) (by (try dsimp only); omega) ⟨(by first | rfl | exact vint (by omega)), trivial⟩ (by rw [show ((u : Int) + 1) = ((u + 1 : Nat) : Int) by omega]; exact fun w S => S)

theorem fromI {W : World} {F : List Res} {k mb wh : Nat} {D : List (Int × Int)} (ok : ChOk D wh) {slot most : Int} : CS Try.prog 11 #[.pointer (some ⟨k, 0, none⟩), .int .i64 slot, .int .i64 most] W (blk k (.cells #[.map (some mb), .int .i64 (wh : Int)] 53 (0, 0)) :: mapR kvI vvI mb D :: F) (fun r L' => ∃ (xs : List Int) (a : Option Addr) (c : Nat), xs = fromL D slot most.toNat ∧ r = .slice a xs.length c ∧ L' = row eI.T eI.sz a (xs).length c (flat eI xs) :: blk k (.cells #[.map (some mb), .int .i64 (wh : Int)] 53 (0, 0)) :: mapR kvI vvI mb D :: F) := by
  refine f_door (l0 := [(0, .pointer (some ⟨k, 0, none⟩)), (1, .int .i64 slot), (2, .int .i64 most)]) Try.func11 Try.ntmps11 rfl rfl rfl ?_
  refine c_seq ?_
  refine c_region ?_
  refine o_assign rfl rfl ?_
  refine l_nil ?_
  refine q_then ?_
  refine c_seq ?_
  refine c_block ?_
  refine c_nilrow eI ?_
  refine c_loop (α := (List Int) × Int × (Option Addr) × Nat) (fun z => [(0, .pointer (some ⟨k, 0, none⟩)), (1, .int .i64 z.2.1), (2, .int .i64 most), (6, .slice z.2.2.1 z.1.length z.2.2.2)]) (fun z => row eI.T eI.sz z.2.2.1 (z.1).length z.2.2.2 (flat eI z.1) :: blk k (.cells #[.map (some mb), .int .i64 (wh : Int)] 53 (0, 0)) :: mapR kvI vvI mb D :: F) (fun z => fromL D slot most.toNat = z.1 ++ fromL D z.2.1 (most.toNat - z.1.length) ∧ (z.1.length : Int) = z.2.1 - slot ∧ (z.1 ≠ [] → 0 ≤ slot) ∧ z.1.length ≤ 64) (fun z => 65 - z.1.length) ([], slot, none, 0) (by exact ⟨by simp, by simp, fun h => absurd rfl h, by simp⟩) ⟨(by first | rfl | exact vint (by omega)), (by first | rfl | exact vint (by omega)), (by first | rfl | exact vint (by omega)), (by first | rfl | exact vint (by omega)), trivial⟩ (fun w S => S) ?_
  rintro ⟨xs, q, a, c⟩ ⟨hq, hlen, hpos, hle⟩
  try dsimp only at *
  refine c_seq ?_
  refine c_seq ?_
  refine c_region ?_
  refine o_move rfl rfl ?_
  refine o_len rfl rfl Try.underlying22 ?_
  refine o_move rfl rfl ?_
  refine o_bin rfl rfl rfl b_lss ?_
  refine l_nil ?_
  refine q_then ?_
  refine c_cond rfl (fun h1 => ?_) (fun h1 => ?_)
  · -- h1T
    try simp only [decide_eq_true_eq, decide_eq_false_iff_not, Bool.not_eq_eq_eq_not, Bool.not_true, Bool.not_false, Bool.not_eq_true', Bool.not_eq_false', Int.not_lt, Int.not_le, Bool.or_eq_true, Bool.and_eq_true] at h1
    refine c_skip ?_
    refine q_then ?_
    refine c_seq ?_
    refine c_block ?_
    refine c_seq ?_
    refine c_region ?_
    refine o_move rfl rfl ?_
    refine o_nil rfl rfl ?_
    refine o_fieldAddr (q := ⟨k, 0, none⟩) rfl rfl Try.underlying53 rfl ti51 rfl ?_
    refine o_load1 rfl rfl Try.underlying51 rfl (rd_mem 1 rfl rfl) ?_
    refine o_move rfl rfl ?_
    refine o_lookupOk (kv := kvI) (vv := vvI) 2 rfl koI rfl rfl rfl Try.underlying51 ti3 ?_
    refine o_move rfl rfl ?_
    refine o_extract rfl rfl rfl ?_
    refine o_extract rfl rfl rfl ?_
    refine o_assign rfl rfl ?_
    refine o_assign rfl rfl ?_
    refine l_nil ?_
    refine q_then ?_
    refine c_seq ?_
    refine c_seq ?_
    refine c_region ?_
    refine o_move rfl rfl ?_
    refine o_not rfl rfl ?_
    refine l_nil ?_
    refine q_then ?_
    refine c_cond rfl (fun h2 => ?_) (fun h2 => ?_)
    · -- h2T
      try simp only [decide_eq_true_eq, decide_eq_false_iff_not, Bool.not_eq_eq_eq_not, Bool.not_true, Bool.not_false, Bool.not_eq_true', Bool.not_eq_false', Int.not_lt, Int.not_le, Bool.or_eq_true, Bool.and_eq_true] at h2
      simp only [Option.isSome_eq_false_iff, Option.isNone_iff_eq_none] at h2
      refine c_exit ?_
      refine q_pass_exit ?_
      refine q_miss rfl ?_
      refine q_pass_exit ?_
      refine q_pass_exit ?_
      refine q_hit ?_
      refine q_then ?_
      refine c_seq ?_
      refine c_region ?_
      refine o_move rfl rfl ?_
      refine o_assign rfl rfl ?_
      refine l_nil ?_
      refine q_then ?_
      refine c_ret ?_
      exact f_ret (r_one rfl rfl) (⟨xs, a, c, by rw [hq, fromL_none h2]; simp, rfl, rfl⟩) (fun w S => S)
    · -- h2F
      try simp only [decide_eq_true_eq, decide_eq_false_iff_not, Bool.not_eq_eq_eq_not, Bool.not_true, Bool.not_false, Bool.not_eq_true', Bool.not_eq_false', Int.not_lt, Int.not_le, Bool.or_eq_true, Bool.and_eq_true] at h2
      refine c_skip ?_
      refine q_then ?_
      refine c_region ?_
      obtain ⟨v9, hv9⟩ : ∃ v, mget D q = some v := Option.isSome_iff_exists.1 h2
      refine l_eq (t := 7) rfl (show _ = .int .i64 v9 from by rw [hv9]; rfl) ?_
      have hr9 := ok.range q (by rw [hv9]; simp)
      have hl9 := from_le ok hq hlen
      refine o_move rfl rfl ?_
      refine o_move rfl rfl ?_
      refine o_lit eI_ok rfl Try.underlying22 rfl rfl rfl (lit_ok rfl) [v9] rfl rfl fun a28 => ?_
      refine l_f1 ?_
      refine o_append eI_ok rfl rfl rfl Try.underlying22 (rds_own eI_ok 1 rfl) (by show (_ + _) * 8 ≤ _; (try simp only [List.length_append, List.length_cons, List.length_nil]); omega) (by (try simp only [List.length_append, List.length_cons, List.length_nil]); omega) fun a29 c29 => ?_
      refine l_f1 ?_
      refine l_drop ?_
      refine o_assign rfl rfl ?_
      refine l_nil ?_
      refine q_block ?_
      refine q_then ?_
      refine c_region ?_
      refine o_move rfl rfl ?_
      refine o_bin rfl rfl rfl (b_add (wrap_i64 (by omega) (by omega))) ?_
      refine o_assign rfl rfl ?_
      refine l_nil ?_
      exact q_round (xs ++ [v9], q + 1, a29, c29) (by exact from_next ok hq hlen hpos (by omega) hv9) (by (try dsimp only); simp only [List.length_append, List.length_cons, List.length_nil]; omega) ⟨(by first | rfl | exact vint (by omega)), (by first | rfl | exact vint (by omega)), (by first | rfl | exact vint (by omega)), (by first | rfl | exact vint (by omega)), trivial⟩ (fun w S => S)
  · -- h1F
    try simp only [decide_eq_true_eq, decide_eq_false_iff_not, Bool.not_eq_eq_eq_not, Bool.not_true, Bool.not_false, Bool.not_eq_true', Bool.not_eq_false', Int.not_lt, Int.not_le, Bool.or_eq_true, Bool.and_eq_true] at h1
    refine c_exit ?_
    refine q_pass_exit ?_
    refine q_pass_exit ?_
    refine q_hit ?_
    refine q_then ?_
    refine c_seq ?_
    refine c_region ?_
    refine o_move rfl rfl ?_
    refine o_assign rfl rfl ?_
    refine l_nil ?_
    refine q_then ?_
    refine c_ret ?_
    exact f_ret (r_one rfl rfl) (⟨xs, a, c, by rw [hq, fromL_stop (by omega)]; simp, rfl, rfl⟩) (fun w S => S)

end Go.Proofs.Ytokphffmbennkaa
