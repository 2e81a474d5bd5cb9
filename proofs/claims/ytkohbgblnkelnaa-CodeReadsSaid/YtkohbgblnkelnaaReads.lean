/- Printed by eng.py out of 01/spec.py. -/
import Derived.Test.YtkohbgblnkelnaaWrites1
import Derived.Test.YtkohbgblnkelnaaEye
import Derived.Test.YtkohbgblnkelnaaREye
set_option linter.unusedVariables false
set_option linter.unusedSimpArgs false
set_option maxRecDepth 10000
namespace Go.Proofs.Ytkohbgblnkelnaa
open Go.RowKit
set_option maxHeartbeats 2000000 in
theorem reads_ {W : World} {F : List Res} {xs : List UInt8} {a : Option Addr} {c : Nat} {zs : List Int} {az : Option Addr} {cz : Nat} (hs : SlR W e8 a xs) (hcc : xs.length ≤ c) (hz : SlR W eI az zs) : CS Try.prog 10 #[.slice a xs.length c, .slice az zs.length cz] W (F) (fun r L' => r = .bool true ∧ F = L') := by
  refine f_door (l0 := [(0, .slice a xs.length c), (1, .slice az zs.length cz)]) Try.func10 Try.ntmps10 rfl rfl rfl ?_
  refine c_seq ?_
  refine c_region ?_
  refine o_assign rfl rfl ?_
  refine l_nil ?_
  refine q_then ?_
  refine c_seq ?_
  refine c_seq ?_
  refine c_region ?_
  refine o_call rfl cal12 rfl (speaks_) ?_
  rintro _ _ ⟨rfl, rfl⟩
  refine o_not rfl rfl ?_
  refine l_nil ?_
  refine q_then ?_
  refine c_false rfl ?_
  refine c_skip ?_
  refine q_then ?_
  refine c_seq ?_
  refine c_seq ?_
  refine c_region ?_
  refine o_move rfl rfl ?_
  refine o_len rfl rfl Try.underlying25 ?_
  refine o_bin rfl rfl rfl b_gtr ?_
  refine o_move rfl rfl ?_
  refine l_split (t := 27) rfl (fun h1 => ?_) (fun h1 => ?_)
  · -- h1T
    try simp only [decide_eq_true_eq, decide_eq_false_iff_not, Bool.not_eq_eq_eq_not, Bool.not_true, Bool.not_false, Bool.not_eq_true', Bool.not_eq_false', Int.not_lt, Int.not_le, Bool.or_eq_true, Bool.and_eq_true] at h1
    refine o_no rfl rfl rfl rfl ?_
    refine o_no rfl rfl rfl rfl ?_
    refine o_no rfl rfl rfl rfl ?_
    refine o_pick_true rfl rfl rfl ?_
    refine l_nil ?_
    refine q_then ?_
    refine c_true rfl ?_
    refine c_seq ?_
    refine c_region ?_
    refine o_assign rfl rfl ?_
    refine l_nil ?_
    refine q_then ?_
    refine c_ret ?_
    refine q_pass_ret ?_
    exact f_ret (r_one rfl rfl) (⟨rfl, rfl⟩) (fun w S => S)
  · -- h1F
    try simp only [decide_eq_true_eq, decide_eq_false_iff_not, Bool.not_eq_eq_eq_not, Bool.not_true, Bool.not_false, Bool.not_eq_true', Bool.not_eq_false', Int.not_lt, Int.not_le, Bool.or_eq_true, Bool.and_eq_true] at h1
    refine o_yes rfl rfl rfl ?_
    refine o_move rfl rfl ?_
    refine o_yes rfl rfl rfl ?_
    refine o_len rfl rfl Try.underlying61 ?_
    refine o_yes rfl rfl rfl ?_
    refine o_bin rfl rfl rfl b_gtr ?_
    refine o_pick_false rfl rfl rfl ?_
    refine l_nil ?_
    refine q_then ?_
    refine c_cond rfl (fun h2 => ?_) (fun h2 => ?_)
    · -- h2T
      try simp only [decide_eq_true_eq, decide_eq_false_iff_not, Bool.not_eq_eq_eq_not, Bool.not_true, Bool.not_false, Bool.not_eq_true', Bool.not_eq_false', Int.not_lt, Int.not_le, Bool.or_eq_true, Bool.and_eq_true] at h2
      refine c_seq ?_
      refine c_region ?_
      refine o_assign rfl rfl ?_
      refine l_nil ?_
      refine q_then ?_
      refine c_ret ?_
      refine q_pass_ret ?_
      exact f_ret (r_one rfl rfl) (⟨rfl, rfl⟩) (fun w S => S)
    · -- h2F
      try simp only [decide_eq_true_eq, decide_eq_false_iff_not, Bool.not_eq_eq_eq_not, Bool.not_true, Bool.not_false, Bool.not_eq_true', Bool.not_eq_false', Int.not_lt, Int.not_le, Bool.or_eq_true, Bool.and_eq_true] at h2
      refine c_skip ?_
      refine q_then ?_
      refine c_seq ?_
      refine c_region ?_
      refine o_lit e8_ok rfl Try.underlying25 rfl rfl rfl (lit_ok rfl) ([] : List UInt8) rfl rfl fun a32 => ?_
      refine o_move rfl rfl ?_
      refine o_append e8_ok rfl rfl rfl Try.underlying25 (rds_old hs) (by show (_ + _) * 1 ≤ _; (try simp only [List.length_append, List.length_cons, List.length_nil]); omega) (by (try simp only [List.length_append, List.length_cons, List.length_nil]); omega) fun a34 c34 => ?_
      refine o_assign rfl rfl ?_
      refine l_nil ?_
      refine q_then ?_
      refine c_seq ?_
      refine c_region ?_
      refine o_move rfl rfl ?_
      refine o_call rfl cal21 rfl (newEye (rds_own e8_ok 0 rfl) (by (try simp only [List.nil_append, List.length_append, List.length_cons, List.length_nil]); omega)) ?_
      rintro _ _ ⟨k36, a36, c36, hc36, rfl, rfl⟩
      have ok36 := eyeOk_start (W := W) (a := a36) hc36 (show (xs).length ≤ 70000000000000 by omega)
      refine o_move rfl rfl ?_
      refine o_build rfl sp64 ti64 rfl rfl ?_
      refine o_box rfl rfl fun b39 => ?_
      refine o_assign rfl rfl ?_
      refine o_assign rfl rfl ?_
      refine l_nil ?_
      refine q_then ?_
      refine c_seq ?_
      refine c_seq ?_
      refine c_region ?_
      refine o_move rfl rfl ?_
      refine o_bin rfl rfl rfl (b_peq Try.underlying39 _) ?_
      refine l_nil ?_
      refine q_then ?_
      refine c_false rfl ?_
      refine c_skip ?_
      refine q_then ?_
      refine c_seq ?_
      refine c_region ?_
      refine o_move rfl rfl ?_
      refine l_f3 ?_
      refine o_call rfl cal20 rfl (spoil_ (by (try simp only [List.nil_append, List.length_append, List.length_cons, List.length_nil]); omega)) ?_
      rintro _ _ ⟨ws43, hws43, rfl, rfl⟩
      refine l_nil ?_
      refine q_then ?_
      refine c_seq ?_
      refine c_seq ?_
      refine c_region ?_
      refine o_move rfl rfl ?_
      refine o_len rfl rfl Try.underlying61 ?_
      refine o_move rfl rfl ?_
      refine l_nil ?_
      refine q_then ?_
      refine c_block ?_
      refine c_conv (fun w S => S.tail) ?_
      refine c_conv (fun w S => S.perm p2) ?_
      refine c_conv (fun w S => S.perm p2) ?_
      refine c_loop (α := Nat × Nat × (List UInt8) × (Option Addr) × Nat) (fun z => [(6, .pointer (some ⟨k36, 0, none⟩)), (7, .pointer (some ⟨b39, 0, none⟩)), (44, .slice az zs.length cz), (45, .int .i64 (zs.length : Int)), (46, .int .i64 (z.1 : Int))]) (fun z => blk k36 (.cells #[.slice z.2.2.2.1 (z.2.2.1).length z.2.2.2.2] 77 (0, 0)) :: row e8.T e8.sz a36 (xs).length c36 (flat e8 xs) :: blk b39 (.cells #[.slice a xs.length c, .int .i64 (z.2.1 : Int)] 64 (0, 0)) :: F) (fun z => EyeOk W a36 xs z.2.1 z.2.2.1 z.2.2.2.1 z.2.2.2.2 ∧ z.1 ≤ zs.length) (fun z => zs.length - z.1) (0, 0, xs, a36, c36) (by exact ⟨ok36, Nat.zero_le _⟩) ⟨(by first | rfl | exact vint (by omega)), (by first | rfl | exact vint (by omega)), (by first | rfl | exact vint (by omega)), (by first | rfl | exact vint (by omega)), (by first | rfl | exact vint (by omega)), trivial⟩ (fun w S => S) ?_
      rintro ⟨q, i, ysi, ayi, cyi⟩ ⟨oki, hqz⟩
      try dsimp only at *
      refine c_seq ?_
      refine c_region ?_
      refine o_bin rfl rfl rfl b_lss ?_
      refine l_nil ?_
      refine q_then ?_
      refine c_seq ?_
      refine c_cond rfl (fun h3 => ?_) (fun h3 => ?_)
      · -- h3T
        try simp only [decide_eq_true_eq, decide_eq_false_iff_not, Bool.not_eq_eq_eq_not, Bool.not_true, Bool.not_false, Bool.not_eq_true', Bool.not_eq_false', Int.not_lt, Int.not_le, Bool.or_eq_true, Bool.and_eq_true] at h3
        refine c_skip ?_
        refine q_then ?_
        refine c_seq ?_
        refine c_block ?_
        refine c_seq ?_
        refine c_region ?_
        refine o_index eI_ok rfl rfl rfl Try.underlying61 (by omega) (by omega) (rds_old hz) fun ad48 ead48 => ?_
        obtain ⟨x48, hx48⟩ : ∃ x, (zs)[((q : Int)).toNat]? = some x := ⟨_, List.getElem?_eq_getElem (by omega)⟩
        refine o_load1 rfl rfl Try.underlying3 rfl (rd_sl0 eI_ok ead48 (rds_old hz) hx48 rfl) ?_
        refine o_assign rfl rfl ?_
        refine l_nil ?_
        refine q_then ?_
        refine c_seq ?_
        refine c_seq ?_
        refine c_region ?_
        refine o_move rfl rfl ?_
        refine o_bin rfl rfl rfl (b_and rfl) ?_
        refine l_nil ?_
        refine q_then ?_
        refine c_block ?_
        refine c_seq ?_
        refine c_seq ?_
        refine c_region ?_
        refine o_bin rfl rfl rfl b_eql ?_
        refine o_assign rfl rfl ?_
        refine l_nil ?_
        refine q_then ?_
        refine c_cond rfl (fun h4 => ?_) (fun h4 => ?_)
        · -- h4T
          try simp only [decide_eq_true_eq, decide_eq_false_iff_not, Bool.not_eq_eq_eq_not, Bool.not_true, Bool.not_false, Bool.not_eq_true', Bool.not_eq_false', Int.not_lt, Int.not_le, Bool.or_eq_true, Bool.and_eq_true] at h4
          refine c_skip ?_
          refine q_then ?_
          refine c_cond rfl (fun h5 => ?_) (fun h5 => ?_)
          · -- h5T
            try simp only [decide_eq_true_eq, decide_eq_false_iff_not, Bool.not_eq_eq_eq_not, Bool.not_true, Bool.not_false, Bool.not_eq_true', Bool.not_eq_false', Int.not_lt, Int.not_le, Bool.or_eq_true, Bool.and_eq_true] at h5
            refine c_seq ?_
            refine c_region ?_
            refine o_move rfl rfl ?_
            refine l_f1 ?_
            refine l_f1 ?_
            refine o_call rfl cal22 rfl (eyeNum oki) ?_
            rintro _ _ ⟨ys75, ay75, cy75, ok75, rfl, rfl⟩
            refine o_move rfl rfl ?_
            refine o_extract rfl rfl rfl ?_
            refine o_extract rfl rfl rfl ?_
            refine o_assign rfl rfl ?_
            refine o_assign rfl rfl ?_
            refine l_nil ?_
            refine q_then ?_
            refine c_seq ?_
            refine c_region ?_
            refine o_move rfl rfl ?_
            refine l_f2 ?_
            refine o_call rfl cal30 rfl (rEyeNum hs oki.is oki.le (by omega) hcc) ?_
            rintro _ _ ⟨rfl, rfl⟩
            refine o_move rfl rfl ?_
            refine o_extract rfl rfl rfl ?_
            refine o_extract rfl rfl rfl ?_
            refine o_assign rfl rfl ?_
            refine o_assign rfl rfl ?_
            refine l_nil ?_
            refine q_then ?_
            refine c_seq ?_
            refine c_region ?_
            refine o_move rfl rfl ?_
            refine o_move rfl rfl ?_
            refine o_bin rfl rfl rfl b_neq ?_
            refine l_eq (t := 85) (v' := .bool false) rfl (show _ = Value.bool false from by simp) ?_
            refine o_move rfl rfl ?_
            refine o_yes rfl rfl rfl ?_
            refine o_move rfl rfl ?_
            refine o_yes rfl rfl rfl ?_
            refine o_move rfl rfl ?_
            refine o_yes rfl rfl rfl ?_
            refine o_bin rfl rfl rfl b_neq ?_
            refine l_eq (t := 89) (v' := .bool false) rfl (show _ = Value.bool false from by simp) ?_
            refine o_pick_false rfl rfl rfl ?_
            refine l_nil ?_
            refine q_then ?_
            refine c_false rfl ?_
            refine c_skip ?_
            refine q_block ?_
            refine q_then ?_
            refine c_seq ?_
            refine c_region ?_
            refine o_move rfl rfl ?_
            refine l_f2 ?_
            refine l_f2 ?_
            refine o_call rfl cal23 rfl (eyeEnd ok75) ?_
            rintro _ _ ⟨rfl, rfl⟩
            refine o_move rfl rfl ?_
            refine l_f2 ?_
            refine o_call rfl cal35 rfl (rEyeEnd hs ok75.is ok75.le (by omega) hcc) ?_
            rintro _ _ ⟨rfl, rfl⟩
            refine o_bin rfl rfl rfl b_neq ?_
            refine l_eq (t := 119) (v' := .bool false) rfl (show _ = Value.bool false from by simp) ?_
            refine l_nil ?_
            refine q_then ?_
            refine c_false rfl ?_
            refine c_skip ?_
            refine q_block ?_
            refine q_then ?_
            refine c_region ?_
            refine o_bin rfl rfl rfl (b_add (wrap_i64 (by omega) (by omega))) ?_
            refine o_move rfl rfl ?_
            refine l_nil ?_
            refine q_conv (fun w S => S.perm p2) ?_
            refine q_conv (fun w S => S.perm p2) ?_
            exact q_round (q + 1, i + (numR 0 0 ysi).2.2, ys75, ay75, cy75) (by exact ⟨ok75, by omega⟩) (by (try dsimp only); omega) ⟨(by first | rfl | exact vint (by omega)), (by first | rfl | exact vint (by omega)), (by first | rfl | exact vint (by omega)), (by first | rfl | exact vint (by omega)), (by first | rfl | exact vint (by omega)), trivial⟩ (fun w S => S)
          · -- h5F
            try simp only [decide_eq_true_eq, decide_eq_false_iff_not, Bool.not_eq_eq_eq_not, Bool.not_true, Bool.not_false, Bool.not_eq_true', Bool.not_eq_false', Int.not_lt, Int.not_le, Bool.or_eq_true, Bool.and_eq_true] at h5
            refine c_seq ?_
            refine c_region ?_
            refine o_bin rfl rfl rfl b_eql ?_
            refine o_assign rfl rfl ?_
            refine l_nil ?_
            refine q_then ?_
            refine c_cond rfl (fun h6 => ?_) (fun h6 => ?_)
            · -- h6T
              try simp only [decide_eq_true_eq, decide_eq_false_iff_not, Bool.not_eq_eq_eq_not, Bool.not_true, Bool.not_false, Bool.not_eq_true', Bool.not_eq_false', Int.not_lt, Int.not_le, Bool.or_eq_true, Bool.and_eq_true] at h6
              refine c_seq ?_
              refine c_region ?_
              refine o_move rfl rfl ?_
              refine l_f1 ?_
              refine l_f1 ?_
              refine o_call rfl cal31 rfl (eyeText oki) ?_
              rintro _ _ ⟨out95, ys95, ay95, cy95, a95, c95, hout95, ok95, rfl, rfl⟩
              have htl := textR_len ysi
              have hyl := oki.len
              rw [← hout95] at htl
              refine o_move rfl rfl ?_
              refine o_extract rfl rfl rfl ?_
              refine o_extract rfl rfl rfl ?_
              refine o_assign rfl rfl ?_
              refine o_assign rfl rfl ?_
              refine l_nil ?_
              refine q_then ?_
              refine c_seq ?_
              refine c_region ?_
              refine o_move rfl rfl ?_
              refine l_f3 ?_
              refine o_call rfl cal32 rfl (rEyeText hs oki.is oki.le (by omega) hcc) ?_
              rintro _ _ ⟨out100, a100, c100, hout100, rfl, rfl⟩
              refine o_move rfl rfl ?_
              refine o_extract rfl rfl rfl ?_
              refine o_extract rfl rfl rfl ?_
              refine o_assign rfl rfl ?_
              refine o_assign rfl rfl ?_
              refine l_nil ?_
              refine q_then ?_
              refine c_seq ?_
              refine c_seq ?_
              refine c_region ?_
              refine o_move rfl rfl ?_
              refine o_bytesStr (e := e8) rfl rfl rfl Try.underlying25 Try.underlying5 Try.underlying9 (rds_own e8_ok 2 rfl) ?_
              refine o_move rfl rfl ?_
              refine o_bytesStr (e := e8) rfl rfl rfl Try.underlying25 Try.underlying5 Try.underlying9 (rds_own e8_ok 0 rfl) ?_
              refine o_bin rfl rfl rfl b_sneq ?_
              refine l_eq (t := 107) (v' := .bool false) rfl (show _ = Value.bool false from by rw [hout95, hout100]; simp) ?_
              refine o_move rfl rfl ?_
              refine o_yes rfl rfl rfl ?_
              refine o_move rfl rfl ?_
              refine o_yes rfl rfl rfl ?_
              refine o_move rfl rfl ?_
              refine o_yes rfl rfl rfl ?_
              refine o_bin rfl rfl rfl b_neq ?_
              refine l_eq (t := 111) (v' := .bool false) rfl (show _ = Value.bool false from by simp) ?_
              refine o_pick_false rfl rfl rfl ?_
              refine l_nil ?_
              refine q_then ?_
              refine c_false rfl ?_
              refine c_skip ?_
              refine q_then ?_
              refine c_region ?_
              refine o_move rfl rfl ?_
              refine l_f2 ?_
              refine o_call rfl cal20 rfl (spoil_ (by (try simp only [List.nil_append, List.length_append, List.length_cons, List.length_nil]); omega)) ?_
              rintro _ _ ⟨ws114, hws114, rfl, rfl⟩
              refine l_nil ?_
              refine q_block ?_
              refine q_then ?_
              refine c_seq ?_
              refine c_region ?_
              refine o_move rfl rfl ?_
              refine l_f4 ?_
              refine l_f4 ?_
              refine o_call rfl cal23 rfl (eyeEnd ok95) ?_
              rintro _ _ ⟨rfl, rfl⟩
              refine o_move rfl rfl ?_
              refine l_f4 ?_
              refine o_call rfl cal35 rfl (rEyeEnd hs ok95.is ok95.le (by omega) hcc) ?_
              rintro _ _ ⟨rfl, rfl⟩
              refine o_bin rfl rfl rfl b_neq ?_
              refine l_eq (t := 119) (v' := .bool false) rfl (show _ = Value.bool false from by simp) ?_
              refine l_nil ?_
              refine q_then ?_
              refine c_false rfl ?_
              refine c_skip ?_
              refine q_block ?_
              refine q_then ?_
              refine c_region ?_
              refine o_bin rfl rfl rfl (b_add (wrap_i64 (by omega) (by omega))) ?_
              refine o_move rfl rfl ?_
              refine l_nil ?_
              refine q_conv (fun w S => (S.perm p3).tail) ?_
              refine q_conv (fun w S => (S.perm p3).tail) ?_
              refine q_conv (fun w S => S.perm p2) ?_
              refine q_conv (fun w S => S.perm p2) ?_
              exact q_round (q + 1, i + (textR ysi).2.2, ys95, ay95, cy95) (by exact ⟨ok95, by omega⟩) (by (try dsimp only); omega) ⟨(by first | rfl | exact vint (by omega)), (by first | rfl | exact vint (by omega)), (by first | rfl | exact vint (by omega)), (by first | rfl | exact vint (by omega)), (by first | rfl | exact vint (by omega)), trivial⟩ (fun w S => S)
            · -- h6F
              try simp only [decide_eq_true_eq, decide_eq_false_iff_not, Bool.not_eq_eq_eq_not, Bool.not_true, Bool.not_false, Bool.not_eq_true', Bool.not_eq_false', Int.not_lt, Int.not_le, Bool.or_eq_true, Bool.and_eq_true] at h6
              refine c_seq ?_
              refine c_region ?_
              refine o_move rfl rfl ?_
              refine l_f1 ?_
              refine l_f1 ?_
              refine o_call rfl cal33 rfl (eyeByte oki) ?_
              rintro _ _ ⟨ys54, ay54, cy54, ok54, rfl, rfl⟩
              refine o_move rfl rfl ?_
              refine o_extract rfl rfl rfl ?_
              refine o_extract rfl rfl rfl ?_
              refine o_assign rfl rfl ?_
              refine o_assign rfl rfl ?_
              refine l_nil ?_
              refine q_then ?_
              refine c_seq ?_
              refine c_region ?_
              refine o_move rfl rfl ?_
              refine l_f2 ?_
              refine o_call rfl cal34 rfl (rEyeByte hs oki.is oki.le (by omega) hcc) ?_
              rintro _ _ ⟨rfl, rfl⟩
              refine o_move rfl rfl ?_
              refine o_extract rfl rfl rfl ?_
              refine o_extract rfl rfl rfl ?_
              refine o_assign rfl rfl ?_
              refine o_assign rfl rfl ?_
              refine l_nil ?_
              refine q_then ?_
              refine c_seq ?_
              refine c_region ?_
              refine o_move rfl rfl ?_
              refine o_move rfl rfl ?_
              refine o_bin rfl rfl rfl b_neq ?_
              refine l_eq (t := 64) (v' := .bool false) rfl (show _ = Value.bool false from by simp) ?_
              refine o_move rfl rfl ?_
              refine o_yes rfl rfl rfl ?_
              refine o_move rfl rfl ?_
              refine o_yes rfl rfl rfl ?_
              refine o_move rfl rfl ?_
              refine o_yes rfl rfl rfl ?_
              refine o_bin rfl rfl rfl b_neq ?_
              refine l_eq (t := 68) (v' := .bool false) rfl (show _ = Value.bool false from by simp) ?_
              refine o_pick_false rfl rfl rfl ?_
              refine l_nil ?_
              refine q_then ?_
              refine c_false rfl ?_
              refine c_skip ?_
              refine q_block ?_
              refine q_then ?_
              refine c_seq ?_
              refine c_region ?_
              refine o_move rfl rfl ?_
              refine l_f2 ?_
              refine l_f2 ?_
              refine o_call rfl cal23 rfl (eyeEnd ok54) ?_
              rintro _ _ ⟨rfl, rfl⟩
              refine o_move rfl rfl ?_
              refine l_f2 ?_
              refine o_call rfl cal35 rfl (rEyeEnd hs ok54.is ok54.le (by omega) hcc) ?_
              rintro _ _ ⟨rfl, rfl⟩
              refine o_bin rfl rfl rfl b_neq ?_
              refine l_eq (t := 119) (v' := .bool false) rfl (show _ = Value.bool false from by simp) ?_
              refine l_nil ?_
              refine q_then ?_
              refine c_false rfl ?_
              refine c_skip ?_
              refine q_block ?_
              refine q_then ?_
              refine c_region ?_
              refine o_bin rfl rfl rfl (b_add (wrap_i64 (by omega) (by omega))) ?_
              refine o_move rfl rfl ?_
              refine l_nil ?_
              refine q_conv (fun w S => S.perm p2) ?_
              refine q_conv (fun w S => S.perm p2) ?_
              exact q_round (q + 1, i + (byteR ysi).2.2, ys54, ay54, cy54) (by exact ⟨ok54, by omega⟩) (by (try dsimp only); omega) ⟨(by first | rfl | exact vint (by omega)), (by first | rfl | exact vint (by omega)), (by first | rfl | exact vint (by omega)), (by first | rfl | exact vint (by omega)), (by first | rfl | exact vint (by omega)), trivial⟩ (fun w S => S)
        · -- h4F
          try simp only [decide_eq_true_eq, decide_eq_false_iff_not, Bool.not_eq_eq_eq_not, Bool.not_true, Bool.not_false, Bool.not_eq_true', Bool.not_eq_false', Int.not_lt, Int.not_le, Bool.or_eq_true, Bool.and_eq_true] at h4
          refine c_region ?_
          refine o_bin rfl rfl rfl b_eql ?_
          refine o_assign rfl rfl ?_
          refine l_nil ?_
          refine q_then ?_
          refine c_cond rfl (fun h7 => ?_) (fun h7 => ?_)
          · -- h7T
            try simp only [decide_eq_true_eq, decide_eq_false_iff_not, Bool.not_eq_eq_eq_not, Bool.not_true, Bool.not_false, Bool.not_eq_true', Bool.not_eq_false', Int.not_lt, Int.not_le, Bool.or_eq_true, Bool.and_eq_true] at h7
            refine c_seq ?_
            refine c_region ?_
            refine o_move rfl rfl ?_
            refine l_f1 ?_
            refine l_f1 ?_
            refine o_call rfl cal22 rfl (eyeNum oki) ?_
            rintro _ _ ⟨ys75, ay75, cy75, ok75, rfl, rfl⟩
            refine o_move rfl rfl ?_
            refine o_extract rfl rfl rfl ?_
            refine o_extract rfl rfl rfl ?_
            refine o_assign rfl rfl ?_
            refine o_assign rfl rfl ?_
            refine l_nil ?_
            refine q_then ?_
            refine c_seq ?_
            refine c_region ?_
            refine o_move rfl rfl ?_
            refine l_f2 ?_
            refine o_call rfl cal30 rfl (rEyeNum hs oki.is oki.le (by omega) hcc) ?_
            rintro _ _ ⟨rfl, rfl⟩
            refine o_move rfl rfl ?_
            refine o_extract rfl rfl rfl ?_
            refine o_extract rfl rfl rfl ?_
            refine o_assign rfl rfl ?_
            refine o_assign rfl rfl ?_
            refine l_nil ?_
            refine q_then ?_
            refine c_seq ?_
            refine c_region ?_
            refine o_move rfl rfl ?_
            refine o_move rfl rfl ?_
            refine o_bin rfl rfl rfl b_neq ?_
            refine l_eq (t := 85) (v' := .bool false) rfl (show _ = Value.bool false from by simp) ?_
            refine o_move rfl rfl ?_
            refine o_yes rfl rfl rfl ?_
            refine o_move rfl rfl ?_
            refine o_yes rfl rfl rfl ?_
            refine o_move rfl rfl ?_
            refine o_yes rfl rfl rfl ?_
            refine o_bin rfl rfl rfl b_neq ?_
            refine l_eq (t := 89) (v' := .bool false) rfl (show _ = Value.bool false from by simp) ?_
            refine o_pick_false rfl rfl rfl ?_
            refine l_nil ?_
            refine q_then ?_
            refine c_false rfl ?_
            refine c_skip ?_
            refine q_block ?_
            refine q_then ?_
            refine c_seq ?_
            refine c_region ?_
            refine o_move rfl rfl ?_
            refine l_f2 ?_
            refine l_f2 ?_
            refine o_call rfl cal23 rfl (eyeEnd ok75) ?_
            rintro _ _ ⟨rfl, rfl⟩
            refine o_move rfl rfl ?_
            refine l_f2 ?_
            refine o_call rfl cal35 rfl (rEyeEnd hs ok75.is ok75.le (by omega) hcc) ?_
            rintro _ _ ⟨rfl, rfl⟩
            refine o_bin rfl rfl rfl b_neq ?_
            refine l_eq (t := 119) (v' := .bool false) rfl (show _ = Value.bool false from by simp) ?_
            refine l_nil ?_
            refine q_then ?_
            refine c_false rfl ?_
            refine c_skip ?_
            refine q_block ?_
            refine q_then ?_
            refine c_region ?_
            refine o_bin rfl rfl rfl (b_add (wrap_i64 (by omega) (by omega))) ?_
            refine o_move rfl rfl ?_
            refine l_nil ?_
            refine q_conv (fun w S => S.perm p2) ?_
            refine q_conv (fun w S => S.perm p2) ?_
            exact q_round (q + 1, i + (numR 0 0 ysi).2.2, ys75, ay75, cy75) (by exact ⟨ok75, by omega⟩) (by (try dsimp only); omega) ⟨(by first | rfl | exact vint (by omega)), (by first | rfl | exact vint (by omega)), (by first | rfl | exact vint (by omega)), (by first | rfl | exact vint (by omega)), (by first | rfl | exact vint (by omega)), trivial⟩ (fun w S => S)
          · -- h7F
            try simp only [decide_eq_true_eq, decide_eq_false_iff_not, Bool.not_eq_eq_eq_not, Bool.not_true, Bool.not_false, Bool.not_eq_true', Bool.not_eq_false', Int.not_lt, Int.not_le, Bool.or_eq_true, Bool.and_eq_true] at h7
            refine c_seq ?_
            refine c_region ?_
            refine o_bin rfl rfl rfl b_eql ?_
            refine o_assign rfl rfl ?_
            refine l_nil ?_
            refine q_then ?_
            refine c_cond rfl (fun h8 => ?_) (fun h8 => ?_)
            · -- h8T
              try simp only [decide_eq_true_eq, decide_eq_false_iff_not, Bool.not_eq_eq_eq_not, Bool.not_true, Bool.not_false, Bool.not_eq_true', Bool.not_eq_false', Int.not_lt, Int.not_le, Bool.or_eq_true, Bool.and_eq_true] at h8
              refine c_seq ?_
              refine c_region ?_
              refine o_move rfl rfl ?_
              refine l_f1 ?_
              refine l_f1 ?_
              refine o_call rfl cal31 rfl (eyeText oki) ?_
              rintro _ _ ⟨out95, ys95, ay95, cy95, a95, c95, hout95, ok95, rfl, rfl⟩
              have htl := textR_len ysi
              have hyl := oki.len
              rw [← hout95] at htl
              refine o_move rfl rfl ?_
              refine o_extract rfl rfl rfl ?_
              refine o_extract rfl rfl rfl ?_
              refine o_assign rfl rfl ?_
              refine o_assign rfl rfl ?_
              refine l_nil ?_
              refine q_then ?_
              refine c_seq ?_
              refine c_region ?_
              refine o_move rfl rfl ?_
              refine l_f3 ?_
              refine o_call rfl cal32 rfl (rEyeText hs oki.is oki.le (by omega) hcc) ?_
              rintro _ _ ⟨out100, a100, c100, hout100, rfl, rfl⟩
              refine o_move rfl rfl ?_
              refine o_extract rfl rfl rfl ?_
              refine o_extract rfl rfl rfl ?_
              refine o_assign rfl rfl ?_
              refine o_assign rfl rfl ?_
              refine l_nil ?_
              refine q_then ?_
              refine c_seq ?_
              refine c_seq ?_
              refine c_region ?_
              refine o_move rfl rfl ?_
              refine o_bytesStr (e := e8) rfl rfl rfl Try.underlying25 Try.underlying5 Try.underlying9 (rds_own e8_ok 2 rfl) ?_
              refine o_move rfl rfl ?_
              refine o_bytesStr (e := e8) rfl rfl rfl Try.underlying25 Try.underlying5 Try.underlying9 (rds_own e8_ok 0 rfl) ?_
              refine o_bin rfl rfl rfl b_sneq ?_
              refine l_eq (t := 107) (v' := .bool false) rfl (show _ = Value.bool false from by rw [hout95, hout100]; simp) ?_
              refine o_move rfl rfl ?_
              refine o_yes rfl rfl rfl ?_
              refine o_move rfl rfl ?_
              refine o_yes rfl rfl rfl ?_
              refine o_move rfl rfl ?_
              refine o_yes rfl rfl rfl ?_
              refine o_bin rfl rfl rfl b_neq ?_
              refine l_eq (t := 111) (v' := .bool false) rfl (show _ = Value.bool false from by simp) ?_
              refine o_pick_false rfl rfl rfl ?_
              refine l_nil ?_
              refine q_then ?_
              refine c_false rfl ?_
              refine c_skip ?_
              refine q_then ?_
              refine c_region ?_
              refine o_move rfl rfl ?_
              refine l_f2 ?_
              refine o_call rfl cal20 rfl (spoil_ (by (try simp only [List.nil_append, List.length_append, List.length_cons, List.length_nil]); omega)) ?_
              rintro _ _ ⟨ws114, hws114, rfl, rfl⟩
              refine l_nil ?_
              refine q_block ?_
              refine q_then ?_
              refine c_seq ?_
              refine c_region ?_
              refine o_move rfl rfl ?_
              refine l_f4 ?_
              refine l_f4 ?_
              refine o_call rfl cal23 rfl (eyeEnd ok95) ?_
              rintro _ _ ⟨rfl, rfl⟩
              refine o_move rfl rfl ?_
              refine l_f4 ?_
              refine o_call rfl cal35 rfl (rEyeEnd hs ok95.is ok95.le (by omega) hcc) ?_
              rintro _ _ ⟨rfl, rfl⟩
              refine o_bin rfl rfl rfl b_neq ?_
              refine l_eq (t := 119) (v' := .bool false) rfl (show _ = Value.bool false from by simp) ?_
              refine l_nil ?_
              refine q_then ?_
              refine c_false rfl ?_
              refine c_skip ?_
              refine q_block ?_
              refine q_then ?_
              refine c_region ?_
              refine o_bin rfl rfl rfl (b_add (wrap_i64 (by omega) (by omega))) ?_
              refine o_move rfl rfl ?_
              refine l_nil ?_
              refine q_conv (fun w S => (S.perm p3).tail) ?_
              refine q_conv (fun w S => (S.perm p3).tail) ?_
              refine q_conv (fun w S => S.perm p2) ?_
              refine q_conv (fun w S => S.perm p2) ?_
              exact q_round (q + 1, i + (textR ysi).2.2, ys95, ay95, cy95) (by exact ⟨ok95, by omega⟩) (by (try dsimp only); omega) ⟨(by first | rfl | exact vint (by omega)), (by first | rfl | exact vint (by omega)), (by first | rfl | exact vint (by omega)), (by first | rfl | exact vint (by omega)), (by first | rfl | exact vint (by omega)), trivial⟩ (fun w S => S)
            · -- h8F
              try simp only [decide_eq_true_eq, decide_eq_false_iff_not, Bool.not_eq_eq_eq_not, Bool.not_true, Bool.not_false, Bool.not_eq_true', Bool.not_eq_false', Int.not_lt, Int.not_le, Bool.or_eq_true, Bool.and_eq_true] at h8
              refine c_seq ?_
              refine c_region ?_
              refine o_move rfl rfl ?_
              refine l_f1 ?_
              refine l_f1 ?_
              refine o_call rfl cal33 rfl (eyeByte oki) ?_
              rintro _ _ ⟨ys54, ay54, cy54, ok54, rfl, rfl⟩
              refine o_move rfl rfl ?_
              refine o_extract rfl rfl rfl ?_
              refine o_extract rfl rfl rfl ?_
              refine o_assign rfl rfl ?_
              refine o_assign rfl rfl ?_
              refine l_nil ?_
              refine q_then ?_
              refine c_seq ?_
              refine c_region ?_
              refine o_move rfl rfl ?_
              refine l_f2 ?_
              refine o_call rfl cal34 rfl (rEyeByte hs oki.is oki.le (by omega) hcc) ?_
              rintro _ _ ⟨rfl, rfl⟩
              refine o_move rfl rfl ?_
              refine o_extract rfl rfl rfl ?_
              refine o_extract rfl rfl rfl ?_
              refine o_assign rfl rfl ?_
              refine o_assign rfl rfl ?_
              refine l_nil ?_
              refine q_then ?_
              refine c_seq ?_
              refine c_region ?_
              refine o_move rfl rfl ?_
              refine o_move rfl rfl ?_
              refine o_bin rfl rfl rfl b_neq ?_
              refine l_eq (t := 64) (v' := .bool false) rfl (show _ = Value.bool false from by simp) ?_
              refine o_move rfl rfl ?_
              refine o_yes rfl rfl rfl ?_
              refine o_move rfl rfl ?_
              refine o_yes rfl rfl rfl ?_
              refine o_move rfl rfl ?_
              refine o_yes rfl rfl rfl ?_
              refine o_bin rfl rfl rfl b_neq ?_
              refine l_eq (t := 68) (v' := .bool false) rfl (show _ = Value.bool false from by simp) ?_
              refine o_pick_false rfl rfl rfl ?_
              refine l_nil ?_
              refine q_then ?_
              refine c_false rfl ?_
              refine c_skip ?_
              refine q_block ?_
              refine q_then ?_
              refine c_seq ?_
              refine c_region ?_
              refine o_move rfl rfl ?_
              refine l_f2 ?_
              refine l_f2 ?_
              refine o_call rfl cal23 rfl (eyeEnd ok54) ?_
              rintro _ _ ⟨rfl, rfl⟩
              refine o_move rfl rfl ?_
              refine l_f2 ?_
              refine o_call rfl cal35 rfl (rEyeEnd hs ok54.is ok54.le (by omega) hcc) ?_
              rintro _ _ ⟨rfl, rfl⟩
              refine o_bin rfl rfl rfl b_neq ?_
              refine l_eq (t := 119) (v' := .bool false) rfl (show _ = Value.bool false from by simp) ?_
              refine l_nil ?_
              refine q_then ?_
              refine c_false rfl ?_
              refine c_skip ?_
              refine q_block ?_
              refine q_then ?_
              refine c_region ?_
              refine o_bin rfl rfl rfl (b_add (wrap_i64 (by omega) (by omega))) ?_
              refine o_move rfl rfl ?_
              refine l_nil ?_
              refine q_conv (fun w S => S.perm p2) ?_
              refine q_conv (fun w S => S.perm p2) ?_
              exact q_round (q + 1, i + (byteR ysi).2.2, ys54, ay54, cy54) (by exact ⟨ok54, by omega⟩) (by (try dsimp only); omega) ⟨(by first | rfl | exact vint (by omega)), (by first | rfl | exact vint (by omega)), (by first | rfl | exact vint (by omega)), (by first | rfl | exact vint (by omega)), (by first | rfl | exact vint (by omega)), trivial⟩ (fun w S => S)
      · -- h3F
        try simp only [decide_eq_true_eq, decide_eq_false_iff_not, Bool.not_eq_eq_eq_not, Bool.not_true, Bool.not_false, Bool.not_eq_true', Bool.not_eq_false', Int.not_lt, Int.not_le, Bool.or_eq_true, Bool.and_eq_true] at h3
        refine c_exit ?_
        refine q_pass_exit ?_
        refine q_pass_exit ?_
        refine q_hit ?_
        refine q_then ?_
        refine c_seq ?_
        refine c_region ?_
        refine o_assign rfl rfl ?_
        refine l_nil ?_
        refine q_then ?_
        refine c_ret ?_
        refine q_conv (fun w S => S.tail) ?_
        refine q_conv (fun w S => S.tail) ?_
        refine q_conv (fun w S => S.tail) ?_
        exact f_ret (r_one rfl rfl) (⟨rfl, rfl⟩) (fun w S => S)

end Go.Proofs.Ytkohbgblnkelnaa
