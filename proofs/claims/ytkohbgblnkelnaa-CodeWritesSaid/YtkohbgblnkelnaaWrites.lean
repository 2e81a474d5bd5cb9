/- Printed by eng.py out of 01/spec.py. -/
import Derived.Test.YtkohbgblnkelnaaWrites1
set_option linter.unusedVariables false
set_option linter.unusedSimpArgs false
set_option maxRecDepth 10000
namespace Go.Proofs.Ytkohbgblnkelnaa
open Go.RowKit
set_option maxHeartbeats 1000000 in
theorem writes_ {W : World} {F : List Res} {xs : List Op} {a : Option Addr} {c : Nat} (hs : SlR W eOp a xs) (hg : ∀ x ∈ xs, GOp W x) (hn : xs.length ≤ 9223372036854775807) : CS Try.prog 5 #[.slice a xs.length c] W (F) (fun r L' => r = .bool true ∧ F = L') := by
  refine f_door (l0 := [(0, .slice a xs.length c)]) Try.func5 Try.ntmps5 rfl rfl rfl ?_
  refine c_seq ?_
  refine c_region ?_
  refine o_assign rfl rfl ?_
  refine l_nil ?_
  refine q_then ?_
  refine c_seq ?_
  refine c_seq ?_
  refine c_region ?_
  refine o_call rfl cal12 rfl (speaks_) ?_
  rintro _ _ ⟨rfl, rfl⟩
  refine o_not rfl rfl ?_
  refine l_nil ?_
  refine q_then ?_
  refine c_false rfl ?_
  refine c_skip ?_
  refine q_then ?_
  refine c_seq ?_
  refine c_seq ?_
  refine c_region ?_
  refine o_move rfl rfl ?_
  refine o_call rfl cal15 rfl (great_ hs hg hn) ?_
  rintro _ _ ⟨g12, hgr, rfl, rfl⟩
  refine l_nil ?_
  refine q_then ?_
  refine c_cond rfl (fun h1 => ?_) (fun h1 => ?_)
  · -- h1T
    try simp only [decide_eq_true_eq, decide_eq_false_iff_not, Bool.not_eq_eq_eq_not, Bool.not_true, Bool.not_false, Bool.not_eq_true', Bool.not_eq_false', Int.not_lt, Int.not_le, Bool.or_eq_true, Bool.and_eq_true] at h1
    refine c_seq ?_
    refine c_region ?_
    refine o_assign rfl rfl ?_
    refine l_nil ?_
    refine q_then ?_
    refine c_ret ?_
    refine q_pass_ret ?_
    exact f_ret (r_one rfl rfl) (⟨rfl, rfl⟩) (fun w S => S)
  · -- h1F
    try simp only [decide_eq_true_eq, decide_eq_false_iff_not, Bool.not_eq_eq_eq_not, Bool.not_true, Bool.not_false, Bool.not_eq_true', Bool.not_eq_false', Int.not_lt, Int.not_le, Bool.or_eq_true, Bool.and_eq_true] at h1
    have htot := hgr h1
    refine c_skip ?_
    refine q_then ?_
    refine c_seq ?_
    refine c_region ?_
    refine o_build rfl sp27 ti27 rfl rfl ?_
    refine o_box rfl rfl fun b14 => ?_
    refine l_nilrow e8 ?_
    refine l_conv (L' := blk b14 (.cells #[.slice none (([] : List UInt8)).length 0] 27 (0, 0)) :: row e8.T e8.sz none (([] : List UInt8)).length 0 (flat e8 ([] : List UInt8)) :: _) (fun w S => S.perm p1) ?_
    refine o_lit e8_ok rfl Try.underlying25 rfl rfl rfl (lit_ok rfl) ([] : List UInt8) rfl rfl fun a15 => ?_
    refine o_assign rfl rfl ?_
    refine o_assign rfl rfl ?_
    refine l_nil ?_
    refine q_then ?_
    refine c_seq ?_
    refine c_seq ?_
    refine c_region ?_
    refine o_move rfl rfl ?_
    refine o_len rfl rfl Try.underlying31 ?_
    refine o_move rfl rfl ?_
    refine l_nil ?_
    refine q_then ?_
    refine c_block ?_
    refine c_conv (fun w S => S.perm p2) ?_
    refine c_conv (fun w S => S.perm p2) ?_
    refine c_loop (α := Nat × (List UInt8) × (Option Addr) × Nat × (Option Addr) × Nat) (fun z => [(3, .pointer (some ⟨b14, 0, none⟩)), (4, .slice z.2.2.2.2.1 z.2.1.length z.2.2.2.2.2), (16, .slice a xs.length c), (17, .int .i64 (xs.length : Int)), (18, .int .i64 (z.1 : Int))]) (fun z => blk b14 (.cells #[.slice z.2.2.1 (z.2.1).length z.2.2.2.1] 27 (0, 0)) :: row e8.T e8.sz z.2.2.1 (z.2.1).length z.2.2.2.1 (flat e8 z.2.1) :: row e8.T e8.sz z.2.2.2.2.1 (z.2.1).length z.2.2.2.2.2 (flat e8 z.2.1) :: F) (fun z => z.1 ≤ xs.length ∧ z.2.1.length ≤ psum xs z.1) (fun z => xs.length - z.1) (0, [], none, 0, a15, 0) (by exact ⟨Nat.zero_le _, Nat.zero_le _⟩) ⟨(by first | rfl | exact vint (by omega)), (by first | rfl | exact vint (by omega)), (by first | rfl | exact vint (by omega)), (by first | rfl | exact vint (by omega)), (by first | rfl | exact vint (by omega)), trivial⟩ (fun w S => S) ?_
    rintro ⟨i, ws, a1, c1, a2, c2⟩ ⟨hi, hwl⟩
    try dsimp only at *
    have hple0 := psum_le xs hi
    refine c_seq ?_
    refine c_region ?_
    refine o_bin rfl rfl rfl b_lss ?_
    refine l_nil ?_
    refine q_then ?_
    refine c_seq ?_
    refine c_cond rfl (fun h2 => ?_) (fun h2 => ?_)
    · -- h2T
      try simp only [decide_eq_true_eq, decide_eq_false_iff_not, Bool.not_eq_eq_eq_not, Bool.not_true, Bool.not_false, Bool.not_eq_true', Bool.not_eq_false', Int.not_lt, Int.not_le, Bool.or_eq_true, Bool.and_eq_true] at h2
      refine c_skip ?_
      refine q_then ?_
      refine c_seq ?_
      refine c_block ?_
      refine c_seq ?_
      refine c_region ?_
      refine o_index eOp_ok rfl rfl rfl Try.underlying31 (by omega) (by omega) (rds_old hs) fun ad20 ead20 => ?_
      obtain ⟨x20, hx20⟩ : ∃ x, (xs)[((i : Int)).toNat]? = some x := ⟨_, List.getElem?_eq_getElem (by omega)⟩
      have hB := (hg x20 (List.mem_of_getElem? hx20)).2.2
      obtain ⟨mN, hmN, hltN⟩ := wf_u64 (hg x20 (List.mem_of_getElem? hx20)).2.1
      have hps := psum_succ (i := i) hx20
      have hple := psum_le xs (show i + 1 ≤ xs.length by omega)
      have hnl := numB_len_le 10 mN (by omega) (by omega)
      have hnb := numB_len_le 10 x20.f_B.xs.length (by omega) (by omega)
      refine o_loadn (vs := eOp.cells x20) rfl rfl Try.underlying34 rfl ti34 (rdn_sl eOp_ok ead20 (rds_old hs) hx20) ?_
      refine o_alloc rfl ti34 fun b6 => ?_
      refine o_storen rfl rfl ti34 rfl rfl rfl rfl ?_
      refine l_conv (L' := blk b6 (.cells #[.int .i64 x20.f_Kind, .int .u64 (mN : Int), .slice x20.f_B.a x20.f_B.xs.length x20.f_B.c] 34 (0, 0)) :: _) (fun w S => by rw [← hmN]; exact S) ?_
      refine l_nil ?_
      refine q_then ?_
      refine c_seq ?_
      refine c_region ?_
      refine o_lit e8_ok rfl Try.underlying25 rfl rfl rfl (lit_ok rfl) ([] : List UInt8) rfl rfl fun a22 => ?_
      refine o_fieldAddr (q := ⟨b6, 2, none⟩) rfl rfl Try.underlying34 rfl ti25 rfl ?_
      refine o_load1 rfl rfl Try.underlying25 rfl (rd_mem 1 rfl rfl) ?_
      refine o_append e8_ok rfl rfl rfl Try.underlying25 (rds_old (hg x20 (List.mem_of_getElem? hx20)).2.2.rd) (by show (_ + _) * 1 ≤ _; (try simp only [List.length_append, List.length_cons, List.length_nil]); omega) (by (try simp only [List.length_append, List.length_cons, List.length_nil]); omega) fun a25 c25 => ?_
      refine o_assign rfl rfl ?_
      refine l_nil ?_
      refine q_then ?_
      refine c_seq ?_
      refine c_seq ?_
      refine c_region ?_
      refine o_fieldAddr (q := ⟨b6, 0, none⟩) rfl rfl Try.underlying34 rfl ti3 rfl ?_
      refine o_load1 rfl rfl Try.underlying3 rfl (rd_mem 1 rfl rfl) ?_
      refine o_bin rfl rfl rfl (b_and rfl) ?_
      refine l_nil ?_
      refine q_then ?_
      refine c_block ?_
      refine c_seq ?_
      refine c_seq ?_
      refine c_region ?_
      refine o_bin rfl rfl rfl b_eql ?_
      refine o_assign rfl rfl ?_
      refine l_nil ?_
      refine q_then ?_
      refine c_cond rfl (fun h3 => ?_) (fun h3 => ?_)
      · -- h3T
        try simp only [decide_eq_true_eq, decide_eq_false_iff_not, Bool.not_eq_eq_eq_not, Bool.not_true, Bool.not_false, Bool.not_eq_true', Bool.not_eq_false', Int.not_lt, Int.not_le, Bool.or_eq_true, Bool.and_eq_true] at h3
        refine c_skip ?_
        refine q_then ?_
        refine c_cond rfl (fun h4 => ?_) (fun h4 => ?_)
        · -- h4T
          try simp only [decide_eq_true_eq, decide_eq_false_iff_not, Bool.not_eq_eq_eq_not, Bool.not_true, Bool.not_false, Bool.not_eq_true', Bool.not_eq_false', Int.not_lt, Int.not_le, Bool.or_eq_true, Bool.and_eq_true] at h4
          refine c_seq ?_
          refine c_region ?_
          refine o_move rfl rfl ?_
          refine o_fieldAddr (q := ⟨b6, 1, none⟩) rfl rfl Try.underlying34 rfl ti23 rfl ?_
          refine o_load1 rfl rfl Try.underlying23 rfl (rd_mem 1 rfl rfl) ?_
          refine l_f3 ?_
          refine l_f3 ?_
          refine o_call rfl cal13 rfl (penNum (v := mN) hltN (by (try simp only [List.nil_append, List.length_append, List.length_cons, List.length_nil]); omega)) ?_
          rintro _ _ ⟨a46, c46, rfl, rfl⟩
          refine l_nil ?_
          refine q_then ?_
          refine c_region ?_
          refine o_move rfl rfl ?_
          refine o_fieldAddr (q := ⟨b6, 1, none⟩) rfl rfl Try.underlying34 rfl ti23 rfl ?_
          refine o_load1 rfl rfl Try.underlying23 rfl (rd_mem 3 rfl rfl) ?_
          refine o_call rfl cal16 rfl (rNum (v := mN) hltN) ?_
          rintro _ _ ⟨a50, c50, rfl, rfl⟩
          refine l_f5 ?_
          refine o_append e8_ok rfl rfl rfl Try.underlying25 (rds_own e8_ok 1 rfl) (by show (_ + _) * 1 ≤ _; (try simp only [List.length_append, List.length_cons, List.length_nil]); omega) (by (try simp only [List.length_append, List.length_cons, List.length_nil]); omega) fun a51 c51 => ?_
          refine l_f1 ?_
          refine l_drop ?_
          refine o_assign rfl rfl ?_
          refine l_nil ?_
          refine q_block ?_
          refine q_then ?_
          refine c_seq ?_
          refine c_region ?_
          refine o_move rfl rfl ?_
          refine l_f2 ?_
          refine l_f2 ?_
          refine o_call rfl cal14 rfl (penData (by (try simp only [List.nil_append, List.length_append, List.length_cons, List.length_nil]); omega)) ?_
          rintro _ _ ⟨a63, c63, rfl, rfl⟩
          refine o_assign rfl rfl ?_
          refine l_nil ?_
          refine q_then ?_
          refine c_seq ?_
          refine c_seq ?_
          refine c_region ?_
          refine o_move rfl rfl ?_
          refine o_bytesStr (e := e8) rfl rfl rfl Try.underlying25 Try.underlying5 Try.underlying9 (rds_own e8_ok 0 rfl) ?_
          refine o_move rfl rfl ?_
          refine o_bytesStr (e := e8) rfl rfl rfl Try.underlying25 Try.underlying5 Try.underlying9 (rds_own e8_ok 3 rfl) ?_
          refine o_bin rfl rfl rfl b_sneq ?_
          refine l_eq (t := 68) (v' := .bool false) rfl (show _ = Value.bool false from by simp) ?_
          refine o_move rfl rfl ?_
          refine o_yes rfl rfl rfl ?_
          refine o_move rfl rfl ?_
          refine o_yes rfl rfl rfl ?_
          refine o_bytesStr (e := e8) rfl rfl rfl Try.underlying25 Try.underlying5 Try.underlying9 (rds_own e8_ok 4 rfl) ?_
          refine o_yes rfl rfl rfl ?_
          refine o_fieldAddr (q := ⟨b6, 2, none⟩) rfl rfl Try.underlying34 rfl ti25 rfl ?_
          refine o_yes rfl rfl rfl ?_
          refine o_load1 rfl rfl Try.underlying25 rfl (rd_mem 5 rfl rfl) ?_
          refine o_yes rfl rfl rfl ?_
          refine o_bytesStr (e := e8) rfl rfl rfl Try.underlying25 Try.underlying5 Try.underlying9 (rds_old (hg x20 (List.mem_of_getElem? hx20)).2.2.rd) ?_
          refine o_yes rfl rfl rfl ?_
          refine o_bin rfl rfl rfl b_sneq ?_
          refine l_eq (t := 75) (v' := .bool false) rfl (show _ = Value.bool false from by simp) ?_
          refine o_pick_false rfl rfl rfl ?_
          refine l_nil ?_
          refine q_then ?_
          refine c_false rfl ?_
          refine c_skip ?_
          refine q_then ?_
          refine c_seq ?_
          refine c_region ?_
          refine o_move rfl rfl ?_
          refine o_call rfl cal20 rfl (spoil_ (by (try simp only [List.nil_append, List.length_append, List.length_cons, List.length_nil]); omega)) ?_
          rintro _ _ ⟨ws78, hws78, rfl, rfl⟩
          refine l_nil ?_
          refine q_then ?_
          refine c_region ?_
          refine o_move rfl rfl ?_
          refine l_f4 ?_
          refine o_call rfl cal20 rfl (spoil_ (by (try simp only [List.nil_append, List.length_append, List.length_cons, List.length_nil]); omega)) ?_
          rintro _ _ ⟨ws80, hws80, rfl, rfl⟩
          refine l_nil ?_
          refine q_block ?_
          refine q_then ?_
          refine c_region ?_
          refine o_bin rfl rfl rfl (b_add (wrap_i64 (by omega) (by omega))) ?_
          refine o_move rfl rfl ?_
          refine l_nil ?_
          refine q_conv (fun w S => S.tail) ?_
          refine q_conv (fun w S => S.tail) ?_
          refine q_conv (fun w S => (S.perm p3).tail) ?_
          exact q_round (i + 1, ws ++ (numB mN), a46, c46, a51, c51) (by exact ⟨by omega, by (try simp only [List.length_append, List.length_cons, List.length_nil]); omega⟩) (by (try dsimp only); omega) ⟨(by first | rfl | exact vint (by omega)), (by first | rfl | exact vint (by omega)), (by first | rfl | exact vint (by omega)), (by first | rfl | exact vint (by omega)), (by first | rfl | exact vint (by omega)), trivial⟩ (fun w S => S)
        · -- h4F
          try simp only [decide_eq_true_eq, decide_eq_false_iff_not, Bool.not_eq_eq_eq_not, Bool.not_true, Bool.not_false, Bool.not_eq_true', Bool.not_eq_false', Int.not_lt, Int.not_le, Bool.or_eq_true, Bool.and_eq_true] at h4
          refine c_seq ?_
          refine c_region ?_
          refine o_bin rfl rfl rfl b_eql ?_
          refine o_assign rfl rfl ?_
          refine l_nil ?_
          refine q_then ?_
          refine c_cond rfl (fun h5 => ?_) (fun h5 => ?_)
          · -- h5T
            try simp only [decide_eq_true_eq, decide_eq_false_iff_not, Bool.not_eq_eq_eq_not, Bool.not_true, Bool.not_false, Bool.not_eq_true', Bool.not_eq_false', Int.not_lt, Int.not_le, Bool.or_eq_true, Bool.and_eq_true] at h5
            refine c_seq ?_
            refine c_region ?_
            refine o_move rfl rfl ?_
            refine o_move rfl rfl ?_
            refine l_f3 ?_
            refine l_f3 ?_
            refine l_f1 ?_
            refine l_f1 ?_
            refine o_call rfl cal17 rfl (penText (rds_own e8_ok 0 rfl) (by (try simp only [List.nil_append, List.length_append, List.length_cons, List.length_nil]); omega) (by (try simp only [List.nil_append, List.length_append, List.length_cons, List.length_nil]); omega)) ?_
            rintro _ _ ⟨a56, c56, rfl, rfl⟩
            refine l_nil ?_
            refine q_then ?_
            refine c_region ?_
            refine o_move rfl rfl ?_
            refine o_fieldAddr (q := ⟨b6, 2, none⟩) rfl rfl Try.underlying34 rfl ti25 rfl ?_
            refine o_load1 rfl rfl Try.underlying25 rfl (rd_mem 3 rfl rfl) ?_
            refine o_call rfl cal18 rfl (rText (rds_old (hg x20 (List.mem_of_getElem? hx20)).2.2.rd) (by (try simp only [List.nil_append, List.length_append, List.length_cons, List.length_nil]); omega)) ?_
            rintro _ _ ⟨a60, c60, rfl, rfl⟩
            refine l_f5 ?_
            refine o_append e8_ok rfl rfl rfl Try.underlying25 (rds_own e8_ok 1 rfl) (by show (_ + _) * 1 ≤ _; (try simp only [List.length_append, List.length_cons, List.length_nil]); omega) (by (try simp only [List.length_append, List.length_cons, List.length_nil]); omega) fun a61 c61 => ?_
            refine l_f1 ?_
            refine l_drop ?_
            refine l_conv (L' := row e8.T e8.sz a61 (ws ++ numB x20.f_B.xs.length ++ x20.f_B.xs).length c61 (flat e8 (ws ++ numB x20.f_B.xs.length ++ x20.f_B.xs)) :: _) (fun w S => by rw [← List.append_assoc] at S; exact S) ?_
            refine l_eq (t := 61) (v' := .slice a61 (ws ++ numB x20.f_B.xs.length ++ x20.f_B.xs).length c61) rfl (by rw [← List.append_assoc]) ?_
            refine o_assign rfl rfl ?_
            refine l_nil ?_
            refine q_block ?_
            refine q_then ?_
            refine c_seq ?_
            refine c_region ?_
            refine o_move rfl rfl ?_
            refine l_f2 ?_
            refine l_f2 ?_
            refine o_call rfl cal14 rfl (penData (by (try simp only [List.nil_append, List.length_append, List.length_cons, List.length_nil]); omega)) ?_
            rintro _ _ ⟨a63, c63, rfl, rfl⟩
            refine o_assign rfl rfl ?_
            refine l_nil ?_
            refine q_then ?_
            refine c_seq ?_
            refine c_seq ?_
            refine c_region ?_
            refine o_move rfl rfl ?_
            refine o_bytesStr (e := e8) rfl rfl rfl Try.underlying25 Try.underlying5 Try.underlying9 (rds_own e8_ok 0 rfl) ?_
            refine o_move rfl rfl ?_
            refine o_bytesStr (e := e8) rfl rfl rfl Try.underlying25 Try.underlying5 Try.underlying9 (rds_own e8_ok 3 rfl) ?_
            refine o_bin rfl rfl rfl b_sneq ?_
            refine l_eq (t := 68) (v' := .bool false) rfl (show _ = Value.bool false from by simp) ?_
            refine o_move rfl rfl ?_
            refine o_yes rfl rfl rfl ?_
            refine o_move rfl rfl ?_
            refine o_yes rfl rfl rfl ?_
            refine o_bytesStr (e := e8) rfl rfl rfl Try.underlying25 Try.underlying5 Try.underlying9 (rds_own e8_ok 4 rfl) ?_
            refine o_yes rfl rfl rfl ?_
            refine o_fieldAddr (q := ⟨b6, 2, none⟩) rfl rfl Try.underlying34 rfl ti25 rfl ?_
            refine o_yes rfl rfl rfl ?_
            refine o_load1 rfl rfl Try.underlying25 rfl (rd_mem 5 rfl rfl) ?_
            refine o_yes rfl rfl rfl ?_
            refine o_bytesStr (e := e8) rfl rfl rfl Try.underlying25 Try.underlying5 Try.underlying9 (rds_old (hg x20 (List.mem_of_getElem? hx20)).2.2.rd) ?_
            refine o_yes rfl rfl rfl ?_
            refine o_bin rfl rfl rfl b_sneq ?_
            refine l_eq (t := 75) (v' := .bool false) rfl (show _ = Value.bool false from by simp) ?_
            refine o_pick_false rfl rfl rfl ?_
            refine l_nil ?_
            refine q_then ?_
            refine c_false rfl ?_
            refine c_skip ?_
            refine q_then ?_
            refine c_seq ?_
            refine c_region ?_
            refine o_move rfl rfl ?_
            refine o_call rfl cal20 rfl (spoil_ (by (try simp only [List.nil_append, List.length_append, List.length_cons, List.length_nil]); omega)) ?_
            rintro _ _ ⟨ws78, hws78, rfl, rfl⟩
            refine l_nil ?_
            refine q_then ?_
            refine c_region ?_
            refine o_move rfl rfl ?_
            refine l_f4 ?_
            refine o_call rfl cal20 rfl (spoil_ (by (try simp only [List.nil_append, List.length_append, List.length_cons, List.length_nil]); omega)) ?_
            rintro _ _ ⟨ws80, hws80, rfl, rfl⟩
            refine l_nil ?_
            refine q_block ?_
            refine q_then ?_
            refine c_region ?_
            refine o_bin rfl rfl rfl (b_add (wrap_i64 (by omega) (by omega))) ?_
            refine o_move rfl rfl ?_
            refine l_nil ?_
            refine q_conv (fun w S => S.tail) ?_
            refine q_conv (fun w S => S.tail) ?_
            refine q_conv (fun w S => (S.perm p3).tail) ?_
            exact q_round (i + 1, ws ++ numB x20.f_B.xs.length ++ x20.f_B.xs, a56, c56, a61, c61) (by exact ⟨by omega, by (try simp only [List.length_append, List.length_cons, List.length_nil]); omega⟩) (by (try dsimp only); omega) ⟨(by first | rfl | exact vint (by omega)), (by first | rfl | exact vint (by omega)), (by first | rfl | exact vint (by omega)), (by first | rfl | exact vint (by omega)), (by first | rfl | exact vint (by omega)), trivial⟩ (fun w S => S)
          · -- h5F
            try simp only [decide_eq_true_eq, decide_eq_false_iff_not, Bool.not_eq_eq_eq_not, Bool.not_true, Bool.not_false, Bool.not_eq_true', Bool.not_eq_false', Int.not_lt, Int.not_le, Bool.or_eq_true, Bool.and_eq_true] at h5
            refine c_seq ?_
            refine c_region ?_
            refine o_move rfl rfl ?_
            refine o_fieldAddr (q := ⟨b6, 1, none⟩) rfl rfl Try.underlying34 rfl ti23 rfl ?_
            refine o_load1 rfl rfl Try.underlying23 rfl (rd_mem 1 rfl rfl) ?_
            refine o_int rfl rfl Try.underlying23 Try.underlying5 (cv8 mN) ?_
            refine l_f3 ?_
            refine l_f3 ?_
            refine o_call rfl cal19 rfl (penByte (v := (UInt8.ofNat mN)) (by (try simp only [List.nil_append, List.length_append, List.length_cons, List.length_nil]); omega)) ?_
            rintro _ _ ⟨a33, c33, rfl, rfl⟩
            refine l_nil ?_
            refine q_then ?_
            refine c_region ?_
            refine o_move rfl rfl ?_
            refine o_fieldAddr (q := ⟨b6, 1, none⟩) rfl rfl Try.underlying34 rfl ti23 rfl ?_
            refine o_load1 rfl rfl Try.underlying23 rfl (rd_mem 3 rfl rfl) ?_
            refine o_int rfl rfl Try.underlying23 Try.underlying5 (cv8 mN) ?_
            refine o_lit e8_ok rfl Try.underlying25 rfl rfl rfl (lit_ok rfl) [UInt8.ofNat mN] rfl rfl fun a38 => ?_
            refine l_f5 ?_
            refine o_append e8_ok rfl rfl rfl Try.underlying25 (rds_own e8_ok 1 rfl) (by show (_ + _) * 1 ≤ _; (try simp only [List.length_append, List.length_cons, List.length_nil]); omega) (by (try simp only [List.length_append, List.length_cons, List.length_nil]); omega) fun a39 c39 => ?_
            refine l_f1 ?_
            refine l_drop ?_
            refine o_assign rfl rfl ?_
            refine l_nil ?_
            refine q_block ?_
            refine q_then ?_
            refine c_seq ?_
            refine c_region ?_
            refine o_move rfl rfl ?_
            refine l_f2 ?_
            refine l_f2 ?_
            refine o_call rfl cal14 rfl (penData (by (try simp only [List.nil_append, List.length_append, List.length_cons, List.length_nil]); omega)) ?_
            rintro _ _ ⟨a63, c63, rfl, rfl⟩
            refine o_assign rfl rfl ?_
            refine l_nil ?_
            refine q_then ?_
            refine c_seq ?_
            refine c_seq ?_
            refine c_region ?_
            refine o_move rfl rfl ?_
            refine o_bytesStr (e := e8) rfl rfl rfl Try.underlying25 Try.underlying5 Try.underlying9 (rds_own e8_ok 0 rfl) ?_
            refine o_move rfl rfl ?_
            refine o_bytesStr (e := e8) rfl rfl rfl Try.underlying25 Try.underlying5 Try.underlying9 (rds_own e8_ok 3 rfl) ?_
            refine o_bin rfl rfl rfl b_sneq ?_
            refine l_eq (t := 68) (v' := .bool false) rfl (show _ = Value.bool false from by simp) ?_
            refine o_move rfl rfl ?_
            refine o_yes rfl rfl rfl ?_
            refine o_move rfl rfl ?_
            refine o_yes rfl rfl rfl ?_
            refine o_bytesStr (e := e8) rfl rfl rfl Try.underlying25 Try.underlying5 Try.underlying9 (rds_own e8_ok 4 rfl) ?_
            refine o_yes rfl rfl rfl ?_
            refine o_fieldAddr (q := ⟨b6, 2, none⟩) rfl rfl Try.underlying34 rfl ti25 rfl ?_
            refine o_yes rfl rfl rfl ?_
            refine o_load1 rfl rfl Try.underlying25 rfl (rd_mem 5 rfl rfl) ?_
            refine o_yes rfl rfl rfl ?_
            refine o_bytesStr (e := e8) rfl rfl rfl Try.underlying25 Try.underlying5 Try.underlying9 (rds_old (hg x20 (List.mem_of_getElem? hx20)).2.2.rd) ?_
            refine o_yes rfl rfl rfl ?_
            refine o_bin rfl rfl rfl b_sneq ?_
            refine l_eq (t := 75) (v' := .bool false) rfl (show _ = Value.bool false from by simp) ?_
            refine o_pick_false rfl rfl rfl ?_
            refine l_nil ?_
            refine q_then ?_
            refine c_false rfl ?_
            refine c_skip ?_
            refine q_then ?_
            refine c_seq ?_
            refine c_region ?_
            refine o_move rfl rfl ?_
            refine o_call rfl cal20 rfl (spoil_ (by (try simp only [List.nil_append, List.length_append, List.length_cons, List.length_nil]); omega)) ?_
            rintro _ _ ⟨ws78, hws78, rfl, rfl⟩
            refine l_nil ?_
            refine q_then ?_
            refine c_region ?_
            refine o_move rfl rfl ?_
            refine l_f4 ?_
            refine o_call rfl cal20 rfl (spoil_ (by (try simp only [List.nil_append, List.length_append, List.length_cons, List.length_nil]); omega)) ?_
            rintro _ _ ⟨ws80, hws80, rfl, rfl⟩
            refine l_nil ?_
            refine q_block ?_
            refine q_then ?_
            refine c_region ?_
            refine o_bin rfl rfl rfl (b_add (wrap_i64 (by omega) (by omega))) ?_
            refine o_move rfl rfl ?_
            refine l_nil ?_
            refine q_conv (fun w S => S.tail) ?_
            refine q_conv (fun w S => S.tail) ?_
            refine q_conv (fun w S => (S.perm p3).tail) ?_
            exact q_round (i + 1, ws ++ [UInt8.ofNat mN], a33, c33, a39, c39) (by exact ⟨by omega, by (try simp only [List.length_append, List.length_cons, List.length_nil]); omega⟩) (by (try dsimp only); omega) ⟨(by first | rfl | exact vint (by omega)), (by first | rfl | exact vint (by omega)), (by first | rfl | exact vint (by omega)), (by first | rfl | exact vint (by omega)), (by first | rfl | exact vint (by omega)), trivial⟩ (fun w S => S)
      · -- h3F
        try simp only [decide_eq_true_eq, decide_eq_false_iff_not, Bool.not_eq_eq_eq_not, Bool.not_true, Bool.not_false, Bool.not_eq_true', Bool.not_eq_false', Int.not_lt, Int.not_le, Bool.or_eq_true, Bool.and_eq_true] at h3
        refine c_region ?_
        refine o_bin rfl rfl rfl b_eql ?_
        refine o_assign rfl rfl ?_
        refine l_nil ?_
        refine q_then ?_
        refine c_cond rfl (fun h6 => ?_) (fun h6 => ?_)
        · -- h6T
          try simp only [decide_eq_true_eq, decide_eq_false_iff_not, Bool.not_eq_eq_eq_not, Bool.not_true, Bool.not_false, Bool.not_eq_true', Bool.not_eq_false', Int.not_lt, Int.not_le, Bool.or_eq_true, Bool.and_eq_true] at h6
          refine c_seq ?_
          refine c_region ?_
          refine o_move rfl rfl ?_
          refine o_fieldAddr (q := ⟨b6, 1, none⟩) rfl rfl Try.underlying34 rfl ti23 rfl ?_
          refine o_load1 rfl rfl Try.underlying23 rfl (rd_mem 1 rfl rfl) ?_
          refine l_f3 ?_
          refine l_f3 ?_
          refine o_call rfl cal13 rfl (penNum (v := mN) hltN (by (try simp only [List.nil_append, List.length_append, List.length_cons, List.length_nil]); omega)) ?_
          rintro _ _ ⟨a46, c46, rfl, rfl⟩
          refine l_nil ?_
          refine q_then ?_
          refine c_region ?_
          refine o_move rfl rfl ?_
          refine o_fieldAddr (q := ⟨b6, 1, none⟩) rfl rfl Try.underlying34 rfl ti23 rfl ?_
          refine o_load1 rfl rfl Try.underlying23 rfl (rd_mem 3 rfl rfl) ?_
          refine o_call rfl cal16 rfl (rNum (v := mN) hltN) ?_
          rintro _ _ ⟨a50, c50, rfl, rfl⟩
          refine l_f5 ?_
          refine o_append e8_ok rfl rfl rfl Try.underlying25 (rds_own e8_ok 1 rfl) (by show (_ + _) * 1 ≤ _; (try simp only [List.length_append, List.length_cons, List.length_nil]); omega) (by (try simp only [List.length_append, List.length_cons, List.length_nil]); omega) fun a51 c51 => ?_
          refine l_f1 ?_
          refine l_drop ?_
          refine o_assign rfl rfl ?_
          refine l_nil ?_
          refine q_block ?_
          refine q_then ?_
          refine c_seq ?_
          refine c_region ?_
          refine o_move rfl rfl ?_
          refine l_f2 ?_
          refine l_f2 ?_
          refine o_call rfl cal14 rfl (penData (by (try simp only [List.nil_append, List.length_append, List.length_cons, List.length_nil]); omega)) ?_
          rintro _ _ ⟨a63, c63, rfl, rfl⟩
          refine o_assign rfl rfl ?_
          refine l_nil ?_
          refine q_then ?_
          refine c_seq ?_
          refine c_seq ?_
          refine c_region ?_
          refine o_move rfl rfl ?_
          refine o_bytesStr (e := e8) rfl rfl rfl Try.underlying25 Try.underlying5 Try.underlying9 (rds_own e8_ok 0 rfl) ?_
          refine o_move rfl rfl ?_
          refine o_bytesStr (e := e8) rfl rfl rfl Try.underlying25 Try.underlying5 Try.underlying9 (rds_own e8_ok 3 rfl) ?_
          refine o_bin rfl rfl rfl b_sneq ?_
          refine l_eq (t := 68) (v' := .bool false) rfl (show _ = Value.bool false from by simp) ?_
          refine o_move rfl rfl ?_
          refine o_yes rfl rfl rfl ?_
          refine o_move rfl rfl ?_
          refine o_yes rfl rfl rfl ?_
          refine o_bytesStr (e := e8) rfl rfl rfl Try.underlying25 Try.underlying5 Try.underlying9 (rds_own e8_ok 4 rfl) ?_
          refine o_yes rfl rfl rfl ?_
          refine o_fieldAddr (q := ⟨b6, 2, none⟩) rfl rfl Try.underlying34 rfl ti25 rfl ?_
          refine o_yes rfl rfl rfl ?_
          refine o_load1 rfl rfl Try.underlying25 rfl (rd_mem 5 rfl rfl) ?_
          refine o_yes rfl rfl rfl ?_
          refine o_bytesStr (e := e8) rfl rfl rfl Try.underlying25 Try.underlying5 Try.underlying9 (rds_old (hg x20 (List.mem_of_getElem? hx20)).2.2.rd) ?_
          refine o_yes rfl rfl rfl ?_
          refine o_bin rfl rfl rfl b_sneq ?_
          refine l_eq (t := 75) (v' := .bool false) rfl (show _ = Value.bool false from by simp) ?_
          refine o_pick_false rfl rfl rfl ?_
          refine l_nil ?_
          refine q_then ?_
          refine c_false rfl ?_
          refine c_skip ?_
          refine q_then ?_
          refine c_seq ?_
          refine c_region ?_
          refine o_move rfl rfl ?_
          refine o_call rfl cal20 rfl (spoil_ (by (try simp only [List.nil_append, List.length_append, List.length_cons, List.length_nil]); omega)) ?_
          rintro _ _ ⟨ws78, hws78, rfl, rfl⟩
          refine l_nil ?_
          refine q_then ?_
          refine c_region ?_
          refine o_move rfl rfl ?_
          refine l_f4 ?_
          refine o_call rfl cal20 rfl (spoil_ (by (try simp only [List.nil_append, List.length_append, List.length_cons, List.length_nil]); omega)) ?_
          rintro _ _ ⟨ws80, hws80, rfl, rfl⟩
          refine l_nil ?_
          refine q_block ?_
          refine q_then ?_
          refine c_region ?_
          refine o_bin rfl rfl rfl (b_add (wrap_i64 (by omega) (by omega))) ?_
          refine o_move rfl rfl ?_
          refine l_nil ?_
          refine q_conv (fun w S => S.tail) ?_
          refine q_conv (fun w S => S.tail) ?_
          refine q_conv (fun w S => (S.perm p3).tail) ?_
          exact q_round (i + 1, ws ++ (numB mN), a46, c46, a51, c51) (by exact ⟨by omega, by (try simp only [List.length_append, List.length_cons, List.length_nil]); omega⟩) (by (try dsimp only); omega) ⟨(by first | rfl | exact vint (by omega)), (by first | rfl | exact vint (by omega)), (by first | rfl | exact vint (by omega)), (by first | rfl | exact vint (by omega)), (by first | rfl | exact vint (by omega)), trivial⟩ (fun w S => S)
        · -- h6F
          try simp only [decide_eq_true_eq, decide_eq_false_iff_not, Bool.not_eq_eq_eq_not, Bool.not_true, Bool.not_false, Bool.not_eq_true', Bool.not_eq_false', Int.not_lt, Int.not_le, Bool.or_eq_true, Bool.and_eq_true] at h6
          refine c_seq ?_
          refine c_region ?_
          refine o_bin rfl rfl rfl b_eql ?_
          refine o_assign rfl rfl ?_
          refine l_nil ?_
          refine q_then ?_
          refine c_cond rfl (fun h7 => ?_) (fun h7 => ?_)
          · -- h7T
            try simp only [decide_eq_true_eq, decide_eq_false_iff_not, Bool.not_eq_eq_eq_not, Bool.not_true, Bool.not_false, Bool.not_eq_true', Bool.not_eq_false', Int.not_lt, Int.not_le, Bool.or_eq_true, Bool.and_eq_true] at h7
            refine c_seq ?_
            refine c_region ?_
            refine o_move rfl rfl ?_
            refine o_move rfl rfl ?_
            refine l_f3 ?_
            refine l_f3 ?_
            refine l_f1 ?_
            refine l_f1 ?_
            refine o_call rfl cal17 rfl (penText (rds_own e8_ok 0 rfl) (by (try simp only [List.nil_append, List.length_append, List.length_cons, List.length_nil]); omega) (by (try simp only [List.nil_append, List.length_append, List.length_cons, List.length_nil]); omega)) ?_
            rintro _ _ ⟨a56, c56, rfl, rfl⟩
            refine l_nil ?_
            refine q_then ?_
            refine c_region ?_
            refine o_move rfl rfl ?_
            refine o_fieldAddr (q := ⟨b6, 2, none⟩) rfl rfl Try.underlying34 rfl ti25 rfl ?_
            refine o_load1 rfl rfl Try.underlying25 rfl (rd_mem 3 rfl rfl) ?_
            refine o_call rfl cal18 rfl (rText (rds_old (hg x20 (List.mem_of_getElem? hx20)).2.2.rd) (by (try simp only [List.nil_append, List.length_append, List.length_cons, List.length_nil]); omega)) ?_
            rintro _ _ ⟨a60, c60, rfl, rfl⟩
            refine l_f5 ?_
            refine o_append e8_ok rfl rfl rfl Try.underlying25 (rds_own e8_ok 1 rfl) (by show (_ + _) * 1 ≤ _; (try simp only [List.length_append, List.length_cons, List.length_nil]); omega) (by (try simp only [List.length_append, List.length_cons, List.length_nil]); omega) fun a61 c61 => ?_
            refine l_f1 ?_
            refine l_drop ?_
            refine l_conv (L' := row e8.T e8.sz a61 (ws ++ numB x20.f_B.xs.length ++ x20.f_B.xs).length c61 (flat e8 (ws ++ numB x20.f_B.xs.length ++ x20.f_B.xs)) :: _) (fun w S => by rw [← List.append_assoc] at S; exact S) ?_
            refine l_eq (t := 61) (v' := .slice a61 (ws ++ numB x20.f_B.xs.length ++ x20.f_B.xs).length c61) rfl (by rw [← List.append_assoc]) ?_
            refine o_assign rfl rfl ?_
            refine l_nil ?_
            refine q_block ?_
            refine q_then ?_
            refine c_seq ?_
            refine c_region ?_
            refine o_move rfl rfl ?_
            refine l_f2 ?_
            refine l_f2 ?_
            refine o_call rfl cal14 rfl (penData (by (try simp only [List.nil_append, List.length_append, List.length_cons, List.length_nil]); omega)) ?_
            rintro _ _ ⟨a63, c63, rfl, rfl⟩
            refine o_assign rfl rfl ?_
            refine l_nil ?_
            refine q_then ?_
            refine c_seq ?_
            refine c_seq ?_
            refine c_region ?_
            refine o_move rfl rfl ?_
            refine o_bytesStr (e := e8) rfl rfl rfl Try.underlying25 Try.underlying5 Try.underlying9 (rds_own e8_ok 0 rfl) ?_
            refine o_move rfl rfl ?_
            refine o_bytesStr (e := e8) rfl rfl rfl Try.underlying25 Try.underlying5 Try.underlying9 (rds_own e8_ok 3 rfl) ?_
            refine o_bin rfl rfl rfl b_sneq ?_
            refine l_eq (t := 68) (v' := .bool false) rfl (show _ = Value.bool false from by simp) ?_
            refine o_move rfl rfl ?_
            refine o_yes rfl rfl rfl ?_
            refine o_move rfl rfl ?_
            refine o_yes rfl rfl rfl ?_
            refine o_bytesStr (e := e8) rfl rfl rfl Try.underlying25 Try.underlying5 Try.underlying9 (rds_own e8_ok 4 rfl) ?_
            refine o_yes rfl rfl rfl ?_
            refine o_fieldAddr (q := ⟨b6, 2, none⟩) rfl rfl Try.underlying34 rfl ti25 rfl ?_
            refine o_yes rfl rfl rfl ?_
            refine o_load1 rfl rfl Try.underlying25 rfl (rd_mem 5 rfl rfl) ?_
            refine o_yes rfl rfl rfl ?_
            refine o_bytesStr (e := e8) rfl rfl rfl Try.underlying25 Try.underlying5 Try.underlying9 (rds_old (hg x20 (List.mem_of_getElem? hx20)).2.2.rd) ?_
            refine o_yes rfl rfl rfl ?_
            refine o_bin rfl rfl rfl b_sneq ?_
            refine l_eq (t := 75) (v' := .bool false) rfl (show _ = Value.bool false from by simp) ?_
            refine o_pick_false rfl rfl rfl ?_
            refine l_nil ?_
            refine q_then ?_
            refine c_false rfl ?_
            refine c_skip ?_
            refine q_then ?_
            refine c_seq ?_
            refine c_region ?_
            refine o_move rfl rfl ?_
            refine o_call rfl cal20 rfl (spoil_ (by (try simp only [List.nil_append, List.length_append, List.length_cons, List.length_nil]); omega)) ?_
            rintro _ _ ⟨ws78, hws78, rfl, rfl⟩
            refine l_nil ?_
            refine q_then ?_
            refine c_region ?_
            refine o_move rfl rfl ?_
            refine l_f4 ?_
            refine o_call rfl cal20 rfl (spoil_ (by (try simp only [List.nil_append, List.length_append, List.length_cons, List.length_nil]); omega)) ?_
            rintro _ _ ⟨ws80, hws80, rfl, rfl⟩
            refine l_nil ?_
            refine q_block ?_
            refine q_then ?_
            refine c_region ?_
            refine o_bin rfl rfl rfl (b_add (wrap_i64 (by omega) (by omega))) ?_
            refine o_move rfl rfl ?_
            refine l_nil ?_
            refine q_conv (fun w S => S.tail) ?_
            refine q_conv (fun w S => S.tail) ?_
            refine q_conv (fun w S => (S.perm p3).tail) ?_
            exact q_round (i + 1, ws ++ numB x20.f_B.xs.length ++ x20.f_B.xs, a56, c56, a61, c61) (by exact ⟨by omega, by (try simp only [List.length_append, List.length_cons, List.length_nil]); omega⟩) (by (try dsimp only); omega) ⟨(by first | rfl | exact vint (by omega)), (by first | rfl | exact vint (by omega)), (by first | rfl | exact vint (by omega)), (by first | rfl | exact vint (by omega)), (by first | rfl | exact vint (by omega)), trivial⟩ (fun w S => S)
          · -- h7F
            try simp only [decide_eq_true_eq, decide_eq_false_iff_not, Bool.not_eq_eq_eq_not, Bool.not_true, Bool.not_false, Bool.not_eq_true', Bool.not_eq_false', Int.not_lt, Int.not_le, Bool.or_eq_true, Bool.and_eq_true] at h7
            refine c_seq ?_
            refine c_region ?_
            refine o_move rfl rfl ?_
            refine o_fieldAddr (q := ⟨b6, 1, none⟩) rfl rfl Try.underlying34 rfl ti23 rfl ?_
            refine o_load1 rfl rfl Try.underlying23 rfl (rd_mem 1 rfl rfl) ?_
            refine o_int rfl rfl Try.underlying23 Try.underlying5 (cv8 mN) ?_
            refine l_f3 ?_
            refine l_f3 ?_
            refine o_call rfl cal19 rfl (penByte (v := (UInt8.ofNat mN)) (by (try simp only [List.nil_append, List.length_append, List.length_cons, List.length_nil]); omega)) ?_
            rintro _ _ ⟨a33, c33, rfl, rfl⟩
            refine l_nil ?_
            refine q_then ?_
            refine c_region ?_
            refine o_move rfl rfl ?_
            refine o_fieldAddr (q := ⟨b6, 1, none⟩) rfl rfl Try.underlying34 rfl ti23 rfl ?_
            refine o_load1 rfl rfl Try.underlying23 rfl (rd_mem 3 rfl rfl) ?_
            refine o_int rfl rfl Try.underlying23 Try.underlying5 (cv8 mN) ?_
            refine o_lit e8_ok rfl Try.underlying25 rfl rfl rfl (lit_ok rfl) [UInt8.ofNat mN] rfl rfl fun a38 => ?_
            refine l_f5 ?_
            refine o_append e8_ok rfl rfl rfl Try.underlying25 (rds_own e8_ok 1 rfl) (by show (_ + _) * 1 ≤ _; (try simp only [List.length_append, List.length_cons, List.length_nil]); omega) (by (try simp only [List.length_append, List.length_cons, List.length_nil]); omega) fun a39 c39 => ?_
            refine l_f1 ?_
            refine l_drop ?_
            refine o_assign rfl rfl ?_
            refine l_nil ?_
            refine q_block ?_
            refine q_then ?_
            refine c_seq ?_
            refine c_region ?_
            refine o_move rfl rfl ?_
            refine l_f2 ?_
            refine l_f2 ?_
            refine o_call rfl cal14 rfl (penData (by (try simp only [List.nil_append, List.length_append, List.length_cons, List.length_nil]); omega)) ?_
            rintro _ _ ⟨a63, c63, rfl, rfl⟩
            refine o_assign rfl rfl ?_
            refine l_nil ?_
            refine q_then ?_
            refine c_seq ?_
            refine c_seq ?_
            refine c_region ?_
            refine o_move rfl rfl ?_
            refine o_bytesStr (e := e8) rfl rfl rfl Try.underlying25 Try.underlying5 Try.underlying9 (rds_own e8_ok 0 rfl) ?_
            refine o_move rfl rfl ?_
            refine o_bytesStr (e := e8) rfl rfl rfl Try.underlying25 Try.underlying5 Try.underlying9 (rds_own e8_ok 3 rfl) ?_
            refine o_bin rfl rfl rfl b_sneq ?_
            refine l_eq (t := 68) (v' := .bool false) rfl (show _ = Value.bool false from by simp) ?_
            refine o_move rfl rfl ?_
            refine o_yes rfl rfl rfl ?_
            refine o_move rfl rfl ?_
            refine o_yes rfl rfl rfl ?_
            refine o_bytesStr (e := e8) rfl rfl rfl Try.underlying25 Try.underlying5 Try.underlying9 (rds_own e8_ok 4 rfl) ?_
            refine o_yes rfl rfl rfl ?_
            refine o_fieldAddr (q := ⟨b6, 2, none⟩) rfl rfl Try.underlying34 rfl ti25 rfl ?_
            refine o_yes rfl rfl rfl ?_
            refine o_load1 rfl rfl Try.underlying25 rfl (rd_mem 5 rfl rfl) ?_
            refine o_yes rfl rfl rfl ?_
            refine o_bytesStr (e := e8) rfl rfl rfl Try.underlying25 Try.underlying5 Try.underlying9 (rds_old (hg x20 (List.mem_of_getElem? hx20)).2.2.rd) ?_
            refine o_yes rfl rfl rfl ?_
            refine o_bin rfl rfl rfl b_sneq ?_
            refine l_eq (t := 75) (v' := .bool false) rfl (show _ = Value.bool false from by simp) ?_
            refine o_pick_false rfl rfl rfl ?_
            refine l_nil ?_
            refine q_then ?_
            refine c_false rfl ?_
            refine c_skip ?_
            refine q_then ?_
            refine c_seq ?_
            refine c_region ?_
            refine o_move rfl rfl ?_
            refine o_call rfl cal20 rfl (spoil_ (by (try simp only [List.nil_append, List.length_append, List.length_cons, List.length_nil]); omega)) ?_
            rintro _ _ ⟨ws78, hws78, rfl, rfl⟩
            refine l_nil ?_
            refine q_then ?_
            refine c_region ?_
            refine o_move rfl rfl ?_
            refine l_f4 ?_
            refine o_call rfl cal20 rfl (spoil_ (by (try simp only [List.nil_append, List.length_append, List.length_cons, List.length_nil]); omega)) ?_
            rintro _ _ ⟨ws80, hws80, rfl, rfl⟩
            refine l_nil ?_
            refine q_block ?_
            refine q_then ?_
            refine c_region ?_
            refine o_bin rfl rfl rfl (b_add (wrap_i64 (by omega) (by omega))) ?_
            refine o_move rfl rfl ?_
            refine l_nil ?_
            refine q_conv (fun w S => S.tail) ?_
            refine q_conv (fun w S => S.tail) ?_
            refine q_conv (fun w S => (S.perm p3).tail) ?_
            exact q_round (i + 1, ws ++ [UInt8.ofNat mN], a33, c33, a39, c39) (by exact ⟨by omega, by (try simp only [List.length_append, List.length_cons, List.length_nil]); omega⟩) (by (try dsimp only); omega) ⟨(by first | rfl | exact vint (by omega)), (by first | rfl | exact vint (by omega)), (by first | rfl | exact vint (by omega)), (by first | rfl | exact vint (by omega)), (by first | rfl | exact vint (by omega)), trivial⟩ (fun w S => S)
    · -- h2F
      try simp only [decide_eq_true_eq, decide_eq_false_iff_not, Bool.not_eq_eq_eq_not, Bool.not_true, Bool.not_false, Bool.not_eq_true', Bool.not_eq_false', Int.not_lt, Int.not_le, Bool.or_eq_true, Bool.and_eq_true] at h2
      refine c_exit ?_
      refine q_pass_exit ?_
      refine q_pass_exit ?_
      refine q_hit ?_
      refine q_then ?_
      refine c_seq ?_
      refine c_conv (fun w S => S.perm p1) ?_
      refine c_conv (fun w S => S.perm p1) ?_
      refine c_conv (fun w S => S.perm p2) ?_
      refine c_held [row e8.T e8.sz a2 (ws).length c2 (flat e8 ws)] (by kernel_rfl) rfl ?_
      refine h_take 0 rfl rfl (by kernel_rfl) (by kernel_rfl) (by kernel_rfl) (fun L0 => v_move rfl rfl) ?_
      refine h_take 3 rfl rfl (by kernel_rfl) (by kernel_rfl) (by kernel_rfl) (fun L0 => v_move rfl rfl) ?_
      refine h_take 4 rfl rfl (by kernel_rfl) (by kernel_rfl) (by kernel_rfl) (fun L0 => v_bytesStr (e := e8) rfl rfl rfl Try.underlying25 Try.underlying5 Try.underlying9 (rds_own e8_ok 0 rfl)) ?_
      refine h_one 1 rfl (by kernel_rfl) ?_
      refine l_f2 ?_
      refine l_f2 ?_
      refine o_call rfl cal14 rfl (penData (by (try simp only [List.nil_append, List.length_append, List.length_cons, List.length_nil]); omega)) ?_
      rintro _ _ ⟨a83, c83, rfl, rfl⟩
      refine l_nil ?_
      refine q_conv (fun w S => S.perm p2) ?_
      refine q_conv (fun w S => S.perm p2) ?_
      refine q_conv (fun w S => S.perm p2) ?_
      refine q_conv (fun w S => S.perm p3) ?_
      refine h_next ?_
      refine h_more [row e8.T e8.sz a83 (ws).length c83 (flat e8 ws)] rfl ?_
      refine h_take 2 rfl rfl (by kernel_rfl) (by kernel_rfl) (by kernel_rfl) (fun L0 => v_bytesStr (e := e8) rfl rfl rfl Try.underlying25 Try.underlying5 Try.underlying9 (rds_own e8_ok 1 rfl)) ?_
      refine h_take 5 rfl rfl (by kernel_rfl) (by kernel_rfl) (by kernel_rfl) (fun L0 => v_bin rfl rfl rfl b_seql) ?_
      refine h_eq (t := 87) (v' := .bool true) rfl (show _ = Value.bool true from by simp) ?_
      refine h_take 6 rfl rfl (by kernel_rfl) (by kernel_rfl) (by kernel_rfl) (fun L0 => v_assign rfl rfl) ?_
      refine h_done (by kernel_rfl) ?_
      refine q_then ?_
      refine c_ret ?_
      refine q_conv (fun w S => S.tail) ?_
      refine q_conv (fun w S => S.tail) ?_
      refine q_conv (fun w S => S.tail) ?_
      refine q_conv (fun w S => S.tail) ?_
      exact f_ret (r_one rfl rfl) (⟨rfl, rfl⟩) (fun w S => S)

end Go.Proofs.Ytkohbgblnkelnaa
