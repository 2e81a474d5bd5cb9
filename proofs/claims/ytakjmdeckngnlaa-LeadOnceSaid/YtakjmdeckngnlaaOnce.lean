/- Printed by eng2.py out of 12/spec.py. -/
import Derived.Test.YtakjmdeckngnlaaSpeaks
import Derived.Test.YtakjmdeckngnlaaLaws
import Derived.Test.YtakjmdeckngnlaaBits
set_option linter.unusedVariables false
set_option linter.unusedSimpArgs false
set_option maxRecDepth 10000
namespace Go.Proofs.Ytakjmdeckngnlaa
open Go.RowKit
set_option maxHeartbeats 1000000 in
theorem once_ {W : World} {F : List Res} {f k : Int} : CS Try.prog 5 #[.int .i64 f, .int .i64 k] W (F) (fun r L' => r = .bool true ∧ F = L') := by
  refine f_door (l0 := [(0, .int .i64 f), (1, .int .i64 k)]) Try.func5 Try.ntmps5 rfl rfl rfl ?_
  refine c_seq ?_
  refine c_region ?_
  refine o_assign rfl rfl ?_
  refine l_nil ?_
  refine q_then ?_
  refine c_seq ?_
  refine c_seq ?_
  refine c_region ?_
  refine o_call rfl cal8 rfl (speaks_) ?_
  rintro _ _ ⟨rfl, rfl⟩
  refine o_not rfl rfl ?_
  refine l_nil ?_
  refine q_then ?_
  refine c_false rfl ?_
  refine c_skip ?_
  refine q_then ?_
  refine c_seq ?_
  refine c_region ?_
  refine o_move rfl rfl ?_
  refine o_bin rfl rfl rfl (b_and rfl) ?_
  obtain ⟨q18, hq18, eq18⟩ := band64 f 7 (by omega)
  refine l_eq (t := 18) (v' := .int .i64 (q18 : Int)) rfl (by first | exact congrArg _ eq18) ?_
  refine o_bin rfl rfl rfl (b_add (wrap_i64 (by omega) (by omega))) ?_
  refine o_assign rfl rfl ?_
  refine l_nil ?_
  refine q_then ?_
  refine c_seq ?_
  refine c_region ?_
  refine o_move rfl rfl ?_
  refine o_min rfl rfl rfl Try.underlying3 ?_
  obtain ⟨n, hn2, hn9, en⟩ : ∃ n : Nat, 2 ≤ n ∧ n ≤ 9 ∧ min (2 + (q18 : Int)) 9 = (n : Int) := ⟨min (2 + q18) 9, by omega, by omega, by omega⟩
  refine l_eq (t := 21) (v' := .int .i64 (n : Int)) rfl (by rw [en]) ?_
  refine o_assign rfl rfl ?_
  refine l_nil ?_
  refine q_then ?_
  refine c_seq ?_
  refine c_region ?_
  refine o_move rfl rfl ?_
  refine o_call rfl cal24 rfl (lnewOkI (by omega)) ?_
  rintro _ _ ⟨kk, rfl, rfl⟩
  refine l_conv (L' := LdRI kk (LO n 0 [] [] []) :: _) (fun w S => by rw [show ldNew Int 1 (n : Int) 0 = LO n 0 [] [] [] from rfl] at S; exact S) ?_
  refine o_move rfl rfl ?_
  refine o_extract rfl rfl rfl ?_
  refine o_extract rfl rfl rfl ?_
  refine o_assign rfl rfl ?_
  refine o_assign rfl rfl ?_
  refine l_nil ?_
  refine q_then ?_
  refine c_seq ?_
  refine c_seq ?_
  refine c_region ?_
  refine o_move rfl rfl ?_
  refine o_bin rfl rfl rfl (b_peq Try.underlying50 _) ?_
  refine l_nil ?_
  refine q_then ?_
  refine c_false rfl ?_
  refine c_skip ?_
  refine q_then ?_
  refine c_seq ?_
  refine c_region ?_
  refine o_move rfl rfl ?_
  refine o_bin rfl rfl rfl (b_quo (by omega) (show _ = ((n / 2 : Nat) : Int) from wtdiv (by omega))) ?_
  refine o_bin rfl rfl rfl (b_add (wrap_i64 (by omega) (by omega))) ?_
  refine o_assign rfl rfl ?_
  refine l_nil ?_
  refine q_then ?_
  refine c_seq ?_
  refine c_seq ?_
  refine c_region ?_
  refine o_assign rfl rfl ?_
  refine l_nil ?_
  refine q_then ?_
  refine c_block ?_
  refine c_loop (α := Nat × (List (Int × Int))) (fun z => [(1, .int .i64 k), (6, .pointer (some ⟨kk, 0, none⟩)), (8, .int .i64 (((n / 2 : Nat) : Int) + 1)), (9, .int .i64 (z.1 : Int))]) (fun z => LdRI kk (LO n 0 z.2 [] []) :: F) (fun z => z.1 ≤ n / 2 + 1 ∧ PKey z.2 z.1) (fun z => n / 2 + 1 - z.1) (0, []) (by exact ⟨Nat.zero_le _, pkey_nil⟩) ⟨(by first | rfl | exact vint (by omega)), (by first | rfl | exact vint (by omega)), (by first | rfl | exact vint (by omega)), (by first | rfl | exact vint (by omega)), trivial⟩ (fun w S => S) ?_
  rintro ⟨i, D⟩ ⟨hi, hD⟩
  try dsimp only at *
  refine c_seq ?_
  refine c_seq ?_
  refine c_region ?_
  refine o_move rfl rfl ?_
  refine o_move rfl rfl ?_
  refine o_bin rfl rfl rfl b_lss ?_
  refine l_nil ?_
  refine q_then ?_
  refine c_cond rfl (fun h1 => ?_) (fun h1 => ?_)
  · -- h1T
    have h1b := h1
    try simp only [decide_eq_true_eq, decide_eq_false_iff_not, Bool.not_eq_eq_eq_not, Bool.not_true, Bool.not_false, Bool.not_eq_true', Bool.not_eq_false', Int.not_lt, Int.not_le, Bool.or_eq_true, Bool.and_eq_true] at h1
    refine c_skip ?_
    refine q_then ?_
    refine c_seq ?_
    refine c_block ?_
    refine c_seq ?_
    refine c_seq ?_
    refine c_region ?_
    refine o_move rfl rfl ?_
    refine o_call rfl cal30 rfl (leadsI) ?_
    rintro _ _ ⟨rfl, rfl⟩
    refine l_eq (t := 38) (v' := .bool false) rfl (show _ = Value.bool false from by rw [once_leads hn9 hD, decide_eq_false (by omega)]) ?_
    refine l_nil ?_
    refine q_then ?_
    refine c_false rfl ?_
    refine c_skip ?_
    refine q_then ?_
    refine c_seq ?_
    refine c_region ?_
    refine o_move rfl rfl ?_
    refine o_move rfl rfl ?_
    refine o_call rfl cal26 rfl (promisedI (vs := []) (a := none) (c := 0) (rds_nil _ _) (by first | decide | omega | (simp; omega))) ?_
    rintro _ _ ⟨rfl, rfl⟩
    refine l_conv (L' := LdRI kk (LO n 0 (inc D (i : Int)) [] []) :: _) (fun w S => by rw [show ((LO n 0 D [] []).promised z0I (i : Int) []) = LO n 0 (inc D (i : Int)) [] [] from by rw [once_promised hn9 (by omega) hD hn2]] at S; exact S) ?_
    refine l_nil ?_
    refine q_then ?_
    refine c_seq ?_
    refine c_region ?_
    refine o_assign rfl rfl ?_
    refine l_nil ?_
    refine q_then ?_
    refine c_block ?_
    refine c_loop (α := Nat × (List (Int × Int))) (fun z => [(1, .int .i64 k), (6, .pointer (some ⟨kk, 0, none⟩)), (8, .int .i64 (((n / 2 : Nat) : Int) + 1)), (9, .int .i64 (i : Int)), (10, .int .i64 (z.1 : Int)), (32, .int .i64 (i : Int)), (33, .int .i64 (((n / 2 : Nat) : Int) + 1)), (34, .bool (decide ((i : Int) < (((n / 2 : Nat) : Int) + 1)))), (37, .pointer (some ⟨kk, 0, none⟩)), (38, .bool false), (39, .pointer (some ⟨kk, 0, none⟩)), (40, .int .i64 (i : Int))]) (fun z => LdRI kk (LO n 0 z.2 [] []) :: F) (fun z => PKey z.2 (i + 1)) (fun z => 3 - z.1) (0, inc D (i : Int)) (by exact pkey_new hD) ⟨(by first | rfl | exact vint (by omega)), (by first | rfl | exact vint (by omega)), (by first | rfl | exact vint (by omega)), (by first | rfl | exact vint (by omega)), (by first | rfl | exact vint (by omega)), (by first | rfl | exact vint (by omega)), (by first | rfl | exact vint (by omega)), (by first | rfl | exact vint (by omega)), (by first | rfl | exact vint (by omega)), (by first | rfl | exact vint (by omega)), (by first | rfl | exact vint (by omega)), (by first | rfl | exact vint (by omega)), trivial⟩ (fun w S => S) ?_
    rintro ⟨t, D2⟩ hD2
    try dsimp only at *
    refine c_seq ?_
    refine c_seq ?_
    refine c_region ?_
    refine o_move rfl rfl ?_
    refine o_move rfl rfl ?_
    refine o_bin rfl rfl rfl (b_and rfl) ?_
    obtain ⟨q44, hq44, eq44⟩ := band64 k 3 (by omega)
    refine l_eq (t := 44) (v' := .int .i64 (q44 : Int)) rfl (by first | exact congrArg _ eq44) ?_
    refine o_bin rfl rfl rfl b_lss ?_
    refine l_nil ?_
    refine q_then ?_
    refine c_cond rfl (fun h2 => ?_) (fun h2 => ?_)
    · -- h2T
      have h2b := h2
      try simp only [decide_eq_true_eq, decide_eq_false_iff_not, Bool.not_eq_eq_eq_not, Bool.not_true, Bool.not_false, Bool.not_eq_true', Bool.not_eq_false', Int.not_lt, Int.not_le, Bool.or_eq_true, Bool.and_eq_true] at h2
      refine c_skip ?_
      refine q_then ?_
      refine c_seq ?_
      refine c_block ?_
      refine c_region ?_
      refine o_move rfl rfl ?_
      refine o_move rfl rfl ?_
      refine o_call rfl cal26 rfl (promisedI (vs := []) (a := none) (c := 0) (rds_nil _ _) (by first | decide | omega | (simp; omega))) ?_
      rintro _ _ ⟨rfl, rfl⟩
      refine l_conv (L' := LdRI kk (LO n 0 D2 [] []) :: _) (fun w S => by rw [show ((LO n 0 D2 [] []).promised z0I (i : Int) []) = LO n 0 D2 [] [] from by rw [once_again hn9 hD2]] at S; exact S) ?_
      refine l_nil ?_
      refine q_block ?_
      refine q_then ?_
      refine c_region ?_
      refine o_move rfl rfl ?_
      refine o_bin rfl rfl rfl (b_add (wrap_i64 (by omega) (by omega))) ?_
      refine o_assign rfl rfl ?_
      refine l_nil ?_
      exact q_round (t + 1, D2) (by exact hD2) (by (try dsimp only); omega) ⟨(by first | rfl | exact vint (by omega)), (by first | rfl | exact vint (by omega)), (by first | rfl | exact vint (by omega)), (by first | rfl | exact vint (by omega)), (by first | rfl | exact vint (by omega)), (by first | rfl | exact vint (by omega)), (by first | rfl | exact vint (by omega)), (by first | rfl | exact vint (by omega)), (by first | rfl | exact vint (by omega)), (by first | rfl | exact vint (by omega)), (by first | rfl | exact vint (by omega)), (by first | rfl | exact vint (by omega)), trivial⟩ (fun w S => S)
    · -- h2F
      have h2b := h2
      try simp only [decide_eq_true_eq, decide_eq_false_iff_not, Bool.not_eq_eq_eq_not, Bool.not_true, Bool.not_false, Bool.not_eq_true', Bool.not_eq_false', Int.not_lt, Int.not_le, Bool.or_eq_true, Bool.and_eq_true] at h2
      refine c_exit ?_
      refine q_pass_exit ?_
      refine q_pass_exit ?_
      refine q_hit ?_
      refine q_block ?_
      refine q_then ?_
      refine c_region ?_
      refine o_move rfl rfl ?_
      refine o_bin rfl rfl rfl (b_add (wrap_i64 (by omega) (by omega))) ?_
      refine o_assign rfl rfl ?_
      refine l_nil ?_
      exact q_round (i + 1, D2) (by exact ⟨by omega, hD2⟩) (by (try dsimp only); omega) ⟨(by first | rfl | exact vint (by omega)), (by first | rfl | exact vint (by omega)), (by first | rfl | exact vint (by omega)), (by first | rfl | exact vint (by omega)), trivial⟩ (fun w S => S)
  · -- h1F
    have h1b := h1
    try simp only [decide_eq_true_eq, decide_eq_false_iff_not, Bool.not_eq_eq_eq_not, Bool.not_true, Bool.not_false, Bool.not_eq_true', Bool.not_eq_false', Int.not_lt, Int.not_le, Bool.or_eq_true, Bool.and_eq_true] at h1
    refine c_exit ?_
    refine q_pass_exit ?_
    refine q_pass_exit ?_
    refine q_hit ?_
    refine q_then ?_
    refine c_seq ?_
    refine c_seq ?_
    refine c_region ?_
    refine o_move rfl rfl ?_
    refine o_call rfl cal30 rfl (leadsI) ?_
    rintro _ _ ⟨rfl, rfl⟩
    refine l_eq (t := 52) (v' := .bool true) rfl (show _ = Value.bool true from by rw [once_leads hn9 hD, decide_eq_true (by omega)]) ?_
    refine o_not rfl rfl ?_
    refine o_move rfl rfl ?_
    refine o_yes rfl rfl rfl ?_
    refine o_move rfl rfl ?_
    refine o_yes rfl rfl rfl ?_
    refine o_call rfl cal25 rfl (offerI) ?_
    rintro _ _ ⟨rfl, rfl⟩
    refine l_eq (t := 56) (v' := .bool true) rfl (show _ = Value.bool true from by rw [once_offer hn9 hD (by omega)] <;> rfl) ?_
    refine l_conv (L' := LdRI kk (LO n 0 D [7] []) :: _) (fun w S => by rw [show ((LO n 0 D [] []).offer (0 : Int) 7).2 = LO n 0 D [7] [] from by rw [once_offer hn9 hD (by omega)]] at S; exact S) ?_
    refine o_yes rfl rfl rfl ?_
    refine o_not rfl rfl ?_
    refine o_pick_false rfl rfl rfl ?_
    refine l_nil ?_
    refine q_then ?_
    refine c_false rfl ?_
    refine c_skip ?_
    refine q_then ?_
    refine c_seq ?_
    refine c_seq ?_
    refine c_region ?_
    refine o_assign rfl rfl ?_
    refine l_nil ?_
    refine q_then ?_
    refine c_block ?_
    refine c_loop (α := Nat × (List (Int × Int)) × (List Int) × Int) (fun z => [(1, .int .i64 k), (6, .pointer (some ⟨kk, 0, none⟩)), (8, .int .i64 (((n / 2 : Nat) : Int) + 1)), (11, .int .i64 (z.1 : Int))]) (fun z => LdRI kk (LO n z.2.2.2 D z.2.2.1 z.2.1) :: F) (fun z => z.1 ≤ n / 2 + 1 ∧ ((z.1 ≤ n / 2 ∧ TKey z.2.1 z.1 ∧ z.2.2.1 = [7] ∧ z.2.2.2 = 0) ∨ (z.1 = n / 2 + 1 ∧ z.2.1 = [] ∧ z.2.2.1 = [] ∧ z.2.2.2 = 1))) (fun z => n / 2 + 1 - z.1) (0, [], [7], 0) (by exact ⟨Nat.zero_le _, .inl ⟨Nat.zero_le _, tkey_nil, rfl, rfl⟩⟩) ⟨(by first | rfl | exact vint (by omega)), (by first | rfl | exact vint (by omega)), (by first | rfl | exact vint (by omega)), (by first | rfl | exact vint (by omega)), trivial⟩ (fun w S => S) ?_
    rintro ⟨m, tak, off, sl⟩ ⟨hm, hst⟩
    try dsimp only at *
    refine c_seq ?_
    refine c_seq ?_
    refine c_region ?_
    refine o_move rfl rfl ?_
    refine o_move rfl rfl ?_
    refine o_bin rfl rfl rfl b_lss ?_
    refine l_nil ?_
    refine q_then ?_
    refine c_cond rfl (fun h3 => ?_) (fun h3 => ?_)
    · -- h3T
      have h3b := h3
      try simp only [decide_eq_true_eq, decide_eq_false_iff_not, Bool.not_eq_eq_eq_not, Bool.not_true, Bool.not_false, Bool.not_eq_true', Bool.not_eq_false', Int.not_lt, Int.not_le, Bool.or_eq_true, Bool.and_eq_true] at h3
      refine c_skip ?_
      refine q_then ?_
      refine c_seq ?_
      refine c_block ?_
      refine c_seq ?_
      refine c_region ?_
      refine o_assign rfl rfl ?_
      refine l_nil ?_
      refine q_then ?_
      refine c_block ?_
      refine c_loop (α := Nat × (List (Int × Int)) × (List Int) × Int) (fun z => [(1, .int .i64 k), (6, .pointer (some ⟨kk, 0, none⟩)), (8, .int .i64 (((n / 2 : Nat) : Int) + 1)), (11, .int .i64 (m : Int)), (12, .int .i64 (z.1 : Int)), (59, .int .i64 (m : Int)), (60, .int .i64 (((n / 2 : Nat) : Int) + 1)), (61, .bool (decide ((m : Int) < (((n / 2 : Nat) : Int) + 1))))]) (fun z => LdRI kk (LO n z.2.2.2 D z.2.2.1 z.2.1) :: F) (fun z => OIn n m z.1 z.2.1 z.2.2.1 z.2.2.2) (fun z => 4 - z.1) (0, tak, off, sl) (by exact oin_start (by omega) hst) ⟨(by first | rfl | exact vint (by omega)), (by first | rfl | exact vint (by omega)), (by first | rfl | exact vint (by omega)), (by first | rfl | exact vint (by omega)), (by first | rfl | exact vint (by omega)), (by first | rfl | exact vint (by omega)), (by first | rfl | exact vint (by omega)), (by first | rfl | exact vint (by omega)), trivial⟩ (fun w S => S) ?_
      rintro ⟨t, tk2, off2, sl2⟩ hin
      try dsimp only at *
      refine c_seq ?_
      refine c_seq ?_
      refine c_region ?_
      refine o_move rfl rfl ?_
      refine o_move rfl rfl ?_
      refine o_bin rfl rfl rfl (b_and rfl) ?_
      obtain ⟨q66, hq66, eq66⟩ := band64 k 3 (by omega)
      refine l_eq (t := 66) (v' := .int .i64 (q66 : Int)) rfl (by first | exact congrArg _ eq66) ?_
      refine o_bin rfl rfl rfl b_leq ?_
      refine l_nil ?_
      refine q_then ?_
      refine c_cond rfl (fun h4 => ?_) (fun h4 => ?_)
      · -- h4T
        have h4b := h4
        try simp only [decide_eq_true_eq, decide_eq_false_iff_not, Bool.not_eq_eq_eq_not, Bool.not_true, Bool.not_false, Bool.not_eq_true', Bool.not_eq_false', Int.not_lt, Int.not_le, Bool.or_eq_true, Bool.and_eq_true] at h4
        refine c_skip ?_
        refine q_then ?_
        refine c_seq ?_
        refine c_block ?_
        refine c_seq ?_
        refine c_region ?_
        refine o_move rfl rfl ?_
        refine o_move rfl rfl ?_
        refine o_call rfl cal27 rfl (takenI) ?_
        rintro _ _ ⟨rfl, rfl⟩
        obtain ⟨tk3, off3, sl3, v3, e3, hv3, hin3⟩ := once_step hn9 hn2 hD (by omega) hin
        refine l_conv (L' := LdRI kk (LO n sl3 D off3 tk3) :: _) (fun w S => by rw [show ((LO n sl2 D off2 tk2).taken (0 : Int) (m : Int) 0).2 = LO n sl3 D off3 tk3 from by rw [e3]] at S; exact S) ?_
        refine o_move rfl rfl ?_
        refine o_extract rfl rfl rfl ?_
        refine l_eq (t := 74) (v' := .int .i64 v3) rfl (by rw [e3] <;> rfl) ?_
        refine o_extract rfl rfl rfl ?_
        refine l_eq (t := 75) (v' := .bool (decide (m = n / 2 ∧ t = 0))) rfl (by rw [e3] <;> rfl) ?_
        refine o_assign rfl rfl ?_
        refine o_assign rfl rfl ?_
        refine l_nil ?_
        refine q_then ?_
        refine c_seq ?_
        refine c_region ?_
        refine o_move rfl rfl ?_
        refine o_move rfl rfl ?_
        refine o_move rfl rfl ?_
        refine o_bin rfl rfl rfl (b_sub (wrap_i64 (by omega) (by omega))) ?_
        refine o_bin rfl rfl rfl b_eql ?_
        refine o_move rfl rfl ?_
        refine l_split (t := 81) rfl (fun h5 => ?_) (fun h5 => ?_)
        · -- h5T
          have h5b := h5
          try simp only [decide_eq_true_eq, decide_eq_false_iff_not, Bool.not_eq_eq_eq_not, Bool.not_true, Bool.not_false, Bool.not_eq_true', Bool.not_eq_false', Int.not_lt, Int.not_le, Bool.or_eq_true, Bool.and_eq_true] at h5
          refine o_yes rfl rfl rfl ?_
          refine o_move rfl rfl ?_
          refine o_yes rfl rfl rfl ?_
          refine o_bin rfl rfl rfl b_eql ?_
          refine o_pick_true rfl rfl rfl ?_
          refine o_bin rfl rfl rfl (b_bne Try.underlying4 _ _) ?_
          refine l_eq (t := 85) (v' := .bool false) rfl (neq_lit (by first | (apply decide_eq_decide.2; omega) | exact decide_eq_false (by omega))) ?_
          refine o_move rfl rfl ?_
          refine o_yes rfl rfl rfl ?_
          refine o_move rfl rfl ?_
          refine o_yes rfl rfl rfl ?_
          refine o_move rfl rfl ?_
          refine l_split (t := 88) rfl (fun h6 => ?_) (fun h6 => ?_)
          · -- h6T
            have h6b := h6
            try simp only [decide_eq_true_eq, decide_eq_false_iff_not, Bool.not_eq_eq_eq_not, Bool.not_true, Bool.not_false, Bool.not_eq_true', Bool.not_eq_false', Int.not_lt, Int.not_le, Bool.or_eq_true, Bool.and_eq_true] at h6
            refine o_yes rfl rfl rfl ?_
            refine o_move rfl rfl ?_
            refine o_yes rfl rfl rfl ?_
            refine o_bin rfl rfl rfl b_neq ?_
            refine l_eq (t := 90) (v' := .bool false) rfl (show _ = Value.bool false from by rw [hv3 (by assumption)] <;> rfl) ?_
            refine o_yes rfl rfl rfl ?_
            refine o_pick_true rfl rfl rfl ?_
            refine o_pick_false rfl rfl rfl ?_
            refine l_nil ?_
            refine q_then ?_
            refine c_false rfl ?_
            refine c_skip ?_
            refine q_block ?_
            refine q_then ?_
            refine c_region ?_
            refine o_move rfl rfl ?_
            refine o_bin rfl rfl rfl (b_add (wrap_i64 (by omega) (by omega))) ?_
            refine o_assign rfl rfl ?_
            refine l_nil ?_
            exact q_round (t + 1, tk3, off3, sl3) (by exact hin3) (by (try dsimp only); omega) ⟨(by first | rfl | exact vint (by omega)), (by first | rfl | exact vint (by omega)), (by first | rfl | exact vint (by omega)), (by first | rfl | exact vint (by omega)), (by first | rfl | exact vint (by omega)), (by first | rfl | exact vint (by omega)), (by first | rfl | exact vint (by omega)), (by first | rfl | exact vint (by omega)), trivial⟩ (fun w S => S)
          · -- h6F
            have h6b := h6
            try simp only [decide_eq_true_eq, decide_eq_false_iff_not, Bool.not_eq_eq_eq_not, Bool.not_true, Bool.not_false, Bool.not_eq_true', Bool.not_eq_false', Int.not_lt, Int.not_le, Bool.or_eq_true, Bool.and_eq_true] at h6
            refine o_no rfl rfl rfl rfl ?_
            refine o_no rfl rfl rfl rfl ?_
            refine o_yes rfl rfl rfl ?_
            refine o_pick_false rfl rfl rfl ?_
            refine o_pick_false rfl rfl rfl ?_
            refine l_nil ?_
            refine q_then ?_
            refine c_false rfl ?_
            refine c_skip ?_
            refine q_block ?_
            refine q_then ?_
            refine c_region ?_
            refine o_move rfl rfl ?_
            refine o_bin rfl rfl rfl (b_add (wrap_i64 (by omega) (by omega))) ?_
            refine o_assign rfl rfl ?_
            refine l_nil ?_
            exact q_round (t + 1, tk3, off3, sl3) (by exact hin3) (by (try dsimp only); omega) ⟨(by first | rfl | exact vint (by omega)), (by first | rfl | exact vint (by omega)), (by first | rfl | exact vint (by omega)), (by first | rfl | exact vint (by omega)), (by first | rfl | exact vint (by omega)), (by first | rfl | exact vint (by omega)), (by first | rfl | exact vint (by omega)), (by first | rfl | exact vint (by omega)), trivial⟩ (fun w S => S)
        · -- h5F
          have h5b := h5
          try simp only [decide_eq_true_eq, decide_eq_false_iff_not, Bool.not_eq_eq_eq_not, Bool.not_true, Bool.not_false, Bool.not_eq_true', Bool.not_eq_false', Int.not_lt, Int.not_le, Bool.or_eq_true, Bool.and_eq_true] at h5
          refine o_no rfl rfl rfl rfl ?_
          refine o_no rfl rfl rfl rfl ?_
          refine o_pick_false rfl rfl rfl ?_
          refine o_bin rfl rfl rfl (b_bne Try.underlying4 _ _) ?_
          refine l_eq (t := 85) (v' := .bool false) rfl (neq_lit (by first | (apply decide_eq_decide.2; omega) | exact decide_eq_false (by omega))) ?_
          refine o_move rfl rfl ?_
          refine o_yes rfl rfl rfl ?_
          refine o_move rfl rfl ?_
          refine o_yes rfl rfl rfl ?_
          refine o_move rfl rfl ?_
          refine l_split (t := 88) rfl (fun h7 => ?_) (fun h7 => ?_)
          · -- h7T
            have h7b := h7
            try simp only [decide_eq_true_eq, decide_eq_false_iff_not, Bool.not_eq_eq_eq_not, Bool.not_true, Bool.not_false, Bool.not_eq_true', Bool.not_eq_false', Int.not_lt, Int.not_le, Bool.or_eq_true, Bool.and_eq_true] at h7
            refine o_yes rfl rfl rfl ?_
            refine o_move rfl rfl ?_
            refine o_yes rfl rfl rfl ?_
            refine o_bin rfl rfl rfl b_neq ?_
            refine l_eq (t := 90) (v' := .bool false) rfl (show _ = Value.bool false from by rw [hv3 (by assumption)] <;> rfl) ?_
            refine o_yes rfl rfl rfl ?_
            refine o_pick_true rfl rfl rfl ?_
            refine o_pick_false rfl rfl rfl ?_
            refine l_nil ?_
            refine q_then ?_
            refine c_false rfl ?_
            refine c_skip ?_
            refine q_block ?_
            refine q_then ?_
            refine c_region ?_
            refine o_move rfl rfl ?_
            refine o_bin rfl rfl rfl (b_add (wrap_i64 (by omega) (by omega))) ?_
            refine o_assign rfl rfl ?_
            refine l_nil ?_
            exact q_round (t + 1, tk3, off3, sl3) (by exact hin3) (by (try dsimp only); omega) ⟨(by first | rfl | exact vint (by omega)), (by first | rfl | exact vint (by omega)), (by first | rfl | exact vint (by omega)), (by first | rfl | exact vint (by omega)), (by first | rfl | exact vint (by omega)), (by first | rfl | exact vint (by omega)), (by first | rfl | exact vint (by omega)), (by first | rfl | exact vint (by omega)), trivial⟩ (fun w S => S)
          · -- h7F
            have h7b := h7
            try simp only [decide_eq_true_eq, decide_eq_false_iff_not, Bool.not_eq_eq_eq_not, Bool.not_true, Bool.not_false, Bool.not_eq_true', Bool.not_eq_false', Int.not_lt, Int.not_le, Bool.or_eq_true, Bool.and_eq_true] at h7
            refine o_no rfl rfl rfl rfl ?_
            refine o_no rfl rfl rfl rfl ?_
            refine o_yes rfl rfl rfl ?_
            refine o_pick_false rfl rfl rfl ?_
            refine o_pick_false rfl rfl rfl ?_
            refine l_nil ?_
            refine q_then ?_
            refine c_false rfl ?_
            refine c_skip ?_
            refine q_block ?_
            refine q_then ?_
            refine c_region ?_
            refine o_move rfl rfl ?_
            refine o_bin rfl rfl rfl (b_add (wrap_i64 (by omega) (by omega))) ?_
            refine o_assign rfl rfl ?_
            refine l_nil ?_
            exact q_round (t + 1, tk3, off3, sl3) (by exact hin3) (by (try dsimp only); omega) ⟨(by first | rfl | exact vint (by omega)), (by first | rfl | exact vint (by omega)), (by first | rfl | exact vint (by omega)), (by first | rfl | exact vint (by omega)), (by first | rfl | exact vint (by omega)), (by first | rfl | exact vint (by omega)), (by first | rfl | exact vint (by omega)), (by first | rfl | exact vint (by omega)), trivial⟩ (fun w S => S)
      · -- h4F
        have h4b := h4
        try simp only [decide_eq_true_eq, decide_eq_false_iff_not, Bool.not_eq_eq_eq_not, Bool.not_true, Bool.not_false, Bool.not_eq_true', Bool.not_eq_false', Int.not_lt, Int.not_le, Bool.or_eq_true, Bool.and_eq_true] at h4
        refine c_exit ?_
        refine q_pass_exit ?_
        refine q_pass_exit ?_
        refine q_hit ?_
        refine q_block ?_
        refine q_then ?_
        refine c_region ?_
        refine o_move rfl rfl ?_
        refine o_bin rfl rfl rfl (b_add (wrap_i64 (by omega) (by omega))) ?_
        refine o_assign rfl rfl ?_
        refine l_nil ?_
        exact q_round (m + 1, tk2, off2, sl2) (by exact once_round (by omega) hin) (by (try dsimp only); omega) ⟨(by first | rfl | exact vint (by omega)), (by first | rfl | exact vint (by omega)), (by first | rfl | exact vint (by omega)), (by first | rfl | exact vint (by omega)), trivial⟩ (fun w S => S)
    · -- h3F
      have h3b := h3
      try simp only [decide_eq_true_eq, decide_eq_false_iff_not, Bool.not_eq_eq_eq_not, Bool.not_true, Bool.not_false, Bool.not_eq_true', Bool.not_eq_false', Int.not_lt, Int.not_le, Bool.or_eq_true, Bool.and_eq_true] at h3
      refine c_exit ?_
      refine q_pass_exit ?_
      refine q_pass_exit ?_
      refine q_hit ?_
      refine q_then ?_
      refine c_seq ?_
      refine c_region ?_
      refine o_move rfl rfl ?_
      refine o_call rfl cal28 rfl (slotI) ?_
      rintro _ _ ⟨rfl, rfl⟩
      refine o_bin rfl rfl rfl b_eql ?_
      refine l_eq (t := 95) (v' := .bool true) rfl (show _ = Value.bool true from by rw [show sl = 1 by omega] <;> rfl) ?_
      refine o_assign rfl rfl ?_
      refine l_nil ?_
      refine q_then ?_
      refine c_ret ?_
      refine q_conv (fun w S => S.tail) ?_
      exact f_ret (r_one rfl rfl) (⟨rfl, rfl⟩) (fun w S => S)

end Go.Proofs.Ytakjmdeckngnlaa
