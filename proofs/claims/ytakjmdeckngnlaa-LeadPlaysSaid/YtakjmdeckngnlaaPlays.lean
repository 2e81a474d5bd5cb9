/- Printed by eng2.py out of 12/spec.py. -/
import Derived.Test.YtakjmdeckngnlaaRef3
import Derived.Test.YtakjmdeckngnlaaSpeaks
import Derived.Test.YtakjmdeckngnlaaArgs
set_option linter.unusedVariables false
set_option linter.unusedSimpArgs false
set_option maxRecDepth 10000
namespace Go.Proofs.Ytakjmdeckngnlaa
open Go.RowKit
theorem great_ {W : World} {F : List Res} {xs : List Op} {a : Option Addr} {c : Nat} (hs : SlR W e_Op a xs) (hn : xs.length ≤ 9223372036854775807) : CS Try.prog 9 #[.slice a xs.length c] W (F) (fun r L' => ∃ b : Bool, r = .bool b ∧ (b = false → xs.length ≤ 200 ∧ ∀ x ∈ xs, x.f_Votes.xs.length ≤ 100) ∧ F = L') := by
  refine f_door (l0 := [(0, .slice a xs.length c)]) Try.func9 Try.ntmps9 rfl rfl rfl ?_
  refine c_seq ?_
  refine c_region ?_
  refine o_assign rfl rfl ?_
  refine l_nil ?_
  refine q_then ?_
  refine c_seq ?_
  refine c_seq ?_
  refine c_region ?_
  refine o_move rfl rfl ?_
  refine o_len rfl rfl Try.underlying22 ?_
  refine o_bin rfl rfl rfl b_gtr ?_
  refine l_nil ?_
  refine q_then ?_
  refine c_cond rfl (fun h1 => ?_) (fun h1 => ?_)
  · -- h1T
    have h1b := h1
    try simp only [decide_eq_true_eq, decide_eq_false_iff_not, Bool.not_eq_eq_eq_not, Bool.not_true, Bool.not_false, Bool.not_eq_true', Bool.not_eq_false', Int.not_lt, Int.not_le, Bool.or_eq_true, Bool.and_eq_true] at h1
    refine c_seq ?_
    refine c_region ?_
    refine o_assign rfl rfl ?_
    refine l_nil ?_
    refine q_then ?_
    refine c_ret ?_
    refine q_pass_ret ?_
    exact f_ret (r_one rfl rfl) (⟨true, rfl, fun h => (by cases h), rfl⟩) (fun w S => S)
  · -- h1F
    have h1b := h1
    try simp only [decide_eq_true_eq, decide_eq_false_iff_not, Bool.not_eq_eq_eq_not, Bool.not_true, Bool.not_false, Bool.not_eq_true', Bool.not_eq_false', Int.not_lt, Int.not_le, Bool.or_eq_true, Bool.and_eq_true] at h1
    refine c_skip ?_
    refine q_then ?_
    refine c_seq ?_
    refine c_seq ?_
    refine c_region ?_
    refine o_move rfl rfl ?_
    refine o_len rfl rfl Try.underlying22 ?_
    refine o_move rfl rfl ?_
    refine l_nil ?_
    refine q_then ?_
    refine c_block ?_
    refine c_loop (α := Nat) (fun z => [(8, .slice a (xs).length c), (9, .int .i64 ((xs).length : Int)), (10, .int .i64 (z : Int))]) (fun z => F) (fun z => z ≤ xs.length ∧ ∀ n x, n < z → xs[n]? = some x → x.f_Votes.xs.length ≤ 100) (fun z => xs.length - z) (0) (by exact ⟨Nat.zero_le _, fun n x h => absurd h (by omega)⟩) ⟨(by first | rfl | exact vint (by omega)), (by first | rfl | exact vint (by omega)), (by first | rfl | exact vint (by omega)), trivial⟩ (fun w S => S) ?_
    rintro j ⟨hj, hsm⟩
    try dsimp only at *
    refine c_seq ?_
    refine c_region ?_
    refine o_bin rfl rfl rfl b_lss ?_
    refine l_nil ?_
    refine q_then ?_
    refine c_seq ?_
    refine c_cond rfl (fun h2 => ?_) (fun h2 => ?_)
    · -- h2T
      have h2b := h2
      try simp only [decide_eq_true_eq, decide_eq_false_iff_not, Bool.not_eq_eq_eq_not, Bool.not_true, Bool.not_false, Bool.not_eq_true', Bool.not_eq_false', Int.not_lt, Int.not_le, Bool.or_eq_true, Bool.and_eq_true] at h2
      refine c_skip ?_
      refine q_then ?_
      refine c_seq ?_
      refine c_block ?_
      refine c_seq ?_
      refine c_region ?_
      refine o_index e_Op_ok rfl rfl rfl Try.underlying22 (by omega) (by omega) (rds_old hs) fun ad12 ead12 => ?_
      obtain ⟨x12, hx12⟩ : ∃ x, (xs)[((j : Int)).toNat]? = some x := ⟨_, List.getElem?_eq_getElem (by omega)⟩
      refine o_loadn (vs := e_Op.cells x12) rfl rfl Try.underlying34 rfl ti34 (rdn_sl e_Op_ok ead12 (rds_old hs) hx12) ?_
      refine o_alloc rfl ti34 fun b4 => ?_
      refine o_storen rfl rfl ti34 rfl rfl rfl rfl ?_
      refine l_nil ?_
      refine q_then ?_
      refine c_seq ?_
      refine c_region ?_
      refine o_fieldAddr (q := ⟨b4, 3, none⟩) rfl rfl Try.underlying34 rfl ti32 rfl ?_
      refine o_load1 rfl rfl Try.underlying32 rfl (rd_mem 0 rfl rfl) ?_
      refine o_len rfl rfl Try.underlying32 ?_
      refine o_bin rfl rfl rfl b_gtr ?_
      refine l_nil ?_
      refine q_then ?_
      refine c_cond rfl (fun h3 => ?_) (fun h3 => ?_)
      · -- h3T
        have h3b := h3
        try simp only [decide_eq_true_eq, decide_eq_false_iff_not, Bool.not_eq_eq_eq_not, Bool.not_true, Bool.not_false, Bool.not_eq_true', Bool.not_eq_false', Int.not_lt, Int.not_le, Bool.or_eq_true, Bool.and_eq_true] at h3
        refine c_seq ?_
        refine c_region ?_
        refine o_assign rfl rfl ?_
        refine l_nil ?_
        refine q_then ?_
        refine c_ret ?_
        refine q_block_ret ?_
        refine q_pass_ret ?_
        refine q_pass_ret ?_
        refine q_block_ret ?_
        refine q_pass_ret ?_
        refine q_conv (fun w S => S.tail) ?_
        exact f_ret (r_one rfl rfl) (⟨true, rfl, fun h => (by cases h), rfl⟩) (fun w S => S)
      · -- h3F
        have h3b := h3
        try simp only [decide_eq_true_eq, decide_eq_false_iff_not, Bool.not_eq_eq_eq_not, Bool.not_true, Bool.not_false, Bool.not_eq_true', Bool.not_eq_false', Int.not_lt, Int.not_le, Bool.or_eq_true, Bool.and_eq_true] at h3
        refine c_skip ?_
        refine q_block ?_
        refine q_then ?_
        refine c_region ?_
        refine o_bin rfl rfl rfl (b_add (wrap_i64 (by omega) (by omega))) ?_
        refine o_move rfl rfl ?_
        refine l_nil ?_
        refine q_conv (fun w S => S.tail) ?_
        exact q_round (j + 1) (by exact ⟨by omega, fun n x h hx => (Nat.lt_or_ge n j).elim (fun h' => hsm n x h' hx) (fun h' => by (obtain rfl : n = j := (by omega)); have hx9 : xs[n]? = some x12 := hx12; rw [hx9] at hx; cases hx; omega)⟩) (by (try dsimp only); omega) ⟨(by first | rfl | exact vint (by omega)), (by first | rfl | exact vint (by omega)), (by first | rfl | exact vint (by omega)), trivial⟩ (fun w S => S)
    · -- h2F
      have h2b := h2
      try simp only [decide_eq_true_eq, decide_eq_false_iff_not, Bool.not_eq_eq_eq_not, Bool.not_true, Bool.not_false, Bool.not_eq_true', Bool.not_eq_false', Int.not_lt, Int.not_le, Bool.or_eq_true, Bool.and_eq_true] at h2
      refine c_exit ?_
      refine q_pass_exit ?_
      refine q_pass_exit ?_
      refine q_hit ?_
      refine q_then ?_
      refine c_seq ?_
      refine c_region ?_
      refine o_assign rfl rfl ?_
      refine l_nil ?_
      refine q_then ?_
      refine c_ret ?_
      exact f_ret (r_one rfl rfl) (⟨false, rfl, fun _ => ⟨by omega, fun x hx => by obtain ⟨n, hn⟩ := List.getElem?_of_mem hx; exact hsm n x (by have := (List.getElem?_eq_some_iff.1 hn).1; omega) hn⟩, rfl⟩) (fun w S => S)

theorem rnewOk {W : World} {F : List Res} {v f : Int} (h : 1 ≤ v ∧ v ≤ 9 ∧ 0 ≤ f ∧ f ≤ 64) : CS Try.prog 11 #[.int .i64 v, .int .i64 f] W F (fun r L' => ∃ k, r = .pointer (some ⟨k, 0, none⟩) ∧ L' = RlR k (rlNew v f) :: F) :=
  rnew.mono fun r L' hp => by
    obtain ⟨p, rfl, ⟨_, hn, _⟩ | ⟨k, h1, _, hL⟩⟩ := hp
    · exact absurd h hn
    · exact ⟨k, h1, hL⟩
theorem rnewNo {W : World} {F : List Res} {v f : Int} (h : ¬ (1 ≤ v ∧ v ≤ 9 ∧ 0 ≤ f ∧ f ≤ 64)) : CS Try.prog 11 #[.int .i64 v, .int .i64 f] W F (fun r L' => r = .pointer none ∧ L' = F) :=
  rnew.mono fun r L' hp => by
    obtain ⟨p, rfl, ⟨h1, hn, hL⟩ | ⟨k, h1, hy, hL⟩⟩ := hp
    · exact ⟨h1, hL⟩
    · exact absurd hy h
set_option maxHeartbeats 1000000 in
theorem plays_ {W : World} {F : List Res} {v f : Int} {xs : List Op} {a : Option Addr} {c : Nat} (hs : SlR W e_Op a xs) (hg : ∀ x ∈ xs, G_Op W x) (hn : xs.length ≤ 9223372036854775807) : CS Try.prog 3 #[.int .i64 v, .int .i64 f, .slice a (xs).length c] W (F) (fun r L' => r = .bool true ∧ F = L') := by
  refine f_door (l0 := [(0, .int .i64 v), (1, .int .i64 f), (2, .slice a (xs).length c)]) Try.func3 Try.ntmps3 rfl rfl rfl ?_
  refine c_seq ?_
  refine c_region ?_
  refine o_assign rfl rfl ?_
  refine l_nil ?_
  refine q_then ?_
  refine c_seq ?_
  refine c_seq ?_
  refine c_region ?_
  refine o_call rfl cal8 rfl (speaks_) ?_
  rintro _ _ ⟨rfl, rfl⟩
  refine o_not rfl rfl ?_
  refine l_nil ?_
  refine q_then ?_
  refine c_false rfl ?_
  refine c_skip ?_
  refine q_then ?_
  refine c_seq ?_
  refine c_seq ?_
  refine c_region ?_
  refine o_move rfl rfl ?_
  refine o_call rfl cal9 rfl (great_ hs hn) ?_
  rintro _ _ ⟨gb, rfl, hgr, rfl⟩
  refine l_nil ?_
  refine q_then ?_
  refine c_cond rfl (fun h1 => ?_) (fun h1 => ?_)
  · -- h1T
    have h1b := h1
    try simp only [decide_eq_true_eq, decide_eq_false_iff_not, Bool.not_eq_eq_eq_not, Bool.not_true, Bool.not_false, Bool.not_eq_true', Bool.not_eq_false', Int.not_lt, Int.not_le, Bool.or_eq_true, Bool.and_eq_true] at h1
    refine c_seq ?_
    refine c_region ?_
    refine o_assign rfl rfl ?_
    refine l_nil ?_
    refine q_then ?_
    refine c_ret ?_
    refine q_pass_ret ?_
    exact f_ret (r_one rfl rfl) (⟨rfl, rfl⟩) (fun w S => S)
  · -- h1F
    have h1b := h1
    try simp only [decide_eq_true_eq, decide_eq_false_iff_not, Bool.not_eq_eq_eq_not, Bool.not_true, Bool.not_false, Bool.not_eq_true', Bool.not_eq_false', Int.not_lt, Int.not_le, Bool.or_eq_true, Bool.and_eq_true] at h1
    have hgr2 := hgr h1
    refine c_skip ?_
    refine q_then ?_
    refine c_seq ?_
    refine (Classical.em (1 ≤ v ∧ v ≤ 9 ∧ 0 ≤ f ∧ f ≤ 64)).elim (fun hargs => ?_) (fun hargs => ?_)
    · -- hargs True
      refine c_region ?_
      refine o_move rfl rfl ?_
      refine o_move rfl rfl ?_
      refine o_call rfl cal10 rfl (lnewOkS hargs) ?_
      rintro _ _ ⟨k29, rfl, rfl⟩
      refine o_move rfl rfl ?_
      refine o_extract rfl rfl rfl ?_
      refine o_extract rfl rfl rfl ?_
      refine o_assign rfl rfl ?_
      refine o_assign rfl rfl ?_
      refine l_nil ?_
      refine q_then ?_
      refine c_seq ?_
      refine c_region ?_
      refine o_move rfl rfl ?_
      refine o_move rfl rfl ?_
      refine o_call rfl cal11 rfl (rnewOk hargs) ?_
      rintro _ _ ⟨mm, rfl, rfl⟩
      refine o_assign rfl rfl ?_
      refine l_nil ?_
      refine q_then ?_
      refine c_seq ?_
      refine c_seq ?_
      refine c_region ?_
      refine o_move rfl rfl ?_
      refine o_bin rfl rfl rfl (b_peq Try.underlying25 _) ?_
      refine o_move rfl rfl ?_
      refine o_bin rfl rfl rfl (b_peq Try.underlying30 _) ?_
      refine o_bin rfl rfl rfl (b_bne Try.underlying4 _ _) ?_
      refine o_move rfl rfl ?_
      refine o_yes rfl rfl rfl ?_
      refine o_move rfl rfl ?_
      refine o_yes rfl rfl rfl ?_
      refine o_bin rfl rfl rfl b_eql ?_
      refine o_yes rfl rfl rfl ?_
      refine o_move rfl rfl ?_
      refine o_yes rfl rfl rfl ?_
      refine o_bin rfl rfl rfl (b_pne Try.underlying30 _) ?_
      refine o_yes rfl rfl rfl ?_
      refine o_bin rfl rfl rfl (b_bne Try.underlying4 _ _) ?_
      refine o_pick_false rfl rfl rfl ?_
      refine o_move rfl rfl ?_
      refine o_yes rfl rfl rfl ?_
      refine o_move rfl rfl ?_
      refine o_yes rfl rfl rfl ?_
      refine o_bin rfl rfl rfl (b_peq Try.underlying30 _) ?_
      refine o_pick_false rfl rfl rfl ?_
      refine l_nil ?_
      refine q_then ?_
      refine c_false rfl ?_
      refine c_skip ?_
      refine q_then ?_
      refine c_seq ?_
      refine c_seq ?_
      refine c_region ?_
      refine o_move rfl rfl ?_
      refine o_len rfl rfl Try.underlying22 ?_
      refine o_move rfl rfl ?_
      refine l_nil ?_
      refine q_then ?_
      refine c_block ?_
      refine c_loop (α := Nat × (LdS ByteArray) × RlS) (fun z => [(7, .pointer (some ⟨k29, 0, none⟩)), (9, .pointer (some ⟨mm, 0, none⟩)), (61, .slice a (xs).length c), (62, .int .i64 ((xs).length : Int)), (63, .int .i64 (z.1 : Int))]) (fun z => RlR mm z.2.2 :: LdR k29 z.2.1 :: F) (fun z => LR z.2.1 z.2.2 ∧ z.1 ≤ xs.length ∧ z.2.2.told.length ≤ 100 * z.1) (fun z => xs.length - z.1) (0, ldNew ByteArray 7 v f, rlNew v f) (by exact ⟨lr_new hargs, Nat.zero_le _, Nat.zero_le _⟩) ⟨(by first | rfl | exact vint (by omega)), (by first | rfl | exact vint (by omega)), (by first | rfl | exact vint (by omega)), (by first | rfl | exact vint (by omega)), (by first | rfl | exact vint (by omega)), trivial⟩ (fun w S => S) ?_
      rintro ⟨i, ld, rl⟩ ⟨hLR, hi, htl⟩
      try dsimp only at *
      refine c_seq ?_
      refine c_region ?_
      refine o_bin rfl rfl rfl b_lss ?_
      refine l_nil ?_
      refine q_then ?_
      refine c_seq ?_
      refine c_cond rfl (fun h2 => ?_) (fun h2 => ?_)
      · -- h2T
        have h2b := h2
        try simp only [decide_eq_true_eq, decide_eq_false_iff_not, Bool.not_eq_eq_eq_not, Bool.not_true, Bool.not_false, Bool.not_eq_true', Bool.not_eq_false', Int.not_lt, Int.not_le, Bool.or_eq_true, Bool.and_eq_true] at h2
        refine c_skip ?_
        refine q_then ?_
        refine c_seq ?_
        refine c_block ?_
        refine c_seq ?_
        refine c_region ?_
        refine o_index e_Op_ok rfl rfl rfl Try.underlying22 (by omega) (by omega) (rds_old hs) fun ad65 ead65 => ?_
        obtain ⟨x65, hx65⟩ : ∃ x, (xs)[((i : Int)).toNat]? = some x := ⟨_, List.getElem?_eq_getElem (by omega)⟩
        have hm65 := List.mem_of_getElem? hx65
        have hvl := hgr2.2 _ hm65
        have rd_x65_f_Votes := (hg _ hm65).2.2.2.1.rd
        refine o_loadn (vs := e_Op.cells x65) rfl rfl Try.underlying34 rfl ti34 (rdn_sl e_Op_ok ead65 (rds_old hs) hx65) ?_
        refine o_alloc rfl ti34 fun b11 => ?_
        refine o_storen rfl rfl ti34 rfl rfl rfl rfl ?_
        refine l_nil ?_
        refine q_then ?_
        refine c_seq ?_
        refine c_seq ?_
        refine c_region ?_
        refine o_fieldAddr (q := ⟨b11, 0, none⟩) rfl rfl Try.underlying34 rfl ti3 rfl ?_
        refine o_load1 rfl rfl Try.underlying3 rfl (rd_mem 0 rfl rfl) ?_
        refine o_bin rfl rfl rfl (b_and rfl) ?_
        refine l_nil ?_
        refine q_then ?_
        refine c_block ?_
        refine c_seq ?_
        refine c_region ?_
        refine o_bin rfl rfl rfl b_eql ?_
        refine o_assign rfl rfl ?_
        refine l_nil ?_
        refine q_then ?_
        refine c_cond rfl (fun h3 => ?_) (fun h3 => ?_)
        · -- h3T
          have h3b := h3
          try simp only [decide_eq_true_eq, decide_eq_false_iff_not, Bool.not_eq_eq_eq_not, Bool.not_true, Bool.not_false, Bool.not_eq_true', Bool.not_eq_false', Int.not_lt, Int.not_le, Bool.or_eq_true, Bool.and_eq_true] at h3
          refine c_seq ?_
          refine c_region ?_
          refine o_fieldAddr (q := ⟨b11, 3, none⟩) rfl rfl Try.underlying34 rfl ti32 rfl ?_
          refine o_load1 rfl rfl Try.underlying32 rfl (rd_mem 0 rfl rfl) ?_
          refine o_call rfl cal12 rfl (votes_ (c := x65.f_Votes.c) (rds_old rd_x65_f_Votes) hvl) ?_
          rintro _ _ ⟨a100, c100, rfl, rfl⟩
          refine o_assign rfl rfl ?_
          refine l_nil ?_
          refine q_then ?_
          refine c_seq ?_
          refine c_region ?_
          refine o_move rfl rfl ?_
          refine o_fieldAddr (q := ⟨b11, 1, none⟩) rfl rfl Try.underlying34 rfl ti3 rfl ?_
          refine o_load1 rfl rfl Try.underlying3 rfl (rd_mem 1 rfl rfl) ?_
          refine o_move rfl rfl ?_
          refine l_f3 ?_
          refine o_call rfl cal13 rfl (promisedS (vs := x65.f_Votes.xs) (a := a100) (c := c100) (rds_own eVS_ok 0 rfl) (by first | decide | omega | (simp; omega))) ?_
          rintro _ _ ⟨rfl, rfl⟩
          refine l_nil ?_
          refine q_then ?_
          refine c_seq ?_
          refine c_region ?_
          refine o_move rfl rfl ?_
          refine o_fieldAddr (q := ⟨b11, 1, none⟩) rfl rfl Try.underlying34 rfl ti3 rfl ?_
          refine o_load1 rfl rfl Try.underlying3 rfl (rd_mem 2 rfl rfl) ?_
          refine o_fieldAddr (q := ⟨b11, 3, none⟩) rfl rfl Try.underlying34 rfl ti32 rfl ?_
          refine o_load1 rfl rfl Try.underlying32 rfl (rd_mem 2 rfl rfl) ?_
          refine l_f3 ?_
          refine o_call rfl cal14 rfl (rpromised (vs := x65.f_Votes.xs) (a := x65.f_Votes.a) (c := x65.f_Votes.c) (rds_old rd_x65_f_Votes) (by omega)) ?_
          rintro _ _ ⟨rfl, rfl⟩
          refine l_nil ?_
          refine q_then ?_
          refine c_seq ?_
          refine c_region ?_
          refine o_move rfl rfl ?_
          refine o_len rfl rfl Try.underlying35 ?_
          refine o_move rfl rfl ?_
          refine l_nil ?_
          refine q_then ?_
          refine c_block ?_
          refine c_loop (α := Nat × (List (Vt ByteArray))) (fun z => [(7, .pointer (some ⟨k29, 0, none⟩)), (9, .pointer (some ⟨mm, 0, none⟩)), (12, .slice a100 (z.2).length c100), (61, .slice a (xs).length c), (62, .int .i64 ((xs).length : Int)), (63, .int .i64 (i : Int)), (113, .int .i64 ((x65.f_Votes.xs).length : Int)), (114, .int .i64 (z.1 : Int))]) (fun z => RlR mm (rl.promised x65.f_Voter x65.f_Votes.xs) :: LdR k29 (ld.promised z0S x65.f_Voter x65.f_Votes.xs) :: row eVS.T eVS.sz a100 (z.2).length c100 (flat eVS z.2) :: blk b11 (.cells #[.int .i64 x65.f_Kind, .int .i64 x65.f_Voter, .int .i64 x65.f_Slot, .slice x65.f_Votes.a (x65.f_Votes.xs).length x65.f_Votes.c, .string x65.f_Value] 34 (0, 0)) :: F) (fun z => z.1 ≤ x65.f_Votes.xs.length ∧ z.2.length = x65.f_Votes.xs.length) (fun z => x65.f_Votes.xs.length - z.1) (0, x65.f_Votes.xs) (by exact ⟨Nat.zero_le _, rfl⟩) ⟨(by first | rfl | exact vint (by omega)), (by first | rfl | exact vint (by omega)), (by first | rfl | exact vint (by omega)), (by first | rfl | exact vint (by omega)), (by first | rfl | exact vint (by omega)), (by first | rfl | exact vint (by omega)), (by first | rfl | exact vint (by omega)), (by first | rfl | exact vint (by omega)), trivial⟩ (fun w S => S) ?_
          rintro ⟨j, ys⟩ ⟨hj, hyl⟩
          try dsimp only at *
          refine c_seq ?_
          refine c_region ?_
          refine o_bin rfl rfl rfl b_lss ?_
          refine l_nil ?_
          refine q_then ?_
          refine c_seq ?_
          refine c_cond rfl (fun h4 => ?_) (fun h4 => ?_)
          · -- h4T
            have h4b := h4
            try simp only [decide_eq_true_eq, decide_eq_false_iff_not, Bool.not_eq_eq_eq_not, Bool.not_true, Bool.not_false, Bool.not_eq_true', Bool.not_eq_false', Int.not_lt, Int.not_le, Bool.or_eq_true, Bool.and_eq_true] at h4
            refine c_skip ?_
            refine q_then ?_
            refine c_seq ?_
            refine c_block ?_
            refine c_seq ?_
            refine c_region ?_
            refine o_move rfl rfl ?_
            refine o_assign rfl rfl ?_
            refine l_nil ?_
            refine q_then ?_
            refine c_region ?_
            refine o_move rfl rfl ?_
            refine o_move rfl rfl ?_
            refine o_build rfl sp40 ti40 rfl rfl ?_
            skip
            refine o_index eVS_ok rfl rfl rfl Try.underlying35 (by omega) (by omega) (rds_own eVS_ok 2 rfl) fun ad120 ead120 => ?_
            obtain ⟨x120, hx120⟩ : ∃ x, (ys)[((j : Int)).toNat]? = some x := ⟨_, List.getElem?_eq_getElem (by omega)⟩
            refine l_f2 ?_
            refine o_storeRowAll eVS_ok ead120 rfl rfl ti40 ⟨0, 0, ByteArray.empty⟩ rfl (by have := List.getElem?_eq_some_iff.1 hx120; exact this.1) ?_
            refine l_nil ?_
            refine q_block ?_
            refine q_then ?_
            refine c_region ?_
            refine o_bin rfl rfl rfl (b_add (wrap_i64 (by omega) (by omega))) ?_
            refine o_move rfl rfl ?_
            refine l_nil ?_
            refine q_conv (fun w S => S.perm p3) ?_
            refine q_conv (fun w S => S.perm p1) ?_
            refine q_conv (fun w S => S.perm p3) ?_
            refine q_conv (fun w S => S.perm p3) ?_
            exact q_round (j + 1, (ys).set ((j : Int)).toNat ⟨0, 0, ByteArray.empty⟩) (by exact ⟨by omega, by rw [List.length_set]; exact hyl⟩) (by (try dsimp only); omega) ⟨(by first | rfl | exact vint (by omega)), (by first | rfl | exact vint (by omega)), (by rw [List.length_set]; rfl), (by first | rfl | exact vint (by omega)), (by first | rfl | exact vint (by omega)), (by first | rfl | exact vint (by omega)), (by first | rfl | exact vint (by omega)), (by first | rfl | exact vint (by omega)), trivial⟩ (fun w S => S)
          · -- h4F
            have h4b := h4
            try simp only [decide_eq_true_eq, decide_eq_false_iff_not, Bool.not_eq_eq_eq_not, Bool.not_true, Bool.not_false, Bool.not_eq_true', Bool.not_eq_false', Int.not_lt, Int.not_le, Bool.or_eq_true, Bool.and_eq_true] at h4
            refine c_exit ?_
            refine q_pass_exit ?_
            refine q_pass_exit ?_
            refine q_hit ?_
            refine q_block ?_
            refine q_then ?_
            refine c_seq ?_
            refine c_region ?_
            refine o_move rfl rfl ?_
            refine l_f1 ?_
            refine o_call rfl cal19 rfl (valueS) ?_
            rintro _ _ ⟨rfl, rfl⟩
            refine o_move rfl rfl ?_
            refine o_extract rfl rfl rfl ?_
            refine o_extract rfl rfl rfl ?_
            refine o_assign rfl rfl ?_
            refine o_assign rfl rfl ?_
            refine l_nil ?_
            refine q_then ?_
            refine c_seq ?_
            refine c_region ?_
            refine o_move rfl rfl ?_
            refine l_f1 ?_
            refine o_call rfl cal20 rfl (rvalue) ?_
            rintro _ _ ⟨rfl, rfl⟩
            refine o_move rfl rfl ?_
            refine o_extract rfl rfl rfl ?_
            refine o_extract rfl rfl rfl ?_
            refine o_assign rfl rfl ?_
            refine o_assign rfl rfl ?_
            refine l_nil ?_
            refine q_then ?_
            refine c_seq ?_
            refine c_held [RlR mm (rl.promised x65.f_Voter x65.f_Votes.xs), LdR k29 (ld.promised z0S x65.f_Voter x65.f_Votes.xs), row eVS.T eVS.sz a100 (ys).length c100 (flat eVS ys), blk b11 (.cells #[.int .i64 x65.f_Kind, .int .i64 x65.f_Voter, .int .i64 x65.f_Slot, .slice x65.f_Votes.a (x65.f_Votes.xs).length x65.f_Votes.c, .string x65.f_Value] 34 (0, 0))] (by kernel_rfl) rfl ?_
            refine h_take 0 rfl rfl (by kernel_rfl) (by kernel_rfl) (by kernel_rfl) (fun L0 => v_move rfl rfl) ?_
            refine h_take 1 rfl rfl (by kernel_rfl) (by kernel_rfl) (by kernel_rfl) (fun L0 => v_move rfl rfl) ?_
            refine h_take 2 rfl rfl (by kernel_rfl) (by kernel_rfl) (by kernel_rfl) (fun L0 => v_bin rfl rfl rfl b_sneq) ?_
            refine h_eq (t := 145) (v' := .bool false) rfl (show _ = Value.bool false from by rw [lr_value (lr_promised hLR _ _)]; simp) ?_
            refine h_take 3 rfl rfl (by kernel_rfl) (by kernel_rfl) (by kernel_rfl) (fun L0 => v_move rfl rfl) ?_
            refine h_take_yes 4 rfl rfl rfl rfl rfl (by kernel_rfl) (by kernel_rfl) (by kernel_rfl) (fun L0 => v_move rfl rfl) ?_
            refine h_take_yes 5 rfl rfl rfl rfl rfl (by kernel_rfl) (by kernel_rfl) (by kernel_rfl) (fun L0 => v_move rfl rfl) ?_
            refine h_take_yes 6 rfl rfl rfl rfl rfl (by kernel_rfl) (by kernel_rfl) (by kernel_rfl) (fun L0 => v_bin rfl rfl rfl (b_bne Try.underlying4 _ _)) ?_
            refine h_eq (t := 149) (v' := .bool false) rfl (show _ = Value.bool false from by rw [lr_value (lr_promised hLR _ _)]; simp) ?_
            refine h_take 7 rfl rfl (by kernel_rfl) (by kernel_rfl) (by kernel_rfl) (fun L0 => v_pick_false rfl rfl rfl) ?_
            refine h_take 8 rfl rfl (by kernel_rfl) (by kernel_rfl) (by kernel_rfl) (fun L0 => v_move rfl rfl) ?_
            refine h_take_yes 9 rfl rfl rfl rfl rfl (by kernel_rfl) (by kernel_rfl) (by kernel_rfl) (fun L0 => v_move rfl rfl) ?_
            refine h_take_yes 11 rfl rfl rfl rfl rfl (by kernel_rfl) (by kernel_rfl) (by kernel_rfl) (fun L0 => v_move rfl rfl) ?_
            refine h_one 10 rfl (by kernel_rfl) ?_
            refine o_yes rfl rfl rfl ?_
            refine l_f1 ?_
            refine o_call rfl cal21 rfl (leadsS) ?_
            rintro _ _ ⟨rfl, rfl⟩
            refine l_nil ?_
            refine q_conv (fun w S => S.perm p3) ?_
            refine q_conv (fun w S => S.perm p3) ?_
            refine q_conv (fun w S => S.perm p2) ?_
            refine q_conv (fun w S => S.perm p3) ?_
            refine h_next ?_
            refine h_one 12 rfl (by kernel_rfl) ?_
            refine o_yes rfl rfl rfl ?_
            refine o_call rfl cal22 rfl (rleads) ?_
            rintro _ _ ⟨rfl, rfl⟩
            refine l_nil ?_
            refine h_next ?_
            refine h_take_yes 13 rfl rfl rfl rfl rfl (by kernel_rfl) (by kernel_rfl) (by kernel_rfl) (fun L0 => v_bin rfl rfl rfl (b_bne Try.underlying4 _ _)) ?_
            refine h_eq (t := 156) (v' := .bool false) rfl (show _ = Value.bool false from by rw [lr_leads (lr_promised hLR _ _)]; simp) ?_
            refine h_take 14 rfl rfl (by kernel_rfl) (by kernel_rfl) (by kernel_rfl) (fun L0 => v_pick_false rfl rfl rfl) ?_
            refine h_take 15 rfl rfl (by kernel_rfl) (by kernel_rfl) (by kernel_rfl) (fun L0 => v_move rfl rfl) ?_
            refine h_take_yes 16 rfl rfl rfl rfl rfl (by kernel_rfl) (by kernel_rfl) (by kernel_rfl) (fun L0 => v_move rfl rfl) ?_
            refine h_take_yes 18 rfl rfl rfl rfl rfl (by kernel_rfl) (by kernel_rfl) (by kernel_rfl) (fun L0 => v_move rfl rfl) ?_
            refine h_take_yes 19 rfl rfl rfl rfl rfl (by kernel_rfl) (by kernel_rfl) (by kernel_rfl) (fun L0 => v_nil rfl rfl) ?_
            refine h_take_yes 20 rfl rfl rfl rfl rfl (by kernel_rfl) (by kernel_rfl) (by kernel_rfl) (fun L0 => v_fieldAddr (q := ⟨mm, 1, none⟩) rfl rfl Try.underlying48 rfl ti3 rfl) ?_
            refine h_take_yes 21 rfl rfl rfl rfl rfl (by kernel_rfl) (by kernel_rfl) (by kernel_rfl) (fun L0 => v_load1 rfl rfl Try.underlying3 rfl (rd_obj 0 rfl (fun x hp L' => (rd_mem 0 rfl (sg_arr (sg_in rfl)))))) ?_
            refine h_one 17 rfl (by kernel_rfl) ?_
            refine o_yes rfl rfl rfl ?_
            refine l_f1 ?_
            refine o_call rfl cal23 rfl (slotS) ?_
            rintro _ _ ⟨rfl, rfl⟩
            refine l_nil ?_
            refine q_conv (fun w S => S.perm p3) ?_
            refine q_conv (fun w S => S.perm p3) ?_
            refine q_conv (fun w S => S.perm p2) ?_
            refine q_conv (fun w S => S.perm p3) ?_
            refine h_next ?_
            refine h_take_yes 22 rfl rfl rfl rfl rfl (by kernel_rfl) (by kernel_rfl) (by kernel_rfl) (fun L0 => v_bin rfl rfl rfl b_neq) ?_
            refine h_eq (t := 165) (v' := .bool false) rfl (show _ = Value.bool false from by rw [(lr_promised hLR _ _).ss]; simp) ?_
            refine h_take 23 rfl rfl (by kernel_rfl) (by kernel_rfl) (by kernel_rfl) (fun L0 => v_pick_false rfl rfl rfl) ?_
            refine h_done (by kernel_rfl) ?_
            refine q_then ?_
            refine c_false rfl ?_
            refine c_skip ?_
            refine q_block ?_
            refine q_then ?_
            refine c_region ?_
            refine o_bin rfl rfl rfl (b_add (wrap_i64 (by omega) (by omega))) ?_
            refine o_move rfl rfl ?_
            refine l_nil ?_
            refine q_conv (fun w S => (S.perm p2).tail) ?_
            refine q_conv (fun w S => (S.perm p2).tail) ?_
            exact q_round (i + 1, (ld.promised z0S x65.f_Voter x65.f_Votes.xs), (rl.promised x65.f_Voter x65.f_Votes.xs)) (by exact ⟨lr_promised hLR _ _, by omega, by (try dsimp only); first | (have := told_promised (r := rl) (i := x65.f_Voter) (vs := x65.f_Votes.xs); omega) | (rw [show (rl.offer x65.f_Value).2.told = rl.told from told_offer]; omega) | (rw [show (rl.taken x65.f_Voter x65.f_Slot).2.told = rl.told from told_taken]; omega)⟩) (by (try dsimp only); omega) ⟨(by first | rfl | exact vint (by omega)), (by first | rfl | exact vint (by omega)), (by first | rfl | exact vint (by omega)), (by first | rfl | exact vint (by omega)), (by first | rfl | exact vint (by omega)), trivial⟩ (fun w S => S)
        · -- h3F
          have h3b := h3
          try simp only [decide_eq_true_eq, decide_eq_false_iff_not, Bool.not_eq_eq_eq_not, Bool.not_true, Bool.not_false, Bool.not_eq_true', Bool.not_eq_false', Int.not_lt, Int.not_le, Bool.or_eq_true, Bool.and_eq_true] at h3
          refine c_seq ?_
          refine c_region ?_
          refine o_bin rfl rfl rfl b_eql ?_
          refine o_assign rfl rfl ?_
          refine l_nil ?_
          refine q_then ?_
          refine c_cond rfl (fun h5 => ?_) (fun h5 => ?_)
          · -- h5T
            have h5b := h5
            try simp only [decide_eq_true_eq, decide_eq_false_iff_not, Bool.not_eq_eq_eq_not, Bool.not_true, Bool.not_false, Bool.not_eq_true', Bool.not_eq_false', Int.not_lt, Int.not_le, Bool.or_eq_true, Bool.and_eq_true] at h5
            refine c_seq ?_
            refine c_conv (fun w S => S.perm p2) ?_
            refine c_obj ?_
            rintro ⟨m1_1, m2_1, m3_1, a_1, c_1⟩ ok_1
            have s0_ok_1 := ok_1.s0
            have s1_ok_1 := ok_1.s1
            have v0_ok_1 := ok_1.v0
            have v1_ok_1 := ok_1.v1
            refine c_conv (L' := blk k29 (.cells #[.int .u64 ld.ballot, .int .i64 ld.voters, .int .i64 ld.slot, .map (some m1_1), .map (some m2_1), .slice a_1 (ld.off).length c_1, .map (some m3_1)] 85 (0, 0)) :: mapR kvI vvI m1_1 ld.prom :: mapR kvI vvVS m2_1 ld.told :: mapR kvI vvI m3_1 ld.tak :: row e_S.T e_S.sz a_1 (ld.off).length c_1 (flat e_S ld.off) :: _) (fun w S => S) ?_
            refine c_conv (fun w S => S.perm p6) ?_
            refine c_obj ?_
            rintro ⟨a_2, c_2⟩ ok_2
            have s0_ok_2 := ok_2.s0
            have s1_ok_2 := ok_2.s1
            have v0_ok_2 := ok_2.v0
            have v1_ok_2 := ok_2.v1
            refine c_conv (L' := blk mm (.cells (([.int .i64 rl.V, .int .i64 rl.S] : List Value) ++ ((flat e_B rl.pr) ++ (([.slice a_2 (rl.told).length c_2, .string rl.off, .bool rl.has] : List Value) ++ (flat e_B rl.tk)))).toArray 48 (0, 0)) :: row eVR.T eVR.sz a_2 (rl.told).length c_2 (flat eVR rl.told) :: _) (fun w S => S) ?_
            refine c_conv (fun w S => S.perm p6) ?_
            refine c_conv (fun w S => S.perm p6) ?_
            refine c_conv (fun w S => S.perm p6) ?_
            refine c_conv (fun w S => S.perm p6) ?_
            refine c_conv (fun w S => S.perm p6) ?_
            refine c_conv (fun w S => S.perm p6) ?_
            refine c_conv (fun w S => S.perm p6) ?_
            refine c_conv (fun w S => S.perm p7) ?_
            refine c_held [blk b11 (.cells #[.int .i64 x65.f_Kind, .int .i64 x65.f_Voter, .int .i64 x65.f_Slot, .slice x65.f_Votes.a (x65.f_Votes.xs).length x65.f_Votes.c, .string x65.f_Value] 34 (0, 0))] (by kernel_rfl) rfl ?_
            refine h_take 0 rfl rfl (by kernel_rfl) (by kernel_rfl) (by kernel_rfl) (fun L0 => v_move rfl rfl) ?_
            refine h_take 1 rfl rfl (by kernel_rfl) (by kernel_rfl) (by kernel_rfl) (fun L0 => v_fieldAddr (q := ⟨b11, 4, none⟩) rfl rfl Try.underlying34 rfl ti9 rfl) ?_
            refine h_take 2 rfl rfl (by kernel_rfl) (by kernel_rfl) (by kernel_rfl) (fun L0 => v_load1 rfl rfl Try.underlying9 rfl (rd_mem 0 rfl rfl)) ?_
            refine h_take 4 rfl rfl (by kernel_rfl) (by kernel_rfl) (by kernel_rfl) (fun L0 => v_move rfl rfl) ?_
            refine h_take 5 rfl rfl (by kernel_rfl) (by kernel_rfl) (by kernel_rfl) (fun L0 => v_fieldAddr (q := ⟨b11, 4, none⟩) rfl rfl Try.underlying34 rfl ti9 rfl) ?_
            refine h_take 6 rfl rfl (by kernel_rfl) (by kernel_rfl) (by kernel_rfl) (fun L0 => v_load1 rfl rfl Try.underlying9 rfl (rd_mem 0 rfl rfl)) ?_
            refine h_one 3 rfl (by kernel_rfl) ?_
            refine l_conv (fun w S => S.perm p2) ?_
            refine l_conv (fun w S => S.perm p2) ?_
            refine l_conv (fun w S => S.perm p2) ?_
            refine l_conv (fun w S => S.perm p7) ?_
            refine l_conv (fun w S => S.perm p7) ?_
            refine l_conv (fun w S => S.perm p7) ?_
            refine l_conv (fun w S => S.perm p7) ?_
            refine l_conv (fun w S => S.perm p7) ?_
            refine l_conv (L' := LdR k29 ld :: _) (fun w S => Sat.obj_mk ⟨m1_1, m2_1, m3_1, a_1, c_1⟩ ok_1 S) ?_
            refine o_call rfl cal15 rfl (offerS) ?_
            rintro _ _ ⟨rfl, rfl⟩
            refine l_nil ?_
            refine q_conv (fun w S => S.perm p3) ?_
            refine q_conv (fun w S => S.perm p3) ?_
            refine q_conv (fun w S => S.perm p2) ?_
            refine q_conv (fun w S => S.perm p3) ?_
            refine h_next ?_
            refine h_one 7 rfl (by kernel_rfl) ?_
            refine l_conv (fun w S => S.perm p1) ?_
            refine l_conv (fun w S => S.perm p1) ?_
            refine l_conv (fun w S => S.perm p3) ?_
            refine l_conv (fun w S => S.perm p3) ?_
            refine l_conv (L' := RlR mm rl :: _) (fun w S => Sat.obj_mk ⟨a_2, c_2⟩ ok_2 S) ?_
            refine o_call rfl cal16 rfl (roffer) ?_
            rintro _ _ ⟨rfl, rfl⟩
            refine l_nil ?_
            refine q_conv (fun w S => S.perm p2) ?_
            refine q_conv (fun w S => S.perm p1) ?_
            refine q_conv (fun w S => S.perm p2) ?_
            refine h_next ?_
            refine h_take 8 rfl rfl (by kernel_rfl) (by kernel_rfl) (by kernel_rfl) (fun L0 => v_bin rfl rfl rfl (b_bne Try.underlying4 _ _)) ?_
            refine h_eq (t := 132) (v' := .bool false) rfl (show _ = Value.bool false from by rw [(lr_offer hLR _).1]; simp) ?_
            refine h_done (by kernel_rfl) ?_
            refine q_then ?_
            refine c_false rfl ?_
            refine c_skip ?_
            refine q_block ?_
            refine q_then ?_
            refine c_seq ?_
            refine c_region ?_
            refine o_move rfl rfl ?_
            refine l_f2 ?_
            refine o_call rfl cal19 rfl (valueS) ?_
            rintro _ _ ⟨rfl, rfl⟩
            refine o_move rfl rfl ?_
            refine o_extract rfl rfl rfl ?_
            refine o_extract rfl rfl rfl ?_
            refine o_assign rfl rfl ?_
            refine o_assign rfl rfl ?_
            refine l_nil ?_
            refine q_then ?_
            refine c_seq ?_
            refine c_region ?_
            refine o_move rfl rfl ?_
            refine l_f2 ?_
            refine o_call rfl cal20 rfl (rvalue) ?_
            rintro _ _ ⟨rfl, rfl⟩
            refine o_move rfl rfl ?_
            refine o_extract rfl rfl rfl ?_
            refine o_extract rfl rfl rfl ?_
            refine o_assign rfl rfl ?_
            refine o_assign rfl rfl ?_
            refine l_nil ?_
            refine q_then ?_
            refine c_seq ?_
            refine c_held [RlR mm ((rl.offer x65.f_Value).2), LdR k29 ((ld.offer ByteArray.empty x65.f_Value).2), blk b11 (.cells #[.int .i64 x65.f_Kind, .int .i64 x65.f_Voter, .int .i64 x65.f_Slot, .slice x65.f_Votes.a (x65.f_Votes.xs).length x65.f_Votes.c, .string x65.f_Value] 34 (0, 0))] (by kernel_rfl) rfl ?_
            refine h_take 0 rfl rfl (by kernel_rfl) (by kernel_rfl) (by kernel_rfl) (fun L0 => v_move rfl rfl) ?_
            refine h_take 1 rfl rfl (by kernel_rfl) (by kernel_rfl) (by kernel_rfl) (fun L0 => v_move rfl rfl) ?_
            refine h_take 2 rfl rfl (by kernel_rfl) (by kernel_rfl) (by kernel_rfl) (fun L0 => v_bin rfl rfl rfl b_sneq) ?_
            refine h_eq (t := 145) (v' := .bool false) rfl (show _ = Value.bool false from by rw [lr_value ((lr_offer hLR _).2)]; simp) ?_
            refine h_take 3 rfl rfl (by kernel_rfl) (by kernel_rfl) (by kernel_rfl) (fun L0 => v_move rfl rfl) ?_
            refine h_take_yes 4 rfl rfl rfl rfl rfl (by kernel_rfl) (by kernel_rfl) (by kernel_rfl) (fun L0 => v_move rfl rfl) ?_
            refine h_take_yes 5 rfl rfl rfl rfl rfl (by kernel_rfl) (by kernel_rfl) (by kernel_rfl) (fun L0 => v_move rfl rfl) ?_
            refine h_take_yes 6 rfl rfl rfl rfl rfl (by kernel_rfl) (by kernel_rfl) (by kernel_rfl) (fun L0 => v_bin rfl rfl rfl (b_bne Try.underlying4 _ _)) ?_
            refine h_eq (t := 149) (v' := .bool false) rfl (show _ = Value.bool false from by rw [lr_value ((lr_offer hLR _).2)]; simp) ?_
            refine h_take 7 rfl rfl (by kernel_rfl) (by kernel_rfl) (by kernel_rfl) (fun L0 => v_pick_false rfl rfl rfl) ?_
            refine h_take 8 rfl rfl (by kernel_rfl) (by kernel_rfl) (by kernel_rfl) (fun L0 => v_move rfl rfl) ?_
            refine h_take_yes 9 rfl rfl rfl rfl rfl (by kernel_rfl) (by kernel_rfl) (by kernel_rfl) (fun L0 => v_move rfl rfl) ?_
            refine h_take_yes 11 rfl rfl rfl rfl rfl (by kernel_rfl) (by kernel_rfl) (by kernel_rfl) (fun L0 => v_move rfl rfl) ?_
            refine h_one 10 rfl (by kernel_rfl) ?_
            refine o_yes rfl rfl rfl ?_
            refine l_f1 ?_
            refine o_call rfl cal21 rfl (leadsS) ?_
            rintro _ _ ⟨rfl, rfl⟩
            refine l_nil ?_
            refine q_conv (fun w S => S.perm p2) ?_
            refine q_conv (fun w S => S.perm p1) ?_
            refine q_conv (fun w S => S.perm p2) ?_
            refine h_next ?_
            refine h_one 12 rfl (by kernel_rfl) ?_
            refine o_yes rfl rfl rfl ?_
            refine o_call rfl cal22 rfl (rleads) ?_
            rintro _ _ ⟨rfl, rfl⟩
            refine l_nil ?_
            refine h_next ?_
            refine h_take_yes 13 rfl rfl rfl rfl rfl (by kernel_rfl) (by kernel_rfl) (by kernel_rfl) (fun L0 => v_bin rfl rfl rfl (b_bne Try.underlying4 _ _)) ?_
            refine h_eq (t := 156) (v' := .bool false) rfl (show _ = Value.bool false from by rw [lr_leads ((lr_offer hLR _).2)]; simp) ?_
            refine h_take 14 rfl rfl (by kernel_rfl) (by kernel_rfl) (by kernel_rfl) (fun L0 => v_pick_false rfl rfl rfl) ?_
            refine h_take 15 rfl rfl (by kernel_rfl) (by kernel_rfl) (by kernel_rfl) (fun L0 => v_move rfl rfl) ?_
            refine h_take_yes 16 rfl rfl rfl rfl rfl (by kernel_rfl) (by kernel_rfl) (by kernel_rfl) (fun L0 => v_move rfl rfl) ?_
            refine h_take_yes 18 rfl rfl rfl rfl rfl (by kernel_rfl) (by kernel_rfl) (by kernel_rfl) (fun L0 => v_move rfl rfl) ?_
            refine h_take_yes 19 rfl rfl rfl rfl rfl (by kernel_rfl) (by kernel_rfl) (by kernel_rfl) (fun L0 => v_nil rfl rfl) ?_
            refine h_take_yes 20 rfl rfl rfl rfl rfl (by kernel_rfl) (by kernel_rfl) (by kernel_rfl) (fun L0 => v_fieldAddr (q := ⟨mm, 1, none⟩) rfl rfl Try.underlying48 rfl ti3 rfl) ?_
            refine h_take_yes 21 rfl rfl rfl rfl rfl (by kernel_rfl) (by kernel_rfl) (by kernel_rfl) (fun L0 => v_load1 rfl rfl Try.underlying3 rfl (rd_obj 0 rfl (fun x hp L' => (rd_mem 0 rfl (sg_arr (sg_in rfl)))))) ?_
            refine h_one 17 rfl (by kernel_rfl) ?_
            refine o_yes rfl rfl rfl ?_
            refine l_f1 ?_
            refine o_call rfl cal23 rfl (slotS) ?_
            rintro _ _ ⟨rfl, rfl⟩
            refine l_nil ?_
            refine q_conv (fun w S => S.perm p2) ?_
            refine q_conv (fun w S => S.perm p1) ?_
            refine q_conv (fun w S => S.perm p2) ?_
            refine h_next ?_
            refine h_take_yes 22 rfl rfl rfl rfl rfl (by kernel_rfl) (by kernel_rfl) (by kernel_rfl) (fun L0 => v_bin rfl rfl rfl b_neq) ?_
            refine h_eq (t := 165) (v' := .bool false) rfl (show _ = Value.bool false from by rw [((lr_offer hLR _).2).ss]; simp) ?_
            refine h_take 23 rfl rfl (by kernel_rfl) (by kernel_rfl) (by kernel_rfl) (fun L0 => v_pick_false rfl rfl rfl) ?_
            refine h_done (by kernel_rfl) ?_
            refine q_then ?_
            refine c_false rfl ?_
            refine c_skip ?_
            refine q_block ?_
            refine q_then ?_
            refine c_region ?_
            refine o_bin rfl rfl rfl (b_add (wrap_i64 (by omega) (by omega))) ?_
            refine o_move rfl rfl ?_
            refine l_nil ?_
            refine q_conv (fun w S => (S.perm p2).tail) ?_
            exact q_round (i + 1, (ld.offer ByteArray.empty x65.f_Value).2, (rl.offer x65.f_Value).2) (by exact ⟨(lr_offer hLR _).2, by omega, by (try dsimp only); first | (have := told_promised (r := rl) (i := x65.f_Voter) (vs := x65.f_Votes.xs); omega) | (rw [show (rl.offer x65.f_Value).2.told = rl.told from told_offer]; omega) | (rw [show (rl.taken x65.f_Voter x65.f_Slot).2.told = rl.told from told_taken]; omega)⟩) (by (try dsimp only); omega) ⟨(by first | rfl | exact vint (by omega)), (by first | rfl | exact vint (by omega)), (by first | rfl | exact vint (by omega)), (by first | rfl | exact vint (by omega)), (by first | rfl | exact vint (by omega)), trivial⟩ (fun w S => S)
          · -- h5F
            have h5b := h5
            try simp only [decide_eq_true_eq, decide_eq_false_iff_not, Bool.not_eq_eq_eq_not, Bool.not_true, Bool.not_false, Bool.not_eq_true', Bool.not_eq_false', Int.not_lt, Int.not_le, Bool.or_eq_true, Bool.and_eq_true] at h5
            refine c_seq ?_
            refine c_region ?_
            refine o_move rfl rfl ?_
            refine o_fieldAddr (q := ⟨b11, 1, none⟩) rfl rfl Try.underlying34 rfl ti3 rfl ?_
            refine o_load1 rfl rfl Try.underlying3 rfl (rd_mem 0 rfl rfl) ?_
            refine o_fieldAddr (q := ⟨b11, 2, none⟩) rfl rfl Try.underlying34 rfl ti3 rfl ?_
            refine o_load1 rfl rfl Try.underlying3 rfl (rd_mem 0 rfl rfl) ?_
            refine l_f2 ?_
            refine o_call rfl cal17 rfl (takenS) ?_
            rintro _ _ ⟨rfl, rfl⟩
            refine o_move rfl rfl ?_
            refine o_extract rfl rfl rfl ?_
            refine o_extract rfl rfl rfl ?_
            refine o_assign rfl rfl ?_
            refine o_assign rfl rfl ?_
            refine l_nil ?_
            refine q_then ?_
            refine c_seq ?_
            refine c_region ?_
            refine o_move rfl rfl ?_
            refine o_fieldAddr (q := ⟨b11, 1, none⟩) rfl rfl Try.underlying34 rfl ti3 rfl ?_
            refine o_load1 rfl rfl Try.underlying3 rfl (rd_mem 1 rfl rfl) ?_
            refine o_fieldAddr (q := ⟨b11, 2, none⟩) rfl rfl Try.underlying34 rfl ti3 rfl ?_
            refine o_load1 rfl rfl Try.underlying3 rfl (rd_mem 1 rfl rfl) ?_
            refine l_f2 ?_
            refine o_call rfl cal18 rfl (rtaken) ?_
            rintro _ _ ⟨rfl, rfl⟩
            refine o_move rfl rfl ?_
            refine o_extract rfl rfl rfl ?_
            refine o_extract rfl rfl rfl ?_
            refine o_assign rfl rfl ?_
            refine o_assign rfl rfl ?_
            refine l_nil ?_
            refine q_then ?_
            refine c_seq ?_
            refine c_region ?_
            refine o_move rfl rfl ?_
            refine o_move rfl rfl ?_
            refine o_bin rfl rfl rfl b_sneq ?_
            refine l_eq (t := 90) (v' := .bool false) rfl (show _ = Value.bool false from by rw [(lr_taken hLR _ _).1]; simp) ?_
            refine o_move rfl rfl ?_
            refine o_yes rfl rfl rfl ?_
            refine o_move rfl rfl ?_
            refine o_yes rfl rfl rfl ?_
            refine o_move rfl rfl ?_
            refine o_yes rfl rfl rfl ?_
            refine o_bin rfl rfl rfl (b_bne Try.underlying4 _ _) ?_
            refine l_eq (t := 94) (v' := .bool false) rfl (show _ = Value.bool false from by rw [(lr_taken hLR _ _).1]; simp) ?_
            refine o_pick_false rfl rfl rfl ?_
            refine l_nil ?_
            refine q_then ?_
            refine c_false rfl ?_
            refine c_skip ?_
            refine q_block ?_
            refine q_then ?_
            refine c_seq ?_
            refine c_region ?_
            refine o_move rfl rfl ?_
            refine l_f1 ?_
            refine o_call rfl cal19 rfl (valueS) ?_
            rintro _ _ ⟨rfl, rfl⟩
            refine o_move rfl rfl ?_
            refine o_extract rfl rfl rfl ?_
            refine o_extract rfl rfl rfl ?_
            refine o_assign rfl rfl ?_
            refine o_assign rfl rfl ?_
            refine l_nil ?_
            refine q_then ?_
            refine c_seq ?_
            refine c_region ?_
            refine o_move rfl rfl ?_
            refine l_f1 ?_
            refine o_call rfl cal20 rfl (rvalue) ?_
            rintro _ _ ⟨rfl, rfl⟩
            refine o_move rfl rfl ?_
            refine o_extract rfl rfl rfl ?_
            refine o_extract rfl rfl rfl ?_
            refine o_assign rfl rfl ?_
            refine o_assign rfl rfl ?_
            refine l_nil ?_
            refine q_then ?_
            refine c_seq ?_
            refine c_held [RlR mm ((rl.taken x65.f_Voter x65.f_Slot).2), LdR k29 ((ld.taken ByteArray.empty x65.f_Voter x65.f_Slot).2), blk b11 (.cells #[.int .i64 x65.f_Kind, .int .i64 x65.f_Voter, .int .i64 x65.f_Slot, .slice x65.f_Votes.a (x65.f_Votes.xs).length x65.f_Votes.c, .string x65.f_Value] 34 (0, 0))] (by kernel_rfl) rfl ?_
            refine h_take 0 rfl rfl (by kernel_rfl) (by kernel_rfl) (by kernel_rfl) (fun L0 => v_move rfl rfl) ?_
            refine h_take 1 rfl rfl (by kernel_rfl) (by kernel_rfl) (by kernel_rfl) (fun L0 => v_move rfl rfl) ?_
            refine h_take 2 rfl rfl (by kernel_rfl) (by kernel_rfl) (by kernel_rfl) (fun L0 => v_bin rfl rfl rfl b_sneq) ?_
            refine h_eq (t := 145) (v' := .bool false) rfl (show _ = Value.bool false from by rw [lr_value ((lr_taken hLR _ _).2)]; simp) ?_
            refine h_take 3 rfl rfl (by kernel_rfl) (by kernel_rfl) (by kernel_rfl) (fun L0 => v_move rfl rfl) ?_
            refine h_take_yes 4 rfl rfl rfl rfl rfl (by kernel_rfl) (by kernel_rfl) (by kernel_rfl) (fun L0 => v_move rfl rfl) ?_
            refine h_take_yes 5 rfl rfl rfl rfl rfl (by kernel_rfl) (by kernel_rfl) (by kernel_rfl) (fun L0 => v_move rfl rfl) ?_
            refine h_take_yes 6 rfl rfl rfl rfl rfl (by kernel_rfl) (by kernel_rfl) (by kernel_rfl) (fun L0 => v_bin rfl rfl rfl (b_bne Try.underlying4 _ _)) ?_
            refine h_eq (t := 149) (v' := .bool false) rfl (show _ = Value.bool false from by rw [lr_value ((lr_taken hLR _ _).2)]; simp) ?_
            refine h_take 7 rfl rfl (by kernel_rfl) (by kernel_rfl) (by kernel_rfl) (fun L0 => v_pick_false rfl rfl rfl) ?_
            refine h_take 8 rfl rfl (by kernel_rfl) (by kernel_rfl) (by kernel_rfl) (fun L0 => v_move rfl rfl) ?_
            refine h_take_yes 9 rfl rfl rfl rfl rfl (by kernel_rfl) (by kernel_rfl) (by kernel_rfl) (fun L0 => v_move rfl rfl) ?_
            refine h_take_yes 11 rfl rfl rfl rfl rfl (by kernel_rfl) (by kernel_rfl) (by kernel_rfl) (fun L0 => v_move rfl rfl) ?_
            refine h_one 10 rfl (by kernel_rfl) ?_
            refine o_yes rfl rfl rfl ?_
            refine l_f1 ?_
            refine o_call rfl cal21 rfl (leadsS) ?_
            rintro _ _ ⟨rfl, rfl⟩
            refine l_nil ?_
            refine q_conv (fun w S => S.perm p2) ?_
            refine q_conv (fun w S => S.perm p1) ?_
            refine q_conv (fun w S => S.perm p2) ?_
            refine h_next ?_
            refine h_one 12 rfl (by kernel_rfl) ?_
            refine o_yes rfl rfl rfl ?_
            refine o_call rfl cal22 rfl (rleads) ?_
            rintro _ _ ⟨rfl, rfl⟩
            refine l_nil ?_
            refine h_next ?_
            refine h_take_yes 13 rfl rfl rfl rfl rfl (by kernel_rfl) (by kernel_rfl) (by kernel_rfl) (fun L0 => v_bin rfl rfl rfl (b_bne Try.underlying4 _ _)) ?_
            refine h_eq (t := 156) (v' := .bool false) rfl (show _ = Value.bool false from by rw [lr_leads ((lr_taken hLR _ _).2)]; simp) ?_
            refine h_take 14 rfl rfl (by kernel_rfl) (by kernel_rfl) (by kernel_rfl) (fun L0 => v_pick_false rfl rfl rfl) ?_
            refine h_take 15 rfl rfl (by kernel_rfl) (by kernel_rfl) (by kernel_rfl) (fun L0 => v_move rfl rfl) ?_
            refine h_take_yes 16 rfl rfl rfl rfl rfl (by kernel_rfl) (by kernel_rfl) (by kernel_rfl) (fun L0 => v_move rfl rfl) ?_
            refine h_take_yes 18 rfl rfl rfl rfl rfl (by kernel_rfl) (by kernel_rfl) (by kernel_rfl) (fun L0 => v_move rfl rfl) ?_
            refine h_take_yes 19 rfl rfl rfl rfl rfl (by kernel_rfl) (by kernel_rfl) (by kernel_rfl) (fun L0 => v_nil rfl rfl) ?_
            refine h_take_yes 20 rfl rfl rfl rfl rfl (by kernel_rfl) (by kernel_rfl) (by kernel_rfl) (fun L0 => v_fieldAddr (q := ⟨mm, 1, none⟩) rfl rfl Try.underlying48 rfl ti3 rfl) ?_
            refine h_take_yes 21 rfl rfl rfl rfl rfl (by kernel_rfl) (by kernel_rfl) (by kernel_rfl) (fun L0 => v_load1 rfl rfl Try.underlying3 rfl (rd_obj 0 rfl (fun x hp L' => (rd_mem 0 rfl (sg_arr (sg_in rfl)))))) ?_
            refine h_one 17 rfl (by kernel_rfl) ?_
            refine o_yes rfl rfl rfl ?_
            refine l_f1 ?_
            refine o_call rfl cal23 rfl (slotS) ?_
            rintro _ _ ⟨rfl, rfl⟩
            refine l_nil ?_
            refine q_conv (fun w S => S.perm p2) ?_
            refine q_conv (fun w S => S.perm p1) ?_
            refine q_conv (fun w S => S.perm p2) ?_
            refine h_next ?_
            refine h_take_yes 22 rfl rfl rfl rfl rfl (by kernel_rfl) (by kernel_rfl) (by kernel_rfl) (fun L0 => v_bin rfl rfl rfl b_neq) ?_
            refine h_eq (t := 165) (v' := .bool false) rfl (show _ = Value.bool false from by rw [((lr_taken hLR _ _).2).ss]; simp) ?_
            refine h_take 23 rfl rfl (by kernel_rfl) (by kernel_rfl) (by kernel_rfl) (fun L0 => v_pick_false rfl rfl rfl) ?_
            refine h_done (by kernel_rfl) ?_
            refine q_then ?_
            refine c_false rfl ?_
            refine c_skip ?_
            refine q_block ?_
            refine q_then ?_
            refine c_region ?_
            refine o_bin rfl rfl rfl (b_add (wrap_i64 (by omega) (by omega))) ?_
            refine o_move rfl rfl ?_
            refine l_nil ?_
            refine q_conv (fun w S => (S.perm p2).tail) ?_
            exact q_round (i + 1, (ld.taken ByteArray.empty x65.f_Voter x65.f_Slot).2, (rl.taken x65.f_Voter x65.f_Slot).2) (by exact ⟨(lr_taken hLR _ _).2, by omega, by (try dsimp only); first | (have := told_promised (r := rl) (i := x65.f_Voter) (vs := x65.f_Votes.xs); omega) | (rw [show (rl.offer x65.f_Value).2.told = rl.told from told_offer]; omega) | (rw [show (rl.taken x65.f_Voter x65.f_Slot).2.told = rl.told from told_taken]; omega)⟩) (by (try dsimp only); omega) ⟨(by first | rfl | exact vint (by omega)), (by first | rfl | exact vint (by omega)), (by first | rfl | exact vint (by omega)), (by first | rfl | exact vint (by omega)), (by first | rfl | exact vint (by omega)), trivial⟩ (fun w S => S)
      · -- h2F
        have h2b := h2
        try simp only [decide_eq_true_eq, decide_eq_false_iff_not, Bool.not_eq_eq_eq_not, Bool.not_true, Bool.not_false, Bool.not_eq_true', Bool.not_eq_false', Int.not_lt, Int.not_le, Bool.or_eq_true, Bool.and_eq_true] at h2
        refine c_exit ?_
        refine q_pass_exit ?_
        refine q_pass_exit ?_
        refine q_hit ?_
        refine q_then ?_
        refine c_seq ?_
        refine c_region ?_
        refine o_assign rfl rfl ?_
        refine l_nil ?_
        refine q_then ?_
        refine c_ret ?_
        refine q_conv (fun w S => S.tail) ?_
        refine q_conv (fun w S => S.tail) ?_
        exact f_ret (r_one rfl rfl) (⟨rfl, rfl⟩) (fun w S => S)
    · -- hargs False
      refine c_region ?_
      refine o_move rfl rfl ?_
      refine o_move rfl rfl ?_
      refine o_call rfl cal10 rfl (lnewNoS hargs) ?_
      rintro _ _ ⟨rfl, rfl⟩
      refine o_move rfl rfl ?_
      refine o_extract rfl rfl rfl ?_
      refine o_extract rfl rfl rfl ?_
      refine o_assign rfl rfl ?_
      refine o_assign rfl rfl ?_
      refine l_nil ?_
      refine q_then ?_
      refine c_seq ?_
      refine c_region ?_
      refine o_move rfl rfl ?_
      refine o_move rfl rfl ?_
      refine o_call rfl cal11 rfl (rnewNo hargs) ?_
      rintro _ _ ⟨rfl, rfl⟩
      refine o_assign rfl rfl ?_
      refine l_nil ?_
      refine q_then ?_
      refine c_seq ?_
      refine c_seq ?_
      refine c_region ?_
      refine o_move rfl rfl ?_
      refine o_bin rfl rfl rfl (b_peq Try.underlying25 _) ?_
      refine o_move rfl rfl ?_
      refine o_bin rfl rfl rfl (b_peq Try.underlying30 _) ?_
      refine o_bin rfl rfl rfl (b_bne Try.underlying4 _ _) ?_
      refine o_move rfl rfl ?_
      refine o_yes rfl rfl rfl ?_
      refine o_move rfl rfl ?_
      refine o_yes rfl rfl rfl ?_
      refine o_bin rfl rfl rfl b_eql ?_
      refine o_yes rfl rfl rfl ?_
      refine o_move rfl rfl ?_
      refine o_yes rfl rfl rfl ?_
      refine o_bin rfl rfl rfl (b_pne Try.underlying30 _) ?_
      refine o_yes rfl rfl rfl ?_
      refine o_bin rfl rfl rfl (b_bne Try.underlying4 _ _) ?_
      refine o_pick_false rfl rfl rfl ?_
      refine o_move rfl rfl ?_
      refine o_yes rfl rfl rfl ?_
      refine o_move rfl rfl ?_
      refine o_yes rfl rfl rfl ?_
      refine o_bin rfl rfl rfl (b_peq Try.underlying30 _) ?_
      refine o_pick_false rfl rfl rfl ?_
      refine l_nil ?_
      refine q_then ?_
      refine c_true rfl ?_
      refine c_seq ?_
      refine c_region ?_
      refine o_move rfl rfl ?_
      refine o_bin rfl rfl rfl (b_peq Try.underlying25 _) ?_
      refine o_move rfl rfl ?_
      refine o_yes rfl rfl rfl ?_
      refine o_move rfl rfl ?_
      refine o_yes rfl rfl rfl ?_
      refine o_bin rfl rfl rfl (b_peq Try.underlying30 _) ?_
      refine o_pick_true rfl rfl rfl ?_
      refine o_move rfl rfl ?_
      refine o_yes rfl rfl rfl ?_
      refine o_move rfl rfl ?_
      refine o_yes rfl rfl rfl ?_
      refine o_bin rfl rfl rfl b_eql ?_
      refine o_pick_true rfl rfl rfl ?_
      refine o_assign rfl rfl ?_
      refine l_nil ?_
      refine q_then ?_
      refine c_ret ?_
      refine q_pass_ret ?_
      exact f_ret (r_one rfl rfl) (⟨rfl, rfl⟩) (fun w S => S)

end Go.Proofs.Ytakjmdeckngnlaa
