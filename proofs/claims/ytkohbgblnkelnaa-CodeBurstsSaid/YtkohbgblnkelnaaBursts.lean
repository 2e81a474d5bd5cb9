/- Printed by eng.py out of 01/spec.py. -/
import Derived.Test.YtkohbgblnkelnaaFrame
import Derived.Test.YtkohbgblnkelnaaBurstp
set_option linter.unusedVariables false
set_option linter.unusedSimpArgs false
set_option maxRecDepth 10000
namespace Go.Proofs.Ytkohbgblnkelnaa
open Go.RowKit
set_option maxHeartbeats 1000000 in
theorem bursts_ {W : World} {F : List Res} {xs : List UInt8} {a : Option Addr} {c : Nat} {k1 : Int} {mk : Nat} (hs : SlR W e8 a xs) (hmk : mk < 4294967296) : CS Try.prog 8 #[.slice a xs.length c, .int .i64 k1, .int .u32 (mk : Int)] W (F) (fun r L' => r = .bool true ∧ F = L') := by
  refine f_door (l0 := [(0, .slice a xs.length c), (1, .int .i64 k1), (2, .int .u32 (mk : Int))]) Try.func8 Try.ntmps8 rfl rfl rfl ?_
  refine c_seq ?_
  refine c_region ?_
  refine o_assign rfl rfl ?_
  refine l_nil ?_
  refine q_then ?_
  refine c_seq ?_
  refine c_seq ?_
  refine c_region ?_
  refine o_call rfl cal12 rfl (speaks_) ?_
  rintro _ _ ⟨rfl, rfl⟩
  refine o_not rfl rfl ?_
  refine l_nil ?_
  refine q_then ?_
  refine c_false rfl ?_
  refine c_skip ?_
  refine q_then ?_
  refine c_seq ?_
  refine c_seq ?_
  refine c_region ?_
  refine o_move rfl rfl ?_
  refine o_len rfl rfl Try.underlying25 ?_
  refine o_bin rfl rfl rfl b_gtr ?_
  refine l_nil ?_
  refine q_then ?_
  refine c_cond rfl (fun h1 => ?_) (fun h1 => ?_)
  · -- h1T
    try simp only [decide_eq_true_eq, decide_eq_false_iff_not, Bool.not_eq_eq_eq_not, Bool.not_true, Bool.not_false, Bool.not_eq_true', Bool.not_eq_false', Int.not_lt, Int.not_le, Bool.or_eq_true, Bool.and_eq_true] at h1
    refine c_seq ?_
    refine c_region ?_
    refine o_assign rfl rfl ?_
    refine l_nil ?_
    refine q_then ?_
    refine c_ret ?_
    refine q_pass_ret ?_
    exact f_ret (r_one rfl rfl) (⟨rfl, rfl⟩) (fun w S => S)
  · -- h1F
    try simp only [decide_eq_true_eq, decide_eq_false_iff_not, Bool.not_eq_eq_eq_not, Bool.not_true, Bool.not_false, Bool.not_eq_true', Bool.not_eq_false', Int.not_lt, Int.not_le, Bool.or_eq_true, Bool.and_eq_true] at h1
    refine c_skip ?_
    refine q_then ?_
    refine c_seq ?_
    refine c_region ?_
    refine o_move rfl rfl ?_
    refine o_call rfl cal24 rfl (frame8 (rds_old hs) (by omega)) ?_
    rintro _ _ ⟨out27, a27, c27, hout27, rfl, rfl⟩
    have hfr : out27 = frameB xs := by rw [hout27, frR_yes (by omega)]
    have hfl := frameB_len xs
    rw [← hfr] at hfl
    have hfe : (frR xs).2 = 0 := by rw [frR_yes (by omega)]
    refine o_move rfl rfl ?_
    refine o_extract rfl rfl rfl ?_
    refine l_fact (row_cap 0 rfl) ?_
    intro hcap28
    refine o_extract rfl rfl rfl ?_
    refine o_assign rfl rfl ?_
    refine o_assign rfl rfl ?_
    refine l_nil ?_
    refine q_then ?_
    refine c_seq ?_
    refine c_seq ?_
    refine c_region ?_
    refine o_move rfl rfl ?_
    refine o_bin rfl rfl rfl b_neq ?_
    refine l_eq (t := 31) (v' := .bool false) rfl (show _ = Value.bool false from by rw [hfe]; rfl) ?_
    refine o_move rfl rfl ?_
    refine o_yes rfl rfl rfl ?_
    refine o_move rfl rfl ?_
    refine o_yes rfl rfl rfl ?_
    refine o_len rfl rfl Try.underlying25 ?_
    refine o_yes rfl rfl rfl ?_
    refine o_move rfl rfl ?_
    refine o_yes rfl rfl rfl ?_
    refine o_len rfl rfl Try.underlying25 ?_
    refine o_yes rfl rfl rfl ?_
    refine o_bin rfl rfl rfl (b_add (wrap_i64 (by omega) (by omega))) ?_
    refine o_yes rfl rfl rfl ?_
    refine o_bin rfl rfl rfl b_neq ?_
    refine l_eq (t := 38) (v' := .bool false) rfl (show _ = Value.bool false from by rw [decide_eq_true (by omega)]; rfl) ?_
    refine o_pick_false rfl rfl rfl ?_
    refine l_nil ?_
    refine q_then ?_
    refine c_false rfl ?_
    refine c_skip ?_
    refine q_then ?_
    refine c_seq ?_
    refine c_region ?_
    refine o_move rfl rfl ?_
    refine o_move rfl rfl ?_
    refine o_bin rfl rfl rfl (b_and rfl) ?_
    obtain ⟨q43, hq43, eq43⟩ := and_mask k1 65535 (by omega)
    refine l_eq (t := 43) (v' := .int .i64 (q43 : Int)) rfl (by first | exact congrArg _ eq43) ?_
    have hmq := Nat.mod_lt q43 (show 0 < out27.length by omega)
    refine o_move rfl rfl ?_
    refine o_len rfl rfl Try.underlying25 ?_
    refine o_bin rfl rfl rfl (b_rem (by omega) tmodN) ?_
    refine o_cut (l' := 0) (h' := (q43 % out27.length)) (m := c27) rfl rfl Try.underlying25 ti5 (.inl ⟨rfl, rfl⟩) (.inr ⟨_, _, rfl, icast rfl (by omega), (by omega)⟩) (.inl ⟨rfl, rfl⟩) ?_
    obtain ⟨ys47, ay47, cut47, hys47, hlys47, eay47⟩ : ∃ ys_ ay_, (∀ {L : List Res}, RdS W L e8 a27 out27 → RdS W L e8 ay_ ys_) ∧ ys_ = sub out27 0 (q43 % out27.length) ∧ ys_.length = (q43 % out27.length) - 0 ∧ cutA a27 c27 0 1 = ay_ := ⟨_, _, fun h => rds_cut e8_ok h _ _ _ (by omega), rfl, sub_len (by omega), rfl⟩
    refine l_eq (t := 47) (v' := .slice ay47 ys47.length (c27 - 0)) rfl (by rw [eay47, hlys47]) ?_
    refine o_call rfl cal26 rfl (unframe8 (cut47 (rds_own e8_ok 0 rfl)) (by omega) (by omega)) ?_
    rintro _ _ ⟨again48, aa48, ca48, body48, ay48, cy48, hbody48, cut48, rfl, rfl⟩
    have hun : (unR ys47).2.2 = 30 ∨ (unR ys47).2.2 = 31 := by rw [hys47, sub_take, hfr]; have := unR_part (xs := xs) (n := q43 % out27.length) (by omega) (by rw [← hfr]; exact hmq) []; rw [List.append_nil] at this; rw [← hfr] at this ⊢; exact this
    refine o_move rfl rfl ?_
    refine o_extract rfl rfl rfl ?_
    refine o_extract rfl rfl rfl ?_
    refine o_extract rfl rfl rfl ?_
    refine o_assign rfl rfl ?_
    refine o_assign rfl rfl ?_
    refine o_assign rfl rfl ?_
    refine l_nil ?_
    refine q_then ?_
    refine c_seq ?_
    refine c_seq ?_
    refine c_region ?_
    refine o_move rfl rfl ?_
    refine o_bin rfl rfl rfl b_neq ?_
    refine o_move rfl rfl ?_
    refine l_split (t := 54) rfl (fun h2 => ?_) (fun h2 => ?_)
    · -- h2T
      try simp only [decide_eq_true_eq, decide_eq_false_iff_not, Bool.not_eq_eq_eq_not, Bool.not_true, Bool.not_false, Bool.not_eq_true', Bool.not_eq_false', Int.not_lt, Int.not_le, Bool.or_eq_true, Bool.and_eq_true] at h2
      refine o_yes rfl rfl rfl ?_
      refine o_move rfl rfl ?_
      refine o_yes rfl rfl rfl ?_
      refine o_bin rfl rfl rfl b_neq ?_
      refine l_eq (t := 56) (v' := .bool false) rfl (show _ = Value.bool false from by rw [decide_eq_true (by omega)]; rfl) ?_
      refine o_pick_true rfl rfl rfl ?_
      refine l_nil ?_
      refine q_then ?_
      refine c_false rfl ?_
      refine c_skip ?_
      refine q_then ?_
      refine c_seq ?_
      refine c_seq ?_
      refine c_region ?_
      refine o_move rfl rfl ?_
      refine o_len rfl rfl Try.underlying25 ?_
      refine o_bin rfl rfl rfl b_eql ?_
      refine l_nil ?_
      refine q_then ?_
      refine c_cond rfl (fun h3 => ?_) (fun h3 => ?_)
      · -- h3T
        try simp only [decide_eq_true_eq, decide_eq_false_iff_not, Bool.not_eq_eq_eq_not, Bool.not_true, Bool.not_false, Bool.not_eq_true', Bool.not_eq_false', Int.not_lt, Int.not_le, Bool.or_eq_true, Bool.and_eq_true] at h3
        refine c_seq ?_
        refine c_region ?_
        refine o_assign rfl rfl ?_
        refine l_nil ?_
        refine q_then ?_
        refine c_ret ?_
        refine q_pass_ret ?_
        refine q_conv (fun w S => S.tail) ?_
        refine q_conv (fun w S => S.tail) ?_
        exact f_ret (r_one rfl rfl) (⟨rfl, rfl⟩) (fun w S => S)
      · -- h3F
        try simp only [decide_eq_true_eq, decide_eq_false_iff_not, Bool.not_eq_eq_eq_not, Bool.not_true, Bool.not_false, Bool.not_eq_true', Bool.not_eq_false', Int.not_lt, Int.not_le, Bool.or_eq_true, Bool.and_eq_true] at h3
        refine c_skip ?_
        refine q_then ?_
        refine c_seq ?_
        refine c_region ?_
        refine o_lit e8_ok rfl Try.underlying25 rfl rfl rfl (lit_ok rfl) ([] : List UInt8) rfl rfl fun a61 => ?_
        refine o_move rfl rfl ?_
        refine o_append e8_ok rfl rfl rfl Try.underlying25 (rds_own e8_ok 2 rfl) (by show (_ + _) * 1 ≤ _; (try simp only [List.length_append, List.length_cons, List.length_nil]); omega) (by (try simp only [List.length_append, List.length_cons, List.length_nil]); omega) fun a63 c63 => ?_
        refine l_f2 ?_
        refine l_drop ?_
        refine o_move rfl rfl ?_
        refine o_len rfl rfl Try.underlying25 ?_
        refine o_bin rfl rfl rfl (b_mul (wrap_i64 (by omega) (by omega))) ?_
        refine l_eq (t := 66) (v' := .int .i64 ((8 * xs.length : Nat) : Int)) rfl (by first | rfl | exact congrArg _ (by omega)) ?_
        refine o_assign rfl rfl ?_
        refine o_assign rfl rfl ?_
        refine l_nil ?_
        refine q_then ?_
        refine c_seq ?_
        refine c_region ?_
        refine o_move rfl rfl ?_
        refine o_bin rfl rfl rfl (b_and rfl) ?_
        obtain ⟨q68, hq68, eq68⟩ := and_mask k1 1048575 (by omega)
        refine l_eq (t := 68) (v' := .int .i64 (q68 : Int)) rfl (by first | exact congrArg _ eq68) ?_
        have hmq2 := Nat.mod_lt q68 (show 0 < 8 * xs.length by omega)
        refine o_move rfl rfl ?_
        refine o_bin rfl rfl rfl (b_rem (by omega) tmodN) ?_
        obtain ⟨f, hf⟩ : ∃ f, f = q68 % (8 * xs.length) := ⟨_, rfl⟩
        refine l_eq (t := 70) (v' := .int .i64 (f : Int)) rfl (by rw [hf]) ?_
        rw [← hf] at hmq2
        refine o_assign rfl rfl ?_
        refine l_nil ?_
        refine q_then ?_
        refine c_seq ?_
        refine c_region ?_
        refine o_assign rfl rfl ?_
        refine l_nil ?_
        refine q_then ?_
        refine c_seq ?_
        refine c_seq ?_
        refine c_region ?_
        refine o_assign rfl rfl ?_
        refine l_nil ?_
        refine q_then ?_
        refine c_block ?_
        refine c_conv (fun w S => (S.perm p1).tail) ?_
        refine c_loop (α := Nat × (List UInt8)) (fun z => [(0, .slice a xs.length c), (2, .int .u32 (mk : Int)), (12, .slice a63 (frameG xs z.2).length c63), (13, .int .i64 ((8 * xs.length : Nat) : Int)), (14, .int .i64 (f : Int)), (15, .bool (decide (mk % 2 ^ z.1 ≠ 0))), (16, .int .i64 (z.1 : Int))]) (fun z => row e8.T e8.sz a63 ((frameG xs z.2)).length c63 (flat e8 (frameG xs z.2)) :: F) (fun z => z.1 ≤ 32 ∧ z.2.length = xs.length ∧ bN z.2 = bN xs ^^^ ((mk % 2 ^ z.1) <<< f) ∧ (mk % 2 ^ z.1 = 0 → z.2 = xs) ∧ f + z.1 ≤ 8 * xs.length) (fun z => 32 - z.1) (0, xs) (by exact ⟨by omega, rfl, by simp [Nat.mod_one], fun _ => rfl, by omega⟩) ⟨(by first | rfl | exact vint (by omega)), (by first | rfl | exact vint (by omega)), (by rw [hfr]; rfl), (by first | rfl | exact vint (by omega)), (by first | rfl | exact vint (by omega)), (by rw [show decide (mk % 2 ^ 0 ≠ 0) = false by simp [Nat.mod_one]]; rfl), (by first | rfl | exact vint (by omega)), trivial⟩ (fun w S => by rw [hfr] at S; exact S) ?_
        rintro ⟨k, ys⟩ ⟨hk, hyl, hbn, hz, hfk⟩
        try dsimp only at *
        refine c_seq ?_
        refine c_seq ?_
        refine c_region ?_
        refine o_move rfl rfl ?_
        refine o_bin rfl rfl rfl b_lss ?_
        refine o_move rfl rfl ?_
        refine l_split (t := 73) rfl (fun h4 => ?_) (fun h4 => ?_)
        · -- h4T
          try simp only [decide_eq_true_eq, decide_eq_false_iff_not, Bool.not_eq_eq_eq_not, Bool.not_true, Bool.not_false, Bool.not_eq_true', Bool.not_eq_false', Int.not_lt, Int.not_le, Bool.or_eq_true, Bool.and_eq_true] at h4
          refine o_yes rfl rfl rfl ?_
          refine o_move rfl rfl ?_
          refine o_yes rfl rfl rfl ?_
          refine o_move rfl rfl ?_
          refine o_yes rfl rfl rfl ?_
          refine o_bin rfl rfl rfl (b_add (wrap_i64 (by omega) (by omega))) ?_
          refine o_yes rfl rfl rfl ?_
          refine o_move rfl rfl ?_
          refine o_yes rfl rfl rfl ?_
          refine o_bin rfl rfl rfl b_lss ?_
          refine o_pick_true rfl rfl rfl ?_
          refine l_nil ?_
          refine q_then ?_
          refine c_cond rfl (fun h5 => ?_) (fun h5 => ?_)
          · -- h5T
            try simp only [decide_eq_true_eq, decide_eq_false_iff_not, Bool.not_eq_eq_eq_not, Bool.not_true, Bool.not_false, Bool.not_eq_true', Bool.not_eq_false', Int.not_lt, Int.not_le, Bool.or_eq_true, Bool.and_eq_true] at h5
            refine c_skip ?_
            refine q_then ?_
            refine c_seq ?_
            refine c_block ?_
            refine c_seq ?_
            refine c_region ?_
            refine o_move rfl rfl ?_
            refine o_move rfl rfl ?_
            refine o_int rfl rfl Try.underlying3 Try.underlying44 (wrap_u64 (by omega) (by omega)) ?_
            refine o_bin rfl rfl rfl (b_shr (by omega) (shrk (m := mk) (k := k) (by omega))) ?_
            refine o_bin rfl rfl rfl (b_and (and1u32 (Nat.lt_of_le_of_lt (Nat.div_le_self _ _) hmk))) ?_
            refine o_bin rfl rfl rfl b_eql ?_
            refine l_nil ?_
            refine q_then ?_
            refine c_cond rfl (fun h6 => ?_) (fun h6 => ?_)
            · -- h6T
              try simp only [decide_eq_true_eq, decide_eq_false_iff_not, Bool.not_eq_eq_eq_not, Bool.not_true, Bool.not_false, Bool.not_eq_true', Bool.not_eq_false', Int.not_lt, Int.not_le, Bool.or_eq_true, Bool.and_eq_true] at h6
              refine c_seq ?_
              have hgl := frameG_len hyl
              have hbit : mk / 2 ^ k % 2 = 1 := by omega
              have hnz : mk % 2 ^ (k + 1) ≠ 0 := by exact mask_nz hbit
              refine c_region ?_
              refine o_move rfl rfl ?_
              refine o_move rfl rfl ?_
              refine o_move rfl rfl ?_
              refine o_bin rfl rfl rfl (b_add (wrap_i64 (by omega) (by omega))) ?_
              refine l_eq (t := 91) (v' := .int .i64 ((f + k : Nat) : Int)) rfl (congrArg _ (by omega)) ?_
              refine o_bin rfl rfl rfl (b_quo (by omega) (tdiv8 (n := f + k) (by omega))) ?_
              refine o_bin rfl rfl rfl (b_add (wrap_i64 (by omega) (by omega))) ?_
              refine o_index e8_ok rfl rfl rfl Try.underlying25 (by omega) (by omega) (rds_own e8_ok 0 rfl) fun ad94 ead94 => ?_
              obtain ⟨x94, hx94⟩ : ∃ x, ((frameG xs ys))[((6 + (((f + k) / 8 : Nat) : Int))).toNat]? = some x := ⟨_, List.getElem?_eq_getElem (by omega)⟩
              have hx94' : (frameG xs ys)[6 + (f + k) / 8]? = some x94 := hx94
              rw [frameG_get] at hx94'
              refine o_load1 rfl rfl Try.underlying5 rfl (rd_sl0 e8_ok ead94 (rds_own e8_ok 0 rfl) hx94 rfl) ?_
              refine o_move rfl rfl ?_
              refine o_move rfl rfl ?_
              refine o_bin rfl rfl rfl (b_add (wrap_i64 (by omega) (by omega))) ?_
              refine l_eq (t := 98) (v' := .int .i64 ((f + k : Nat) : Int)) rfl (congrArg _ (by omega)) ?_
              refine o_bin rfl rfl rfl (b_rem (by omega) (tmod8 (n := f + k))) ?_
              refine o_int rfl rfl Try.underlying3 Try.underlying44 (wrap_u64 (by omega) (by omega)) ?_
              refine o_bin rfl rfl rfl (b_shl (by omega) (shlu8 (b := (f + k) % 8) (by omega))) ?_
              refine o_bin rfl rfl rfl (b_xor (xoru8 _ _)) ?_
              refine o_indexK e8_ok ead94 rfl rfl rfl Try.underlying25 (by omega) (by omega) ?_
              obtain ⟨x103, hx103⟩ : ∃ x, ((frameG xs ys))[((6 + (((f + k) / 8 : Nat) : Int))).toNat]? = some x := ⟨_, List.getElem?_eq_getElem (by omega)⟩
              obtain rfl : x94 = x103 := Option.some.inj (hx94.symm.trans hx103)
              refine o_storeRow0 (x1 := (x94 ^^^ UInt8.ofNat (2 ^ ((f + k) % 8)))) e8_ok ead94 rfl rfl rfl ti5 hx103 rfl ?_
              refine l_conv (L' := row e8.T e8.sz a63 ((frameG xs (ys.set ((f + k) / 8) (x94 ^^^ UInt8.ofNat (2 ^ ((f + k) % 8)))))).length c63 (flat e8 (frameG xs (ys.set ((f + k) / 8) (x94 ^^^ UInt8.ofNat (2 ^ ((f + k) % 8)))))) :: _) (fun w S => by rw [← frameG_set]; exact S) ?_
              refine l_nil ?_
              refine q_then ?_
              refine c_region ?_
              refine o_assign rfl rfl ?_
              refine l_nil ?_
              refine q_block ?_
              refine q_then ?_
              refine c_region ?_
              refine o_move rfl rfl ?_
              refine o_bin rfl rfl rfl (b_add (wrap_i64 (by omega) (by omega))) ?_
              refine o_assign rfl rfl ?_
              refine l_nil ?_
              exact q_round (k + 1, (ys.set ((f + k) / 8) (x94 ^^^ UInt8.ofNat (2 ^ ((f + k) % 8))))) (by exact ⟨by omega, by simp [hyl], burst_step hbn hbit hx94', fun h => absurd h hnz, by omega⟩) (by (try dsimp only); omega) ⟨(by first | rfl | exact vint (by omega)), (by first | rfl | exact vint (by omega)), (by have h9 : ∀ v j, (frameG xs (ys.set j v)).length = (frameG xs ys).length := fun v j => (by rw [frameG_len hyl, frameG_len (by simp [hyl])]); first | rfl | (simp only [h9]; rfl)), (by first | rfl | exact vint (by omega)), (by first | rfl | exact vint (by omega)), (by first | (rw [decide_eq_true hnz]; rfl) | (rw [mask_off hbit]; rfl)), (by first | rfl | exact vint (by omega)), trivial⟩ (fun w S => S)
            · -- h6F
              try simp only [decide_eq_true_eq, decide_eq_false_iff_not, Bool.not_eq_eq_eq_not, Bool.not_true, Bool.not_false, Bool.not_eq_true', Bool.not_eq_false', Int.not_lt, Int.not_le, Bool.or_eq_true, Bool.and_eq_true] at h6
              have hbit : ¬ mk / 2 ^ k % 2 = 1 := by omega
              refine c_skip ?_
              refine q_block ?_
              refine q_then ?_
              refine c_region ?_
              refine o_move rfl rfl ?_
              refine o_bin rfl rfl rfl (b_add (wrap_i64 (by omega) (by omega))) ?_
              refine o_assign rfl rfl ?_
              refine l_nil ?_
              exact q_round (k + 1, ys) (by exact ⟨by omega, hyl, by rw [mask_off hbit]; exact hbn, by rw [mask_off hbit]; exact hz, by omega⟩) (by (try dsimp only); omega) ⟨(by first | rfl | exact vint (by omega)), (by first | rfl | exact vint (by omega)), (by have h9 : ∀ v j, (frameG xs (ys.set j v)).length = (frameG xs ys).length := fun v j => (by rw [frameG_len hyl, frameG_len (by simp [hyl])]); first | rfl | (simp only [h9]; rfl)), (by first | rfl | exact vint (by omega)), (by first | rfl | exact vint (by omega)), (by first | (rw [decide_eq_true hnz]; rfl) | (rw [mask_off hbit]; rfl)), (by first | rfl | exact vint (by omega)), trivial⟩ (fun w S => S)
          · -- h5F
            try simp only [decide_eq_true_eq, decide_eq_false_iff_not, Bool.not_eq_eq_eq_not, Bool.not_true, Bool.not_false, Bool.not_eq_true', Bool.not_eq_false', Int.not_lt, Int.not_le, Bool.or_eq_true, Bool.and_eq_true] at h5
            refine c_exit ?_
            refine q_pass_exit ?_
            refine q_pass_exit ?_
            refine q_hit ?_
            refine q_then ?_
            refine c_seq ?_
            have hgl := frameG_len hyl
            refine c_fact (row_cap 0 rfl) ?_
            intro hcapG
            have hue := burst_end (m := mk % 2 ^ k) (by omega) hyl hbn hz (Nat.lt_of_le_of_lt (Nat.mod_le _ _) hmk) (by omega)
            refine c_region ?_
            refine o_move rfl rfl ?_
            refine o_call rfl cal26 rfl (unframe8 (rds_own e8_ok 0 rfl) hcapG (by rw [hgl]; omega)) ?_
            rintro _ _ ⟨again106, aa106, ca106, body106, ay106, cy106, hbody106, cut106, rfl, rfl⟩
            refine o_move rfl rfl ?_
            refine o_extract rfl rfl rfl ?_
            refine o_extract rfl rfl rfl ?_
            refine o_extract rfl rfl rfl ?_
            refine o_assign rfl rfl ?_
            refine o_assign rfl rfl ?_
            refine o_assign rfl rfl ?_
            refine l_nil ?_
            refine q_then ?_
            refine c_seq ?_
            refine c_seq ?_
            refine c_region ?_
            refine o_move rfl rfl ?_
            refine o_not rfl rfl ?_
            refine l_nil ?_
            refine q_then ?_
            refine c_cond rfl (fun h7 => ?_) (fun h7 => ?_)
            · -- h7T
              try simp only [decide_eq_true_eq, decide_eq_false_iff_not, Bool.not_eq_eq_eq_not, Bool.not_true, Bool.not_false, Bool.not_eq_true', Bool.not_eq_false', Int.not_lt, Int.not_le, Bool.or_eq_true, Bool.and_eq_true] at h7
              have h0' : mk % 2 ^ k = 0 := by simpa using h7
              refine c_seq ?_
              refine c_region ?_
              refine o_move rfl rfl ?_
              refine o_bin rfl rfl rfl b_eql ?_
              refine l_eq (t := 113) (v' := .bool true) rfl (show _ = Value.bool true from by rw [hue, if_pos h0']; rfl) ?_
              refine o_move rfl rfl ?_
              refine o_yes rfl rfl rfl ?_
              refine o_move rfl rfl ?_
              refine o_yes rfl rfl rfl ?_
              refine o_bytesStr (e := e8) rfl rfl rfl Try.underlying25 Try.underlying5 Try.underlying9 (cut106 (rds_own e8_ok 0 rfl)) ?_
              refine o_yes rfl rfl rfl ?_
              refine o_move rfl rfl ?_
              refine o_yes rfl rfl rfl ?_
              refine o_bytesStr (e := e8) rfl rfl rfl Try.underlying25 Try.underlying5 Try.underlying9 (rds_old hs) ?_
              refine o_yes rfl rfl rfl ?_
              refine o_bin rfl rfl rfl b_seql ?_
              refine l_eq (t := 119) (v' := .bool true) rfl (show _ = Value.bool true from by rw [hbody106, hue, if_pos h0']; simp) ?_
              refine o_pick_true rfl rfl rfl ?_
              refine o_assign rfl rfl ?_
              refine l_nil ?_
              refine q_then ?_
              refine c_ret ?_
              refine q_pass_ret ?_
              refine q_conv (fun w S => S.tail) ?_
              refine q_conv (fun w S => S.tail) ?_
              exact f_ret (r_one rfl rfl) (⟨rfl, rfl⟩) (fun w S => S)
            · -- h7F
              try simp only [decide_eq_true_eq, decide_eq_false_iff_not, Bool.not_eq_eq_eq_not, Bool.not_true, Bool.not_false, Bool.not_eq_true', Bool.not_eq_false', Int.not_lt, Int.not_le, Bool.or_eq_true, Bool.and_eq_true] at h7
              have h0' : mk % 2 ^ k ≠ 0 := by simpa using h7
              refine c_skip ?_
              refine q_then ?_
              refine c_seq ?_
              refine c_region ?_
              refine o_move rfl rfl ?_
              refine o_bin rfl rfl rfl b_eql ?_
              refine l_eq (t := 122) (v' := .bool true) rfl (show _ = Value.bool true from by rw [hue, if_neg h0']; rfl) ?_
              refine o_move rfl rfl ?_
              refine o_yes rfl rfl rfl ?_
              refine o_move rfl rfl ?_
              refine o_yes rfl rfl rfl ?_
              refine o_len rfl rfl Try.underlying25 ?_
              refine o_yes rfl rfl rfl ?_
              refine o_bin rfl rfl rfl b_eql ?_
              refine l_eq (t := 126) (v' := .bool true) rfl (show _ = Value.bool true from by rw [hbody106, hue, if_neg h0']; rfl) ?_
              refine o_pick_true rfl rfl rfl ?_
              refine o_assign rfl rfl ?_
              refine l_nil ?_
              refine q_then ?_
              refine c_ret ?_
              refine q_conv (fun w S => S.tail) ?_
              refine q_conv (fun w S => S.tail) ?_
              exact f_ret (r_one rfl rfl) (⟨rfl, rfl⟩) (fun w S => S)
        · -- h4F
          try simp only [decide_eq_true_eq, decide_eq_false_iff_not, Bool.not_eq_eq_eq_not, Bool.not_true, Bool.not_false, Bool.not_eq_true', Bool.not_eq_false', Int.not_lt, Int.not_le, Bool.or_eq_true, Bool.and_eq_true] at h4
          refine o_no rfl rfl rfl rfl ?_
          refine o_no rfl rfl rfl rfl ?_
          refine o_no rfl rfl rfl rfl ?_
          refine o_no rfl rfl rfl rfl ?_
          refine o_no rfl rfl rfl rfl ?_
          refine o_pick_false rfl rfl rfl ?_
          refine l_nil ?_
          refine q_then ?_
          refine c_false rfl ?_
          refine c_exit ?_
          refine q_pass_exit ?_
          refine q_pass_exit ?_
          refine q_hit ?_
          refine q_then ?_
          refine c_seq ?_
          have hgl := frameG_len hyl
          refine c_fact (row_cap 0 rfl) ?_
          intro hcapG
          have hue := burst_end (m := mk % 2 ^ k) (by omega) hyl hbn hz (Nat.lt_of_le_of_lt (Nat.mod_le _ _) hmk) (by omega)
          refine c_region ?_
          refine o_move rfl rfl ?_
          refine o_call rfl cal26 rfl (unframe8 (rds_own e8_ok 0 rfl) hcapG (by rw [hgl]; omega)) ?_
          rintro _ _ ⟨again106, aa106, ca106, body106, ay106, cy106, hbody106, cut106, rfl, rfl⟩
          refine o_move rfl rfl ?_
          refine o_extract rfl rfl rfl ?_
          refine o_extract rfl rfl rfl ?_
          refine o_extract rfl rfl rfl ?_
          refine o_assign rfl rfl ?_
          refine o_assign rfl rfl ?_
          refine o_assign rfl rfl ?_
          refine l_nil ?_
          refine q_then ?_
          refine c_seq ?_
          refine c_seq ?_
          refine c_region ?_
          refine o_move rfl rfl ?_
          refine o_not rfl rfl ?_
          refine l_nil ?_
          refine q_then ?_
          refine c_cond rfl (fun h8 => ?_) (fun h8 => ?_)
          · -- h8T
            try simp only [decide_eq_true_eq, decide_eq_false_iff_not, Bool.not_eq_eq_eq_not, Bool.not_true, Bool.not_false, Bool.not_eq_true', Bool.not_eq_false', Int.not_lt, Int.not_le, Bool.or_eq_true, Bool.and_eq_true] at h8
            have h0' : mk % 2 ^ k = 0 := by simpa using h8
            refine c_seq ?_
            refine c_region ?_
            refine o_move rfl rfl ?_
            refine o_bin rfl rfl rfl b_eql ?_
            refine l_eq (t := 113) (v' := .bool true) rfl (show _ = Value.bool true from by rw [hue, if_pos h0']; rfl) ?_
            refine o_move rfl rfl ?_
            refine o_yes rfl rfl rfl ?_
            refine o_move rfl rfl ?_
            refine o_yes rfl rfl rfl ?_
            refine o_bytesStr (e := e8) rfl rfl rfl Try.underlying25 Try.underlying5 Try.underlying9 (cut106 (rds_own e8_ok 0 rfl)) ?_
            refine o_yes rfl rfl rfl ?_
            refine o_move rfl rfl ?_
            refine o_yes rfl rfl rfl ?_
            refine o_bytesStr (e := e8) rfl rfl rfl Try.underlying25 Try.underlying5 Try.underlying9 (rds_old hs) ?_
            refine o_yes rfl rfl rfl ?_
            refine o_bin rfl rfl rfl b_seql ?_
            refine l_eq (t := 119) (v' := .bool true) rfl (show _ = Value.bool true from by rw [hbody106, hue, if_pos h0']; simp) ?_
            refine o_pick_true rfl rfl rfl ?_
            refine o_assign rfl rfl ?_
            refine l_nil ?_
            refine q_then ?_
            refine c_ret ?_
            refine q_pass_ret ?_
            refine q_conv (fun w S => S.tail) ?_
            refine q_conv (fun w S => S.tail) ?_
            exact f_ret (r_one rfl rfl) (⟨rfl, rfl⟩) (fun w S => S)
          · -- h8F
            try simp only [decide_eq_true_eq, decide_eq_false_iff_not, Bool.not_eq_eq_eq_not, Bool.not_true, Bool.not_false, Bool.not_eq_true', Bool.not_eq_false', Int.not_lt, Int.not_le, Bool.or_eq_true, Bool.and_eq_true] at h8
            have h0' : mk % 2 ^ k ≠ 0 := by simpa using h8
            refine c_skip ?_
            refine q_then ?_
            refine c_seq ?_
            refine c_region ?_
            refine o_move rfl rfl ?_
            refine o_bin rfl rfl rfl b_eql ?_
            refine l_eq (t := 122) (v' := .bool true) rfl (show _ = Value.bool true from by rw [hue, if_neg h0']; rfl) ?_
            refine o_move rfl rfl ?_
            refine o_yes rfl rfl rfl ?_
            refine o_move rfl rfl ?_
            refine o_yes rfl rfl rfl ?_
            refine o_len rfl rfl Try.underlying25 ?_
            refine o_yes rfl rfl rfl ?_
            refine o_bin rfl rfl rfl b_eql ?_
            refine l_eq (t := 126) (v' := .bool true) rfl (show _ = Value.bool true from by rw [hbody106, hue, if_neg h0']; rfl) ?_
            refine o_pick_true rfl rfl rfl ?_
            refine o_assign rfl rfl ?_
            refine l_nil ?_
            refine q_then ?_
            refine c_ret ?_
            refine q_conv (fun w S => S.tail) ?_
            refine q_conv (fun w S => S.tail) ?_
            exact f_ret (r_one rfl rfl) (⟨rfl, rfl⟩) (fun w S => S)
    · -- h2F
      try simp only [decide_eq_true_eq, decide_eq_false_iff_not, Bool.not_eq_eq_eq_not, Bool.not_true, Bool.not_false, Bool.not_eq_true', Bool.not_eq_false', Int.not_lt, Int.not_le, Bool.or_eq_true, Bool.and_eq_true] at h2
      refine o_no rfl rfl rfl rfl ?_
      refine o_no rfl rfl rfl rfl ?_
      refine o_pick_false rfl rfl rfl ?_
      refine l_nil ?_
      refine q_then ?_
      refine c_false rfl ?_
      refine c_skip ?_
      refine q_then ?_
      refine c_seq ?_
      refine c_seq ?_
      refine c_region ?_
      refine o_move rfl rfl ?_
      refine o_len rfl rfl Try.underlying25 ?_
      refine o_bin rfl rfl rfl b_eql ?_
      refine l_nil ?_
      refine q_then ?_
      refine c_cond rfl (fun h9 => ?_) (fun h9 => ?_)
      · -- h9T
        try simp only [decide_eq_true_eq, decide_eq_false_iff_not, Bool.not_eq_eq_eq_not, Bool.not_true, Bool.not_false, Bool.not_eq_true', Bool.not_eq_false', Int.not_lt, Int.not_le, Bool.or_eq_true, Bool.and_eq_true] at h9
        refine c_seq ?_
        refine c_region ?_
        refine o_assign rfl rfl ?_
        refine l_nil ?_
        refine q_then ?_
        refine c_ret ?_
        refine q_pass_ret ?_
        refine q_conv (fun w S => S.tail) ?_
        refine q_conv (fun w S => S.tail) ?_
        exact f_ret (r_one rfl rfl) (⟨rfl, rfl⟩) (fun w S => S)
      · -- h9F
        try simp only [decide_eq_true_eq, decide_eq_false_iff_not, Bool.not_eq_eq_eq_not, Bool.not_true, Bool.not_false, Bool.not_eq_true', Bool.not_eq_false', Int.not_lt, Int.not_le, Bool.or_eq_true, Bool.and_eq_true] at h9
        refine c_skip ?_
        refine q_then ?_
        refine c_seq ?_
        refine c_region ?_
        refine o_lit e8_ok rfl Try.underlying25 rfl rfl rfl (lit_ok rfl) ([] : List UInt8) rfl rfl fun a61 => ?_
        refine o_move rfl rfl ?_
        refine o_append e8_ok rfl rfl rfl Try.underlying25 (rds_own e8_ok 2 rfl) (by show (_ + _) * 1 ≤ _; (try simp only [List.length_append, List.length_cons, List.length_nil]); omega) (by (try simp only [List.length_append, List.length_cons, List.length_nil]); omega) fun a63 c63 => ?_
        refine l_f2 ?_
        refine l_drop ?_
        refine o_move rfl rfl ?_
        refine o_len rfl rfl Try.underlying25 ?_
        refine o_bin rfl rfl rfl (b_mul (wrap_i64 (by omega) (by omega))) ?_
        refine l_eq (t := 66) (v' := .int .i64 ((8 * xs.length : Nat) : Int)) rfl (by first | rfl | exact congrArg _ (by omega)) ?_
        refine o_assign rfl rfl ?_
        refine o_assign rfl rfl ?_
        refine l_nil ?_
        refine q_then ?_
        refine c_seq ?_
        refine c_region ?_
        refine o_move rfl rfl ?_
        refine o_bin rfl rfl rfl (b_and rfl) ?_
        obtain ⟨q68, hq68, eq68⟩ := and_mask k1 1048575 (by omega)
        refine l_eq (t := 68) (v' := .int .i64 (q68 : Int)) rfl (by first | exact congrArg _ eq68) ?_
        have hmq2 := Nat.mod_lt q68 (show 0 < 8 * xs.length by omega)
        refine o_move rfl rfl ?_
        refine o_bin rfl rfl rfl (b_rem (by omega) tmodN) ?_
        obtain ⟨f, hf⟩ : ∃ f, f = q68 % (8 * xs.length) := ⟨_, rfl⟩
        refine l_eq (t := 70) (v' := .int .i64 (f : Int)) rfl (by rw [hf]) ?_
        rw [← hf] at hmq2
        refine o_assign rfl rfl ?_
        refine l_nil ?_
        refine q_then ?_
        refine c_seq ?_
        refine c_region ?_
        refine o_assign rfl rfl ?_
        refine l_nil ?_
        refine q_then ?_
        refine c_seq ?_
        refine c_seq ?_
        refine c_region ?_
        refine o_assign rfl rfl ?_
        refine l_nil ?_
        refine q_then ?_
        refine c_block ?_
        refine c_conv (fun w S => (S.perm p1).tail) ?_
        refine c_loop (α := Nat × (List UInt8)) (fun z => [(0, .slice a xs.length c), (2, .int .u32 (mk : Int)), (12, .slice a63 (frameG xs z.2).length c63), (13, .int .i64 ((8 * xs.length : Nat) : Int)), (14, .int .i64 (f : Int)), (15, .bool (decide (mk % 2 ^ z.1 ≠ 0))), (16, .int .i64 (z.1 : Int))]) (fun z => row e8.T e8.sz a63 ((frameG xs z.2)).length c63 (flat e8 (frameG xs z.2)) :: F) (fun z => z.1 ≤ 32 ∧ z.2.length = xs.length ∧ bN z.2 = bN xs ^^^ ((mk % 2 ^ z.1) <<< f) ∧ (mk % 2 ^ z.1 = 0 → z.2 = xs) ∧ f + z.1 ≤ 8 * xs.length) (fun z => 32 - z.1) (0, xs) (by exact ⟨by omega, rfl, by simp [Nat.mod_one], fun _ => rfl, by omega⟩) ⟨(by first | rfl | exact vint (by omega)), (by first | rfl | exact vint (by omega)), (by rw [hfr]; rfl), (by first | rfl | exact vint (by omega)), (by first | rfl | exact vint (by omega)), (by rw [show decide (mk % 2 ^ 0 ≠ 0) = false by simp [Nat.mod_one]]; rfl), (by first | rfl | exact vint (by omega)), trivial⟩ (fun w S => by rw [hfr] at S; exact S) ?_
        rintro ⟨k, ys⟩ ⟨hk, hyl, hbn, hz, hfk⟩
        try dsimp only at *
        refine c_seq ?_
        refine c_seq ?_
        refine c_region ?_
        refine o_move rfl rfl ?_
        refine o_bin rfl rfl rfl b_lss ?_
        refine o_move rfl rfl ?_
        refine l_split (t := 73) rfl (fun h10 => ?_) (fun h10 => ?_)
        · -- h10T
          try simp only [decide_eq_true_eq, decide_eq_false_iff_not, Bool.not_eq_eq_eq_not, Bool.not_true, Bool.not_false, Bool.not_eq_true', Bool.not_eq_false', Int.not_lt, Int.not_le, Bool.or_eq_true, Bool.and_eq_true] at h10
          refine o_yes rfl rfl rfl ?_
          refine o_move rfl rfl ?_
          refine o_yes rfl rfl rfl ?_
          refine o_move rfl rfl ?_
          refine o_yes rfl rfl rfl ?_
          refine o_bin rfl rfl rfl (b_add (wrap_i64 (by omega) (by omega))) ?_
          refine o_yes rfl rfl rfl ?_
          refine o_move rfl rfl ?_
          refine o_yes rfl rfl rfl ?_
          refine o_bin rfl rfl rfl b_lss ?_
          refine o_pick_true rfl rfl rfl ?_
          refine l_nil ?_
          refine q_then ?_
          refine c_cond rfl (fun h11 => ?_) (fun h11 => ?_)
          · -- h11T
            try simp only [decide_eq_true_eq, decide_eq_false_iff_not, Bool.not_eq_eq_eq_not, Bool.not_true, Bool.not_false, Bool.not_eq_true', Bool.not_eq_false', Int.not_lt, Int.not_le, Bool.or_eq_true, Bool.and_eq_true] at h11
            refine c_skip ?_
            refine q_then ?_
            refine c_seq ?_
            refine c_block ?_
            refine c_seq ?_
            refine c_region ?_
            refine o_move rfl rfl ?_
            refine o_move rfl rfl ?_
            refine o_int rfl rfl Try.underlying3 Try.underlying44 (wrap_u64 (by omega) (by omega)) ?_
            refine o_bin rfl rfl rfl (b_shr (by omega) (shrk (m := mk) (k := k) (by omega))) ?_
            refine o_bin rfl rfl rfl (b_and (and1u32 (Nat.lt_of_le_of_lt (Nat.div_le_self _ _) hmk))) ?_
            refine o_bin rfl rfl rfl b_eql ?_
            refine l_nil ?_
            refine q_then ?_
            refine c_cond rfl (fun h12 => ?_) (fun h12 => ?_)
            · -- h12T
              try simp only [decide_eq_true_eq, decide_eq_false_iff_not, Bool.not_eq_eq_eq_not, Bool.not_true, Bool.not_false, Bool.not_eq_true', Bool.not_eq_false', Int.not_lt, Int.not_le, Bool.or_eq_true, Bool.and_eq_true] at h12
              refine c_seq ?_
              have hgl := frameG_len hyl
              have hbit : mk / 2 ^ k % 2 = 1 := by omega
              have hnz : mk % 2 ^ (k + 1) ≠ 0 := by exact mask_nz hbit
              refine c_region ?_
              refine o_move rfl rfl ?_
              refine o_move rfl rfl ?_
              refine o_move rfl rfl ?_
              refine o_bin rfl rfl rfl (b_add (wrap_i64 (by omega) (by omega))) ?_
              refine l_eq (t := 91) (v' := .int .i64 ((f + k : Nat) : Int)) rfl (congrArg _ (by omega)) ?_
              refine o_bin rfl rfl rfl (b_quo (by omega) (tdiv8 (n := f + k) (by omega))) ?_
              refine o_bin rfl rfl rfl (b_add (wrap_i64 (by omega) (by omega))) ?_
              refine o_index e8_ok rfl rfl rfl Try.underlying25 (by omega) (by omega) (rds_own e8_ok 0 rfl) fun ad94 ead94 => ?_
              obtain ⟨x94, hx94⟩ : ∃ x, ((frameG xs ys))[((6 + (((f + k) / 8 : Nat) : Int))).toNat]? = some x := ⟨_, List.getElem?_eq_getElem (by omega)⟩
              have hx94' : (frameG xs ys)[6 + (f + k) / 8]? = some x94 := hx94
              rw [frameG_get] at hx94'
              refine o_load1 rfl rfl Try.underlying5 rfl (rd_sl0 e8_ok ead94 (rds_own e8_ok 0 rfl) hx94 rfl) ?_
              refine o_move rfl rfl ?_
              refine o_move rfl rfl ?_
              refine o_bin rfl rfl rfl (b_add (wrap_i64 (by omega) (by omega))) ?_
              refine l_eq (t := 98) (v' := .int .i64 ((f + k : Nat) : Int)) rfl (congrArg _ (by omega)) ?_
              refine o_bin rfl rfl rfl (b_rem (by omega) (tmod8 (n := f + k))) ?_
              refine o_int rfl rfl Try.underlying3 Try.underlying44 (wrap_u64 (by omega) (by omega)) ?_
              refine o_bin rfl rfl rfl (b_shl (by omega) (shlu8 (b := (f + k) % 8) (by omega))) ?_
              refine o_bin rfl rfl rfl (b_xor (xoru8 _ _)) ?_
              refine o_indexK e8_ok ead94 rfl rfl rfl Try.underlying25 (by omega) (by omega) ?_
              obtain ⟨x103, hx103⟩ : ∃ x, ((frameG xs ys))[((6 + (((f + k) / 8 : Nat) : Int))).toNat]? = some x := ⟨_, List.getElem?_eq_getElem (by omega)⟩
              obtain rfl : x94 = x103 := Option.some.inj (hx94.symm.trans hx103)
              refine o_storeRow0 (x1 := (x94 ^^^ UInt8.ofNat (2 ^ ((f + k) % 8)))) e8_ok ead94 rfl rfl rfl ti5 hx103 rfl ?_
              refine l_conv (L' := row e8.T e8.sz a63 ((frameG xs (ys.set ((f + k) / 8) (x94 ^^^ UInt8.ofNat (2 ^ ((f + k) % 8)))))).length c63 (flat e8 (frameG xs (ys.set ((f + k) / 8) (x94 ^^^ UInt8.ofNat (2 ^ ((f + k) % 8)))))) :: _) (fun w S => by rw [← frameG_set]; exact S) ?_
              refine l_nil ?_
              refine q_then ?_
              refine c_region ?_
              refine o_assign rfl rfl ?_
              refine l_nil ?_
              refine q_block ?_
              refine q_then ?_
              refine c_region ?_
              refine o_move rfl rfl ?_
              refine o_bin rfl rfl rfl (b_add (wrap_i64 (by omega) (by omega))) ?_
              refine o_assign rfl rfl ?_
              refine l_nil ?_
              exact q_round (k + 1, (ys.set ((f + k) / 8) (x94 ^^^ UInt8.ofNat (2 ^ ((f + k) % 8))))) (by exact ⟨by omega, by simp [hyl], burst_step hbn hbit hx94', fun h => absurd h hnz, by omega⟩) (by (try dsimp only); omega) ⟨(by first | rfl | exact vint (by omega)), (by first | rfl | exact vint (by omega)), (by have h9 : ∀ v j, (frameG xs (ys.set j v)).length = (frameG xs ys).length := fun v j => (by rw [frameG_len hyl, frameG_len (by simp [hyl])]); first | rfl | (simp only [h9]; rfl)), (by first | rfl | exact vint (by omega)), (by first | rfl | exact vint (by omega)), (by first | (rw [decide_eq_true hnz]; rfl) | (rw [mask_off hbit]; rfl)), (by first | rfl | exact vint (by omega)), trivial⟩ (fun w S => S)
            · -- h12F
              try simp only [decide_eq_true_eq, decide_eq_false_iff_not, Bool.not_eq_eq_eq_not, Bool.not_true, Bool.not_false, Bool.not_eq_true', Bool.not_eq_false', Int.not_lt, Int.not_le, Bool.or_eq_true, Bool.and_eq_true] at h12
              have hbit : ¬ mk / 2 ^ k % 2 = 1 := by omega
              refine c_skip ?_
              refine q_block ?_
              refine q_then ?_
              refine c_region ?_
              refine o_move rfl rfl ?_
              refine o_bin rfl rfl rfl (b_add (wrap_i64 (by omega) (by omega))) ?_
              refine o_assign rfl rfl ?_
              refine l_nil ?_
              exact q_round (k + 1, ys) (by exact ⟨by omega, hyl, by rw [mask_off hbit]; exact hbn, by rw [mask_off hbit]; exact hz, by omega⟩) (by (try dsimp only); omega) ⟨(by first | rfl | exact vint (by omega)), (by first | rfl | exact vint (by omega)), (by have h9 : ∀ v j, (frameG xs (ys.set j v)).length = (frameG xs ys).length := fun v j => (by rw [frameG_len hyl, frameG_len (by simp [hyl])]); first | rfl | (simp only [h9]; rfl)), (by first | rfl | exact vint (by omega)), (by first | rfl | exact vint (by omega)), (by first | (rw [decide_eq_true hnz]; rfl) | (rw [mask_off hbit]; rfl)), (by first | rfl | exact vint (by omega)), trivial⟩ (fun w S => S)
          · -- h11F
            try simp only [decide_eq_true_eq, decide_eq_false_iff_not, Bool.not_eq_eq_eq_not, Bool.not_true, Bool.not_false, Bool.not_eq_true', Bool.not_eq_false', Int.not_lt, Int.not_le, Bool.or_eq_true, Bool.and_eq_true] at h11
            refine c_exit ?_
            refine q_pass_exit ?_
            refine q_pass_exit ?_
            refine q_hit ?_
            refine q_then ?_
            refine c_seq ?_
            have hgl := frameG_len hyl
            refine c_fact (row_cap 0 rfl) ?_
            intro hcapG
            have hue := burst_end (m := mk % 2 ^ k) (by omega) hyl hbn hz (Nat.lt_of_le_of_lt (Nat.mod_le _ _) hmk) (by omega)
            refine c_region ?_
            refine o_move rfl rfl ?_
            refine o_call rfl cal26 rfl (unframe8 (rds_own e8_ok 0 rfl) hcapG (by rw [hgl]; omega)) ?_
            rintro _ _ ⟨again106, aa106, ca106, body106, ay106, cy106, hbody106, cut106, rfl, rfl⟩
            refine o_move rfl rfl ?_
            refine o_extract rfl rfl rfl ?_
            refine o_extract rfl rfl rfl ?_
            refine o_extract rfl rfl rfl ?_
            refine o_assign rfl rfl ?_
            refine o_assign rfl rfl ?_
            refine o_assign rfl rfl ?_
            refine l_nil ?_
            refine q_then ?_
            refine c_seq ?_
            refine c_seq ?_
            refine c_region ?_
            refine o_move rfl rfl ?_
            refine o_not rfl rfl ?_
            refine l_nil ?_
            refine q_then ?_
            refine c_cond rfl (fun h13 => ?_) (fun h13 => ?_)
            · -- h13T
              try simp only [decide_eq_true_eq, decide_eq_false_iff_not, Bool.not_eq_eq_eq_not, Bool.not_true, Bool.not_false, Bool.not_eq_true', Bool.not_eq_false', Int.not_lt, Int.not_le, Bool.or_eq_true, Bool.and_eq_true] at h13
              have h0' : mk % 2 ^ k = 0 := by simpa using h13
              refine c_seq ?_
              refine c_region ?_
              refine o_move rfl rfl ?_
              refine o_bin rfl rfl rfl b_eql ?_
              refine l_eq (t := 113) (v' := .bool true) rfl (show _ = Value.bool true from by rw [hue, if_pos h0']; rfl) ?_
              refine o_move rfl rfl ?_
              refine o_yes rfl rfl rfl ?_
              refine o_move rfl rfl ?_
              refine o_yes rfl rfl rfl ?_
              refine o_bytesStr (e := e8) rfl rfl rfl Try.underlying25 Try.underlying5 Try.underlying9 (cut106 (rds_own e8_ok 0 rfl)) ?_
              refine o_yes rfl rfl rfl ?_
              refine o_move rfl rfl ?_
              refine o_yes rfl rfl rfl ?_
              refine o_bytesStr (e := e8) rfl rfl rfl Try.underlying25 Try.underlying5 Try.underlying9 (rds_old hs) ?_
              refine o_yes rfl rfl rfl ?_
              refine o_bin rfl rfl rfl b_seql ?_
              refine l_eq (t := 119) (v' := .bool true) rfl (show _ = Value.bool true from by rw [hbody106, hue, if_pos h0']; simp) ?_
              refine o_pick_true rfl rfl rfl ?_
              refine o_assign rfl rfl ?_
              refine l_nil ?_
              refine q_then ?_
              refine c_ret ?_
              refine q_pass_ret ?_
              refine q_conv (fun w S => S.tail) ?_
              refine q_conv (fun w S => S.tail) ?_
              exact f_ret (r_one rfl rfl) (⟨rfl, rfl⟩) (fun w S => S)
            · -- h13F
              try simp only [decide_eq_true_eq, decide_eq_false_iff_not, Bool.not_eq_eq_eq_not, Bool.not_true, Bool.not_false, Bool.not_eq_true', Bool.not_eq_false', Int.not_lt, Int.not_le, Bool.or_eq_true, Bool.and_eq_true] at h13
              have h0' : mk % 2 ^ k ≠ 0 := by simpa using h13
              refine c_skip ?_
              refine q_then ?_
              refine c_seq ?_
              refine c_region ?_
              refine o_move rfl rfl ?_
              refine o_bin rfl rfl rfl b_eql ?_
              refine l_eq (t := 122) (v' := .bool true) rfl (show _ = Value.bool true from by rw [hue, if_neg h0']; rfl) ?_
              refine o_move rfl rfl ?_
              refine o_yes rfl rfl rfl ?_
              refine o_move rfl rfl ?_
              refine o_yes rfl rfl rfl ?_
              refine o_len rfl rfl Try.underlying25 ?_
              refine o_yes rfl rfl rfl ?_
              refine o_bin rfl rfl rfl b_eql ?_
              refine l_eq (t := 126) (v' := .bool true) rfl (show _ = Value.bool true from by rw [hbody106, hue, if_neg h0']; rfl) ?_
              refine o_pick_true rfl rfl rfl ?_
              refine o_assign rfl rfl ?_
              refine l_nil ?_
              refine q_then ?_
              refine c_ret ?_
              refine q_conv (fun w S => S.tail) ?_
              refine q_conv (fun w S => S.tail) ?_
              exact f_ret (r_one rfl rfl) (⟨rfl, rfl⟩) (fun w S => S)
        · -- h10F
          try simp only [decide_eq_true_eq, decide_eq_false_iff_not, Bool.not_eq_eq_eq_not, Bool.not_true, Bool.not_false, Bool.not_eq_true', Bool.not_eq_false', Int.not_lt, Int.not_le, Bool.or_eq_true, Bool.and_eq_true] at h10
          refine o_no rfl rfl rfl rfl ?_
          refine o_no rfl rfl rfl rfl ?_
          refine o_no rfl rfl rfl rfl ?_
          refine o_no rfl rfl rfl rfl ?_
          refine o_no rfl rfl rfl rfl ?_
          refine o_pick_false rfl rfl rfl ?_
          refine l_nil ?_
          refine q_then ?_
          refine c_false rfl ?_
          refine c_exit ?_
          refine q_pass_exit ?_
          refine q_pass_exit ?_
          refine q_hit ?_
          refine q_then ?_
          refine c_seq ?_
          have hgl := frameG_len hyl
          refine c_fact (row_cap 0 rfl) ?_
          intro hcapG
          have hue := burst_end (m := mk % 2 ^ k) (by omega) hyl hbn hz (Nat.lt_of_le_of_lt (Nat.mod_le _ _) hmk) (by omega)
          refine c_region ?_
          refine o_move rfl rfl ?_
          refine o_call rfl cal26 rfl (unframe8 (rds_own e8_ok 0 rfl) hcapG (by rw [hgl]; omega)) ?_
          rintro _ _ ⟨again106, aa106, ca106, body106, ay106, cy106, hbody106, cut106, rfl, rfl⟩
          refine o_move rfl rfl ?_
          refine o_extract rfl rfl rfl ?_
          refine o_extract rfl rfl rfl ?_
          refine o_extract rfl rfl rfl ?_
          refine o_assign rfl rfl ?_
          refine o_assign rfl rfl ?_
          refine o_assign rfl rfl ?_
          refine l_nil ?_
          refine q_then ?_
          refine c_seq ?_
          refine c_seq ?_
          refine c_region ?_
          refine o_move rfl rfl ?_
          refine o_not rfl rfl ?_
          refine l_nil ?_
          refine q_then ?_
          refine c_cond rfl (fun h14 => ?_) (fun h14 => ?_)
          · -- h14T
            try simp only [decide_eq_true_eq, decide_eq_false_iff_not, Bool.not_eq_eq_eq_not, Bool.not_true, Bool.not_false, Bool.not_eq_true', Bool.not_eq_false', Int.not_lt, Int.not_le, Bool.or_eq_true, Bool.and_eq_true] at h14
            have h0' : mk % 2 ^ k = 0 := by simpa using h14
            refine c_seq ?_
            refine c_region ?_
            refine o_move rfl rfl ?_
            refine o_bin rfl rfl rfl b_eql ?_
            refine l_eq (t := 113) (v' := .bool true) rfl (show _ = Value.bool true from by rw [hue, if_pos h0']; rfl) ?_
            refine o_move rfl rfl ?_
            refine o_yes rfl rfl rfl ?_
            refine o_move rfl rfl ?_
            refine o_yes rfl rfl rfl ?_
            refine o_bytesStr (e := e8) rfl rfl rfl Try.underlying25 Try.underlying5 Try.underlying9 (cut106 (rds_own e8_ok 0 rfl)) ?_
            refine o_yes rfl rfl rfl ?_
            refine o_move rfl rfl ?_
            refine o_yes rfl rfl rfl ?_
            refine o_bytesStr (e := e8) rfl rfl rfl Try.underlying25 Try.underlying5 Try.underlying9 (rds_old hs) ?_
            refine o_yes rfl rfl rfl ?_
            refine o_bin rfl rfl rfl b_seql ?_
            refine l_eq (t := 119) (v' := .bool true) rfl (show _ = Value.bool true from by rw [hbody106, hue, if_pos h0']; simp) ?_
            refine o_pick_true rfl rfl rfl ?_
            refine o_assign rfl rfl ?_
            refine l_nil ?_
            refine q_then ?_
            refine c_ret ?_
            refine q_pass_ret ?_
            refine q_conv (fun w S => S.tail) ?_
            refine q_conv (fun w S => S.tail) ?_
            exact f_ret (r_one rfl rfl) (⟨rfl, rfl⟩) (fun w S => S)
          · -- h14F
            try simp only [decide_eq_true_eq, decide_eq_false_iff_not, Bool.not_eq_eq_eq_not, Bool.not_true, Bool.not_false, Bool.not_eq_true', Bool.not_eq_false', Int.not_lt, Int.not_le, Bool.or_eq_true, Bool.and_eq_true] at h14
            have h0' : mk % 2 ^ k ≠ 0 := by simpa using h14
            refine c_skip ?_
            refine q_then ?_
            refine c_seq ?_
            refine c_region ?_
            refine o_move rfl rfl ?_
            refine o_bin rfl rfl rfl b_eql ?_
            refine l_eq (t := 122) (v' := .bool true) rfl (show _ = Value.bool true from by rw [hue, if_neg h0']; rfl) ?_
            refine o_move rfl rfl ?_
            refine o_yes rfl rfl rfl ?_
            refine o_move rfl rfl ?_
            refine o_yes rfl rfl rfl ?_
            refine o_len rfl rfl Try.underlying25 ?_
            refine o_yes rfl rfl rfl ?_
            refine o_bin rfl rfl rfl b_eql ?_
            refine l_eq (t := 126) (v' := .bool true) rfl (show _ = Value.bool true from by rw [hbody106, hue, if_neg h0']; rfl) ?_
            refine o_pick_true rfl rfl rfl ?_
            refine o_assign rfl rfl ?_
            refine l_nil ?_
            refine q_then ?_
            refine c_ret ?_
            refine q_conv (fun w S => S.tail) ?_
            refine q_conv (fun w S => S.tail) ?_
            exact f_ret (r_one rfl rfl) (⟨rfl, rfl⟩) (fun w S => S)

end Go.Proofs.Ytkohbgblnkelnaa
