/- Printed by eng.py out of 01/spec.py. -/
import Derived.Test.YtkohbgblnkelnaaRFrame
set_option linter.unusedVariables false
set_option linter.unusedSimpArgs false
set_option maxRecDepth 10000
namespace Go.Proofs.Ytkohbgblnkelnaa
open Go.RowKit
theorem runframe {W : World} {F : List Res} {xs : List UInt8} {a : Option Addr} {c : Nat} (hs : RdS W F e8 a xs) (hcc : xs.length ≤ c) (hn : xs.length ≤ 60000000000000) : CS Try.prog 27 #[.slice a xs.length c] W (F) (fun r L' => ∃ (out : List UInt8) (a2 : Option Addr) (c2 : Nat), out = (unR xs).1 ∧ r = .tuple #[.slice a2 out.length c2, .int .i64 ((unR xs).2.1 : Int), .int .i64 ((unR xs).2.2 : Int)] ∧ L' = row e8.T e8.sz a2 (out).length c2 (flat e8 out) :: F) := by
  refine f_door (l0 := [(0, .slice a xs.length c)]) Try.func27 Try.ntmps27 rfl rfl rfl ?_
  refine c_seq ?_
  refine c_region ?_
  refine o_assign rfl rfl ?_
  refine o_assign rfl rfl ?_
  refine o_assign rfl rfl ?_
  refine l_nil ?_
  refine q_then ?_
  refine c_seq ?_
  refine c_seq ?_
  refine c_region ?_
  refine o_move rfl rfl ?_
  refine o_len rfl rfl Try.underlying25 ?_
  refine o_bin rfl rfl rfl b_lss ?_
  refine l_nil ?_
  refine q_then ?_
  refine c_cond rfl (fun h1 => ?_) (fun h1 => ?_)
  · -- h1T
    have h1b := h1
    try simp only [decide_eq_true_eq, decide_eq_false_iff_not, Bool.not_eq_eq_eq_not, Bool.not_true, Bool.not_false, Bool.not_eq_true', Bool.not_eq_false', Int.not_lt, Int.not_le, Bool.or_eq_true, Bool.and_eq_true] at h1
    refine c_seq ?_
    have hun := unR_short (xs := xs) (by omega)
    refine c_region ?_
    refine o_lit e8_ok rfl Try.underlying25 rfl rfl rfl (lit_ok rfl) ([] : List UInt8) rfl rfl fun a11 => ?_
    refine o_assign rfl rfl ?_
    refine o_assign rfl rfl ?_
    refine o_assign rfl rfl ?_
    refine l_nil ?_
    refine q_then ?_
    refine c_ret ?_
    refine q_pass_ret ?_
    exact f_ret (r_three rfl rfl rfl rfl) (⟨[], a11, 0, by rw [hun], by rw [hun]; rfl, rfl⟩) (fun w S => S)
  · -- h1F
    have h1b := h1
    try simp only [decide_eq_true_eq, decide_eq_false_iff_not, Bool.not_eq_eq_eq_not, Bool.not_true, Bool.not_false, Bool.not_eq_true', Bool.not_eq_false', Int.not_lt, Int.not_le, Bool.or_eq_true, Bool.and_eq_true] at h1
    refine c_skip ?_
    refine q_then ?_
    refine c_seq ?_
    refine c_fact (p := ∃ ad, a = some ad) (rds_some (e := e8) (xs := xs) hs (by intro h0; rw [h0] at h1; simp at h1)) ?_
    rintro ⟨adx, eadx⟩
    refine c_quiet (by kernel_rfl) (by kernel_rfl) ?_
    refine Qt.o_val rfl (v_move rfl rfl) ?_
    refine Qt.o_val rfl (v_indexK e8_ok eadx rfl rfl rfl Try.underlying25 (by omega) (by omega)) ?_
    obtain ⟨x13, hx13⟩ : ∃ x, (xs)[((0 : Int)).toNat]? = some x := ⟨_, List.getElem?_eq_getElem (by omega)⟩
    refine Qt.o_val rfl (v_load1 rfl rfl Try.underlying5 rfl (rd_sl0 e8_ok eadx hs hx13 rfl)) ?_
    refine Qt.o_val rfl (v_int rfl rfl Try.underlying5 Try.underlying3 (wrap_i64 (by omega) (by have := x13.toNat_lt; omega))) ?_
    refine Qt.o_val rfl (v_bin rfl rfl rfl (b_mul (wrap_i64 (by have := x13.toNat_lt; omega) (by have := x13.toNat_lt; omega)))) ?_
    refine Qt.o_val rfl (v_move rfl rfl) ?_
    refine Qt.o_val rfl (v_indexK e8_ok eadx rfl rfl rfl Try.underlying25 (by omega) (by omega)) ?_
    obtain ⟨x18, hx18⟩ : ∃ x, (xs)[((1 : Int)).toNat]? = some x := ⟨_, List.getElem?_eq_getElem (by omega)⟩
    refine Qt.o_val rfl (v_load1 rfl rfl Try.underlying5 rfl (rd_sl0 e8_ok eadx hs hx18 rfl)) ?_
    refine Qt.o_val rfl (v_int rfl rfl Try.underlying5 Try.underlying3 (wrap_i64 (by omega) (by have := x18.toNat_lt; omega))) ?_
    refine Qt.o_val rfl (v_bin rfl rfl rfl (b_add (show IntKind.i64.wrap (256 * (x13.toNat : Int) + (x18.toNat : Int)) = (lenB xs : Int) from by have := x13.toNat_lt; have := x18.toNat_lt; rw [lenB_get hx13 hx18, wrap_i64 (by omega) (by omega)]; omega))) ?_
    refine Qt.o_val rfl (v_assign rfl rfl) ?_
    refine Qt.l_nil ?_
    refine q_then ?_
    refine c_seq ?_
    refine c_seq ?_
    refine c_region ?_
    refine o_move rfl rfl ?_
    refine o_bin rfl rfl rfl b_gtr ?_
    refine l_nil ?_
    refine q_then ?_
    refine c_cond rfl (fun h2 => ?_) (fun h2 => ?_)
    · -- h2T
      have h2b := h2
      try simp only [decide_eq_true_eq, decide_eq_false_iff_not, Bool.not_eq_eq_eq_not, Bool.not_true, Bool.not_false, Bool.not_eq_true', Bool.not_eq_false', Int.not_lt, Int.not_le, Bool.or_eq_true, Bool.and_eq_true] at h2
      refine c_seq ?_
      have hun := unR_form (xs := xs) (by omega) (by omega)
      refine c_region ?_
      refine o_lit e8_ok rfl Try.underlying25 rfl rfl rfl (lit_ok rfl) ([] : List UInt8) rfl rfl fun a24 => ?_
      refine o_assign rfl rfl ?_
      refine o_assign rfl rfl ?_
      refine o_assign rfl rfl ?_
      refine l_nil ?_
      refine q_then ?_
      refine c_ret ?_
      refine q_pass_ret ?_
      exact f_ret (r_three rfl rfl rfl rfl) (⟨[], a24, 0, by rw [hun], by rw [hun]; rfl, rfl⟩) (fun w S => S)
    · -- h2F
      have h2b := h2
      try simp only [decide_eq_true_eq, decide_eq_false_iff_not, Bool.not_eq_eq_eq_not, Bool.not_true, Bool.not_false, Bool.not_eq_true', Bool.not_eq_false', Int.not_lt, Int.not_le, Bool.or_eq_true, Bool.and_eq_true] at h2
      refine c_skip ?_
      refine q_then ?_
      refine c_seq ?_
      refine c_seq ?_
      refine c_region ?_
      refine o_move rfl rfl ?_
      refine o_move rfl rfl ?_
      refine o_len rfl rfl Try.underlying25 ?_
      refine o_bin rfl rfl rfl (b_sub (wrap_i64 (by omega) (by omega))) ?_
      refine o_bin rfl rfl rfl b_gtr ?_
      refine l_nil ?_
      refine q_then ?_
      refine c_cond rfl (fun h3 => ?_) (fun h3 => ?_)
      · -- h3T
        have h3b := h3
        try simp only [decide_eq_true_eq, decide_eq_false_iff_not, Bool.not_eq_eq_eq_not, Bool.not_true, Bool.not_false, Bool.not_eq_true', Bool.not_eq_false', Int.not_lt, Int.not_le, Bool.or_eq_true, Bool.and_eq_true] at h3
        refine c_seq ?_
        have hun := unR_cut (xs := xs) (by omega) (by omega) (by omega)
        refine c_region ?_
        refine o_lit e8_ok rfl Try.underlying25 rfl rfl rfl (lit_ok rfl) ([] : List UInt8) rfl rfl fun a30 => ?_
        refine o_assign rfl rfl ?_
        refine o_assign rfl rfl ?_
        refine o_assign rfl rfl ?_
        refine l_nil ?_
        refine q_then ?_
        refine c_ret ?_
        refine q_pass_ret ?_
        exact f_ret (r_three rfl rfl rfl rfl) (⟨[], a30, 0, by rw [hun], by rw [hun]; rfl, rfl⟩) (fun w S => S)
      · -- h3F
        have h3b := h3
        try simp only [decide_eq_true_eq, decide_eq_false_iff_not, Bool.not_eq_eq_eq_not, Bool.not_true, Bool.not_false, Bool.not_eq_true', Bool.not_eq_false', Int.not_lt, Int.not_le, Bool.or_eq_true, Bool.and_eq_true] at h3
        refine c_skip ?_
        refine q_then ?_
        refine c_seq ?_
        refine c_region ?_
        refine o_move rfl rfl ?_
        refine o_move rfl rfl ?_
        refine o_bin rfl rfl rfl (b_add (wrap_i64 (by omega) (by omega))) ?_
        refine o_cut (l' := 6) (h' := (6 + lenB xs)) (m := c) rfl rfl Try.underlying25 ti5 (.inl ⟨rfl, rfl⟩) (.inr ⟨_, _, rfl, icast rfl (by omega), (by omega)⟩) (.inr ⟨_, _, rfl, icast rfl (by omega), (by omega)⟩) ?_
        obtain ⟨ys35, ay35, cut35, hys35, hlys35, eay35⟩ : ∃ ys_ ay_, (∀ {L : List Res}, RdS W L e8 a xs → RdS W L e8 ay_ ys_) ∧ ys_ = sub xs 6 (6 + lenB xs) ∧ ys_.length = (6 + lenB xs) - 6 ∧ cutA a c 6 1 = ay_ := ⟨_, _, fun h => rds_cut e8_ok h _ _ _ (by omega), rfl, sub_len (by omega), rfl⟩
        refine l_eq (t := 35) (v' := .slice ay35 ys35.length (c - 6)) rfl (by rw [eay35, hlys35]) ?_
        refine o_call rfl cal25 rfl (rframe (cut35 hs) (by omega)) ?_
        rintro _ _ ⟨out36, a36, c36, hout36, rfl, rfl⟩
        have hfr : out36 = frameB ys35 := by rw [hout36, frR_yes (by omega)]
        refine o_move rfl rfl ?_
        refine o_extract rfl rfl rfl ?_
        refine o_extract rfl rfl rfl ?_
        refine o_assign rfl rfl ?_
        refine o_assign rfl rfl ?_
        refine l_nil ?_
        refine q_then ?_
        refine c_seq ?_
        refine c_seq ?_
        refine c_quiet (by kernel_rfl) (by kernel_rfl) ?_
        refine Qt.o_val rfl (v_move rfl rfl) ?_
        refine Qt.o_val rfl (v_bytesStr (e := e8) rfl rfl rfl Try.underlying25 Try.underlying5 Try.underlying9 (rds_own e8_ok 0 rfl)) ?_
        refine Qt.o_val rfl (v_move rfl rfl) ?_
        refine Qt.o_val rfl (v_move rfl rfl) ?_
        refine Qt.o_val rfl (v_bin rfl rfl rfl (b_add (wrap_i64 (by omega) (by omega)))) ?_
        refine Qt.o_val rfl (v_cut (l' := 0) (h' := (6 + lenB xs)) (m := c) rfl rfl Try.underlying25 ti5 (.inl ⟨rfl, rfl⟩) (.inr ⟨_, _, rfl, icast rfl (by omega), (by omega)⟩) (.inl ⟨rfl, rfl⟩)) ?_
        obtain ⟨ys44, ay44, cut44, hys44, hlys44, eay44⟩ : ∃ ys_ ay_, (∀ {L : List Res}, RdS W L e8 a xs → RdS W L e8 ay_ ys_) ∧ ys_ = sub xs 0 (6 + lenB xs) ∧ ys_.length = (6 + lenB xs) - 0 ∧ cutA a c 0 1 = ay_ := ⟨_, _, fun h => rds_cut e8_ok h _ _ _ (by omega), rfl, sub_len (by omega), rfl⟩
        refine Qt.l_eq (t := 44) (v' := .slice ay44 ys44.length (c - 0)) rfl (by rw [eay44, hlys44]) ?_
        refine Qt.o_val rfl (v_bytesStr (e := e8) rfl rfl rfl Try.underlying25 Try.underlying5 Try.underlying9 (cut44 (rds_c hs))) ?_
        refine Qt.o_val rfl (v_bin rfl rfl rfl b_sneq) ?_
        refine Qt.l_nil ?_
        refine q_then ?_
        refine c_cond rfl (fun h4 => ?_) (fun h4 => ?_)
        · -- h4T
          have h4b := h4
          try simp only [decide_eq_true_eq, decide_eq_false_iff_not, Bool.not_eq_eq_eq_not, Bool.not_true, Bool.not_false, Bool.not_eq_true', Bool.not_eq_false', Int.not_lt, Int.not_le, Bool.or_eq_true, Bool.and_eq_true] at h4
          refine c_seq ?_
          have hun := unR_sum (xs := xs) (by omega) (by omega) (by omega) (by rw [← hys35, ← hfr, ← hys44]; rw [bts_eq] at h4; exact h4)
          refine c_region ?_
          refine o_lit e8_ok rfl Try.underlying25 rfl rfl rfl (lit_ok rfl) ([] : List UInt8) rfl rfl fun a47 => ?_
          refine o_assign rfl rfl ?_
          refine o_assign rfl rfl ?_
          refine o_assign rfl rfl ?_
          refine l_nil ?_
          refine q_then ?_
          refine c_ret ?_
          refine q_pass_ret ?_
          refine q_conv (fun w S => (S.perm p1).tail) ?_
          exact f_ret (r_three rfl rfl rfl rfl) (⟨[], a47, 0, by rw [hun], by rw [hun]; rfl, rfl⟩) (fun w S => S)
        · -- h4F
          have h4b := h4
          try simp only [decide_eq_true_eq, decide_eq_false_iff_not, Bool.not_eq_eq_eq_not, Bool.not_true, Bool.not_false, Bool.not_eq_true', Bool.not_eq_false', Int.not_lt, Int.not_le, Bool.or_eq_true, Bool.and_eq_true] at h4
          refine c_skip ?_
          refine q_then ?_
          refine c_seq ?_
          have hun := unR_ok (xs := xs) (by omega) (by omega) (by omega) (by rw [← hys35, ← hfr, ← hys44]; rw [bts_eq] at h4; exact h4)
          refine c_region ?_
          refine o_lit e8_ok rfl Try.underlying25 rfl rfl rfl (lit_ok rfl) ([] : List UInt8) rfl rfl fun a48 => ?_
          refine o_move rfl rfl ?_
          refine o_move rfl rfl ?_
          refine o_bin rfl rfl rfl (b_add (wrap_i64 (by omega) (by omega))) ?_
          refine o_cut (l' := 6) (h' := (6 + lenB xs)) (m := c) rfl rfl Try.underlying25 ti5 (.inl ⟨rfl, rfl⟩) (.inr ⟨_, _, rfl, icast rfl (by omega), (by omega)⟩) (.inr ⟨_, _, rfl, icast rfl (by omega), (by omega)⟩) ?_
          obtain ⟨ys52, ay52, cut52, hys52, hlys52, eay52⟩ : ∃ ys_ ay_, (∀ {L : List Res}, RdS W L e8 a xs → RdS W L e8 ay_ ys_) ∧ ys_ = sub xs 6 (6 + lenB xs) ∧ ys_.length = (6 + lenB xs) - 6 ∧ cutA a c 6 1 = ay_ := ⟨_, _, fun h => rds_cut e8_ok h _ _ _ (by omega), rfl, sub_len (by omega), rfl⟩
          refine l_eq (t := 52) (v' := .slice ay52 ys52.length (c - 6)) rfl (by rw [eay52, hlys52]) ?_
          refine o_append e8_ok rfl rfl rfl Try.underlying25 (cut52 (rds_c (rds_c hs))) (by show (_ + _) * 1 ≤ _; (try simp only [List.length_append, List.length_cons, List.length_nil]); omega) (by (try simp only [List.length_append, List.length_cons, List.length_nil]); omega) fun a53 c53 => ?_
          refine o_move rfl rfl ?_
          refine o_bin rfl rfl rfl (b_add (wrap_i64 (by omega) (by omega))) ?_
          refine o_assign rfl rfl ?_
          refine o_assign rfl rfl ?_
          refine o_assign rfl rfl ?_
          refine l_nil ?_
          refine q_then ?_
          refine c_ret ?_
          refine q_conv (fun w S => (S.perm p1).tail) ?_
          exact f_ret (r_three rfl rfl rfl rfl) (⟨[] ++ ys52, a53, c53, by rw [hun, List.nil_append, hys52], by rw [hun]; rfl, rfl⟩) (fun w S => S)

end Go.Proofs.Ytkohbgblnkelnaa
