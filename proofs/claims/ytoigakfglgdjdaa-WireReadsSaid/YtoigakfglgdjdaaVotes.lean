/- Printed by eng2.py out of 18/spec.py. -/
import Derived.Test.YtoigakfglgdjdaaCheck
set_option linter.unusedVariables false
set_option linter.unusedSimpArgs false
set_option maxRecDepth 10000
namespace Go.Proofs.Ytoigakfglgdjdaa
open Go.RowKit Classical
theorem votesTo_0 {vs : List Vote} : VotesTo vs 0 := ⟨fun j v h => absurd h (by omega), fun j v u h => absurd h (by omega)⟩
theorem votesTo_on {vs : List Vote} {i : Nat} {v : Vote} (h : VotesTo vs i) (hv : vs[i]? = some v) (h1 : 0 ≤ v.f_Slot) (h2 : v.f_Slot < 64) (h3 : v.f_Value.size ≤ 4096) (h4 : ∀ j u, j + 1 = i → vs[j]? = some u → u.f_Slot < v.f_Slot) : VotesTo vs (i + 1) := by
  refine ⟨fun j u hj hu => ?_, fun j u w hj hu hw => ?_⟩
  · by_cases hji : j < i
    · exact h.1 j u hji hu
    · obtain rfl : j = i := by omega
      rw [hv] at hu; cases hu; exact ⟨h1, h2, h3⟩
  · by_cases hji : j + 1 < i
    · exact h.2 j u w hji hu hw
    · obtain rfl : j + 1 = i := by omega
      rw [hv] at hw; cases hw; exact h4 j u rfl hu
theorem votesTo_no {vs : List Vote} {i : Nat} {v : Vote} (hv : vs[i]? = some v) (h : v.f_Slot < 0 ∨ 64 ≤ v.f_Slot ∨ 4096 < v.f_Value.size) : ¬ VotesTo vs vs.length := fun h9 => by
  obtain ⟨hj, _⟩ := List.getElem?_eq_some_iff.1 hv
  have := h9.1 i v hj hv; omega
theorem votesTo_no2 {vs : List Vote} {i : Nat} {v u : Vote} (hi : 0 < i) (hu : vs[((i : Int) - 1).toNat]? = some u) (hv : vs[i]? = some v) (h : v.f_Slot ≤ u.f_Slot) : ¬ VotesTo vs vs.length := fun h9 => by
  obtain ⟨hj, _⟩ := List.getElem?_eq_some_iff.1 hv
  obtain ⟨k, rfl⟩ : ∃ k, i = k + 1 := ⟨i - 1, by omega⟩
  rw [show (((k + 1 : Nat) : Int) - 1).toNat = k by omega] at hu
  have := h9.2 k u v hj hu hv; omega
theorem votes_ {W : World} {F : List Res} {xs : List Vote} {a : Option Addr} {c : Nat} (hs : RdS W F e_Vote a xs) (hn : xs.length ≤ 9223372036854775807) : CS Try.prog 27 #[.slice a (xs).length c] W (F) (fun r L' => r = .bool (decide (VotesTo xs xs.length)) ∧ F = L') := by
 refine f_door (l0 := [(0, .slice a (xs).length c)]) Try.func27 Try.ntmps27 rfl rfl rfl ?_
 refine c_seq ?_
 refine c_region ?_
 refine o_assign rfl rfl ?_
 refine l_nil ?_
 refine q_then ?_
 refine c_seq ?_
 refine c_seq ?_
 refine c_region ?_
 refine o_move rfl rfl ?_
 refine o_len rfl rfl Try.underlying24 ?_
 refine o_move rfl rfl ?_
 refine l_nil ?_
 refine q_then ?_
 refine c_block ?_
 refine c_loop (α := Nat) (fun z => [(0, .slice a (xs).length c), (5, .slice a (xs).length c), (6, .int .i64 ((xs).length : Int)), (7, .int .i64 (z : Int))]) (fun z => F) (fun z => z ≤ xs.length ∧ VotesTo xs z) (fun z => xs.length - z) (0) (by exact ⟨Nat.zero_le _, votesTo_0⟩) ⟨(by first | rfl | exact vint (by omega)), (by first | rfl | exact vint (by omega)), (by first | rfl | exact vint (by omega)), (by first | rfl | exact vint (by omega)), trivial⟩ (fun w S => S) ?_
 rintro i ⟨hi, hv⟩
 try dsimp only at *
 refine c_seq ?_
 refine c_region ?_
 refine o_bin rfl rfl rfl b_lss ?_
 refine l_nil ?_
 refine q_then ?_
 refine c_seq ?_
 refine c_cond rfl (fun h1 => ?_) (fun h1 => ?_)
 · -- h1T
  have h1b := h1
  try simp only [decide_eq_true_eq] at h1
  refine c_skip ?_
  refine q_then ?_
  refine c_seq ?_
  refine c_block ?_
  refine c_seq ?_
  refine c_region ?_
  refine o_move rfl rfl ?_
  refine o_index e_Vote_ok rfl rfl rfl Try.underlying24 (by omega) (by omega) hs fun ad10 ead10 => ?_
  obtain ⟨x10, hx10⟩ : ∃ x, (xs)[((i : Int)).toNat]? = some x := ⟨_, List.getElem?_eq_getElem (by omega)⟩
  refine o_loadn (vs := e_Vote.cells x10) rfl rfl Try.underlying48 rfl ti48 (rdn_sl e_Vote_ok ead10 hs hx10) ?_
  refine o_alloc rfl ti48 fun b4 => ?_
  refine o_assign rfl rfl ?_
  refine o_storen rfl rfl ti48 rfl rfl rfl rfl ?_
  refine l_nil ?_
  refine q_then ?_
  refine c_seq ?_
  refine c_fact (p := ∃ ad, a = some ad) (rds_some (e := e_Vote) (xs := xs) (rds_c hs) (by intro h0; have h00 := congrArg List.length h0; simp only [List.length_nil] at h00; omega)) ?_
  rintro ⟨adx, eadx⟩
  refine c_quiet (by kernel_rfl) (by kernel_rfl) ?_
  refine Qt.o_val rfl (v_fieldAddr (q := ⟨b4, 0, none⟩) rfl rfl Try.underlying48 rfl ti3 rfl) ?_
  refine Qt.o_val rfl (v_load1 rfl rfl Try.underlying3 rfl (rd_mem 0 rfl rfl)) ?_
  refine Qt.o_val rfl (v_bin rfl rfl rfl b_lss) ?_
  refine Qt.o_val rfl (v_move rfl rfl) ?_
  refine Qt.l_split (t := 15) rfl (fun h2 => ?_) (fun h2 => ?_)
  · -- h2T
   have h2b := h2
   try simp only [decide_eq_true_eq] at h2
   refine Qt.o_no rfl rfl rfl rfl ?_
   refine Qt.o_no rfl rfl rfl rfl ?_
   refine Qt.o_no rfl rfl rfl rfl ?_
   refine Qt.o_val rfl (v_pick_true rfl rfl rfl) ?_
   refine Qt.o_val rfl (v_move rfl rfl) ?_
   refine Qt.o_no rfl rfl rfl rfl ?_
   refine Qt.o_no rfl rfl rfl rfl ?_
   refine Qt.o_no rfl rfl rfl rfl ?_
   refine Qt.o_no rfl rfl rfl rfl ?_
   refine Qt.o_val rfl (v_pick_true rfl rfl rfl) ?_
   refine Qt.o_val rfl (v_move rfl rfl) ?_
   refine Qt.o_no rfl rfl rfl rfl ?_
   refine Qt.o_no rfl rfl rfl rfl ?_
   refine Qt.o_no rfl rfl rfl rfl ?_
   refine Qt.o_no rfl rfl rfl rfl ?_
   refine Qt.o_no rfl rfl rfl rfl ?_
   refine Qt.o_no rfl rfl rfl rfl ?_
   refine Qt.o_no rfl rfl rfl rfl ?_
   refine Qt.o_no rfl rfl rfl rfl ?_
   refine Qt.o_no rfl rfl rfl rfl ?_
   refine Qt.o_no rfl rfl rfl rfl ?_
   refine Qt.o_no rfl rfl rfl rfl ?_
   refine Qt.o_no rfl rfl rfl rfl ?_
   refine Qt.o_no rfl rfl rfl rfl ?_
   refine Qt.o_val rfl (v_pick_true rfl rfl rfl) ?_
   refine Qt.l_nil ?_
   refine q_then ?_
   refine c_true rfl ?_
   refine c_seq ?_
   refine c_region ?_
   refine o_assign rfl rfl ?_
   refine l_nil ?_
   refine q_then ?_
   refine c_ret ?_
   refine q_block_ret ?_
   refine q_pass_ret ?_
   refine q_pass_ret ?_
   refine q_block_ret ?_
   refine q_pass_ret ?_
   refine q_conv (fun w S => S.tail) ?_
   exact f_ret (r_one rfl rfl) (⟨vfalse (votesTo_no hx10 (by omega)), rfl⟩) (fun w S => S)
  · -- h2F
   have h2b := h2
   try simp only [decide_eq_false_iff_not, Int.not_lt, Int.not_le] at h2
   refine Qt.o_yes rfl rfl rfl ?_
   refine Qt.o_val rfl (v_fieldAddr (q := ⟨b4, 0, none⟩) rfl rfl Try.underlying48 rfl ti3 rfl) ?_
   refine Qt.o_yes rfl rfl rfl ?_
   refine Qt.o_val rfl (v_load1 rfl rfl Try.underlying3 rfl (rd_mem 0 rfl rfl)) ?_
   refine Qt.o_yes rfl rfl rfl ?_
   refine Qt.o_val rfl (v_bin rfl rfl rfl b_geq) ?_
   refine Qt.o_val rfl (v_pick_false rfl rfl rfl) ?_
   refine Qt.o_val rfl (v_move rfl rfl) ?_
   refine Qt.l_split (t := 20) rfl (fun h3 => ?_) (fun h3 => ?_)
   · -- h3T
    have h3b := h3
    try simp only [decide_eq_true_eq] at h3
    refine Qt.o_no rfl rfl rfl rfl ?_
    refine Qt.o_no rfl rfl rfl rfl ?_
    refine Qt.o_no rfl rfl rfl rfl ?_
    refine Qt.o_no rfl rfl rfl rfl ?_
    refine Qt.o_val rfl (v_pick_true rfl rfl rfl) ?_
    refine Qt.o_val rfl (v_move rfl rfl) ?_
    refine Qt.o_no rfl rfl rfl rfl ?_
    refine Qt.o_no rfl rfl rfl rfl ?_
    refine Qt.o_no rfl rfl rfl rfl ?_
    refine Qt.o_no rfl rfl rfl rfl ?_
    refine Qt.o_no rfl rfl rfl rfl ?_
    refine Qt.o_no rfl rfl rfl rfl ?_
    refine Qt.o_no rfl rfl rfl rfl ?_
    refine Qt.o_no rfl rfl rfl rfl ?_
    refine Qt.o_no rfl rfl rfl rfl ?_
    refine Qt.o_no rfl rfl rfl rfl ?_
    refine Qt.o_no rfl rfl rfl rfl ?_
    refine Qt.o_no rfl rfl rfl rfl ?_
    refine Qt.o_no rfl rfl rfl rfl ?_
    refine Qt.o_val rfl (v_pick_true rfl rfl rfl) ?_
    refine Qt.l_nil ?_
    refine q_then ?_
    refine c_true rfl ?_
    refine c_seq ?_
    refine c_region ?_
    refine o_assign rfl rfl ?_
    refine l_nil ?_
    refine q_then ?_
    refine c_ret ?_
    refine q_block_ret ?_
    refine q_pass_ret ?_
    refine q_pass_ret ?_
    refine q_block_ret ?_
    refine q_pass_ret ?_
    refine q_conv (fun w S => S.tail) ?_
    exact f_ret (r_one rfl rfl) (⟨vfalse (votesTo_no hx10 (by omega)), rfl⟩) (fun w S => S)
   · -- h3F
    have h3b := h3
    try simp only [decide_eq_false_iff_not, Int.not_lt, Int.not_le] at h3
    refine Qt.o_yes rfl rfl rfl ?_
    refine Qt.o_val rfl (v_fieldAddr (q := ⟨b4, 2, none⟩) rfl rfl Try.underlying48 rfl ti9 rfl) ?_
    refine Qt.o_yes rfl rfl rfl ?_
    refine Qt.o_val rfl (v_load1 rfl rfl Try.underlying9 rfl (rd_mem 0 rfl rfl)) ?_
    refine Qt.o_yes rfl rfl rfl ?_
    refine Qt.o_val rfl (v_lenStr rfl rfl Try.underlying9) ?_
    refine Qt.o_yes rfl rfl rfl ?_
    refine Qt.o_val rfl (v_bin rfl rfl rfl b_gtr) ?_
    refine Qt.o_val rfl (v_pick_false rfl rfl rfl) ?_
    refine Qt.o_val rfl (v_move rfl rfl) ?_
    refine Qt.l_split (t := 26) rfl (fun h4 => ?_) (fun h4 => ?_)
    · -- h4T
     have h4b := h4
     try simp only [decide_eq_true_eq] at h4
     refine Qt.o_no rfl rfl rfl rfl ?_
     refine Qt.o_no rfl rfl rfl rfl ?_
     refine Qt.o_no rfl rfl rfl rfl ?_
     refine Qt.o_no rfl rfl rfl rfl ?_
     refine Qt.o_no rfl rfl rfl rfl ?_
     refine Qt.o_no rfl rfl rfl rfl ?_
     refine Qt.o_no rfl rfl rfl rfl ?_
     refine Qt.o_no rfl rfl rfl rfl ?_
     refine Qt.o_no rfl rfl rfl rfl ?_
     refine Qt.o_no rfl rfl rfl rfl ?_
     refine Qt.o_no rfl rfl rfl rfl ?_
     refine Qt.o_no rfl rfl rfl rfl ?_
     refine Qt.o_no rfl rfl rfl rfl ?_
     refine Qt.o_val rfl (v_pick_true rfl rfl rfl) ?_
     refine Qt.l_nil ?_
     refine q_then ?_
     refine c_true rfl ?_
     refine c_seq ?_
     refine c_region ?_
     refine o_assign rfl rfl ?_
     refine l_nil ?_
     refine q_then ?_
     refine c_ret ?_
     refine q_block_ret ?_
     refine q_pass_ret ?_
     refine q_pass_ret ?_
     refine q_block_ret ?_
     refine q_pass_ret ?_
     refine q_conv (fun w S => S.tail) ?_
     exact f_ret (r_one rfl rfl) (⟨vfalse (votesTo_no hx10 (by omega)), rfl⟩) (fun w S => S)
    · -- h4F
     have h4b := h4
     try simp only [decide_eq_false_iff_not, Int.not_lt, Int.not_le] at h4
     refine Qt.o_yes rfl rfl rfl ?_
     refine Qt.o_val rfl (v_move rfl rfl) ?_
     refine Qt.o_yes rfl rfl rfl ?_
     refine Qt.o_val rfl (v_bin rfl rfl rfl b_gtr) ?_
     refine Qt.o_yes rfl rfl rfl ?_
     refine Qt.o_val rfl (v_move rfl rfl) ?_
     refine Qt.l_split (t := 29) rfl (fun h5 => ?_) (fun h5 => ?_)
     · -- h5T
      have h5b := h5
      try simp only [decide_eq_true_eq] at h5
      refine Qt.o_yes rfl rfl rfl ?_
      refine Qt.o_val rfl (v_move rfl rfl) ?_
      refine Qt.o_yes rfl rfl rfl ?_
      refine Qt.o_val rfl (v_move rfl rfl) ?_
      refine Qt.o_yes rfl rfl rfl ?_
      refine Qt.o_val rfl (v_bin rfl rfl rfl (b_sub (wrap_i64 (by omega) (by omega)))) ?_
      refine Qt.o_yes rfl rfl rfl ?_
      refine Qt.o_val rfl (v_indexK e_Vote_ok eadx rfl rfl rfl Try.underlying24 (by omega) (by omega)) ?_
      obtain ⟨x33, hx33⟩ : ∃ x, (xs)[(((i : Int) - 1)).toNat]? = some x := ⟨_, List.getElem?_eq_getElem (by omega)⟩
      refine Qt.o_yes rfl rfl rfl ?_
      refine Qt.o_val rfl (v_fieldAddr rfl rfl Try.underlying48 rfl ti3 (Addr.add_add' _ _ _)) ?_
      refine Qt.o_yes rfl rfl rfl ?_
      refine Qt.o_val rfl (v_load1 rfl rfl Try.underlying3 rfl (rd_sl e_Vote_ok eadx (rds_c hs) hx33 rfl)) ?_
      refine Qt.o_yes rfl rfl rfl ?_
      refine Qt.o_val rfl (v_fieldAddr (q := ⟨b4, 0, none⟩) rfl rfl Try.underlying48 rfl ti3 rfl) ?_
      refine Qt.o_yes rfl rfl rfl ?_
      refine Qt.o_val rfl (v_load1 rfl rfl Try.underlying3 rfl (rd_mem 0 rfl rfl)) ?_
      refine Qt.o_yes rfl rfl rfl ?_
      refine Qt.o_val rfl (v_bin rfl rfl rfl b_geq) ?_
      refine Qt.o_yes rfl rfl rfl ?_
      refine Qt.o_val rfl (v_pick_true rfl rfl rfl) ?_
      refine Qt.o_val rfl (v_pick_false rfl rfl rfl) ?_
      refine Qt.l_nil ?_
      refine q_then ?_
      refine c_cond rfl (fun h6 => ?_) (fun h6 => ?_)
      · -- h6T
       have h6b := h6
       try simp only [decide_eq_true_eq] at h6
       refine c_seq ?_
       refine c_region ?_
       refine o_assign rfl rfl ?_
       refine l_nil ?_
       refine q_then ?_
       refine c_ret ?_
       refine q_block_ret ?_
       refine q_pass_ret ?_
       refine q_pass_ret ?_
       refine q_block_ret ?_
       refine q_pass_ret ?_
       refine q_conv (fun w S => S.tail) ?_
       exact f_ret (r_one rfl rfl) (⟨vfalse (votesTo_no2 (by omega) hx33 hx10 (by omega)), rfl⟩) (fun w S => S)
      · -- h6F
       have h6b := h6
       try simp only [decide_eq_false_iff_not, Int.not_lt, Int.not_le] at h6
       refine c_skip ?_
       refine q_block ?_
       refine q_then ?_
       refine c_region ?_
       refine o_bin rfl rfl rfl (b_add (wrap_i64 (by omega) (by omega))) ?_
       refine o_move rfl rfl ?_
       refine l_nil ?_
       refine q_conv (fun w S => S.tail) ?_
       exact q_round (i + 1) (by exact ⟨by omega, votesTo_on hv hx10 (by omega) (by omega) (by omega) (fun j u hj hu => by have h9 := hx33; rw [show ((i : Int) - 1).toNat = j by omega, hu] at h9; cases h9; omega)⟩) (by (try dsimp only); omega) ⟨(by first | rfl | exact vint (by omega)), (by first | rfl | exact vint (by omega)), (by first | rfl | exact vint (by omega)), (by first | rfl | exact vint (by omega)), trivial⟩ (fun w S => S)
     · -- h5F
      have h5b := h5
      try simp only [decide_eq_false_iff_not, Int.not_lt, Int.not_le] at h5
      refine Qt.o_no rfl rfl rfl rfl ?_
      refine Qt.o_no rfl rfl rfl rfl ?_
      refine Qt.o_no rfl rfl rfl rfl ?_
      refine Qt.o_no rfl rfl rfl rfl ?_
      refine Qt.o_no rfl rfl rfl rfl ?_
      refine Qt.o_no rfl rfl rfl rfl ?_
      refine Qt.o_no rfl rfl rfl rfl ?_
      refine Qt.o_no rfl rfl rfl rfl ?_
      refine Qt.o_no rfl rfl rfl rfl ?_
      refine Qt.o_yes rfl rfl rfl ?_
      refine Qt.o_val rfl (v_pick_false rfl rfl rfl) ?_
      refine Qt.o_val rfl (v_pick_false rfl rfl rfl) ?_
      refine Qt.l_nil ?_
      refine q_then ?_
      refine c_false rfl ?_
      refine c_skip ?_
      refine q_block ?_
      refine q_then ?_
      refine c_region ?_
      refine o_bin rfl rfl rfl (b_add (wrap_i64 (by omega) (by omega))) ?_
      refine o_move rfl rfl ?_
      refine l_nil ?_
      refine q_conv (fun w S => S.tail) ?_
      exact q_round (i + 1) (by exact ⟨by omega, votesTo_on hv hx10 (by omega) (by omega) (by omega) (fun j u hj hu => by omega)⟩) (by (try dsimp only); omega) ⟨(by first | rfl | exact vint (by omega)), (by first | rfl | exact vint (by omega)), (by first | rfl | exact vint (by omega)), (by first | rfl | exact vint (by omega)), trivial⟩ (fun w S => S)
 · -- h1F
  have h1b := h1
  try simp only [decide_eq_false_iff_not, Int.not_lt, Int.not_le] at h1
  refine c_exit ?_
  refine q_pass_exit ?_
  refine q_pass_exit ?_
  refine q_hit ?_
  refine q_then ?_
  refine c_seq ?_
  refine c_region ?_
  refine o_assign rfl rfl ?_
  refine l_nil ?_
  refine q_then ?_
  refine c_ret ?_
  exact f_ret (r_one rfl rfl) (⟨vtrue (show VotesTo xs xs.length from by rw [show xs.length = i by omega]; exact hv), rfl⟩) (fun w S => S)

end Go.Proofs.Ytoigakfglgdjdaa
