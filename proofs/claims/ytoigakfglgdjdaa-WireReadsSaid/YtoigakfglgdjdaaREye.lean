/- Printed by eng.py out of 18/base.py. -/
import Derived.Test.YtoigakfglgdjdaaPen
import Derived.Test.YtoigakfglgdjdaaEyep
set_option linter.unusedVariables false
set_option linter.unusedSimpArgs false
set_option maxRecDepth 10000
namespace Go.Proofs.Ytoigakfglgdjdaa
open Go.RowKit
theorem rEyeNum {W : World} {F : List Res} {k i : Nat} {xs ys : List UInt8} {a : Option Addr} {c : Nat} (hs : SlR W e8 a xs) (hy : ys = xs.drop i) (hil : i ≤ xs.length) (hsm : xs.length ≤ 70000000000000) (hcc : xs.length ≤ c) : CS Try.prog 33 #[.pointer (some ⟨k, 0, none⟩)] W (blk k (.cells #[.slice a xs.length c, .int .i64 (i : Int)] 76 (0, 0)) :: F) (fun r L' => r = .tuple #[.int .u64 ((numR 0 0 ys).1 : Int), .int .i64 ((numR 0 0 ys).2.1 : Int)] ∧ L' = blk k (.cells #[.slice a xs.length c, .int .i64 ((i + (numR 0 0 ys).2.2 : Nat) : Int)] 76 (0, 0)) :: F) := by
 have hyl : ys.length = xs.length - i := by rw [hy, List.length_drop]
 refine f_door (l0 := [(0, .pointer (some ⟨k, 0, none⟩))]) Try.func33 Try.ntmps33 rfl rfl rfl ?_
 refine c_seq ?_
 refine c_region ?_
 refine o_assign rfl rfl ?_
 refine o_assign rfl rfl ?_
 refine l_nil ?_
 refine q_then ?_
 refine c_seq ?_
 refine c_region ?_
 refine o_assign rfl rfl ?_
 refine o_assign rfl rfl ?_
 refine l_nil ?_
 refine q_then ?_
 refine c_seq ?_
 refine c_seq ?_
 refine c_region ?_
 refine o_assign rfl rfl ?_
 refine l_nil ?_
 refine q_then ?_
 refine c_block ?_
 refine c_loop (α := Nat × Nat) (fun z => [(0, .pointer (some ⟨k, 0, none⟩)), (4, .int .u64 (z.2 : Int)), (5, .int .u64 ((128 ^ z.1 : Nat) : Int)), (6, .int .i64 (z.1 : Int))]) (fun z => blk k (.cells #[.slice a xs.length c, .int .i64 (i : Int)] 76 (0, 0)) :: F) (fun z => numR 0 0 ys = numR z.1 z.2 (xs.drop (i + z.1)) ∧ z.1 ≤ 9 ∧ z.2 < 128 ^ z.1 ∧ i + z.1 ≤ xs.length) (fun z => xs.length - (i + z.1)) (0, 0) (by exact ⟨by rw [hy]; rfl, by omega, by decide, by omega⟩) ⟨(by first | rfl | exact vint (by omega)), (by first | rfl | exact vint (by omega)), (by rfl), (by first | rfl | exact vint (by omega)), trivial⟩ (fun w S => S) ?_
 rintro ⟨j, n⟩ ⟨hq, hj9, hn, hjl⟩
 try dsimp only at *
 refine c_seq ?_
 refine c_seq ?_
 refine c_quiet (by kernel_rfl) (by kernel_rfl) ?_
 refine Qt.o_val rfl (v_move rfl rfl) ?_
 refine Qt.o_val rfl (v_nil rfl rfl) ?_
 refine Qt.o_val rfl (v_fieldAddr (q := ⟨k, 1, none⟩) rfl rfl Try.underlying76 rfl ti3 rfl) ?_
 refine Qt.o_val rfl (v_load1 rfl rfl Try.underlying3 rfl (rd_mem 0 rfl rfl)) ?_
 refine Qt.o_val rfl (v_move rfl rfl) ?_
 refine Qt.o_val rfl (v_bin rfl rfl rfl (b_add (wrap_i64 (by omega) (by omega)))) ?_
 refine Qt.o_val rfl (v_move rfl rfl) ?_
 refine Qt.o_val rfl (v_nil rfl rfl) ?_
 refine Qt.o_val rfl (v_fieldAddr (q := ⟨k, 0, none⟩) rfl rfl Try.underlying76 rfl ti28 rfl) ?_
 refine Qt.o_val rfl (v_load1 rfl rfl Try.underlying28 rfl (rd_mem 0 rfl rfl)) ?_
 refine Qt.o_val rfl (v_len rfl rfl Try.underlying28) ?_
 refine Qt.o_val rfl (v_bin rfl rfl rfl b_lss) ?_
 refine Qt.l_nil ?_
 refine q_then ?_
 refine c_cond rfl (fun h1 => ?_) (fun h1 => ?_)
 · -- h1T
  try simp only [decide_eq_true_eq, decide_eq_false_iff_not, Bool.not_eq_eq_eq_not, Bool.not_true, Bool.not_false, Bool.not_eq_true', Bool.not_eq_false', Int.not_lt, Int.not_le, Bool.or_eq_true, Bool.and_eq_true] at h1
  refine c_skip ?_
  refine q_then ?_
  refine c_seq ?_
  refine c_block ?_
  refine c_seq ?_
  refine c_fact (p := ∃ ad, a = some ad) (rds_some (e := e8) (xs := xs) (rds_old hs) (by intro h0; rw [h0] at h1; simp at h1; omega)) ?_
  rintro ⟨adB, eadB⟩
  refine c_quiet (by kernel_rfl) (by kernel_rfl) ?_
  refine Qt.o_val rfl (v_move rfl rfl) ?_
  refine Qt.o_val rfl (v_nil rfl rfl) ?_
  refine Qt.o_val rfl (v_fieldAddr (q := ⟨k, 0, none⟩) rfl rfl Try.underlying76 rfl ti28 rfl) ?_
  refine Qt.o_val rfl (v_load1 rfl rfl Try.underlying28 rfl (rd_mem 0 rfl rfl)) ?_
  refine Qt.o_val rfl (v_move rfl rfl) ?_
  refine Qt.o_val rfl (v_nil rfl rfl) ?_
  refine Qt.o_val rfl (v_fieldAddr (q := ⟨k, 1, none⟩) rfl rfl Try.underlying76 rfl ti3 rfl) ?_
  refine Qt.o_val rfl (v_load1 rfl rfl Try.underlying3 rfl (rd_mem 0 rfl rfl)) ?_
  refine Qt.o_val rfl (v_move rfl rfl) ?_
  refine Qt.o_val rfl (v_bin rfl rfl rfl (b_add (wrap_i64 (by omega) (by omega)))) ?_
  refine Qt.o_val rfl (v_indexK e8_ok eadB rfl rfl rfl Try.underlying28 (by omega) (by omega)) ?_
  obtain ⟨x32, hx32⟩ : ∃ x, (xs)[(((i : Int) + (j : Int))).toNat]? = some x := ⟨_, List.getElem?_eq_getElem (by omega)⟩
  have hx32' : xs[i + j]? = some x32 := by rw [← hx32]; congr 1
  rw [drop_get hx32'] at hq
  have hxl := x32.toNat_lt
  refine Qt.o_val rfl (v_load1 rfl rfl Try.underlying5 rfl (rd_sl0 e8_ok eadB (rds_old hs) hx32 rfl)) ?_
  refine Qt.o_val rfl (v_int rfl rfl Try.underlying5 Try.underlying23 (cu64 _)) ?_
  refine Qt.o_val rfl (v_assign rfl rfl) ?_
  refine Qt.l_nil ?_
  refine q_then ?_
  refine c_seq ?_
  refine c_seq ?_
  refine c_region ?_
  refine o_move rfl rfl ?_
  refine o_bin rfl rfl rfl b_eql ?_
  refine o_move rfl rfl ?_
  refine l_split (t := 37) rfl (fun h2 => ?_) (fun h2 => ?_)
  · -- h2T
   try simp only [decide_eq_true_eq, decide_eq_false_iff_not, Bool.not_eq_eq_eq_not, Bool.not_true, Bool.not_false, Bool.not_eq_true', Bool.not_eq_false', Int.not_lt, Int.not_le, Bool.or_eq_true, Bool.and_eq_true] at h2
   refine o_yes rfl rfl rfl ?_
   refine o_move rfl rfl ?_
   refine o_yes rfl rfl rfl ?_
   refine o_bin rfl rfl rfl b_gtr ?_
   refine o_pick_true rfl rfl rfl ?_
   refine l_nil ?_
   refine q_then ?_
   refine c_cond rfl (fun h3 => ?_) (fun h3 => ?_)
   · -- h3T
    try simp only [decide_eq_true_eq, decide_eq_false_iff_not, Bool.not_eq_eq_eq_not, Bool.not_true, Bool.not_false, Bool.not_eq_true', Bool.not_eq_false', Int.not_lt, Int.not_le, Bool.or_eq_true, Bool.and_eq_true] at h3
    refine c_seq ?_
    have hres : numR 0 0 ys = (0, 31, 0) := by rw [hq]; exact numR_bad (by omega) (by omega)
    refine c_region ?_
    refine o_assign rfl rfl ?_
    refine o_assign rfl rfl ?_
    refine l_nil ?_
    refine q_then ?_
    refine c_ret ?_
    refine q_pass_ret ?_
    refine q_block_ret ?_
    refine q_pass_ret ?_
    refine q_pass_ret ?_
    refine q_block_ret ?_
    refine q_pass_ret ?_
    exact f_ret (r_two rfl rfl rfl) (⟨by rw [hres]; rfl, by (rw [hres]; first | done | rfl)⟩) (fun w S => S)
   · -- h3F
    try simp only [decide_eq_true_eq, decide_eq_false_iff_not, Bool.not_eq_eq_eq_not, Bool.not_true, Bool.not_false, Bool.not_eq_true', Bool.not_eq_false', Int.not_lt, Int.not_le, Bool.or_eq_true, Bool.and_eq_true] at h3
    refine c_skip ?_
    refine q_then ?_
    refine c_seq ?_
    refine c_region ?_
    have hnb : ¬ (j = 9 ∧ 1 < x32.toNat) := by omega
    refine o_move rfl rfl ?_
    refine o_move rfl rfl ?_
    refine o_bin rfl rfl rfl (b_rem (by omega) (tmod128b x32)) ?_
    refine o_move rfl rfl ?_
    refine o_bin rfl rfl rfl (b_mul (mul7 hj9 hnb)) ?_
    refine o_bin rfl rfl rfl (b_add (add7 hj9 hn hnb)) ?_
    refine o_assign rfl rfl ?_
    refine l_nil ?_
    refine q_then ?_
    refine c_seq ?_
    refine c_region ?_
    refine o_move rfl rfl ?_
    refine o_bin rfl rfl rfl (b_mul rfl) ?_
    refine o_assign rfl rfl ?_
    refine l_nil ?_
    refine q_then ?_
    refine c_seq ?_
    refine c_region ?_
    refine o_move rfl rfl ?_
    refine o_bin rfl rfl rfl b_lss ?_
    refine l_nil ?_
    refine q_then ?_
    refine c_cond rfl (fun h4 => ?_) (fun h4 => ?_)
    · -- h4T
     try simp only [decide_eq_true_eq, decide_eq_false_iff_not, Bool.not_eq_eq_eq_not, Bool.not_true, Bool.not_false, Bool.not_eq_true', Bool.not_eq_false', Int.not_lt, Int.not_le, Bool.or_eq_true, Bool.and_eq_true] at h4
     refine c_seq ?_
     refine c_seq ?_
     refine c_region ?_
     refine o_move rfl rfl ?_
     refine o_bin rfl rfl rfl b_eql ?_
     refine o_move rfl rfl ?_
     refine l_split (t := 53) rfl (fun h5 => ?_) (fun h5 => ?_)
     · -- h5T
      try simp only [decide_eq_true_eq, decide_eq_false_iff_not, Bool.not_eq_eq_eq_not, Bool.not_true, Bool.not_false, Bool.not_eq_true', Bool.not_eq_false', Int.not_lt, Int.not_le, Bool.or_eq_true, Bool.and_eq_true] at h5
      refine o_yes rfl rfl rfl ?_
      refine o_move rfl rfl ?_
      refine o_yes rfl rfl rfl ?_
      refine o_bin rfl rfl rfl b_gtr ?_
      refine o_pick_true rfl rfl rfl ?_
      refine l_nil ?_
      refine q_then ?_
      refine c_cond rfl (fun h6 => ?_) (fun h6 => ?_)
      · -- h6T
       try simp only [decide_eq_true_eq, decide_eq_false_iff_not, Bool.not_eq_eq_eq_not, Bool.not_true, Bool.not_false, Bool.not_eq_true', Bool.not_eq_false', Int.not_lt, Int.not_le, Bool.or_eq_true, Bool.and_eq_true] at h6
       refine c_seq ?_
       have hres : numR 0 0 ys = (0, 31, 0) := by rw [hq]; exact numR_zero (by omega) (by omega) (by omega)
       refine c_region ?_
       refine o_assign rfl rfl ?_
       refine o_assign rfl rfl ?_
       refine l_nil ?_
       refine q_then ?_
       refine c_ret ?_
       refine q_pass_ret ?_
       refine q_block_ret ?_
       refine q_pass_ret ?_
       refine q_pass_ret ?_
       refine q_block_ret ?_
       refine q_pass_ret ?_
       exact f_ret (r_two rfl rfl rfl) (⟨by rw [hres]; rfl, by (rw [hres]; first | done | rfl)⟩) (fun w S => S)
      · -- h6F
       try simp only [decide_eq_true_eq, decide_eq_false_iff_not, Bool.not_eq_eq_eq_not, Bool.not_true, Bool.not_false, Bool.not_eq_true', Bool.not_eq_false', Int.not_lt, Int.not_le, Bool.or_eq_true, Bool.and_eq_true] at h6
       refine c_skip ?_
       refine q_then ?_
       refine c_seq ?_
       have hres : numR 0 0 ys = (n + x32.toNat % 128 * 128 ^ j, 0, j + 1) := by rw [hq]; exact numR_end hnb (by omega) (by omega)
       have hadd : ((i : Int) + ((j : Int) + 1)) = ((i + (j + 1) : Nat) : Int) := by omega
       refine c_region ?_
       refine o_move rfl rfl ?_
       refine o_nil rfl rfl ?_
       refine o_fieldAddr (q := ⟨k, 1, none⟩) rfl rfl Try.underlying76 rfl ti3 rfl ?_
       refine o_load1 rfl rfl Try.underlying3 rfl (rd_mem 0 rfl rfl) ?_
       refine o_move rfl rfl ?_
       refine o_bin rfl rfl rfl (b_add (wrap_i64 (by omega) (by omega))) ?_
       refine o_bin rfl rfl rfl (b_add (wrap_i64 (by omega) (by omega))) ?_
       refine o_nil rfl rfl ?_
       refine o_fieldAddr (q := ⟨k, 1, none⟩) rfl rfl Try.underlying76 rfl ti3 rfl ?_
       refine o_store1 rfl rfl rfl ti3 rfl rfl ?_
       refine l_nil ?_
       refine q_then ?_
       refine c_seq ?_
       refine c_region ?_
       refine o_move rfl rfl ?_
       refine o_assign rfl rfl ?_
       refine o_assign rfl rfl ?_
       refine l_nil ?_
       refine q_then ?_
       refine c_ret ?_
       refine q_block_ret ?_
       refine q_pass_ret ?_
       refine q_pass_ret ?_
       refine q_block_ret ?_
       refine q_pass_ret ?_
       exact f_ret (r_two rfl rfl rfl) (⟨by rw [hres]; rfl, by (rw [hres]; first | done | rfl)⟩) (fun w S => by rw [hadd] at S; exact S)
     · -- h5F
      try simp only [decide_eq_true_eq, decide_eq_false_iff_not, Bool.not_eq_eq_eq_not, Bool.not_true, Bool.not_false, Bool.not_eq_true', Bool.not_eq_false', Int.not_lt, Int.not_le, Bool.or_eq_true, Bool.and_eq_true] at h5
      refine o_no rfl rfl rfl rfl ?_
      refine o_no rfl rfl rfl rfl ?_
      refine o_pick_false rfl rfl rfl ?_
      refine l_nil ?_
      refine q_then ?_
      refine c_false rfl ?_
      refine c_skip ?_
      refine q_then ?_
      refine c_seq ?_
      have hres : numR 0 0 ys = (n + x32.toNat % 128 * 128 ^ j, 0, j + 1) := by rw [hq]; exact numR_end hnb (by omega) (by omega)
      have hadd : ((i : Int) + ((j : Int) + 1)) = ((i + (j + 1) : Nat) : Int) := by omega
      refine c_region ?_
      refine o_move rfl rfl ?_
      refine o_nil rfl rfl ?_
      refine o_fieldAddr (q := ⟨k, 1, none⟩) rfl rfl Try.underlying76 rfl ti3 rfl ?_
      refine o_load1 rfl rfl Try.underlying3 rfl (rd_mem 0 rfl rfl) ?_
      refine o_move rfl rfl ?_
      refine o_bin rfl rfl rfl (b_add (wrap_i64 (by omega) (by omega))) ?_
      refine o_bin rfl rfl rfl (b_add (wrap_i64 (by omega) (by omega))) ?_
      refine o_nil rfl rfl ?_
      refine o_fieldAddr (q := ⟨k, 1, none⟩) rfl rfl Try.underlying76 rfl ti3 rfl ?_
      refine o_store1 rfl rfl rfl ti3 rfl rfl ?_
      refine l_nil ?_
      refine q_then ?_
      refine c_seq ?_
      refine c_region ?_
      refine o_move rfl rfl ?_
      refine o_assign rfl rfl ?_
      refine o_assign rfl rfl ?_
      refine l_nil ?_
      refine q_then ?_
      refine c_ret ?_
      refine q_block_ret ?_
      refine q_pass_ret ?_
      refine q_pass_ret ?_
      refine q_block_ret ?_
      refine q_pass_ret ?_
      exact f_ret (r_two rfl rfl rfl) (⟨by rw [hres]; rfl, by (rw [hres]; first | done | rfl)⟩) (fun w S => by rw [hadd] at S; exact S)
    · -- h4F
     try simp only [decide_eq_true_eq, decide_eq_false_iff_not, Bool.not_eq_eq_eq_not, Bool.not_true, Bool.not_false, Bool.not_eq_true', Bool.not_eq_false', Int.not_lt, Int.not_le, Bool.or_eq_true, Bool.and_eq_true] at h4
     refine c_skip ?_
     refine q_block ?_
     refine q_then ?_
     refine c_region ?_
     refine o_move rfl rfl ?_
     refine o_bin rfl rfl rfl (b_add (wrap_i64 (by omega) (by omega))) ?_
     refine o_assign rfl rfl ?_
     refine l_nil ?_
     exact q_round (j + 1, n + x32.toNat % 128 * 128 ^ j) (by exact ⟨by rw [hq, numR_on hnb (by omega)]; rfl, by omega, numR_next hn, by omega⟩) (by (try dsimp only); omega) ⟨(by first | rfl | exact vint (by omega)), (by first | rfl | exact vint (by omega)), (vint (weight7 (by omega))), (by first | rfl | exact vint (by omega)), trivial⟩ (fun w S => S)
  · -- h2F
   try simp only [decide_eq_true_eq, decide_eq_false_iff_not, Bool.not_eq_eq_eq_not, Bool.not_true, Bool.not_false, Bool.not_eq_true', Bool.not_eq_false', Int.not_lt, Int.not_le, Bool.or_eq_true, Bool.and_eq_true] at h2
   refine o_no rfl rfl rfl rfl ?_
   refine o_no rfl rfl rfl rfl ?_
   refine o_pick_false rfl rfl rfl ?_
   refine l_nil ?_
   refine q_then ?_
   refine c_false rfl ?_
   refine c_skip ?_
   refine q_then ?_
   refine c_seq ?_
   refine c_region ?_
   have hnb : ¬ (j = 9 ∧ 1 < x32.toNat) := by omega
   refine o_move rfl rfl ?_
   refine o_move rfl rfl ?_
   refine o_bin rfl rfl rfl (b_rem (by omega) (tmod128b x32)) ?_
   refine o_move rfl rfl ?_
   refine o_bin rfl rfl rfl (b_mul (mul7 hj9 hnb)) ?_
   refine o_bin rfl rfl rfl (b_add (add7 hj9 hn hnb)) ?_
   refine o_assign rfl rfl ?_
   refine l_nil ?_
   refine q_then ?_
   refine c_seq ?_
   refine c_region ?_
   refine o_move rfl rfl ?_
   refine o_bin rfl rfl rfl (b_mul rfl) ?_
   refine o_assign rfl rfl ?_
   refine l_nil ?_
   refine q_then ?_
   refine c_seq ?_
   refine c_region ?_
   refine o_move rfl rfl ?_
   refine o_bin rfl rfl rfl b_lss ?_
   refine l_nil ?_
   refine q_then ?_
   refine c_cond rfl (fun h7 => ?_) (fun h7 => ?_)
   · -- h7T
    try simp only [decide_eq_true_eq, decide_eq_false_iff_not, Bool.not_eq_eq_eq_not, Bool.not_true, Bool.not_false, Bool.not_eq_true', Bool.not_eq_false', Int.not_lt, Int.not_le, Bool.or_eq_true, Bool.and_eq_true] at h7
    refine c_seq ?_
    refine c_seq ?_
    refine c_region ?_
    refine o_move rfl rfl ?_
    refine o_bin rfl rfl rfl b_eql ?_
    refine o_move rfl rfl ?_
    refine l_split (t := 53) rfl (fun h8 => ?_) (fun h8 => ?_)
    · -- h8T
     try simp only [decide_eq_true_eq, decide_eq_false_iff_not, Bool.not_eq_eq_eq_not, Bool.not_true, Bool.not_false, Bool.not_eq_true', Bool.not_eq_false', Int.not_lt, Int.not_le, Bool.or_eq_true, Bool.and_eq_true] at h8
     refine o_yes rfl rfl rfl ?_
     refine o_move rfl rfl ?_
     refine o_yes rfl rfl rfl ?_
     refine o_bin rfl rfl rfl b_gtr ?_
     refine o_pick_true rfl rfl rfl ?_
     refine l_nil ?_
     refine q_then ?_
     refine c_cond rfl (fun h9 => ?_) (fun h9 => ?_)
     · -- h9T
      try simp only [decide_eq_true_eq, decide_eq_false_iff_not, Bool.not_eq_eq_eq_not, Bool.not_true, Bool.not_false, Bool.not_eq_true', Bool.not_eq_false', Int.not_lt, Int.not_le, Bool.or_eq_true, Bool.and_eq_true] at h9
      refine c_seq ?_
      have hres : numR 0 0 ys = (0, 31, 0) := by rw [hq]; exact numR_zero (by omega) (by omega) (by omega)
      refine c_region ?_
      refine o_assign rfl rfl ?_
      refine o_assign rfl rfl ?_
      refine l_nil ?_
      refine q_then ?_
      refine c_ret ?_
      refine q_pass_ret ?_
      refine q_block_ret ?_
      refine q_pass_ret ?_
      refine q_pass_ret ?_
      refine q_block_ret ?_
      refine q_pass_ret ?_
      exact f_ret (r_two rfl rfl rfl) (⟨by rw [hres]; rfl, by (rw [hres]; first | done | rfl)⟩) (fun w S => S)
     · -- h9F
      try simp only [decide_eq_true_eq, decide_eq_false_iff_not, Bool.not_eq_eq_eq_not, Bool.not_true, Bool.not_false, Bool.not_eq_true', Bool.not_eq_false', Int.not_lt, Int.not_le, Bool.or_eq_true, Bool.and_eq_true] at h9
      refine c_skip ?_
      refine q_then ?_
      refine c_seq ?_
      have hres : numR 0 0 ys = (n + x32.toNat % 128 * 128 ^ j, 0, j + 1) := by rw [hq]; exact numR_end hnb (by omega) (by omega)
      have hadd : ((i : Int) + ((j : Int) + 1)) = ((i + (j + 1) : Nat) : Int) := by omega
      refine c_region ?_
      refine o_move rfl rfl ?_
      refine o_nil rfl rfl ?_
      refine o_fieldAddr (q := ⟨k, 1, none⟩) rfl rfl Try.underlying76 rfl ti3 rfl ?_
      refine o_load1 rfl rfl Try.underlying3 rfl (rd_mem 0 rfl rfl) ?_
      refine o_move rfl rfl ?_
      refine o_bin rfl rfl rfl (b_add (wrap_i64 (by omega) (by omega))) ?_
      refine o_bin rfl rfl rfl (b_add (wrap_i64 (by omega) (by omega))) ?_
      refine o_nil rfl rfl ?_
      refine o_fieldAddr (q := ⟨k, 1, none⟩) rfl rfl Try.underlying76 rfl ti3 rfl ?_
      refine o_store1 rfl rfl rfl ti3 rfl rfl ?_
      refine l_nil ?_
      refine q_then ?_
      refine c_seq ?_
      refine c_region ?_
      refine o_move rfl rfl ?_
      refine o_assign rfl rfl ?_
      refine o_assign rfl rfl ?_
      refine l_nil ?_
      refine q_then ?_
      refine c_ret ?_
      refine q_block_ret ?_
      refine q_pass_ret ?_
      refine q_pass_ret ?_
      refine q_block_ret ?_
      refine q_pass_ret ?_
      exact f_ret (r_two rfl rfl rfl) (⟨by rw [hres]; rfl, by (rw [hres]; first | done | rfl)⟩) (fun w S => by rw [hadd] at S; exact S)
    · -- h8F
     try simp only [decide_eq_true_eq, decide_eq_false_iff_not, Bool.not_eq_eq_eq_not, Bool.not_true, Bool.not_false, Bool.not_eq_true', Bool.not_eq_false', Int.not_lt, Int.not_le, Bool.or_eq_true, Bool.and_eq_true] at h8
     refine o_no rfl rfl rfl rfl ?_
     refine o_no rfl rfl rfl rfl ?_
     refine o_pick_false rfl rfl rfl ?_
     refine l_nil ?_
     refine q_then ?_
     refine c_false rfl ?_
     refine c_skip ?_
     refine q_then ?_
     refine c_seq ?_
     have hres : numR 0 0 ys = (n + x32.toNat % 128 * 128 ^ j, 0, j + 1) := by rw [hq]; exact numR_end hnb (by omega) (by omega)
     have hadd : ((i : Int) + ((j : Int) + 1)) = ((i + (j + 1) : Nat) : Int) := by omega
     refine c_region ?_
     refine o_move rfl rfl ?_
     refine o_nil rfl rfl ?_
     refine o_fieldAddr (q := ⟨k, 1, none⟩) rfl rfl Try.underlying76 rfl ti3 rfl ?_
     refine o_load1 rfl rfl Try.underlying3 rfl (rd_mem 0 rfl rfl) ?_
     refine o_move rfl rfl ?_
     refine o_bin rfl rfl rfl (b_add (wrap_i64 (by omega) (by omega))) ?_
     refine o_bin rfl rfl rfl (b_add (wrap_i64 (by omega) (by omega))) ?_
     refine o_nil rfl rfl ?_
     refine o_fieldAddr (q := ⟨k, 1, none⟩) rfl rfl Try.underlying76 rfl ti3 rfl ?_
     refine o_store1 rfl rfl rfl ti3 rfl rfl ?_
     refine l_nil ?_
     refine q_then ?_
     refine c_seq ?_
     refine c_region ?_
     refine o_move rfl rfl ?_
     refine o_assign rfl rfl ?_
     refine o_assign rfl rfl ?_
     refine l_nil ?_
     refine q_then ?_
     refine c_ret ?_
     refine q_block_ret ?_
     refine q_pass_ret ?_
     refine q_pass_ret ?_
     refine q_block_ret ?_
     refine q_pass_ret ?_
     exact f_ret (r_two rfl rfl rfl) (⟨by rw [hres]; rfl, by (rw [hres]; first | done | rfl)⟩) (fun w S => by rw [hadd] at S; exact S)
   · -- h7F
    try simp only [decide_eq_true_eq, decide_eq_false_iff_not, Bool.not_eq_eq_eq_not, Bool.not_true, Bool.not_false, Bool.not_eq_true', Bool.not_eq_false', Int.not_lt, Int.not_le, Bool.or_eq_true, Bool.and_eq_true] at h7
    refine c_skip ?_
    refine q_block ?_
    refine q_then ?_
    refine c_region ?_
    refine o_move rfl rfl ?_
    refine o_bin rfl rfl rfl (b_add (wrap_i64 (by omega) (by omega))) ?_
    refine o_assign rfl rfl ?_
    refine l_nil ?_
    exact q_round (j + 1, n + x32.toNat % 128 * 128 ^ j) (by exact ⟨by rw [hq, numR_on hnb (by omega)]; rfl, by omega, numR_next hn, by omega⟩) (by (try dsimp only); omega) ⟨(by first | rfl | exact vint (by omega)), (by first | rfl | exact vint (by omega)), (vint (weight7 (by omega))), (by first | rfl | exact vint (by omega)), trivial⟩ (fun w S => S)
 · -- h1F
  try simp only [decide_eq_true_eq, decide_eq_false_iff_not, Bool.not_eq_eq_eq_not, Bool.not_true, Bool.not_false, Bool.not_eq_true', Bool.not_eq_false', Int.not_lt, Int.not_le, Bool.or_eq_true, Bool.and_eq_true] at h1
  refine c_exit ?_
  refine q_pass_exit ?_
  refine q_pass_exit ?_
  refine q_hit ?_
  refine q_then ?_
  refine c_seq ?_
  refine c_region ?_
  refine o_assign rfl rfl ?_
  refine o_assign rfl rfl ?_
  refine l_nil ?_
  refine q_then ?_
  refine c_ret ?_
  exact f_ret (r_two rfl rfl rfl) (⟨by rw [hq, List.drop_of_length_le (by omega), numR]; rfl, by rw [hq, List.drop_of_length_le (by omega), numR]; rfl⟩) (fun w S => S)

theorem rEyeEnd {W : World} {F : List Res} {k i : Nat} {xs ys : List UInt8} {a : Option Addr} {c : Nat} (hs : SlR W e8 a xs) (hy : ys = xs.drop i) (hil : i ≤ xs.length) (hsm : xs.length ≤ 70000000000000) (hcc : xs.length ≤ c) : CS Try.prog 36 #[.pointer (some ⟨k, 0, none⟩)] W (blk k (.cells #[.slice a xs.length c, .int .i64 (i : Int)] 76 (0, 0)) :: F) (fun r L' => r = .int .i64 (endR ys : Int) ∧ L' = blk k (.cells #[.slice a xs.length c, .int .i64 (i : Int)] 76 (0, 0)) :: F) := by
 have hyl : ys.length = xs.length - i := by rw [hy, List.length_drop]
 refine f_door (l0 := [(0, .pointer (some ⟨k, 0, none⟩))]) Try.func36 Try.ntmps36 rfl rfl rfl ?_
 refine c_seq ?_
 refine c_region ?_
 refine o_assign rfl rfl ?_
 refine l_nil ?_
 refine q_then ?_
 refine c_seq ?_
 refine c_seq ?_
 refine c_quiet (by kernel_rfl) (by kernel_rfl) ?_
 refine Qt.o_val rfl (v_move rfl rfl) ?_
 refine Qt.o_val rfl (v_nil rfl rfl) ?_
 refine Qt.o_val rfl (v_fieldAddr (q := ⟨k, 1, none⟩) rfl rfl Try.underlying76 rfl ti3 rfl) ?_
 refine Qt.o_val rfl (v_load1 rfl rfl Try.underlying3 rfl (rd_mem 0 rfl rfl)) ?_
 refine Qt.o_val rfl (v_move rfl rfl) ?_
 refine Qt.o_val rfl (v_nil rfl rfl) ?_
 refine Qt.o_val rfl (v_fieldAddr (q := ⟨k, 0, none⟩) rfl rfl Try.underlying76 rfl ti28 rfl) ?_
 refine Qt.o_val rfl (v_load1 rfl rfl Try.underlying28 rfl (rd_mem 0 rfl rfl)) ?_
 refine Qt.o_val rfl (v_len rfl rfl Try.underlying28) ?_
 refine Qt.o_val rfl (v_bin rfl rfl rfl b_lss) ?_
 refine Qt.l_nil ?_
 refine q_then ?_
 refine c_cond rfl (fun h1 => ?_) (fun h1 => ?_)
 · -- h1T
  try simp only [decide_eq_true_eq, decide_eq_false_iff_not, Bool.not_eq_eq_eq_not, Bool.not_true, Bool.not_false, Bool.not_eq_true', Bool.not_eq_false', Int.not_lt, Int.not_le, Bool.or_eq_true, Bool.and_eq_true] at h1
  refine c_seq ?_
  refine c_region ?_
  refine o_assign rfl rfl ?_
  refine l_nil ?_
  refine q_then ?_
  refine c_ret ?_
  refine q_pass_ret ?_
  exact f_ret (r_one rfl rfl) (⟨by rw [endR, if_pos (by omega)]; rfl, rfl⟩) (fun w S => S)
 · -- h1F
  try simp only [decide_eq_true_eq, decide_eq_false_iff_not, Bool.not_eq_eq_eq_not, Bool.not_true, Bool.not_false, Bool.not_eq_true', Bool.not_eq_false', Int.not_lt, Int.not_le, Bool.or_eq_true, Bool.and_eq_true] at h1
  refine c_skip ?_
  refine q_then ?_
  refine c_seq ?_
  refine c_region ?_
  refine o_assign rfl rfl ?_
  refine l_nil ?_
  refine q_then ?_
  refine c_ret ?_
  exact f_ret (r_one rfl rfl) (⟨by rw [endR, if_neg (by omega)]; rfl, rfl⟩) (fun w S => S)

theorem rEyeText {W : World} {F : List Res} {k i : Nat} {xs ys : List UInt8} {a : Option Addr} {c : Nat} (hs : SlR W e8 a xs) (hy : ys = xs.drop i) (hil : i ≤ xs.length) (hsm : xs.length ≤ 70000000000000) (hcc : xs.length ≤ c) : CS Try.prog 35 #[.pointer (some ⟨k, 0, none⟩)] W (blk k (.cells #[.slice a xs.length c, .int .i64 (i : Int)] 76 (0, 0)) :: F) (fun r L' => ∃ (out : List UInt8) (a2 : Option Addr) (c2 : Nat), out = (textR ys).1 ∧ r = .tuple #[.slice a2 out.length c2, .int .i64 ((textR ys).2.1 : Int)] ∧ L' = row e8.T e8.sz a2 (out).length c2 (flat e8 out) :: blk k (.cells #[.slice a xs.length c, .int .i64 ((i + (textR ys).2.2 : Nat) : Int)] 76 (0, 0)) :: F) := by
 have hyl : ys.length = xs.length - i := by rw [hy, List.length_drop]
 have hu := numR_used ys 0 0
 refine f_door (l0 := [(0, .pointer (some ⟨k, 0, none⟩))]) Try.func35 Try.ntmps35 rfl rfl rfl ?_
 refine c_seq ?_
 refine c_region ?_
 refine o_assign rfl rfl ?_
 refine o_assign rfl rfl ?_
 refine l_nil ?_
 refine q_then ?_
 refine c_seq ?_
 refine c_region ?_
 refine o_move rfl rfl ?_
 refine o_nil rfl rfl ?_
 refine o_fieldAddr (q := ⟨k, 1, none⟩) rfl rfl Try.underlying76 rfl ti3 rfl ?_
 refine o_load1 rfl rfl Try.underlying3 rfl (rd_mem 0 rfl rfl) ?_
 refine o_assign rfl rfl ?_
 refine l_nil ?_
 refine q_then ?_
 refine c_seq ?_
 refine c_region ?_
 refine o_move rfl rfl ?_
 refine o_call rfl cal33 rfl (rEyeNum hs hy hil hsm hcc) ?_
 rintro _ _ ⟨rfl, rfl⟩
 refine o_move rfl rfl ?_
 refine o_extract rfl rfl rfl ?_
 refine o_extract rfl rfl rfl ?_
 refine o_assign rfl rfl ?_
 refine o_assign rfl rfl ?_
 refine l_nil ?_
 refine q_then ?_
 refine c_seq ?_
 refine c_seq ?_
 refine c_region ?_
 refine o_move rfl rfl ?_
 refine o_bin rfl rfl rfl b_neq ?_
 refine l_nil ?_
 refine q_then ?_
 refine c_cond rfl (fun h1 => ?_) (fun h1 => ?_)
 · -- h1T
  try simp only [decide_eq_true_eq, decide_eq_false_iff_not, Bool.not_eq_eq_eq_not, Bool.not_true, Bool.not_false, Bool.not_eq_true', Bool.not_eq_false', Int.not_lt, Int.not_le, Bool.or_eq_true, Bool.and_eq_true] at h1
  refine c_seq ?_
  have htr := textR_err (t := ys) (by omega)
  have hu0 : i + (numR 0 0 ys).2.2 = i + 0 := by omega
  refine c_region ?_
  refine o_lit e8_ok rfl Try.underlying28 rfl rfl rfl (lit_ok rfl) ([] : List UInt8) rfl rfl fun a18 => ?_
  refine o_move rfl rfl ?_
  refine o_assign rfl rfl ?_
  refine o_assign rfl rfl ?_
  refine l_nil ?_
  refine q_then ?_
  refine c_ret ?_
  refine q_pass_ret ?_
  exact f_ret (r_two rfl rfl rfl) (⟨[], _, _, by rw [htr], by rw [htr]; rfl, by (rw [htr]; first | done | rfl)⟩) (fun w S => by rw [hu0] at S; exact S)
 · -- h1F
  try simp only [decide_eq_true_eq, decide_eq_false_iff_not, Bool.not_eq_eq_eq_not, Bool.not_true, Bool.not_false, Bool.not_eq_true', Bool.not_eq_false', Int.not_lt, Int.not_le, Bool.or_eq_true, Bool.and_eq_true] at h1
  refine c_skip ?_
  refine q_then ?_
  refine c_seq ?_
  refine c_seq ?_
  refine c_quiet (by kernel_rfl) (by kernel_rfl) ?_
  refine Qt.o_val rfl (v_move rfl rfl) ?_
  refine Qt.o_val rfl (v_move rfl rfl) ?_
  refine Qt.o_val rfl (v_nil rfl rfl) ?_
  refine Qt.o_val rfl (v_fieldAddr (q := ⟨k, 0, none⟩) rfl rfl Try.underlying76 rfl ti28 rfl) ?_
  refine Qt.o_val rfl (v_load1 rfl rfl Try.underlying28 rfl (rd_mem 0 rfl rfl)) ?_
  refine Qt.o_val rfl (v_len rfl rfl Try.underlying28) ?_
  refine Qt.o_val rfl (v_move rfl rfl) ?_
  refine Qt.o_val rfl (v_nil rfl rfl) ?_
  refine Qt.o_val rfl (v_fieldAddr (q := ⟨k, 1, none⟩) rfl rfl Try.underlying76 rfl ti3 rfl) ?_
  refine Qt.o_val rfl (v_load1 rfl rfl Try.underlying3 rfl (rd_mem 0 rfl rfl)) ?_
  refine Qt.o_val rfl (v_bin rfl rfl rfl (b_sub (wrap_i64 (by omega) (by omega)))) ?_
  refine Qt.o_val rfl (v_int rfl rfl Try.underlying3 Try.underlying23 (wrap_u64 (by omega) (by omega))) ?_
  refine Qt.o_val rfl (v_bin rfl rfl rfl b_gtr) ?_
  refine Qt.l_nil ?_
  refine q_then ?_
  refine c_cond rfl (fun h2 => ?_) (fun h2 => ?_)
  · -- h2T
   try simp only [decide_eq_true_eq, decide_eq_false_iff_not, Bool.not_eq_eq_eq_not, Bool.not_true, Bool.not_false, Bool.not_eq_true', Bool.not_eq_false', Int.not_lt, Int.not_le, Bool.or_eq_true, Bool.and_eq_true] at h2
   refine c_seq ?_
   have htr := textR_short (t := ys) (by omega) (by omega)
   refine c_region ?_
   refine o_move rfl rfl ?_
   refine o_move rfl rfl ?_
   refine o_nil rfl rfl ?_
   refine o_fieldAddr (q := ⟨k, 1, none⟩) rfl rfl Try.underlying76 rfl ti3 rfl ?_
   refine o_store1 rfl rfl rfl ti3 rfl rfl ?_
   refine l_nil ?_
   refine q_then ?_
   refine c_seq ?_
   refine c_region ?_
   refine o_lit e8_ok rfl Try.underlying28 rfl rfl rfl (lit_ok rfl) ([] : List UInt8) rfl rfl fun a37 => ?_
   refine o_assign rfl rfl ?_
   refine o_assign rfl rfl ?_
   refine l_nil ?_
   refine q_then ?_
   refine c_ret ?_
   refine q_pass_ret ?_
   exact f_ret (r_two rfl rfl rfl) (⟨[], _, _, by rw [htr], by rw [htr]; rfl, by (rw [htr]; first | done | rfl)⟩) (fun w S => S)
  · -- h2F
   try simp only [decide_eq_true_eq, decide_eq_false_iff_not, Bool.not_eq_eq_eq_not, Bool.not_true, Bool.not_false, Bool.not_eq_true', Bool.not_eq_false', Int.not_lt, Int.not_le, Bool.or_eq_true, Bool.and_eq_true] at h2
   refine c_skip ?_
   refine q_then ?_
   refine c_seq ?_
   have htr := textR_ok (t := ys) (by omega) (by omega)
   have hadd : ((i + (numR 0 0 ys).2.2 : Nat) : Int) + ((numR 0 0 ys).1 : Int) = ((i + ((numR 0 0 ys).2.2 + (numR 0 0 ys).1) : Nat) : Int) := by omega
   refine c_region ?_
   refine o_move rfl rfl ?_
   refine o_nil rfl rfl ?_
   refine o_fieldAddr (q := ⟨k, 1, none⟩) rfl rfl Try.underlying76 rfl ti3 rfl ?_
   refine o_load1 rfl rfl Try.underlying3 rfl (rd_mem 0 rfl rfl) ?_
   refine o_move rfl rfl ?_
   refine o_int rfl rfl Try.underlying23 Try.underlying3 (wrap_i64 (by omega) (by omega)) ?_
   refine o_bin rfl rfl rfl (b_add (wrap_i64 (by omega) (by omega))) ?_
   refine o_nil rfl rfl ?_
   refine o_fieldAddr (q := ⟨k, 1, none⟩) rfl rfl Try.underlying76 rfl ti3 rfl ?_
   refine o_store1 rfl rfl rfl ti3 rfl rfl ?_
   refine l_nil ?_
   refine q_then ?_
   refine c_seq ?_
   refine c_held [blk k (.cells #[.slice a xs.length c, _] 76 (0, 0))] (by kernel_rfl) rfl ?_
   refine h_take 1 rfl rfl (by kernel_rfl) (by kernel_rfl) (by kernel_rfl) (fun L0 => v_move rfl rfl) ?_
   refine h_take 2 rfl rfl (by kernel_rfl) (by kernel_rfl) (by kernel_rfl) (fun L0 => v_nil rfl rfl) ?_
   refine h_take 3 rfl rfl (by kernel_rfl) (by kernel_rfl) (by kernel_rfl) (fun L0 => v_fieldAddr (q := ⟨k, 0, none⟩) rfl rfl Try.underlying76 rfl ti28 rfl) ?_
   refine h_take 4 rfl rfl (by kernel_rfl) (by kernel_rfl) (by kernel_rfl) (fun L0 => v_load1 rfl rfl Try.underlying28 rfl (rd_mem 0 rfl rfl)) ?_
   refine h_take 5 rfl rfl (by kernel_rfl) (by kernel_rfl) (by kernel_rfl) (fun L0 => v_move rfl rfl) ?_
   refine h_take 6 rfl rfl (by kernel_rfl) (by kernel_rfl) (by kernel_rfl) (fun L0 => v_nil rfl rfl) ?_
   refine h_take 7 rfl rfl (by kernel_rfl) (by kernel_rfl) (by kernel_rfl) (fun L0 => v_fieldAddr (q := ⟨k, 1, none⟩) rfl rfl Try.underlying76 rfl ti3 rfl) ?_
   refine h_take 8 rfl rfl (by kernel_rfl) (by kernel_rfl) (by kernel_rfl) (fun L0 => v_load1 rfl rfl Try.underlying3 rfl (rd_mem 0 rfl rfl)) ?_
   refine h_take 9 rfl rfl (by kernel_rfl) (by kernel_rfl) (by kernel_rfl) (fun L0 => v_move rfl rfl) ?_
   refine h_take 10 rfl rfl (by kernel_rfl) (by kernel_rfl) (by kernel_rfl) (fun L0 => v_int rfl rfl Try.underlying23 Try.underlying3 (wrap_i64 (by omega) (by omega))) ?_
   refine h_take 11 rfl rfl (by kernel_rfl) (by kernel_rfl) (by kernel_rfl) (fun L0 => v_bin rfl rfl rfl (b_sub (wrap_i64 (by omega) (by omega)))) ?_
   refine h_take 12 rfl rfl (by kernel_rfl) (by kernel_rfl) (by kernel_rfl) (fun L0 => v_move rfl rfl) ?_
   refine h_take 13 rfl rfl (by kernel_rfl) (by kernel_rfl) (by kernel_rfl) (fun L0 => v_nil rfl rfl) ?_
   refine h_take 14 rfl rfl (by kernel_rfl) (by kernel_rfl) (by kernel_rfl) (fun L0 => v_fieldAddr (q := ⟨k, 1, none⟩) rfl rfl Try.underlying76 rfl ti3 rfl) ?_
   refine h_take 15 rfl rfl (by kernel_rfl) (by kernel_rfl) (by kernel_rfl) (fun L0 => v_load1 rfl rfl Try.underlying3 rfl (rd_mem 0 rfl rfl)) ?_
   refine h_take 16 rfl rfl (by kernel_rfl) (by kernel_rfl) (by kernel_rfl) (fun L0 => v_cut (l' := (i + (numR 0 0 ys).2.2)) (h' := (i + (numR 0 0 ys).2.2 + (numR 0 0 ys).1)) (m := c) rfl rfl Try.underlying28 ti5 (.inl ⟨rfl, rfl⟩) (.inr ⟨_, _, rfl, icast rfl (by omega), (by omega)⟩) (.inr ⟨_, _, rfl, icast rfl (by omega), (by omega)⟩)) ?_
   obtain ⟨ys63, ay63, cut63, hys63, hlys63, eay63⟩ : ∃ ys_ ay_, (∀ {L : List Res}, RdS W L e8 a xs → RdS W L e8 ay_ ys_) ∧ ys_ = sub xs (i + (numR 0 0 ys).2.2) (i + (numR 0 0 ys).2.2 + (numR 0 0 ys).1) ∧ ys_.length = (i + (numR 0 0 ys).2.2 + (numR 0 0 ys).1) - (i + (numR 0 0 ys).2.2) ∧ cutA a c (i + (numR 0 0 ys).2.2) 1 = ay_ := ⟨_, _, fun h => rds_cut e8_ok h _ _ _ (by omega), rfl, sub_len (by omega), rfl⟩
   refine h_eq (t := 63) (v' := .slice ay63 ys63.length (c - (i + (numR 0 0 ys).2.2))) rfl (by rw [eay63, hlys63]) ?_
   have hs63 : ys63 = sub ys (numR 0 0 ys).2.2 ((numR 0 0 ys).2.2 + (numR 0 0 ys).1) := by rw [hys63, ← sub_drop ys, hy, List.drop_drop, sub_drop]
   refine h_one 0 rfl (by kernel_rfl) ?_
   refine o_lit e8_ok rfl Try.underlying28 rfl rfl rfl (lit_ok rfl) ([] : List UInt8) rfl rfl fun a47 => ?_
   refine l_nil ?_
   refine q_conv (fun w S => S.perm p1) ?_
   refine h_next ?_
   refine h_one 17 rfl (by kernel_rfl) ?_
   refine l_f1 ?_
   refine o_append e8_ok rfl rfl rfl Try.underlying28 (cut63 (rds_old hs)) (by show (_ + _) * 1 ≤ _; (try simp only [List.length_append, List.length_cons, List.length_nil]); omega) (by (try simp only [List.length_append, List.length_cons, List.length_nil]); omega) fun a64 c64 => ?_
   refine l_nil ?_
   refine q_conv (fun w S => S.perm p1) ?_
   refine h_next ?_
   refine h_take 18 rfl rfl (by kernel_rfl) (by kernel_rfl) (by kernel_rfl) (fun L0 => v_assign rfl rfl) ?_
   refine h_take 19 rfl rfl (by kernel_rfl) (by kernel_rfl) (by kernel_rfl) (fun L0 => v_assign rfl rfl) ?_
   refine h_done (by kernel_rfl) ?_
   refine q_then ?_
   refine c_ret ?_
   refine q_conv (fun w S => S.perm p1) ?_
   exact f_ret (r_two rfl rfl rfl) (⟨ys63, a64, c64, by rw [htr]; exact hs63, by rw [htr]; rfl, by (rw [htr]; first | done | rfl)⟩) (fun w S => by rw [hadd] at S; exact S)

end Go.Proofs.Ytoigakfglgdjdaa
