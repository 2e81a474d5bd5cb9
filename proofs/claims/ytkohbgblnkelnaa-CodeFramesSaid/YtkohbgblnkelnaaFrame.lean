/- Printed by eng.py out of 01/spec.py. -/
import Derived.Test.YtkohbgblnkelnaaOrder
import Derived.Test.YtkohbgblnkelnaaEye
import Derived.Test.YtkohbgblnkelnaaFramep
set_option linter.unusedVariables false
set_option linter.unusedSimpArgs false
set_option maxRecDepth 10000
namespace Go.Proofs.Ytkohbgblnkelnaa
open Go.RowKit
theorem sealed8 {W : World} {F : List Res} {xs : List UInt8} {a : Option Addr} {c : Nat} (hs : RdS W F e8 a xs) (hn : xs.length ≤ 60000000000000) : CS Try.prog 37 #[.slice a xs.length c] W (F) (fun r L' => r = .int .u32 (v32 (sealB xs)) ∧ F = L') := by
  refine f_door (l0 := [(0, .slice a xs.length c)]) Try.func37 Try.ntmps37 rfl rfl rfl ?_
  refine c_seq ?_
  refine c_region ?_
  refine o_assign rfl rfl ?_
  refine l_nil ?_
  refine q_then ?_
  refine c_seq ?_
  refine c_region ?_
  refine o_move rfl rfl ?_
  refine o_len rfl rfl Try.underlying25 ?_
  refine o_bin rfl rfl rfl (b_shr (by omega) (fdiv256 xs.length)) ?_
  refine o_int rfl rfl Try.underlying3 Try.underlying5 (cv8 _) ?_
  refine o_move rfl rfl ?_
  refine o_len rfl rfl Try.underlying25 ?_
  refine o_int rfl rfl Try.underlying3 Try.underlying5 (cv8 _) ?_
  refine o_lit e8_ok rfl Try.underlying25 rfl rfl rfl (lit_ok rfl) (headB xs.length) rfl rfl fun a10 => ?_
  refine o_move rfl rfl ?_
  refine o_append e8_ok rfl rfl rfl Try.underlying25 (rds_c hs) (by show (_ + _) * 1 ≤ _; simp only [headB, List.length_cons, List.length_nil]; omega) (by simp only [headB, List.length_cons, List.length_nil]; omega) fun a12 c12 => ?_
  refine o_call rfl cal28 rfl (sum8 (rds_own e8_ok 0 rfl) (by simp [headB]; omega)) ?_
  rintro _ _ ⟨rfl, rfl⟩
  refine o_assign rfl rfl ?_
  refine l_nil ?_
  refine q_then ?_
  refine c_ret ?_
  refine q_conv (fun w S => S.tail) ?_
  exact f_ret (r_one rfl rfl) (⟨rfl, rfl⟩) (fun w S => S)

theorem frame8 {W : World} {F : List Res} {xs : List UInt8} {a : Option Addr} {c : Nat} (hs : RdS W F e8 a xs) (hn : xs.length ≤ 60000000000000) : CS Try.prog 24 #[.slice a xs.length c] W (F) (fun r L' => ∃ (out : List UInt8) (a2 : Option Addr) (c2 : Nat), out = (frR xs).1 ∧ r = .tuple #[.slice a2 out.length c2, .int .i64 ((frR xs).2 : Int)] ∧ L' = row e8.T e8.sz a2 (out).length c2 (flat e8 out) :: F) := by
  refine f_door (l0 := [(0, .slice a xs.length c)]) Try.func24 Try.ntmps24 rfl rfl rfl ?_
  refine c_seq ?_
  refine c_region ?_
  refine o_assign rfl rfl ?_
  refine o_assign rfl rfl ?_
  refine l_nil ?_
  refine q_then ?_
  refine c_seq ?_
  refine c_seq ?_
  refine c_region ?_
  refine o_move rfl rfl ?_
  refine o_len rfl rfl Try.underlying25 ?_
  refine o_bin rfl rfl rfl b_gtr ?_
  refine l_nil ?_
  refine q_then ?_
  refine c_cond rfl (fun h1 => ?_) (fun h1 => ?_)
  · -- h1T
    try simp only [decide_eq_true_eq, decide_eq_false_iff_not, Bool.not_eq_eq_eq_not, Bool.not_true, Bool.not_false, Bool.not_eq_true', Bool.not_eq_false', Int.not_lt, Int.not_le, Bool.or_eq_true, Bool.and_eq_true] at h1
    refine c_seq ?_
    refine c_nilrow e8 ?_
    refine c_region ?_
    refine o_assign rfl rfl ?_
    refine o_assign rfl rfl ?_
    refine l_nil ?_
    refine q_then ?_
    refine c_ret ?_
    refine q_pass_ret ?_
    exact f_ret (r_two rfl rfl rfl) (⟨[], none, 0, by rw [frR_no (by omega)], by rw [frR_no (by omega)]; rfl, rfl⟩) (fun w S => S)
  · -- h1F
    try simp only [decide_eq_true_eq, decide_eq_false_iff_not, Bool.not_eq_eq_eq_not, Bool.not_true, Bool.not_false, Bool.not_eq_true', Bool.not_eq_false', Int.not_lt, Int.not_le, Bool.or_eq_true, Bool.and_eq_true] at h1
    refine c_skip ?_
    refine q_then ?_
    refine c_seq ?_
    refine c_region ?_
    refine o_move rfl rfl ?_
    refine o_call rfl cal37 rfl (sealed8 hs (by omega)) ?_
    rintro _ _ ⟨rfl, rfl⟩
    refine o_assign rfl rfl ?_
    refine l_nil ?_
    refine q_then ?_
    refine c_seq ?_
    refine c_region ?_
    refine o_move rfl rfl ?_
    refine o_len rfl rfl Try.underlying25 ?_
    refine o_bin rfl rfl rfl (b_shr (by omega) (fdiv256 xs.length)) ?_
    refine o_int rfl rfl Try.underlying3 Try.underlying5 (cv8 _) ?_
    refine o_move rfl rfl ?_
    refine o_len rfl rfl Try.underlying25 ?_
    refine o_int rfl rfl Try.underlying3 Try.underlying5 (cv8 _) ?_
    refine o_move rfl rfl ?_
    refine o_int rfl rfl Try.underlying55 Try.underlying5 (cv8 (sealB xs).toNat) ?_
    refine o_move rfl rfl ?_
    refine o_bin rfl rfl rfl (b_shr (by omega) (shr8 _)) ?_
    refine o_int rfl rfl Try.underlying55 Try.underlying5 (cv8 _) ?_
    refine o_move rfl rfl ?_
    refine o_bin rfl rfl rfl (b_shr (by omega) (shr16 _)) ?_
    refine o_int rfl rfl Try.underlying55 Try.underlying5 (cv8 _) ?_
    refine o_move rfl rfl ?_
    refine o_bin rfl rfl rfl (b_shr (by omega) (shr24 _)) ?_
    refine o_int rfl rfl Try.underlying55 Try.underlying5 (cv8 _) ?_
    refine o_lit e8_ok rfl Try.underlying25 rfl rfl rfl (lit_ok rfl) (headB xs.length ++ sum4 (sealB xs)) rfl rfl fun a29 => ?_
    refine o_assign rfl rfl ?_
    refine l_nil ?_
    refine q_then ?_
    refine c_seq ?_
    refine c_region ?_
    refine o_move rfl rfl ?_
    refine o_move rfl rfl ?_
    refine o_append e8_ok rfl rfl rfl Try.underlying25 (rds_c hs) (by show (_ + _) * 1 ≤ _; simp only [headB, sum4, List.length_append, List.length_cons, List.length_nil]; omega) (by simp only [headB, sum4, List.length_append, List.length_cons, List.length_nil]; omega) fun a32 c32 => ?_
    refine o_assign rfl rfl ?_
    refine o_assign rfl rfl ?_
    refine l_nil ?_
    refine q_then ?_
    refine c_ret ?_
    exact f_ret (r_two rfl rfl rfl) (⟨frameB xs, a32, c32, by rw [frR_yes (by omega)], by rw [frR_yes (by omega)]; rfl, rfl⟩) (fun w S => S)

theorem equal8 {W : World} {F : List Res} {xs : List UInt8} {a : Option Addr} {c : Nat} (hs : RdS W F e8 a xs) {ys : List UInt8} {b : Option Addr} {c2 : Nat} (hs2 : RdS W F e8 b ys) (hn : xs.length ≤ 9223372036854775807) : CS Try.prog 38 #[.slice a xs.length c, .slice b ys.length c2] W (F) (fun r L' => r = .bool (decide (xs = ys)) ∧ F = L') := by
  refine f_door (l0 := [(0, .slice a xs.length c), (1, .slice b ys.length c2)]) Try.func38 Try.ntmps38 rfl rfl rfl ?_
  refine c_seq ?_
  refine c_region ?_
  refine o_assign rfl rfl ?_
  refine l_nil ?_
  refine q_then ?_
  refine c_seq ?_
  refine c_seq ?_
  refine c_region ?_
  refine o_move rfl rfl ?_
  refine o_len rfl rfl Try.underlying25 ?_
  refine o_move rfl rfl ?_
  refine o_len rfl rfl Try.underlying25 ?_
  refine o_bin rfl rfl rfl b_neq ?_
  refine l_nil ?_
  refine q_then ?_
  refine c_cond rfl (fun h1 => ?_) (fun h1 => ?_)
  · -- h1T
    try simp only [decide_eq_true_eq, decide_eq_false_iff_not, Bool.not_eq_eq_eq_not, Bool.not_true, Bool.not_false, Bool.not_eq_true', Bool.not_eq_false', Int.not_lt, Int.not_le, Bool.or_eq_true, Bool.and_eq_true] at h1
    have hne : ¬ xs = ys := by rintro rfl; exact h1 rfl
    refine c_seq ?_
    refine c_region ?_
    refine o_assign rfl rfl ?_
    refine l_nil ?_
    refine q_then ?_
    refine c_ret ?_
    refine q_pass_ret ?_
    exact f_ret (r_one rfl rfl) (⟨by rw [decide_eq_false hne], rfl⟩) (fun w S => S)
  · -- h1F
    try simp only [decide_eq_true_eq, decide_eq_false_iff_not, Bool.not_eq_eq_eq_not, Bool.not_true, Bool.not_false, Bool.not_eq_true', Bool.not_eq_false', Int.not_lt, Int.not_le, Bool.or_eq_true, Bool.and_eq_true] at h1
    refine c_skip ?_
    refine q_then ?_
    refine c_seq ?_
    refine c_seq ?_
    refine c_region ?_
    refine o_move rfl rfl ?_
    refine o_len rfl rfl Try.underlying25 ?_
    refine o_move rfl rfl ?_
    refine l_nil ?_
    refine q_then ?_
    refine c_block ?_
    refine c_loop (α := Nat) (fun z => [(0, .slice a xs.length c), (1, .slice b ys.length c2), (12, .int .i64 (xs.length : Int)), (13, .int .i64 (z : Int))]) (fun z => F) (fun z => z ≤ xs.length ∧ ∀ j, j < z → xs[j]? = ys[j]?) (fun z => xs.length - z) (0) (by exact ⟨Nat.zero_le _, fun j hj => absurd hj (by omega)⟩) ⟨(by first | rfl | exact vint (by omega)), (by first | rfl | exact vint (by omega)), (by first | rfl | exact vint (by omega)), (by first | rfl | exact vint (by omega)), trivial⟩ (fun w S => S) ?_
    rintro i ⟨hi, hall⟩
    try dsimp only at *
    refine c_seq ?_
    refine c_region ?_
    refine o_bin rfl rfl rfl b_lss ?_
    refine l_nil ?_
    refine q_then ?_
    refine c_seq ?_
    refine c_cond rfl (fun h2 => ?_) (fun h2 => ?_)
    · -- h2T
      try simp only [decide_eq_true_eq, decide_eq_false_iff_not, Bool.not_eq_eq_eq_not, Bool.not_true, Bool.not_false, Bool.not_eq_true', Bool.not_eq_false', Int.not_lt, Int.not_le, Bool.or_eq_true, Bool.and_eq_true] at h2
      refine c_skip ?_
      refine q_then ?_
      refine c_seq ?_
      refine c_block ?_
      refine c_seq ?_
      refine c_region ?_
      refine o_move rfl rfl ?_
      refine o_assign rfl rfl ?_
      refine l_nil ?_
      refine q_then ?_
      refine c_seq ?_
      refine c_fact (p := ∃ ad, a = some ad) (rds_some (e := e8) (xs := xs) hs (by intro h0; rw [h0] at h2; simp at h2; omega)) ?_
      rintro ⟨ad1, ead1⟩
      refine c_fact (p := ∃ ad, b = some ad) (rds_some (e := e8) (xs := ys) hs2 (by intro h0; rw [h0] at h1; simp only [List.length_nil] at h1; omega)) ?_
      rintro ⟨ad2, ead2⟩
      refine c_quiet (by kernel_rfl) (by kernel_rfl) ?_
      refine Qt.o_val rfl (v_move rfl rfl) ?_
      refine Qt.o_val rfl (v_move rfl rfl) ?_
      refine Qt.o_val rfl (v_indexK e8_ok ead1 rfl rfl rfl Try.underlying25 (by omega) (by omega)) ?_
      obtain ⟨x18, hx18⟩ : ∃ x, (xs)[((i : Int)).toNat]? = some x := ⟨_, List.getElem?_eq_getElem (by omega)⟩
      refine Qt.o_val rfl (v_load1 rfl rfl Try.underlying5 rfl (rd_sl0 e8_ok ead1 hs hx18 rfl)) ?_
      refine Qt.o_val rfl (v_move rfl rfl) ?_
      refine Qt.o_val rfl (v_move rfl rfl) ?_
      refine Qt.o_val rfl (v_indexK e8_ok ead2 rfl rfl rfl Try.underlying25 (by omega) (by omega)) ?_
      obtain ⟨x22, hx22⟩ : ∃ x, (ys)[((i : Int)).toNat]? = some x := ⟨_, List.getElem?_eq_getElem (by omega)⟩
      refine Qt.o_val rfl (v_load1 rfl rfl Try.underlying5 rfl (rd_sl0 e8_ok ead2 hs2 hx22 rfl)) ?_
      refine Qt.o_val rfl (v_bin rfl rfl rfl b_neq) ?_
      refine Qt.l_nil ?_
      refine q_then ?_
      refine c_cond rfl (fun h3 => ?_) (fun h3 => ?_)
      · -- h3T
        try simp only [decide_eq_true_eq, decide_eq_false_iff_not, Bool.not_eq_eq_eq_not, Bool.not_true, Bool.not_false, Bool.not_eq_true', Bool.not_eq_false', Int.not_lt, Int.not_le, Bool.or_eq_true, Bool.and_eq_true] at h3
        have hne : ¬ xs = ys := by rintro rfl; rw [hx18] at hx22; cases hx22; exact h3 rfl
        refine c_seq ?_
        refine c_region ?_
        refine o_assign rfl rfl ?_
        refine l_nil ?_
        refine q_then ?_
        refine c_ret ?_
        refine q_block_ret ?_
        refine q_pass_ret ?_
        refine q_pass_ret ?_
        refine q_block_ret ?_
        refine q_pass_ret ?_
        exact f_ret (r_one rfl rfl) (⟨by rw [decide_eq_false hne], rfl⟩) (fun w S => S)
      · -- h3F
        try simp only [decide_eq_true_eq, decide_eq_false_iff_not, Bool.not_eq_eq_eq_not, Bool.not_true, Bool.not_false, Bool.not_eq_true', Bool.not_eq_false', Int.not_lt, Int.not_le, Bool.or_eq_true, Bool.and_eq_true] at h3
        have hxy : x18 = x22 := UInt8.toNat_inj.1 (by omega)
        refine c_skip ?_
        refine q_block ?_
        refine q_then ?_
        refine c_region ?_
        refine o_bin rfl rfl rfl (b_add (wrap_i64 (by omega) (by omega))) ?_
        refine o_move rfl rfl ?_
        refine l_nil ?_
        exact q_round (i + 1) (by exact ⟨by omega, all_next hall hx18 (by rw [hxy]; exact hx22)⟩) (by (try dsimp only); omega) ⟨(by first | rfl | exact vint (by omega)), (by first | rfl | exact vint (by omega)), (by first | rfl | exact vint (by omega)), (by first | rfl | exact vint (by omega)), trivial⟩ (fun w S => S)
    · -- h2F
      try simp only [decide_eq_true_eq, decide_eq_false_iff_not, Bool.not_eq_eq_eq_not, Bool.not_true, Bool.not_false, Bool.not_eq_true', Bool.not_eq_false', Int.not_lt, Int.not_le, Bool.or_eq_true, Bool.and_eq_true] at h2
      have heq : xs = ys := eq_of_get (by omega) (fun j hj => hall j (by omega))
      refine c_exit ?_
      refine q_pass_exit ?_
      refine q_pass_exit ?_
      refine q_hit ?_
      refine q_then ?_
      refine c_seq ?_
      refine c_region ?_
      refine o_assign rfl rfl ?_
      refine l_nil ?_
      refine q_then ?_
      refine c_ret ?_
      exact f_ret (r_one rfl rfl) (⟨by rw [decide_eq_true heq], rfl⟩) (fun w S => S)

theorem unframe8 {W : World} {F : List Res} {xs : List UInt8} {a : Option Addr} {c : Nat} (hs : RdS W F e8 a xs) (hcc : xs.length ≤ c) (hn : xs.length ≤ 60000000000000) : CS Try.prog 26 #[.slice a xs.length c] W (F) (fun r L' => ∃ (again : List UInt8) (aa : Option Addr) (ca : Nat) (body : List UInt8) (ay : Option Addr) (cy : Nat), body = (unR xs).1 ∧ (∀ {L : List Res}, RdS W L e8 aa again → RdS W L e8 ay body) ∧ r = .tuple #[.slice ay body.length cy, .int .i64 ((unR xs).2.1 : Int), .int .i64 ((unR xs).2.2 : Int)] ∧ L' = row e8.T e8.sz aa (again).length ca (flat e8 again) :: F) := by
  refine f_door (l0 := [(0, .slice a xs.length c)]) Try.func26 Try.ntmps26 rfl rfl rfl ?_
  refine c_seq ?_
  refine c_region ?_
  refine o_assign rfl rfl ?_
  refine o_assign rfl rfl ?_
  refine o_assign rfl rfl ?_
  refine l_nil ?_
  refine q_then ?_
  refine c_seq ?_
  refine c_seq ?_
  refine c_region ?_
  refine o_move rfl rfl ?_
  refine o_len rfl rfl Try.underlying25 ?_
  refine o_bin rfl rfl rfl b_lss ?_
  refine l_nil ?_
  refine q_then ?_
  refine c_cond rfl (fun h1 => ?_) (fun h1 => ?_)
  · -- h1T
    try simp only [decide_eq_true_eq, decide_eq_false_iff_not, Bool.not_eq_eq_eq_not, Bool.not_true, Bool.not_false, Bool.not_eq_true', Bool.not_eq_false', Int.not_lt, Int.not_le, Bool.or_eq_true, Bool.and_eq_true] at h1
    refine c_seq ?_
    refine c_nilrow e8 ?_
    have hun := unR_short (xs := xs) (by omega)
    refine c_region ?_
    refine o_assign rfl rfl ?_
    refine o_assign rfl rfl ?_
    refine o_assign rfl rfl ?_
    refine l_nil ?_
    refine q_then ?_
    refine c_ret ?_
    refine q_pass_ret ?_
    exact f_ret (r_three rfl rfl rfl rfl) (⟨[], none, 0, [], none, 0, by rw [hun], fun h => h, by rw [hun]; rfl, rfl⟩) (fun w S => S)
  · -- h1F
    try simp only [decide_eq_true_eq, decide_eq_false_iff_not, Bool.not_eq_eq_eq_not, Bool.not_true, Bool.not_false, Bool.not_eq_true', Bool.not_eq_false', Int.not_lt, Int.not_le, Bool.or_eq_true, Bool.and_eq_true] at h1
    refine c_skip ?_
    refine q_then ?_
    refine c_seq ?_
    refine c_fact (p := ∃ ad, a = some ad) (rds_some (e := e8) (xs := xs) hs (by intro h0; rw [h0] at h1; simp at h1)) ?_
    rintro ⟨adx, eadx⟩
    refine c_quiet (by kernel_rfl) (by kernel_rfl) ?_
    refine Qt.o_val rfl (v_move rfl rfl) ?_
    refine Qt.o_val rfl (v_indexK e8_ok eadx rfl rfl rfl Try.underlying25 (by omega) (by omega)) ?_
    obtain ⟨x12, hx12⟩ : ∃ x, (xs)[((0 : Int)).toNat]? = some x := ⟨_, List.getElem?_eq_getElem (by omega)⟩
    refine Qt.o_val rfl (v_load1 rfl rfl Try.underlying5 rfl (rd_sl0 e8_ok eadx hs hx12 rfl)) ?_
    refine Qt.o_val rfl (v_int rfl rfl Try.underlying5 Try.underlying3 (wrap_i64 (by omega) (by have := x12.toNat_lt; omega))) ?_
    refine Qt.o_val rfl (v_bin rfl rfl rfl (b_shl (by omega) (shl8 x12))) ?_
    refine Qt.o_val rfl (v_move rfl rfl) ?_
    refine Qt.o_val rfl (v_indexK e8_ok eadx rfl rfl rfl Try.underlying25 (by omega) (by omega)) ?_
    obtain ⟨x17, hx17⟩ : ∃ x, (xs)[((1 : Int)).toNat]? = some x := ⟨_, List.getElem?_eq_getElem (by omega)⟩
    refine Qt.o_val rfl (v_load1 rfl rfl Try.underlying5 rfl (rd_sl0 e8_ok eadx hs hx17 rfl)) ?_
    refine Qt.o_val rfl (v_int rfl rfl Try.underlying5 Try.underlying3 (wrap_i64 (by omega) (by have := x17.toNat_lt; omega))) ?_
    refine Qt.o_val rfl (v_bin rfl rfl rfl (b_or (or8 x12 x17))) ?_
    refine Qt.l_eq (t := 20) (v' := .int .i64 (lenB xs : Int)) rfl (by rw [lenB_get hx12 hx17]) ?_
    refine Qt.o_val rfl (v_assign rfl rfl) ?_
    refine Qt.l_nil ?_
    refine q_then ?_
    refine c_seq ?_
    refine c_block ?_
    refine c_seq ?_
    refine c_region ?_
    refine o_move rfl rfl ?_
    refine o_bin rfl rfl rfl b_gtr ?_
    refine o_assign rfl rfl ?_
    refine l_nil ?_
    refine q_then ?_
    refine c_cond rfl (fun h2 => ?_) (fun h2 => ?_)
    · -- h2T
      try simp only [decide_eq_true_eq, decide_eq_false_iff_not, Bool.not_eq_eq_eq_not, Bool.not_true, Bool.not_false, Bool.not_eq_true', Bool.not_eq_false', Int.not_lt, Int.not_le, Bool.or_eq_true, Bool.and_eq_true] at h2
      refine c_seq ?_
      refine c_nilrow e8 ?_
      have hun := unR_form (xs := xs) (by omega) (by omega)
      refine c_region ?_
      refine o_assign rfl rfl ?_
      refine o_assign rfl rfl ?_
      refine o_assign rfl rfl ?_
      refine l_nil ?_
      refine q_then ?_
      refine c_ret ?_
      refine q_block_ret ?_
      refine q_pass_ret ?_
      exact f_ret (r_three rfl rfl rfl rfl) (⟨[], none, 0, [], none, 0, by rw [hun], fun h => h, by rw [hun]; rfl, rfl⟩) (fun w S => S)
    · -- h2F
      try simp only [decide_eq_true_eq, decide_eq_false_iff_not, Bool.not_eq_eq_eq_not, Bool.not_true, Bool.not_false, Bool.not_eq_true', Bool.not_eq_false', Int.not_lt, Int.not_le, Bool.or_eq_true, Bool.and_eq_true] at h2
      refine c_seq ?_
      refine c_region ?_
      refine o_move rfl rfl ?_
      refine o_move rfl rfl ?_
      refine o_len rfl rfl Try.underlying25 ?_
      refine o_bin rfl rfl rfl (b_sub (wrap_i64 (by omega) (by omega))) ?_
      refine o_bin rfl rfl rfl b_gtr ?_
      refine o_assign rfl rfl ?_
      refine l_nil ?_
      refine q_then ?_
      refine c_cond rfl (fun h3 => ?_) (fun h3 => ?_)
      · -- h3T
        try simp only [decide_eq_true_eq, decide_eq_false_iff_not, Bool.not_eq_eq_eq_not, Bool.not_true, Bool.not_false, Bool.not_eq_true', Bool.not_eq_false', Int.not_lt, Int.not_le, Bool.or_eq_true, Bool.and_eq_true] at h3
        refine c_seq ?_
        refine c_nilrow e8 ?_
        have hun := unR_cut (xs := xs) (by omega) (by omega) (by omega)
        refine c_region ?_
        refine o_assign rfl rfl ?_
        refine o_assign rfl rfl ?_
        refine o_assign rfl rfl ?_
        refine l_nil ?_
        refine q_then ?_
        refine c_ret ?_
        refine q_block_ret ?_
        refine q_pass_ret ?_
        exact f_ret (r_three rfl rfl rfl rfl) (⟨[], none, 0, [], none, 0, by rw [hun], fun h => h, by rw [hun]; rfl, rfl⟩) (fun w S => S)
      · -- h3F
        try simp only [decide_eq_true_eq, decide_eq_false_iff_not, Bool.not_eq_eq_eq_not, Bool.not_true, Bool.not_false, Bool.not_eq_true', Bool.not_eq_false', Int.not_lt, Int.not_le, Bool.or_eq_true, Bool.and_eq_true] at h3
        refine c_skip ?_
        refine q_block ?_
        refine q_then ?_
        refine c_seq ?_
        refine c_region ?_
        refine o_move rfl rfl ?_
        refine o_move rfl rfl ?_
        refine o_bin rfl rfl rfl (b_add (wrap_i64 (by omega) (by omega))) ?_
        refine o_cut (l' := 6) (h' := (6 + lenB xs)) (m := c) rfl rfl Try.underlying25 ti5 (.inl ⟨rfl, rfl⟩) (.inr ⟨_, _, rfl, icast rfl (by omega), (by omega)⟩) (.inr ⟨_, _, rfl, icast rfl (by omega), (by omega)⟩) ?_
        obtain ⟨ys34, ay34, cut34, hys34, hlys34, eay34⟩ : ∃ ys_ ay_, (∀ {L : List Res}, RdS W L e8 a xs → RdS W L e8 ay_ ys_) ∧ ys_ = sub xs 6 (6 + lenB xs) ∧ ys_.length = (6 + lenB xs) - 6 ∧ cutA a c 6 1 = ay_ := ⟨_, _, fun h => rds_cut e8_ok h _ _ _ (by omega), rfl, sub_len (by omega), rfl⟩
        refine l_eq (t := 34) (v' := .slice ay34 ys34.length (c - 6)) rfl (by rw [eay34, hlys34]) ?_
        refine o_call rfl cal24 rfl (frame8 (cut34 hs) (by omega)) ?_
        rintro _ _ ⟨out35, a35, c35, hout35, rfl, rfl⟩
        have hfr : out35 = frameB ys34 := by rw [hout35, frR_yes (by omega)]
        have hfl := frameB_len ys34
        rw [← hfr] at hfl
        refine o_move rfl rfl ?_
        refine o_extract rfl rfl rfl ?_
        refine l_fact (row_cap 0 rfl) ?_
        intro hcap36
        refine o_extract rfl rfl rfl ?_
        refine o_assign rfl rfl ?_
        refine o_assign rfl rfl ?_
        refine l_nil ?_
        refine q_then ?_
        refine c_seq ?_
        refine c_seq ?_
        refine c_region ?_
        refine o_move rfl rfl ?_
        refine o_move rfl rfl ?_
        refine o_move rfl rfl ?_
        refine o_bin rfl rfl rfl (b_add (wrap_i64 (by omega) (by omega))) ?_
        refine o_cut (l' := 0) (h' := (6 + lenB xs)) (m := c) rfl rfl Try.underlying25 ti5 (.inl ⟨rfl, rfl⟩) (.inr ⟨_, _, rfl, icast rfl (by omega), (by omega)⟩) (.inl ⟨rfl, rfl⟩) ?_
        obtain ⟨ys42, ay42, cut42, hys42, hlys42, eay42⟩ : ∃ ys_ ay_, (∀ {L : List Res}, RdS W L e8 a xs → RdS W L e8 ay_ ys_) ∧ ys_ = sub xs 0 (6 + lenB xs) ∧ ys_.length = (6 + lenB xs) - 0 ∧ cutA a c 0 1 = ay_ := ⟨_, _, fun h => rds_cut e8_ok h _ _ _ (by omega), rfl, sub_len (by omega), rfl⟩
        refine l_eq (t := 42) (v' := .slice ay42 ys42.length (c - 0)) rfl (by rw [eay42, hlys42]) ?_
        refine o_call rfl cal38 rfl (equal8 (rds_own e8_ok 0 rfl) (cut42 (rds_c hs)) (by omega)) ?_
        rintro _ _ ⟨rfl, rfl⟩
        refine o_not rfl rfl ?_
        refine l_nil ?_
        refine q_then ?_
        refine c_cond rfl (fun h4 => ?_) (fun h4 => ?_)
        · -- h4T
          try simp only [decide_eq_true_eq, decide_eq_false_iff_not, Bool.not_eq_eq_eq_not, Bool.not_true, Bool.not_false, Bool.not_eq_true', Bool.not_eq_false', Int.not_lt, Int.not_le, Bool.or_eq_true, Bool.and_eq_true] at h4
          refine c_seq ?_
          refine c_nilrow e8 ?_
          have hun := unR_sum (xs := xs) (by omega) (by omega) (by omega) (by rw [← hys34, ← hfr, ← hys42]; exact h4)
          refine c_region ?_
          refine o_assign rfl rfl ?_
          refine o_assign rfl rfl ?_
          refine o_assign rfl rfl ?_
          refine l_nil ?_
          refine q_then ?_
          refine c_ret ?_
          refine q_pass_ret ?_
          refine q_conv (fun w S => (S.perm p1).tail) ?_
          exact f_ret (r_three rfl rfl rfl rfl) (⟨[], none, 0, [], none, 0, by rw [hun], fun h => h, by rw [hun]; rfl, rfl⟩) (fun w S => S)
        · -- h4F
          try simp only [decide_eq_true_eq, decide_eq_false_iff_not, Bool.not_eq_eq_eq_not, Bool.not_true, Bool.not_false, Bool.not_eq_true', Bool.not_eq_false', Int.not_lt, Int.not_le, Bool.or_eq_true, Bool.and_eq_true] at h4
          refine c_skip ?_
          refine q_then ?_
          refine c_seq ?_
          have hun := unR_ok (xs := xs) (by omega) (by omega) (by omega) (by rw [← hys34, ← hfr, ← hys42]; exact h4)
          have hlo : 6 + lenB xs = out35.length := by omega
          refine c_region ?_
          refine o_move rfl rfl ?_
          refine o_cut (l' := 6) (h' := ((out35).length)) (m := c35) rfl rfl Try.underlying25 ti5 (.inl ⟨rfl, rfl⟩) (.inl ⟨rfl, rfl, rfl⟩) (.inr ⟨_, _, rfl, icast rfl (by omega), (by omega)⟩) ?_
          obtain ⟨ys46, ay46, cut46, hys46, hlys46, eay46⟩ : ∃ ys_ ay_, (∀ {L : List Res}, RdS W L e8 a35 out35 → RdS W L e8 ay_ ys_) ∧ ys_ = sub out35 6 ((out35).length) ∧ ys_.length = ((out35).length) - 6 ∧ cutA a35 c35 6 1 = ay_ := ⟨_, _, fun h => rds_cut e8_ok h _ _ _ (by omega), rfl, sub_len (by omega), rfl⟩
          refine l_eq (t := 46) (v' := .slice ay46 ys46.length (c35 - 6)) rfl (by rw [eay46, hlys46]) ?_
          have hb46 : ys46 = sub xs 6 (6 + lenB xs) := by rw [hys46, hfr, frameB_body, hys34]
          refine o_move rfl rfl ?_
          refine o_len rfl rfl Try.underlying25 ?_
          refine o_assign rfl rfl ?_
          refine o_assign rfl rfl ?_
          refine o_assign rfl rfl ?_
          refine l_nil ?_
          refine q_then ?_
          refine c_ret ?_
          exact f_ret (r_three rfl rfl rfl rfl) (⟨out35, a35, c35, ys46, ay46, _, by rw [hun]; exact hb46, cut46, by rw [hun, hlo]; rfl, rfl⟩) (fun w S => S)

end Go.Proofs.Ytkohbgblnkelnaa
