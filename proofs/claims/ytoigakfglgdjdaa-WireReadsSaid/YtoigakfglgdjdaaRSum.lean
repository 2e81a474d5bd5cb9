/- Printed by eng2.py out of 18/spec.py. -/
import Derived.Test.YtoigakfglgdjdaaSum
import Derived.Test.YtoigakfglgdjdaaRSump
import Derived.Test.YtoigakfglgdjdaaMem2
set_option linter.unusedVariables false
set_option linter.unusedSimpArgs false
set_option maxRecDepth 10000
namespace Go.Proofs.Ytoigakfglgdjdaa
open Go.RowKit
set_option maxHeartbeats 1000000 in
theorem rsum {W : World} {F : List Res} {xs : List UInt8} {a : Option Addr} {c : Nat} (hs : RdS W F e8 a xs) (hn : xs.length ≤ 1000000) : CS Try.prog 24 #[.slice a xs.length c] W (F) (fun r L' => r = .int .u32 (v32 (sumB xs)) ∧ F = L') := by
 refine f_door (l0 := [(0, .slice a xs.length c)]) Try.func24 Try.ntmps24 rfl rfl rfl ?_
 refine c_seq ?_
 refine c_region ?_
 refine o_assign rfl rfl ?_
 refine l_nil ?_
 refine q_then ?_
 refine c_seq ?_
 refine c_region ?_
 refine o_lit eI_ok rfl Try.underlying82 rfl rfl rfl (lit_ok rfl) ([] : List Int) rfl rfl fun a13 => ?_
 refine o_assign rfl rfl ?_
 refine l_nil ?_
 refine q_then ?_
 refine c_seq ?_
 refine c_seq ?_
 refine c_region ?_
 refine o_assign rfl rfl ?_
 refine l_nil ?_
 refine q_then ?_
 refine c_block ?_
 refine c_loop (α := Nat × (Option Addr) × Nat) (fun z => [(0, .slice a (xs).length c), (3, .slice z.2.1 (bl (8 * z.1) (bN xs)).length z.2.2), (4, .int .i64 (z.1 : Int))]) (fun z => row eI.T eI.sz z.2.1 (bl (8 * z.1) (bN xs)).length z.2.2 (flat eI (bl (8 * z.1) (bN xs))) :: F) (fun z => z.1 ≤ xs.length) (fun z => xs.length - z.1) (0, a13, 0) (by exact Nat.zero_le _) ⟨(by first | rfl | exact vint (by omega)), (by first | rfl | exact vint (by omega)), (by first | rfl | exact vint (by omega)), trivial⟩ (fun w S => S) ?_
 rintro ⟨i, a3, c3⟩ hi
 try dsimp only at *
 refine c_seq ?_
 refine c_seq ?_
 refine c_region ?_
 refine o_move rfl rfl ?_
 refine o_move rfl rfl ?_
 refine o_len rfl rfl Try.underlying28 ?_
 refine o_bin rfl rfl rfl b_lss ?_
 refine l_nil ?_
 refine q_then ?_
 refine c_cond rfl (fun h1 => ?_) (fun h1 => ?_)
 · -- h1T
  have h1b := h1
  try simp only [decide_eq_true_eq] at h1
  refine c_skip ?_
  refine q_then ?_
  refine c_seq ?_
  refine c_block ?_
  refine c_seq ?_
  refine c_region ?_
  refine o_assign rfl rfl ?_
  refine l_nil ?_
  refine q_then ?_
  refine c_block ?_
  refine c_loop (α := Nat × (Option Addr) × Nat) (fun z => [(0, .slice a (xs).length c), (3, .slice z.2.1 (bl (8 * i + z.1) (bN xs)).length z.2.2), (4, .int .i64 (i : Int)), (5, .int .i64 (z.1 : Int))]) (fun z => row eI.T eI.sz z.2.1 (bl (8 * i + z.1) (bN xs)).length z.2.2 (flat eI (bl (8 * i + z.1) (bN xs))) :: F) (fun z => z.1 ≤ 8) (fun z => 8 - z.1) (0, a3, c3) (by exact Nat.zero_le _) ⟨(by first | rfl | exact vint (by omega)), (by first | rfl | exact vint (by omega)), (by first | rfl | exact vint (by omega)), (by first | rfl | exact vint (by omega)), trivial⟩ (fun w S => S) ?_
  rintro ⟨k, a3, c3⟩ hk
  try dsimp only at *
  refine c_seq ?_
  refine c_seq ?_
  refine c_region ?_
  refine o_move rfl rfl ?_
  refine o_bin rfl rfl rfl b_lss ?_
  refine l_nil ?_
  refine q_then ?_
  refine c_cond rfl (fun h2 => ?_) (fun h2 => ?_)
  · -- h2T
   have h2b := h2
   try simp only [decide_eq_true_eq] at h2
   refine c_skip ?_
   refine q_then ?_
   refine c_seq ?_
   refine c_block ?_
   refine c_region ?_
   refine o_move rfl rfl ?_
   refine o_move rfl rfl ?_
   refine o_move rfl rfl ?_
   refine o_index e8_ok rfl rfl rfl Try.underlying28 (by omega) (by omega) (rds_c hs) fun ad27 ead27 => ?_
   obtain ⟨x27, hx27⟩ : ∃ x, (xs)[((i : Int)).toNat]? = some x := ⟨_, List.getElem?_eq_getElem (by first | omega | (simp only [bl_len]; omega))⟩
   refine o_load1 rfl rfl Try.underlying5 rfl (rd_sl0 e8_ok ead27 (rds_c hs) hx27 rfl) ?_
   have hx27' : xs[i]? = some x27 := hx27
   have hb27 := x27.toNat_lt
   have hd27 := Nat.div_le_self x27.toNat (2 ^ k)
   refine o_move rfl rfl ?_
   refine o_int rfl rfl Try.underlying3 Try.underlying81 (wrap_u64 (by omega) (by omega)) ?_
   refine o_bin rfl rfl rfl (b_shr (by omega) (shr8k x27 (by omega))) ?_
   refine o_int rfl rfl Try.underlying5 Try.underlying3 (wrapN64 (by omega)) ?_
   refine o_bin rfl rfl rfl (b_and (and1i64 (by omega))) ?_
   refine o_lit eI_ok rfl Try.underlying82 rfl rfl rfl (lit_ok rfl) [((x27.toNat / 2 ^ k % 2 : Nat) : Int)] rfl rfl fun a34 => ?_
   refine l_f1 ?_
   refine o_append eI_ok rfl rfl rfl Try.underlying82 (rds_own eI_ok 1 rfl) (by simp only [List.length_cons, List.length_nil, bl_len]; show _ * 8 ≤ _; omega) (by simp only [List.length_cons, List.length_nil, bl_len]; omega) fun a35 c35 => ?_
   refine l_f1 ?_
   refine l_drop ?_
   refine l_eq (t := 35) (v' := .slice a35 (bl (8 * i + k + 1) (bN xs)).length c35) rfl (by rw [bl_app, bN_msg (i := i) hx27' (by omega)]) ?_
   refine l_conv (L' := row eI.T eI.sz a35 (bl (8 * i + k + 1) (bN xs)).length c35 (flat eI (bl (8 * i + k + 1) (bN xs))) :: _) (fun w S => by rw [bl_app, ← bN_msg (i := i) hx27' (by omega)]; exact S) ?_
   refine o_assign rfl rfl ?_
   refine l_nil ?_
   refine q_block ?_
   refine q_then ?_
   refine c_region ?_
   refine o_move rfl rfl ?_
   refine o_bin rfl rfl rfl (b_add (wrap_i64 (by omega) (by omega))) ?_
   refine o_assign rfl rfl ?_
   refine l_nil ?_
   exact q_round (k + 1, a35, c35) (by (try dsimp only); omega) (by (try dsimp only); omega) ⟨(by first | rfl | exact vint (by omega)), (by first | rfl | exact vint (by omega)), (by first | rfl | exact vint (by omega)), (by first | rfl | exact vint (by omega)), trivial⟩ (fun w S => S)
  · -- h2F
   have h2b := h2
   try simp only [decide_eq_false_iff_not, Int.not_lt, Int.not_le] at h2
   obtain rfl : k = 8 := by omega
   refine c_exit ?_
   refine q_pass_exit ?_
   refine q_pass_exit ?_
   refine q_hit ?_
   refine q_block ?_
   refine q_then ?_
   refine c_region ?_
   refine o_move rfl rfl ?_
   refine o_bin rfl rfl rfl (b_add (wrap_i64 (by omega) (by omega))) ?_
   refine o_assign rfl rfl ?_
   refine l_nil ?_
   exact q_round (i + 1, a3, c3) (by (try dsimp only); omega) (by (try dsimp only); omega) ⟨(by first | rfl | exact vint (by omega)), (by first | rfl | exact vint (by omega)), (by first | rfl | exact vint (by omega)), trivial⟩ (fun w S => S)
 · -- h1F
  have h1b := h1
  try simp only [decide_eq_false_iff_not, Int.not_lt, Int.not_le] at h1
  obtain rfl : i = xs.length := by omega
  refine c_exit ?_
  refine q_pass_exit ?_
  refine q_pass_exit ?_
  refine q_hit ?_
  refine q_then ?_
  refine c_seq ?_
  refine c_seq ?_
  refine c_region ?_
  refine o_assign rfl rfl ?_
  refine l_nil ?_
  refine q_then ?_
  refine c_block ?_
  refine c_loop (α := Nat × (Option Addr) × Nat) (fun z => [(3, .slice z.2.1 (bl (8 * xs.length + z.1) (bN xs)).length z.2.2), (6, .int .i64 (z.1 : Int))]) (fun z => row eI.T eI.sz z.2.1 (bl (8 * xs.length + z.1) (bN xs)).length z.2.2 (flat eI (bl (8 * xs.length + z.1) (bN xs))) :: F) (fun z => z.1 ≤ 32) (fun z => 32 - z.1) (0, a3, c3) (by exact Nat.zero_le _) ⟨(by first | rfl | exact vint (by omega)), (by first | rfl | exact vint (by omega)), trivial⟩ (fun w S => S) ?_
  rintro ⟨u, a3, c3⟩ hu
  try dsimp only at *
  refine c_seq ?_
  refine c_seq ?_
  refine c_region ?_
  refine o_move rfl rfl ?_
  refine o_bin rfl rfl rfl b_lss ?_
  refine l_nil ?_
  refine q_then ?_
  refine c_cond rfl (fun h3 => ?_) (fun h3 => ?_)
  · -- h3T
   have h3b := h3
   try simp only [decide_eq_true_eq] at h3
   refine c_skip ?_
   refine q_then ?_
   refine c_seq ?_
   refine c_block ?_
   refine c_region ?_
   refine o_move rfl rfl ?_
   refine o_lit eI_ok rfl Try.underlying82 rfl rfl rfl (lit_ok rfl) [0] rfl rfl fun a41 => ?_
   refine l_f1 ?_
   refine o_append eI_ok rfl rfl rfl Try.underlying82 (rds_own eI_ok 1 rfl) (by simp only [List.length_cons, List.length_nil, bl_len]; show _ * 8 ≤ _; omega) (by simp only [List.length_cons, List.length_nil, bl_len]; omega) fun a42 c42 => ?_
   refine l_f1 ?_
   refine l_drop ?_
   refine l_eq (t := 42) (v' := .slice a42 (bl (8 * xs.length + u + 1) (bN xs)).length c42) rfl (by rw [bl_app, bN_zero (by omega)]) ?_
   refine l_conv (L' := row eI.T eI.sz a42 (bl (8 * xs.length + u + 1) (bN xs)).length c42 (flat eI (bl (8 * xs.length + u + 1) (bN xs))) :: _) (fun w S => by rw [bl_app, bN_zero (by omega)]; exact S) ?_
   refine o_assign rfl rfl ?_
   refine l_nil ?_
   refine q_block ?_
   refine q_then ?_
   refine c_region ?_
   refine o_move rfl rfl ?_
   refine o_bin rfl rfl rfl (b_add (wrap_i64 (by omega) (by omega))) ?_
   refine o_assign rfl rfl ?_
   refine l_nil ?_
   exact q_round (u + 1, a42, c42) (by (try dsimp only); omega) (by (try dsimp only); omega) ⟨(by first | rfl | exact vint (by omega)), (by first | rfl | exact vint (by omega)), trivial⟩ (fun w S => S)
  · -- h3F
   have h3b := h3
   try simp only [decide_eq_false_iff_not, Int.not_lt, Int.not_le] at h3
   obtain rfl : u = 32 := by omega
   refine c_exit ?_
   refine q_pass_exit ?_
   refine q_pass_exit ?_
   refine q_hit ?_
   refine q_then ?_
   refine c_seq ?_
   refine c_seq ?_
   refine c_region ?_
   refine o_assign rfl rfl ?_
   refine l_nil ?_
   refine q_then ?_
   refine c_block ?_
   refine c_loop (α := Nat × (Option Addr) × Nat) (fun z => [(3, .slice z.2.1 (bl (8 * xs.length + 32) (bN xs ^^^ (2 ^ z.1 - 1))).length z.2.2), (7, .int .i64 (z.1 : Int))]) (fun z => row eI.T eI.sz z.2.1 (bl (8 * xs.length + 32) (bN xs ^^^ (2 ^ z.1 - 1))).length z.2.2 (flat eI (bl (8 * xs.length + 32) (bN xs ^^^ (2 ^ z.1 - 1)))) :: F) (fun z => z.1 ≤ 32) (fun z => 32 - z.1) (0, a3, c3) (by exact Nat.zero_le _) ⟨(by show some (Value.slice _ _ _) = some (Value.slice _ _ _); rw [bl_len, bl_len]), (by first | rfl | exact vint (by omega)), trivial⟩ (fun w S => by dsimp only; rw [show bN xs ^^^ (2 ^ 0 - 1) = bN xs from Nat.xor_zero _]; exact S) ?_
   rintro ⟨v, a3, c3⟩ hv
   try dsimp only at *
   refine c_seq ?_
   refine c_seq ?_
   refine c_region ?_
   refine o_move rfl rfl ?_
   refine o_bin rfl rfl rfl b_lss ?_
   refine l_nil ?_
   refine q_then ?_
   refine c_cond rfl (fun h4 => ?_) (fun h4 => ?_)
   · -- h4T
    have h4b := h4
    try simp only [decide_eq_true_eq] at h4
    refine c_skip ?_
    refine q_then ?_
    refine c_seq ?_
    refine c_block ?_
    refine c_region ?_
    refine o_move rfl rfl ?_
    refine o_move rfl rfl ?_
    refine o_move rfl rfl ?_
    refine o_move rfl rfl ?_
    refine o_index eI_ok rfl rfl rfl Try.underlying82 (by omega) (by simp only [bl_len]; omega) (rds_own eI_ok 0 rfl) fun ad51 ead51 => ?_
    obtain ⟨x51, hx51⟩ : ∃ x, (bl (8 * xs.length + 32) (bN xs ^^^ (2 ^ v - 1)))[((v : Int)).toNat]? = some x := ⟨_, List.getElem?_eq_getElem (by first | omega | (simp only [bl_len]; omega))⟩
    have hb51 : x51 = bit (bN xs ^^^ (2 ^ v - 1)) v := by have h9 := hx51; rw [show ((v : Int)).toNat = v by omega, bl_get (by omega)] at h9; exact (Option.some.inj h9).symm
    have h01_51 : x51 = 0 ∨ x51 = 1 := by rw [hb51]; exact bit01 _ _
    refine o_load1 rfl rfl Try.underlying3 rfl (rd_sl0 eI_ok ead51 (rds_own eI_ok 0 rfl) hx51 rfl) ?_
    refine o_bin rfl rfl rfl (b_sub (wrap_i64 (by omega) (by omega))) ?_
    refine o_indexK eI_ok ead51 rfl rfl rfl Try.underlying82 (by omega) (by simp only [bl_len]; omega) ?_
    obtain ⟨x54, hx54⟩ : ∃ x, (bl (8 * xs.length + 32) (bN xs ^^^ (2 ^ v - 1)))[((v : Int)).toNat]? = some x := ⟨_, List.getElem?_eq_getElem (by first | omega | (simp only [bl_len]; omega))⟩
    refine o_storeRow0 (x1 := (1 : Int) - x51) eI_ok ead51 rfl rfl rfl ti3 hx54 rfl ?_
    refine l_nil ?_
    refine q_block ?_
    refine q_then ?_
    refine c_region ?_
    refine o_move rfl rfl ?_
    refine o_bin rfl rfl rfl (b_add (wrap_i64 (by omega) (by omega))) ?_
    refine o_assign rfl rfl ?_
    refine l_nil ?_
    refine q_conv (L' := row eI.T eI.sz a3 (bl (8 * xs.length + 32) (bN xs ^^^ (2 ^ (v + 1) - 1))).length c3 (flat eI (bl (8 * xs.length + 32) (bN xs ^^^ (2 ^ (v + 1) - 1)))) :: _) (fun w S => by rw [show ((v : Int)).toNat = v from Int.toNat_natCast v, hb51, bl_flip (by omega), ones_step] at S; exact S) ?_
    exact q_round (v + 1, a3, c3) (by (try dsimp only); omega) (by (try dsimp only); omega) ⟨(by show some (Value.slice _ _ _) = some (Value.slice _ _ _); rw [bl_len, bl_len]), (by first | rfl | exact vint (by omega)), trivial⟩ (fun w S => S)
   · -- h4F
    have h4b := h4
    try simp only [decide_eq_false_iff_not, Int.not_lt, Int.not_le] at h4
    obtain rfl : v = 32 := by omega
    refine c_exit ?_
    refine q_pass_exit ?_
    refine q_pass_exit ?_
    refine q_hit ?_
    refine q_then ?_
    refine c_seq ?_
    refine c_region ?_
    refine o_buildArr rfl Try.underlying83 ti83 ti3 rfl ((fill_cons (cells' := [.int .i64 32, .int .i64 0, .int .i64 0, .int .i64 0, .int .i64 0, .int .i64 0, .int .i64 0, .int .i64 0, .int .i64 0, .int .i64 0, .int .i64 0, .int .i64 0, .int .i64 0, .int .i64 0, .int .i64 0, .int .i64 0, .int .i64 0, .int .i64 0]) rfl rfl rfl rfl (fill_cons (cells' := [.int .i64 32, .int .i64 28, .int .i64 0, .int .i64 0, .int .i64 0, .int .i64 0, .int .i64 0, .int .i64 0, .int .i64 0, .int .i64 0, .int .i64 0, .int .i64 0, .int .i64 0, .int .i64 0, .int .i64 0, .int .i64 0, .int .i64 0, .int .i64 0]) rfl rfl rfl rfl (fill_cons (cells' := [.int .i64 32, .int .i64 28, .int .i64 27, .int .i64 0, .int .i64 0, .int .i64 0, .int .i64 0, .int .i64 0, .int .i64 0, .int .i64 0, .int .i64 0, .int .i64 0, .int .i64 0, .int .i64 0, .int .i64 0, .int .i64 0, .int .i64 0, .int .i64 0]) rfl rfl rfl rfl (fill_cons (cells' := [.int .i64 32, .int .i64 28, .int .i64 27, .int .i64 26, .int .i64 0, .int .i64 0, .int .i64 0, .int .i64 0, .int .i64 0, .int .i64 0, .int .i64 0, .int .i64 0, .int .i64 0, .int .i64 0, .int .i64 0, .int .i64 0, .int .i64 0, .int .i64 0]) rfl rfl rfl rfl (fill_cons (cells' := [.int .i64 32, .int .i64 28, .int .i64 27, .int .i64 26, .int .i64 25, .int .i64 0, .int .i64 0, .int .i64 0, .int .i64 0, .int .i64 0, .int .i64 0, .int .i64 0, .int .i64 0, .int .i64 0, .int .i64 0, .int .i64 0, .int .i64 0, .int .i64 0]) rfl rfl rfl rfl (fill_cons (cells' := [.int .i64 32, .int .i64 28, .int .i64 27, .int .i64 26, .int .i64 25, .int .i64 23, .int .i64 0, .int .i64 0, .int .i64 0, .int .i64 0, .int .i64 0, .int .i64 0, .int .i64 0, .int .i64 0, .int .i64 0, .int .i64 0, .int .i64 0, .int .i64 0]) rfl rfl rfl rfl (fill_cons (cells' := [.int .i64 32, .int .i64 28, .int .i64 27, .int .i64 26, .int .i64 25, .int .i64 23, .int .i64 22, .int .i64 0, .int .i64 0, .int .i64 0, .int .i64 0, .int .i64 0, .int .i64 0, .int .i64 0, .int .i64 0, .int .i64 0, .int .i64 0, .int .i64 0]) rfl rfl rfl rfl (fill_cons (cells' := [.int .i64 32, .int .i64 28, .int .i64 27, .int .i64 26, .int .i64 25, .int .i64 23, .int .i64 22, .int .i64 20, .int .i64 0, .int .i64 0, .int .i64 0, .int .i64 0, .int .i64 0, .int .i64 0, .int .i64 0, .int .i64 0, .int .i64 0, .int .i64 0]) rfl rfl rfl rfl (fill_cons (cells' := [.int .i64 32, .int .i64 28, .int .i64 27, .int .i64 26, .int .i64 25, .int .i64 23, .int .i64 22, .int .i64 20, .int .i64 19, .int .i64 0, .int .i64 0, .int .i64 0, .int .i64 0, .int .i64 0, .int .i64 0, .int .i64 0, .int .i64 0, .int .i64 0]) rfl rfl rfl rfl (fill_cons (cells' := [.int .i64 32, .int .i64 28, .int .i64 27, .int .i64 26, .int .i64 25, .int .i64 23, .int .i64 22, .int .i64 20, .int .i64 19, .int .i64 18, .int .i64 0, .int .i64 0, .int .i64 0, .int .i64 0, .int .i64 0, .int .i64 0, .int .i64 0, .int .i64 0]) rfl rfl rfl rfl (fill_cons (cells' := [.int .i64 32, .int .i64 28, .int .i64 27, .int .i64 26, .int .i64 25, .int .i64 23, .int .i64 22, .int .i64 20, .int .i64 19, .int .i64 18, .int .i64 14, .int .i64 0, .int .i64 0, .int .i64 0, .int .i64 0, .int .i64 0, .int .i64 0, .int .i64 0]) rfl rfl rfl rfl (fill_cons (cells' := [.int .i64 32, .int .i64 28, .int .i64 27, .int .i64 26, .int .i64 25, .int .i64 23, .int .i64 22, .int .i64 20, .int .i64 19, .int .i64 18, .int .i64 14, .int .i64 13, .int .i64 0, .int .i64 0, .int .i64 0, .int .i64 0, .int .i64 0, .int .i64 0]) rfl rfl rfl rfl (fill_cons (cells' := [.int .i64 32, .int .i64 28, .int .i64 27, .int .i64 26, .int .i64 25, .int .i64 23, .int .i64 22, .int .i64 20, .int .i64 19, .int .i64 18, .int .i64 14, .int .i64 13, .int .i64 11, .int .i64 0, .int .i64 0, .int .i64 0, .int .i64 0, .int .i64 0]) rfl rfl rfl rfl (fill_cons (cells' := [.int .i64 32, .int .i64 28, .int .i64 27, .int .i64 26, .int .i64 25, .int .i64 23, .int .i64 22, .int .i64 20, .int .i64 19, .int .i64 18, .int .i64 14, .int .i64 13, .int .i64 11, .int .i64 10, .int .i64 0, .int .i64 0, .int .i64 0, .int .i64 0]) rfl rfl rfl rfl (fill_cons (cells' := [.int .i64 32, .int .i64 28, .int .i64 27, .int .i64 26, .int .i64 25, .int .i64 23, .int .i64 22, .int .i64 20, .int .i64 19, .int .i64 18, .int .i64 14, .int .i64 13, .int .i64 11, .int .i64 10, .int .i64 9, .int .i64 0, .int .i64 0, .int .i64 0]) rfl rfl rfl rfl (fill_cons (cells' := [.int .i64 32, .int .i64 28, .int .i64 27, .int .i64 26, .int .i64 25, .int .i64 23, .int .i64 22, .int .i64 20, .int .i64 19, .int .i64 18, .int .i64 14, .int .i64 13, .int .i64 11, .int .i64 10, .int .i64 9, .int .i64 8, .int .i64 0, .int .i64 0]) rfl rfl rfl rfl (fill_cons (cells' := [.int .i64 32, .int .i64 28, .int .i64 27, .int .i64 26, .int .i64 25, .int .i64 23, .int .i64 22, .int .i64 20, .int .i64 19, .int .i64 18, .int .i64 14, .int .i64 13, .int .i64 11, .int .i64 10, .int .i64 9, .int .i64 8, .int .i64 6, .int .i64 0]) rfl rfl rfl rfl (fill_cons (cells' := [.int .i64 32, .int .i64 28, .int .i64 27, .int .i64 26, .int .i64 25, .int .i64 23, .int .i64 22, .int .i64 20, .int .i64 19, .int .i64 18, .int .i64 14, .int .i64 13, .int .i64 11, .int .i64 10, .int .i64 9, .int .i64 8, .int .i64 6, .int .i64 0]) rfl rfl rfl rfl fill_nil))))))))))))))))))) ?_
    refine o_alloc rfl ti83 fun b8 => ?_
    refine o_storen rfl rfl ti83 rfl rfl rfl rfl ?_
    refine l_nil ?_
    refine q_then ?_
    refine c_seq ?_
    refine c_seq ?_
    refine c_conv (L' := blk b8 (.cells (flat eI pwL).toArray 83 (0, 0)) :: _) (fun w S => S) ?_
    refine c_region ?_
    refine o_assign rfl rfl ?_
    refine l_nil ?_
    refine q_then ?_
    refine c_block ?_
    refine c_loop (α := Nat × (Option Addr) × Nat) (fun z => [(3, .slice z.2.1 (bl (8 * xs.length + 32) (dv z.1 (bN xs ^^^ (2 ^ 32 - 1)))).length z.2.2), (8, .pointer (some ⟨b8, 0, none⟩)), (9, .int .i64 (z.1 : Int))]) (fun z => blk b8 (.cells (flat eI pwL).toArray 83 (0, 0)) :: row eI.T eI.sz z.2.1 (bl (8 * xs.length + 32) (dv z.1 (bN xs ^^^ (2 ^ 32 - 1)))).length z.2.2 (flat eI (bl (8 * xs.length + 32) (dv z.1 (bN xs ^^^ (2 ^ 32 - 1))))) :: F) (fun z => z.1 ≤ 8 * xs.length) (fun z => 8 * xs.length - z.1) (0, a3, c3) (by exact Nat.zero_le _) ⟨(by show some (Value.slice _ _ _) = some (Value.slice _ _ _); rw [bl_len, bl_len]), (by first | rfl | exact vint (by omega)), (by first | rfl | exact vint (by omega)), trivial⟩ (fun w S => S) ?_
    rintro ⟨q, a3, c3⟩ hq
    try dsimp only at *
    refine c_seq ?_
    refine c_seq ?_
    refine c_region ?_
    refine o_move rfl rfl ?_
    refine o_bin rfl rfl rfl (b_add (wrap_i64 (by omega) (by omega))) ?_
    refine o_move rfl rfl ?_
    refine o_len rfl rfl Try.underlying82 ?_
    refine o_bin rfl rfl rfl b_lss ?_
    refine l_nil ?_
    refine q_then ?_
    refine c_cond rfl (fun h5 => ?_) (fun h5 => ?_)
    · -- h5T
     have h5b := h5
     try simp only [decide_eq_true_eq] at h5
     rw [bl_len] at h5
     refine c_skip ?_
     refine q_then ?_
     refine c_seq ?_
     refine c_block ?_
     refine c_seq ?_
     refine c_region ?_
     refine o_move rfl rfl ?_
     refine o_move rfl rfl ?_
     refine o_index eI_ok rfl rfl rfl Try.underlying82 (by omega) (by simp only [bl_len]; omega) (rds_own eI_ok 1 rfl) fun ad65 ead65 => ?_
     obtain ⟨x65, hx65⟩ : ∃ x, (bl (8 * xs.length + 32) (dv q (bN xs ^^^ (2 ^ 32 - 1))))[((q : Int)).toNat]? = some x := ⟨_, List.getElem?_eq_getElem (by first | omega | (simp only [bl_len]; omega))⟩
     have hb65 : x65 = bit (dv q (bN xs ^^^ (2 ^ 32 - 1))) q := by have h9 := hx65; rw [show ((q : Int)).toNat = q by omega, bl_get (by omega)] at h9; exact (Option.some.inj h9).symm
     have h01_65 : x65 = 0 ∨ x65 = 1 := by rw [hb65]; exact bit01 _ _
     refine o_load1 rfl rfl Try.underlying3 rfl (rd_sl0 eI_ok ead65 (rds_own eI_ok 1 rfl) hx65 rfl) ?_
     refine o_bin rfl rfl rfl b_eql ?_
     refine l_nil ?_
     refine q_then ?_
     refine c_cond rfl (fun h6 => ?_) (fun h6 => ?_)
     · -- h6T
      have h6b := h6
      try simp only [decide_eq_true_eq] at h6
      have ht6 := bit_one_ (hb65 ▸ h6)
      refine c_seq ?_
      refine c_region ?_
      refine o_assign rfl rfl ?_
      refine l_nil ?_
      refine q_then ?_
      refine c_block ?_
      refine c_loop (α := Nat × (Option Addr) × Nat) (fun z => [(3, .slice z.2.1 (bl (8 * xs.length + 32) (dv q (bN xs ^^^ (2 ^ 32 - 1)) ^^^ (xk z.1 <<< q))).length z.2.2), (8, .pointer (some ⟨b8, 0, none⟩)), (9, .int .i64 (q : Int)), (10, .int .i64 (z.1 : Int))]) (fun z => blk b8 (.cells (flat eI pwL).toArray 83 (0, 0)) :: row eI.T eI.sz z.2.1 (bl (8 * xs.length + 32) (dv q (bN xs ^^^ (2 ^ 32 - 1)) ^^^ (xk z.1 <<< q))).length z.2.2 (flat eI (bl (8 * xs.length + 32) (dv q (bN xs ^^^ (2 ^ 32 - 1)) ^^^ (xk z.1 <<< q)))) :: F) (fun z => z.1 ≤ 18) (fun z => 18 - z.1) (0, a3, c3) (by exact Nat.zero_le _) ⟨(by show some (Value.slice _ _ _) = some (Value.slice _ _ _); rw [bl_len, bl_len]), (by first | rfl | exact vint (by omega)), (by first | rfl | exact vint (by omega)), (by first | rfl | exact vint (by omega)), trivial⟩ (fun w S => by dsimp only; rw [show dv q (bN xs ^^^ (2 ^ 32 - 1)) ^^^ (xk 0 <<< q) = dv q (bN xs ^^^ (2 ^ 32 - 1)) from by simp [xk]]; exact S) ?_
      rintro ⟨p, a3, c3⟩ hp
      try dsimp only at *
      refine c_seq ?_
      refine c_seq ?_
      refine c_region ?_
      refine o_move rfl rfl ?_
      refine o_bin rfl rfl rfl b_lss ?_
      refine l_nil ?_
      refine q_then ?_
      refine c_cond rfl (fun h7 => ?_) (fun h7 => ?_)
      · -- h7T
       have h7b := h7
       try simp only [decide_eq_true_eq] at h7
       refine c_skip ?_
       refine q_then ?_
       refine c_seq ?_
       refine c_block ?_
       refine c_fact (p := ∃ ad, a3 = some ad) (rds_some (e := eI) (xs := bl (8 * xs.length + 32) (dv q (bN xs ^^^ (2 ^ 32 - 1)) ^^^ (xk p <<< q))) (rds_own eI_ok 1 rfl) (by intro h0; have := congrArg List.length h0; simp [bl_len] at this)) ?_
       rintro ⟨ad25, ead25⟩
       refine c_held [blk b8 (.cells (flat eI pwL).toArray 83 (0, 0))] (by kernel_rfl) rfl ?_
       refine h_take 0 rfl rfl (by kernel_rfl) (by kernel_rfl) (by kernel_rfl) (fun L0 => v_move rfl rfl) ?_
       refine h_take 1 rfl rfl (by kernel_rfl) (by kernel_rfl) (by kernel_rfl) (fun L0 => v_move rfl rfl) ?_
       refine h_take 2 rfl rfl (by kernel_rfl) (by kernel_rfl) (by kernel_rfl) (fun L0 => v_bin rfl rfl rfl (b_add (wrap_i64 (by omega) (by omega)))) ?_
       refine h_take 3 rfl rfl (by kernel_rfl) (by kernel_rfl) (by kernel_rfl) (fun L0 => v_move rfl rfl) ?_
       refine h_take 4 rfl rfl (by kernel_rfl) (by kernel_rfl) (by kernel_rfl) (fun L0 => v_indexArr rfl rfl rfl Try.underlying83 ti3 (by omega) (by omega) (Addr.add_mk _ _ _)) ?_
       obtain ⟨x76, hx76⟩ : ∃ x, (pwL)[((p : Int)).toNat]? = some x := ⟨_, List.getElem?_eq_getElem (by have := (show pwL.length = 18 from rfl); omega)⟩
       obtain ⟨pp, hpp, hpw, hp32⟩ := pwL_get (k := p) (by have h9 := hx76; rwa [Int.toNat_natCast] at h9)
       refine h_take 5 rfl rfl (by kernel_rfl) (by kernel_rfl) (by kernel_rfl) (fun L0 => v_load1 rfl rfl Try.underlying3 rfl (rd_mem 0 rfl (sg_arr (sg_flat (s := 1) (o := 0) eI_ok rfl hx76 rfl (by omega))))) ?_
       refine h_take 6 rfl rfl (by kernel_rfl) (by kernel_rfl) (by kernel_rfl) (fun L0 => v_bin rfl rfl rfl (b_sub (wrap_i64 (by omega) (by omega)))) ?_
       refine h_take 7 rfl rfl (by kernel_rfl) (by kernel_rfl) (by kernel_rfl) (fun L0 => v_move rfl rfl) ?_
       refine h_take 8 rfl rfl (by kernel_rfl) (by kernel_rfl) (by kernel_rfl) (fun L0 => v_move rfl rfl) ?_
       refine h_take 9 rfl rfl (by kernel_rfl) (by kernel_rfl) (by kernel_rfl) (fun L0 => v_bin rfl rfl rfl (b_add (wrap_i64 (by omega) (by omega)))) ?_
       refine h_take 10 rfl rfl (by kernel_rfl) (by kernel_rfl) (by kernel_rfl) (fun L0 => v_move rfl rfl) ?_
       refine h_take 11 rfl rfl (by kernel_rfl) (by kernel_rfl) (by kernel_rfl) (fun L0 => v_indexArr rfl rfl rfl Try.underlying83 ti3 (by omega) (by omega) (Addr.add_mk _ _ _)) ?_
       obtain ⟨x83, hx83⟩ : ∃ x, (pwL)[((p : Int)).toNat]? = some x := ⟨_, List.getElem?_eq_getElem (by have := (show pwL.length = 18 from rfl); omega)⟩
       have h83 : x83 = x76 := by rw [hx76] at hx83; exact (Option.some.inj hx83).symm
       refine h_take 12 rfl rfl (by kernel_rfl) (by kernel_rfl) (by kernel_rfl) (fun L0 => v_load1 rfl rfl Try.underlying3 rfl (rd_mem 0 rfl (sg_arr (sg_flat (s := 1) (o := 0) eI_ok rfl hx83 rfl (by omega))))) ?_
       refine h_take 13 rfl rfl (by kernel_rfl) (by kernel_rfl) (by kernel_rfl) (fun L0 => v_bin rfl rfl rfl (b_sub (wrap_i64 (by omega) (by omega)))) ?_
       refine h_take 14 rfl rfl (by kernel_rfl) (by kernel_rfl) (by kernel_rfl) (fun L0 => v_indexK eI_ok ead25 rfl rfl rfl Try.underlying82 (by omega) (by simp only [bl_len]; omega)) ?_
       obtain ⟨x86, hx86⟩ : ∃ x, (bl (8 * xs.length + 32) (dv q (bN xs ^^^ (2 ^ 32 - 1)) ^^^ (xk p <<< q)))[(((q : Int) + 32) - x83).toNat]? = some x := ⟨_, List.getElem?_eq_getElem (by first | omega | (simp only [bl_len]; omega))⟩
       have hb86 : x86 = bit (dv q (bN xs ^^^ (2 ^ 32 - 1)) ^^^ (xk p <<< q)) (q + 32 - pp) := by have h9 := hx86; rw [show (((q : Int) + 32) - x83).toNat = q + 32 - pp by omega, bl_get (by omega)] at h9; exact (Option.some.inj h9).symm
       have h01_86 : x86 = 0 ∨ x86 = 1 := by rw [hb86]; exact bit01 _ _
       refine h_one 15 rfl (by kernel_rfl) ?_
       refine o_load1 rfl rfl Try.underlying3 rfl (rd_sl0 eI_ok ead25 (rds_own eI_ok 1 rfl) hx86 rfl) ?_
       refine l_nil ?_
       refine h_next ?_
       refine h_take 16 rfl rfl (by kernel_rfl) (by kernel_rfl) (by kernel_rfl) (fun L0 => v_bin rfl rfl rfl (b_sub (wrap_i64 (by omega) (by omega)))) ?_
       refine h_take 17 rfl rfl (by kernel_rfl) (by kernel_rfl) (by kernel_rfl) (fun L0 => v_indexK eI_ok ead25 rfl rfl rfl Try.underlying82 (by omega) (by simp only [bl_len]; omega)) ?_
       obtain ⟨x89, hx89⟩ : ∃ x, (bl (8 * xs.length + 32) (dv q (bN xs ^^^ (2 ^ 32 - 1)) ^^^ (xk p <<< q)))[(((q : Int) + 32) - x76).toNat]? = some x := ⟨_, List.getElem?_eq_getElem (by first | omega | (simp only [bl_len]; omega))⟩
       refine h_one 18 rfl (by kernel_rfl) ?_
       refine l_f1 ?_
       refine o_storeRow0 (x1 := (1 : Int) - x86) eI_ok ead25 rfl rfl rfl ti3 hx89 rfl ?_
       refine l_nil ?_
       refine q_conv (fun w S => S.perm p1) ?_
       refine h_next ?_
       refine h_done (by kernel_rfl) ?_
       refine q_block ?_
       refine q_then ?_
       refine c_region ?_
       refine o_move rfl rfl ?_
       refine o_bin rfl rfl rfl (b_add (wrap_i64 (by omega) (by omega))) ?_
       refine o_assign rfl rfl ?_
       refine l_nil ?_
       refine q_conv (fun w S => S.perm p1) ?_
       refine q_conv (L' := row eI.T eI.sz a3 (bl (8 * xs.length + 32) (dv q (bN xs ^^^ (2 ^ 32 - 1)) ^^^ (xk (p + 1) <<< q))).length c3 (flat eI (bl (8 * xs.length + 32) (dv q (bN xs ^^^ (2 ^ 32 - 1)) ^^^ (xk (p + 1) <<< q)))) :: _) (fun w S => by rw [show (((q : Int) + 32) - x76).toNat = q + 32 - pp by omega, hb86, bl_flip (by omega), flip_at hpw] at S; exact S) ?_
       refine q_conv (fun w S => S.perm p1) ?_
       exact q_round (p + 1, a3, c3) (by (try dsimp only); omega) (by (try dsimp only); omega) ⟨(by show some (Value.slice _ _ _) = some (Value.slice _ _ _); rw [bl_len, bl_len]), (by first | rfl | exact vint (by omega)), (by first | rfl | exact vint (by omega)), (by first | rfl | exact vint (by omega)), trivial⟩ (fun w S => S)
      · -- h7F
       have h7b := h7
       try simp only [decide_eq_false_iff_not, Int.not_lt, Int.not_le] at h7
       obtain rfl : p = 18 := by omega
       refine c_exit ?_
       refine q_pass_exit ?_
       refine q_pass_exit ?_
       refine q_hit ?_
       refine q_block ?_
       refine q_then ?_
       refine c_region ?_
       refine o_move rfl rfl ?_
       refine o_bin rfl rfl rfl (b_add (wrap_i64 (by omega) (by omega))) ?_
       refine o_assign rfl rfl ?_
       refine l_nil ?_
       refine q_conv (fun w S => S.perm p1) ?_
       refine q_conv (L' := row eI.T eI.sz a3 (bl (8 * xs.length + 32) (dv (q + 1) (bN xs ^^^ (2 ^ 32 - 1)))).length c3 (flat eI (bl (8 * xs.length + 32) (dv (q + 1) (bN xs ^^^ (2 ^ 32 - 1))))) :: _) (fun w S => by rw [dv_on ht6] at S; exact S) ?_
       refine q_conv (fun w S => S.perm p1) ?_
       exact q_round (q + 1, a3, c3) (by (try dsimp only); omega) (by (try dsimp only); omega) ⟨(by show some (Value.slice _ _ _) = some (Value.slice _ _ _); rw [bl_len, bl_len]), (by first | rfl | exact vint (by omega)), (by first | rfl | exact vint (by omega)), trivial⟩ (fun w S => S)
     · -- h6F
      have h6b := h6
      try simp only [decide_eq_false_iff_not, Int.not_lt, Int.not_le] at h6
      have ht6 := bit_zero_ (hb65 ▸ h6)
      refine c_skip ?_
      refine q_block ?_
      refine q_then ?_
      refine c_region ?_
      refine o_move rfl rfl ?_
      refine o_bin rfl rfl rfl (b_add (wrap_i64 (by omega) (by omega))) ?_
      refine o_assign rfl rfl ?_
      refine l_nil ?_
      refine q_conv (fun w S => S.perm p1) ?_
      refine q_conv (L' := row eI.T eI.sz a3 (bl (8 * xs.length + 32) (dv (q + 1) (bN xs ^^^ (2 ^ 32 - 1)))).length c3 (flat eI (bl (8 * xs.length + 32) (dv (q + 1) (bN xs ^^^ (2 ^ 32 - 1))))) :: _) (fun w S => by rw [dv_off ht6] at S; exact S) ?_
      refine q_conv (fun w S => S.perm p1) ?_
      exact q_round (q + 1, a3, c3) (by (try dsimp only); omega) (by (try dsimp only); omega) ⟨(by show some (Value.slice _ _ _) = some (Value.slice _ _ _); rw [bl_len, bl_len]), (by first | rfl | exact vint (by omega)), (by first | rfl | exact vint (by omega)), trivial⟩ (fun w S => S)
    · -- h5F
     have h5b := h5
     try simp only [decide_eq_false_iff_not, Int.not_lt, Int.not_le] at h5
     rw [bl_len] at h5
     obtain rfl : q = 8 * xs.length := by omega
     have hbl := bl_len (8 * xs.length + 32) (dv (8 * xs.length) (bN xs ^^^ (2 ^ 32 - 1)))
     obtain ⟨RR, hR⟩ : ∃ RR, RR = crK (8 * xs.length) (bN xs ^^^ (2 ^ 32 - 1)) := ⟨_, rfl⟩
     refine c_exit ?_
     refine q_pass_exit ?_
     refine q_pass_exit ?_
     refine q_hit ?_
     refine q_then ?_
     refine c_seq ?_
     refine c_region ?_
     refine o_assign rfl rfl ?_
     refine l_nil ?_
     refine q_then ?_
     refine c_seq ?_
     refine c_seq ?_
     refine c_region ?_
     refine o_assign rfl rfl ?_
     refine l_nil ?_
     refine q_then ?_
     refine c_block ?_
     refine c_loop (α := Nat) (fun z => [(3, .slice a3 (bl (8 * xs.length + 32) (dv (8 * xs.length) (bN xs ^^^ (2 ^ 32 - 1)))).length c3), (11, .int .u32 (outN RR z : Int)), (12, .int .i64 (z : Int))]) (fun z => blk b8 (.cells (flat eI pwL).toArray 83 (0, 0)) :: row eI.T eI.sz a3 (bl (8 * xs.length + 32) (dv (8 * xs.length) (bN xs ^^^ (2 ^ 32 - 1)))).length c3 (flat eI (bl (8 * xs.length + 32) (dv (8 * xs.length) (bN xs ^^^ (2 ^ 32 - 1))))) :: F) (fun z => z ≤ 32) (fun z => 32 - z) (0) (by exact Nat.zero_le _) ⟨(by first | rfl | exact vint (by omega)), (by rfl), (by first | rfl | exact vint (by omega)), trivial⟩ (fun w S => S) ?_
     rintro w hw
     try dsimp only at *
     refine c_seq ?_
     refine c_seq ?_
     refine c_region ?_
     refine o_move rfl rfl ?_
     refine o_bin rfl rfl rfl b_lss ?_
     refine l_nil ?_
     refine q_then ?_
     refine c_cond rfl (fun h8 => ?_) (fun h8 => ?_)
     · -- h8T
      have h8b := h8
      try simp only [decide_eq_true_eq] at h8
      refine c_skip ?_
      refine q_then ?_
      refine c_seq ?_
      refine c_block ?_
      refine c_seq ?_
      refine c_region ?_
      refine o_move rfl rfl ?_
      refine o_move rfl rfl ?_
      refine o_len rfl rfl Try.underlying82 ?_
      refine o_bin rfl rfl rfl (b_sub (wrap_i64 (by omega) (by omega))) ?_
      refine o_move rfl rfl ?_
      refine o_bin rfl rfl rfl (b_add (wrap_i64 (by omega) (by omega))) ?_
      refine o_index eI_ok rfl rfl rfl Try.underlying82 (by simp only [bl_len]; omega) (by simp only [bl_len]; omega) (rds_own eI_ok 1 rfl) fun ad100 ead100 => ?_
      obtain ⟨x100, hx100⟩ : ∃ x, (bl (8 * xs.length + 32) (dv (8 * xs.length) (bN xs ^^^ (2 ^ 32 - 1))))[((((bl (8 * xs.length + 32) (dv (8 * xs.length) (bN xs ^^^ (2 ^ 32 - 1)))).length : Int) - 32) + (w : Int)).toNat]? = some x := ⟨_, List.getElem?_eq_getElem (by first | omega | (simp only [bl_len]; omega))⟩
      have hb100 : x100 = bit (dv (8 * xs.length) (bN xs ^^^ (2 ^ 32 - 1))) (8 * xs.length + w) := by have h9 := hx100; rw [bl_len, show (((8 * xs.length + 32 : Nat) : Int) - 32 + (w : Int)).toNat = 8 * xs.length + w by omega, bl_get (by omega)] at h9; exact (Option.some.inj h9).symm
      have hdb := dv_bit (n := 8 * xs.length) (w := w) (M := (bN xs ^^^ (2 ^ 32 - 1)))
      rw [← hR] at hdb
      have hol := out_lt RR (show w < 32 by omega)
      refine o_load1 rfl rfl Try.underlying3 rfl (rd_sl0 eI_ok ead100 (rds_own eI_ok 1 rfl) hx100 rfl) ?_
      refine o_bin rfl rfl rfl b_eql ?_
      refine l_nil ?_
      refine q_then ?_
      refine c_cond rfl (fun h9 => ?_) (fun h9 => ?_)
      · -- h9T
       have h9b := h9
       try simp only [decide_eq_true_eq] at h9
       have ho := out_on (R := RR) (w := w) (by rw [← hdb]; exact bit_zero_ (by rw [← hb100]; omega))
       refine c_region ?_
       refine o_move rfl rfl ?_
       refine o_move rfl rfl ?_
       refine o_int rfl rfl Try.underlying3 Try.underlying81 (wrap_u64 (by omega) (by omega)) ?_
       refine o_bin rfl rfl rfl (b_shl (by omega) (shl1u32 (by omega))) ?_
       refine o_bin rfl rfl rfl (b_add (wrap_u32 (by omega) (by omega))) ?_
       refine o_assign rfl rfl ?_
       refine l_nil ?_
       refine q_block ?_
       refine q_then ?_
       refine c_region ?_
       refine o_move rfl rfl ?_
       refine o_bin rfl rfl rfl (b_add (wrap_i64 (by omega) (by omega))) ?_
       refine o_assign rfl rfl ?_
       refine l_nil ?_
       exact q_round (w + 1) (by (try dsimp only); omega) (by (try dsimp only); omega) ⟨(by first | rfl | exact vint (by omega)), (vint ho.symm), (by first | rfl | exact vint (by omega)), trivial⟩ (fun w S => S)
      · -- h9F
       have h9b := h9
       try simp only [decide_eq_false_iff_not, Int.not_lt, Int.not_le] at h9
       have ho := out_off (R := RR) (w := w) (by rw [← hdb]; exact bit_one_ (by rw [← hb100]; rcases bit01 (dv (8 * xs.length) (bN xs ^^^ (2 ^ 32 - 1))) (8 * xs.length + w) with h8 | h8 <;> omega))
       refine c_skip ?_
       refine q_block ?_
       refine q_then ?_
       refine c_region ?_
       refine o_move rfl rfl ?_
       refine o_bin rfl rfl rfl (b_add (wrap_i64 (by omega) (by omega))) ?_
       refine o_assign rfl rfl ?_
       refine l_nil ?_
       exact q_round (w + 1) (by (try dsimp only); omega) (by (try dsimp only); omega) ⟨(by first | rfl | exact vint (by omega)), (vint ho.symm), (by first | rfl | exact vint (by omega)), trivial⟩ (fun w S => S)
     · -- h8F
      have h8b := h8
      try simp only [decide_eq_false_iff_not, Int.not_lt, Int.not_le] at h8
      refine c_exit ?_
      refine q_pass_exit ?_
      refine q_pass_exit ?_
      refine q_hit ?_
      refine q_then ?_
      refine c_seq ?_
      refine c_region ?_
      refine o_move rfl rfl ?_
      refine o_assign rfl rfl ?_
      refine l_nil ?_
      refine q_then ?_
      refine c_ret ?_
      refine q_conv (fun w S => S.tail) ?_
      refine q_conv (fun w S => S.tail) ?_
      exact f_ret (r_one rfl rfl) (⟨by rw [show w = 32 by omega, hR, sum_out]; rfl, rfl⟩) (fun w S => S)

end Go.Proofs.Ytoigakfglgdjdaa
