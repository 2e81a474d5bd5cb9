/- Printed by eng2.py out of 18/spec.py. -/
import Derived.Test.YtoigakfglgdjdaaReader
set_option linter.unusedVariables false
set_option linter.unusedSimpArgs false
set_option maxRecDepth 10000
namespace Go.Proofs.Ytoigakfglgdjdaa
open Go.RowKit Classical
theorem equal8 {W : World} {F : List Res} {xs ys : List UInt8} {a b : Option Addr} {c c2 : Nat} (hs : RdS W F e8 a xs) (hs2 : RdS W F e8 b ys) (hn : xs.length ≤ 9223372036854775807) : CS Try.prog 32 #[.slice a xs.length c, .slice b ys.length c2] W (F) (fun r L' => r = .bool (decide (xs = ys)) ∧ F = L') := by
 refine f_door (l0 := [(0, .slice a xs.length c), (1, .slice b ys.length c2)]) Try.func32 Try.ntmps32 rfl rfl rfl ?_
 refine c_seq ?_
 refine c_region ?_
 refine o_assign rfl rfl ?_
 refine l_nil ?_
 refine q_then ?_
 refine c_seq ?_
 refine c_seq ?_
 refine c_region ?_
 refine o_move rfl rfl ?_
 refine o_len rfl rfl Try.underlying28 ?_
 refine o_move rfl rfl ?_
 refine o_len rfl rfl Try.underlying28 ?_
 refine o_bin rfl rfl rfl b_neq ?_
 refine l_nil ?_
 refine q_then ?_
 refine c_cond rfl (fun h1 => ?_) (fun h1 => ?_)
 · -- h1T
  have h1b := h1
  try simp only [Bool.not_eq_true', decide_eq_false_iff_not, Int.not_lt, Int.not_le] at h1
  refine c_seq ?_
  refine c_region ?_
  refine o_assign rfl rfl ?_
  refine l_nil ?_
  refine q_then ?_
  refine c_ret ?_
  refine q_pass_ret ?_
  exact f_ret (r_one rfl rfl) (⟨vfalse (fun h9 => h1 (by rw [h9])), rfl⟩) (fun w S => S)
 · -- h1F
  have h1b := h1
  try simp only [Bool.not_eq_false', decide_eq_true_eq] at h1
  refine c_skip ?_
  refine q_then ?_
  refine c_seq ?_
  refine c_seq ?_
  refine c_region ?_
  refine o_move rfl rfl ?_
  refine o_len rfl rfl Try.underlying28 ?_
  refine o_move rfl rfl ?_
  refine l_nil ?_
  refine q_then ?_
  refine c_block ?_
  refine c_loop (α := Nat) (fun z => [(0, .slice a (xs).length c), (1, .slice b (ys).length c2), (12, .int .i64 ((xs).length : Int)), (13, .int .i64 (z : Int))]) (fun z => F) (fun z => z ≤ xs.length ∧ ∀ j, j < z → xs[j]? = ys[j]?) (fun z => xs.length - z) (0) (by exact ⟨Nat.zero_le _, fun j h => absurd h (by omega)⟩) ⟨(by first | rfl | exact vint (by omega)), (by first | rfl | exact vint (by omega)), (by first | rfl | exact vint (by omega)), (by first | rfl | exact vint (by omega)), trivial⟩ (fun w S => S) ?_
  rintro i ⟨hi, heq⟩
  try dsimp only at *
  refine c_seq ?_
  refine c_region ?_
  refine o_bin rfl rfl rfl b_lss ?_
  refine l_nil ?_
  refine q_then ?_
  refine c_seq ?_
  refine c_cond rfl (fun h2 => ?_) (fun h2 => ?_)
  · -- h2T
   have h2b := h2
   try simp only [decide_eq_true_eq] at h2
   refine c_skip ?_
   refine q_then ?_
   refine c_seq ?_
   refine c_block ?_
   refine c_seq ?_
   refine c_region ?_
   refine o_move rfl rfl ?_
   refine o_assign rfl rfl ?_
   refine l_nil ?_
   refine q_then ?_
   refine c_seq ?_
   refine c_fact (p := ∃ ad, a = some ad) (rds_some (e := e8) (xs := xs) hs (by intro h0; have h00 := congrArg List.length h0; simp only [List.length_nil] at h00; omega)) ?_
   rintro ⟨adx, eadx⟩
   refine c_fact (p := ∃ ad, b = some ad) (rds_some (e := e8) (xs := ys) hs2 (by intro h0; have h00 := congrArg List.length h0; simp only [List.length_nil] at h00; omega)) ?_
   rintro ⟨ady, eady⟩
   refine c_quiet (by kernel_rfl) (by kernel_rfl) ?_
   refine Qt.o_val rfl (v_move rfl rfl) ?_
   refine Qt.o_val rfl (v_move rfl rfl) ?_
   refine Qt.o_val rfl (v_indexK e8_ok eadx rfl rfl rfl Try.underlying28 (by omega) (by omega)) ?_
   obtain ⟨x18, hx18⟩ : ∃ x, (xs)[((i : Int)).toNat]? = some x := ⟨_, List.getElem?_eq_getElem (by omega)⟩
   refine Qt.o_val rfl (v_load1 rfl rfl Try.underlying5 rfl (rd_sl0 e8_ok eadx hs hx18 rfl)) ?_
   refine Qt.o_val rfl (v_move rfl rfl) ?_
   refine Qt.o_val rfl (v_move rfl rfl) ?_
   refine Qt.o_val rfl (v_indexK e8_ok eady rfl rfl rfl Try.underlying28 (by omega) (by omega)) ?_
   obtain ⟨x22, hx22⟩ : ∃ x, (ys)[((i : Int)).toNat]? = some x := ⟨_, List.getElem?_eq_getElem (by omega)⟩
   have hxA : xs[i]? = some x18 := hx18
   have hxB : ys[i]? = some x22 := hx22
   refine Qt.o_val rfl (v_load1 rfl rfl Try.underlying5 rfl (rd_sl0 e8_ok eady hs2 hx22 rfl)) ?_
   refine Qt.o_val rfl (v_bin rfl rfl rfl b_neq) ?_
   refine Qt.l_nil ?_
   refine q_then ?_
   refine c_cond rfl (fun h3 => ?_) (fun h3 => ?_)
   · -- h3T
    have h3b := h3
    try simp only [decide_eq_true_eq, decide_eq_false_iff_not, Bool.not_eq_eq_eq_not, Bool.not_true, Bool.not_false, Bool.not_eq_true', Bool.not_eq_false', Int.not_lt, Int.not_le, Bool.or_eq_true, Bool.and_eq_true] at h3
    refine c_seq ?_
    refine c_region ?_
    refine o_assign rfl rfl ?_
    refine l_nil ?_
    refine q_then ?_
    refine c_ret ?_
    refine q_block_ret ?_
    refine q_pass_ret ?_
    refine q_pass_ret ?_
    refine q_block_ret ?_
    refine q_pass_ret ?_
    exact f_ret (r_one rfl rfl) (⟨vfalse (fun h9 => by rw [h9] at hxA; rw [hxA] at hxB; exact h3 (by rw [Option.some.inj hxB])), rfl⟩) (fun w S => S)
   · -- h3F
    have h3b := h3
    try simp only [decide_eq_true_eq, decide_eq_false_iff_not, Bool.not_eq_eq_eq_not, Bool.not_true, Bool.not_false, Bool.not_eq_true', Bool.not_eq_false', Int.not_lt, Int.not_le, Bool.or_eq_true, Bool.and_eq_true] at h3
    refine c_skip ?_
    refine q_block ?_
    refine q_then ?_
    refine c_region ?_
    refine o_bin rfl rfl rfl (b_add (wrap_i64 (by omega) (by omega))) ?_
    refine o_move rfl rfl ?_
    refine l_nil ?_
    exact q_round (i + 1) (by exact ⟨by omega, eqTo_on heq hxA hxB (UInt8.toNat_inj.1 (by omega))⟩) (by (try dsimp only); omega) ⟨(by first | rfl | exact vint (by omega)), (by first | rfl | exact vint (by omega)), (by first | rfl | exact vint (by omega)), (by first | rfl | exact vint (by omega)), trivial⟩ (fun w S => S)
  · -- h2F
   have h2b := h2
   try simp only [decide_eq_false_iff_not, Int.not_lt, Int.not_le] at h2
   refine c_exit ?_
   refine q_pass_exit ?_
   refine q_pass_exit ?_
   refine q_hit ?_
   refine q_then ?_
   refine c_seq ?_
   refine c_region ?_
   refine o_assign rfl rfl ?_
   refine l_nil ?_
   refine q_then ?_
   refine c_ret ?_
   exact f_ret (r_one rfl rfl) (⟨vtrue (eqTo_all heq (by omega) (by omega)), rfl⟩) (fun w S => S)

end Go.Proofs.Ytoigakfglgdjdaa
