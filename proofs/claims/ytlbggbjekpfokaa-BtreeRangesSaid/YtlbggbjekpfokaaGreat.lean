/- Printed by eng2.py out of 02/spec.py. -/
import Derived.Test.YtlbggbjekpfokaaTy2
set_option linter.unusedVariables false
set_option linter.unusedSimpArgs false
set_option maxRecDepth 10000
namespace Go.Proofs.Ytlbggbjekpfokaa
open Go.RowKit Classical
theorem great_ {W : World} {F : List Res} {os : List Op} {a : Option Addr} {c : Nat} (hs : SlR W e_Op a os) : CS Try.prog 7 #[.slice a os.length c] W (F) (fun r L' => ∃ b : Bool, (b = false → os.length ≤ 2000) ∧ r = .bool b ∧ F = L') := by
 refine f_door (l0 := [(0, .slice a os.length c)]) Try.func7 Try.ntmps7 rfl rfl rfl ?_
 refine c_seq ?_
 refine c_region ?_
 refine o_assign rfl rfl ?_
 refine l_nil ?_
 refine q_then ?_
 refine c_seq ?_
 refine c_region ?_
 refine o_assign rfl rfl ?_
 refine l_nil ?_
 refine q_then ?_
 refine c_seq ?_
 refine c_seq ?_
 refine c_region ?_
 refine o_assign rfl rfl ?_
 refine l_nil ?_
 refine q_then ?_
 refine c_block ?_
 refine c_loop (α := Nat × Int) (fun z => [(0, .slice a (os).length c), (3, .int .i64 z.2), (4, .int .i64 (z.1 : Int))]) (fun z => F) (fun z => z.1 ≤ os.length ∧ 10 * (z.1 : Int) ≤ z.2 ∧ z.2 ≤ 110010) (fun z => os.length - z.1) (0, 0) (by exact ⟨Nat.zero_le _, by omega, by omega⟩) ⟨(by first | rfl | exact vint (by omega)), (by first | rfl | exact vint (by omega)), (by first | rfl | exact vint (by omega)), trivial⟩ (fun w S => S) ?_
 rintro ⟨i, n⟩ ⟨hi, hn1, hn2⟩
 try dsimp only at *
 refine c_seq ?_
 refine c_seq ?_
 refine c_region ?_
 refine o_move rfl rfl ?_
 refine o_move rfl rfl ?_
 refine o_len rfl rfl Try.underlying22 ?_
 refine o_bin rfl rfl rfl b_lss ?_
 refine l_nil ?_
 refine q_then ?_
 refine c_cond rfl (fun h1 => ?_) (fun h1 => ?_)
 · -- h1T
  have h1b := h1
  try simp only [decide_eq_true_eq] at h1
  refine c_skip ?_
  refine q_then ?_
  refine c_seq ?_
  refine c_block ?_
  refine c_seq ?_
  refine c_seq ?_
  refine c_region ?_
  refine o_move rfl rfl ?_
  refine o_move rfl rfl ?_
  refine o_index e_Op_ok rfl rfl rfl Try.underlying22 (by omega) (by omega) (rds_old hs) fun ad13 ead13 => ?_
  obtain ⟨x13, hx13⟩ : ∃ x, (os)[((i : Int)).toNat]? = some x := ⟨_, List.getElem?_eq_getElem (by omega)⟩
  refine o_fieldAddr rfl rfl Try.underlying32 rfl ti9 (Addr.add_add' _ _ _) ?_
  refine o_load1 rfl rfl Try.underlying9 rfl (rd_sl e_Op_ok ead13 (rds_old hs) hx13 rfl) ?_
  refine o_lenStr rfl rfl Try.underlying9 ?_
  refine o_bin rfl rfl rfl b_gtr ?_
  refine o_move rfl rfl ?_
  refine l_split (t := 18) rfl (fun h2 => ?_) (fun h2 => ?_)
  · -- h2T
   have h2b := h2
   try simp only [decide_eq_true_eq] at h2
   refine o_no rfl rfl rfl rfl ?_
   refine o_no rfl rfl rfl rfl ?_
   refine o_pick_true rfl rfl rfl ?_
   refine l_nil ?_
   refine q_then ?_
   refine c_true rfl ?_
   refine c_seq ?_
   refine c_region ?_
   refine o_assign rfl rfl ?_
   refine l_nil ?_
   refine q_then ?_
   refine c_ret ?_
   refine q_pass_ret ?_
   refine q_block_ret ?_
   refine q_pass_ret ?_
   refine q_pass_ret ?_
   refine q_block_ret ?_
   refine q_pass_ret ?_
   exact f_ret (r_one rfl rfl) (⟨true, fun h9 => (by cases h9), rfl, rfl⟩) (fun w S => S)
  · -- h2F
   have h2b := h2
   try simp only [decide_eq_false_iff_not, Int.not_lt, Int.not_le] at h2
   refine o_yes rfl rfl rfl ?_
   refine o_move rfl rfl ?_
   refine o_yes rfl rfl rfl ?_
   refine o_bin rfl rfl rfl b_gtr ?_
   refine o_pick_false rfl rfl rfl ?_
   refine l_nil ?_
   refine q_then ?_
   refine c_cond rfl (fun h3 => ?_) (fun h3 => ?_)
   · -- h3T
    have h3b := h3
    try simp only [decide_eq_true_eq] at h3
    refine c_seq ?_
    refine c_region ?_
    refine o_assign rfl rfl ?_
    refine l_nil ?_
    refine q_then ?_
    refine c_ret ?_
    refine q_pass_ret ?_
    refine q_block_ret ?_
    refine q_pass_ret ?_
    refine q_pass_ret ?_
    refine q_block_ret ?_
    refine q_pass_ret ?_
    exact f_ret (r_one rfl rfl) (⟨true, fun h9 => (by cases h9), rfl, rfl⟩) (fun w S => S)
   · -- h3F
    have h3b := h3
    try simp only [decide_eq_false_iff_not, Int.not_lt, Int.not_le] at h3
    refine c_skip ?_
    refine q_then ?_
    refine c_region ?_
    refine o_move rfl rfl ?_
    refine o_move rfl rfl ?_
    refine o_move rfl rfl ?_
    refine o_indexK e_Op_ok ead13 rfl rfl rfl Try.underlying22 (by omega) (by omega) ?_
    obtain ⟨x25, hx25⟩ : ∃ x, (os)[((i : Int)).toNat]? = some x := ⟨_, List.getElem?_eq_getElem (by omega)⟩
    refine o_fieldAddr rfl rfl Try.underlying32 rfl ti9 (Addr.add_add' _ _ _) ?_
    refine o_load1 rfl rfl Try.underlying9 rfl (rd_sl e_Op_ok ead13 (rds_old hs) hx25 rfl) ?_
    have e25 : x25 = x13 := by rw [hx25] at hx13; exact Option.some.inj hx13
    have l25 : x25.f_Key.size = x13.f_Key.size := by rw [e25]
    refine o_lenStr rfl rfl Try.underlying9 ?_
    refine o_bin rfl rfl rfl (b_add (wrap_i64 (by omega) (by omega))) ?_
    refine o_bin rfl rfl rfl (b_add (wrap_i64 (by omega) (by omega))) ?_
    refine o_assign rfl rfl ?_
    refine l_nil ?_
    refine q_block ?_
    refine q_then ?_
    refine c_region ?_
    refine o_move rfl rfl ?_
    refine o_bin rfl rfl rfl (b_add (wrap_i64 (by omega) (by omega))) ?_
    refine o_assign rfl rfl ?_
    refine l_nil ?_
    exact q_round (i + 1, n + (((x25.f_Key).size : Int) + 10)) (by exact ⟨by omega, by omega, by omega⟩) (by (try dsimp only); omega) ⟨(by first | rfl | exact vint (by omega)), (by first | rfl | exact vint (by omega)), (by first | rfl | exact vint (by omega)), trivial⟩ (fun w S => S)
 · -- h1F
  have h1b := h1
  try simp only [decide_eq_false_iff_not, Int.not_lt, Int.not_le] at h1
  refine c_exit ?_
  refine q_pass_exit ?_
  refine q_pass_exit ?_
  refine q_hit ?_
  refine q_then ?_
  refine c_seq ?_
  refine c_region ?_
  refine o_move rfl rfl ?_
  refine o_bin rfl rfl rfl b_gtr ?_
  refine o_assign rfl rfl ?_
  refine l_nil ?_
  refine q_then ?_
  refine c_ret ?_
  exact f_ret (r_one rfl rfl) (⟨_, fun h9 => (by have h8 := of_decide_eq_false h9; omega), rfl, rfl⟩) (fun w S => S)

end Go.Proofs.Ytlbggbjekpfokaa
