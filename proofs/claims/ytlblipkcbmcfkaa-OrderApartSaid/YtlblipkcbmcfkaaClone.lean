/- Printed by eng2.py out of 09a/spec.py. -/
import Derived.Test.YtlblipkcbmcfkaaMod
set_option linter.unusedVariables false
set_option linter.unusedSimpArgs false
set_option maxRecDepth 10000
namespace Go.Proofs.Ytlblipkcbmcfkaa
open Go.RowKit Classical
theorem cloneS {W : World} {F : List Res} {xs : List ByteArray} {a : Option Addr} {c : Nat} (hs : RdS W F e_S a xs) (hb : xs.length * e_S.bytes ≤ 140737488355328) (hn : xs.length ≤ 140737488355328) : CS Try.prog 57 #[.slice a xs.length c] W (F) (fun r L' => ∃ (a' : Option Addr) (c' : Nat), r = .slice a' xs.length c' ∧ L' = row e_S.T e_S.sz a' (xs).length c' (flat e_S xs) :: F) := by
 refine f_door (l0 := [(0, .slice a xs.length c)]) Try.func57 Try.ntmps57 rfl rfl rfl ?_
 refine c_seq ?_
 refine c_fact (rds_nilq hs) ?_
 intro hz
 refine c_region ?_
 refine o_assign rfl rfl ?_
 refine l_nil ?_
 refine q_then ?_
 refine c_seq ?_
 refine c_seq ?_
 refine c_region ?_
 refine o_move rfl rfl ?_
 refine o_bin rfl rfl rfl (b_sleq Try.underlying27 _ _ _) ?_
 refine l_nil ?_
 refine q_then ?_
 refine c_cond rfl (fun h1 => ?_) (fun h1 => ?_)
 · -- h1T
  have h1b := h1
  try simp only [decide_eq_true_eq, decide_eq_false_iff_not, Bool.not_eq_eq_eq_not, Bool.not_true, Bool.not_false, Bool.not_eq_true', Bool.not_eq_false', Int.not_lt, Int.not_le, Bool.or_eq_true, Bool.and_eq_true] at h1
  have hnil : xs = [] := hz (by simpa using h1)
  refine c_seq ?_
  refine c_region ?_
  refine o_assign rfl rfl ?_
  refine l_nil ?_
  refine q_then ?_
  refine c_ret ?_
  refine q_pass_ret ?_
  exact f_ret (r_one rfl rfl) (⟨none, 0, by rw [hnil]; rfl, rfl⟩) (by rw [hnil]; exact fun w S => S.own_nil)
 · -- h1F
  have h1b := h1
  try simp only [decide_eq_true_eq, decide_eq_false_iff_not, Bool.not_eq_eq_eq_not, Bool.not_true, Bool.not_false, Bool.not_eq_true', Bool.not_eq_false', Int.not_lt, Int.not_le, Bool.or_eq_true, Bool.and_eq_true] at h1
  refine c_skip ?_
  refine q_then ?_
  refine c_seq ?_
  refine c_region ?_
  refine o_lit e_S_ok rfl Try.underlying27 rfl rfl rfl (lit_ok rfl) ([] : List ByteArray) rfl rfl fun a5 => ?_
  refine o_move rfl rfl ?_
  refine o_append e_S_ok rfl rfl rfl Try.underlying27 (rds_c hs) (by simpa using hb) (by simpa using hn) fun a7 c7 => ?_
  refine o_assign rfl rfl ?_
  refine l_nil ?_
  refine q_then ?_
  refine c_ret ?_
  exact f_ret (r_one rfl rfl) (⟨_, _, rfl, rfl⟩) (fun w S => by simpa using S)

theorem cloneO {W : World} {F : List Res} {xs : List Op} {a : Option Addr} {c : Nat} (hs : RdS W F e_Op a xs) (hb : xs.length * e_Op.bytes ≤ 140737488355328) (hn : xs.length ≤ 140737488355328) : CS Try.prog 58 #[.slice a xs.length c] W (F) (fun r L' => ∃ (a' : Option Addr) (c' : Nat), r = .slice a' xs.length c' ∧ L' = row e_Op.T e_Op.sz a' (xs).length c' (flat e_Op xs) :: F) := by
 refine f_door (l0 := [(0, .slice a xs.length c)]) Try.func58 Try.ntmps58 rfl rfl rfl ?_
 refine c_seq ?_
 refine c_fact (rds_nilq hs) ?_
 intro hz
 refine c_region ?_
 refine o_assign rfl rfl ?_
 refine l_nil ?_
 refine q_then ?_
 refine c_seq ?_
 refine c_seq ?_
 refine c_region ?_
 refine o_move rfl rfl ?_
 refine o_bin rfl rfl rfl (b_sleq Try.underlying28 _ _ _) ?_
 refine l_nil ?_
 refine q_then ?_
 refine c_cond rfl (fun h1 => ?_) (fun h1 => ?_)
 · -- h1T
  have h1b := h1
  try simp only [decide_eq_true_eq, decide_eq_false_iff_not, Bool.not_eq_eq_eq_not, Bool.not_true, Bool.not_false, Bool.not_eq_true', Bool.not_eq_false', Int.not_lt, Int.not_le, Bool.or_eq_true, Bool.and_eq_true] at h1
  have hnil : xs = [] := hz (by simpa using h1)
  refine c_seq ?_
  refine c_region ?_
  refine o_assign rfl rfl ?_
  refine l_nil ?_
  refine q_then ?_
  refine c_ret ?_
  refine q_pass_ret ?_
  exact f_ret (r_one rfl rfl) (⟨none, 0, by rw [hnil]; rfl, rfl⟩) (by rw [hnil]; exact fun w S => S.own_nil)
 · -- h1F
  have h1b := h1
  try simp only [decide_eq_true_eq, decide_eq_false_iff_not, Bool.not_eq_eq_eq_not, Bool.not_true, Bool.not_false, Bool.not_eq_true', Bool.not_eq_false', Int.not_lt, Int.not_le, Bool.or_eq_true, Bool.and_eq_true] at h1
  refine c_skip ?_
  refine q_then ?_
  refine c_seq ?_
  refine c_region ?_
  refine o_lit e_Op_ok rfl Try.underlying28 rfl rfl rfl (lit_ok rfl) ([] : List Op) rfl rfl fun a5 => ?_
  refine o_move rfl rfl ?_
  refine o_append e_Op_ok rfl rfl rfl Try.underlying28 (rds_c hs) (by simpa using hb) (by simpa using hn) fun a7 c7 => ?_
  refine o_assign rfl rfl ?_
  refine l_nil ?_
  refine q_then ?_
  refine c_ret ?_
  exact f_ret (r_one rfl rfl) (⟨_, _, rfl, rfl⟩) (fun w S => by simpa using S)

theorem clone8 {W : World} {F : List Res} {xs : List UInt8} {a : Option Addr} {c : Nat} (hs : RdS W F e8 a xs) (hb : xs.length * e8.bytes ≤ 140737488355328) (hn : xs.length ≤ 140737488355328) : CS Try.prog 59 #[.slice a xs.length c] W (F) (fun r L' => ∃ (a' : Option Addr) (c' : Nat), r = .slice a' xs.length c' ∧ L' = row e8.T e8.sz a' (xs).length c' (flat e8 xs) :: F) := by
 refine f_door (l0 := [(0, .slice a xs.length c)]) Try.func59 Try.ntmps59 rfl rfl rfl ?_
 refine c_seq ?_
 refine c_fact (rds_nilq hs) ?_
 intro hz
 refine c_region ?_
 refine o_assign rfl rfl ?_
 refine l_nil ?_
 refine q_then ?_
 refine c_seq ?_
 refine c_seq ?_
 refine c_region ?_
 refine o_move rfl rfl ?_
 refine o_bin rfl rfl rfl (b_sleq Try.underlying45 _ _ _) ?_
 refine l_nil ?_
 refine q_then ?_
 refine c_cond rfl (fun h1 => ?_) (fun h1 => ?_)
 · -- h1T
  have h1b := h1
  try simp only [decide_eq_true_eq, decide_eq_false_iff_not, Bool.not_eq_eq_eq_not, Bool.not_true, Bool.not_false, Bool.not_eq_true', Bool.not_eq_false', Int.not_lt, Int.not_le, Bool.or_eq_true, Bool.and_eq_true] at h1
  have hnil : xs = [] := hz (by simpa using h1)
  refine c_seq ?_
  refine c_region ?_
  refine o_assign rfl rfl ?_
  refine l_nil ?_
  refine q_then ?_
  refine c_ret ?_
  refine q_pass_ret ?_
  exact f_ret (r_one rfl rfl) (⟨none, 0, by rw [hnil]; rfl, rfl⟩) (by rw [hnil]; exact fun w S => S.own_nil)
 · -- h1F
  have h1b := h1
  try simp only [decide_eq_true_eq, decide_eq_false_iff_not, Bool.not_eq_eq_eq_not, Bool.not_true, Bool.not_false, Bool.not_eq_true', Bool.not_eq_false', Int.not_lt, Int.not_le, Bool.or_eq_true, Bool.and_eq_true] at h1
  refine c_skip ?_
  refine q_then ?_
  refine c_seq ?_
  refine c_region ?_
  refine o_lit e8_ok rfl Try.underlying45 rfl rfl rfl (lit_ok rfl) ([] : List UInt8) rfl rfl fun a5 => ?_
  refine o_move rfl rfl ?_
  refine o_append e8_ok rfl rfl rfl Try.underlying45 (rds_c hs) (by simpa using hb) (by simpa using hn) fun a7 c7 => ?_
  refine o_assign rfl rfl ?_
  refine l_nil ?_
  refine q_then ?_
  refine c_ret ?_
  exact f_ret (r_one rfl rfl) (⟨_, _, rfl, rfl⟩) (fun w S => by simpa using S)

end Go.Proofs.Ytlblipkcbmcfkaa
