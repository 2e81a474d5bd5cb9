/- Printed by eng2.py out of 18/spec.py. -/
import Derived.Test.YtoigakfglgdjdaaMod
set_option linter.unusedVariables false
set_option linter.unusedSimpArgs false
set_option maxRecDepth 10000
namespace Go.Proofs.Ytoigakfglgdjdaa
open Go.RowKit Classical
theorem vtrue {p : Prop} {i : Decidable p} (h : p) : Value.bool true = Value.bool (@decide p i) := by rw [decide_eq_true h]
theorem vfalse {p : Prop} {i : Decidable p} (h : ¬ p) : Value.bool false = Value.bool (@decide p i) := by rw [decide_eq_false h]
theorem bdec {p q : Prop} {i : Decidable p} {j : Decidable q} (h : q ↔ p) : Value.bool (@decide p i) = Value.bool (@decide q j) := by
  by_cases hp : p
  · rw [decide_eq_true hp, decide_eq_true (h.2 hp)]
  · rw [decide_eq_false hp, decide_eq_false (fun hq => hp (h.1 hq))]
theorem within_ {W : World} {F : List Res} {n k : Int} : CS Try.prog 25 #[.int .i64 n, .int .i64 k] W (F) (fun r L' => r = .bool (decide (0 ≤ n ∧ n ≤ k)) ∧ F = L') := by
 refine f_door (l0 := [(0, .int .i64 n), (1, .int .i64 k)]) Try.func25 Try.ntmps25 rfl rfl rfl ?_
 refine c_seq ?_
 refine c_region ?_
 refine o_assign rfl rfl ?_
 refine l_nil ?_
 refine q_then ?_
 refine c_seq ?_
 refine c_region ?_
 refine o_move rfl rfl ?_
 refine o_bin rfl rfl rfl b_geq ?_
 refine o_move rfl rfl ?_
 refine l_split (t := 7) rfl (fun h1 => ?_) (fun h1 => ?_)
 · -- h1T
  have h1b := h1
  try simp only [decide_eq_true_eq] at h1
  refine o_yes rfl rfl rfl ?_
  refine o_move rfl rfl ?_
  refine o_yes rfl rfl rfl ?_
  refine o_move rfl rfl ?_
  refine o_yes rfl rfl rfl ?_
  refine o_bin rfl rfl rfl b_leq ?_
  refine o_pick_true rfl rfl rfl ?_
  refine o_assign rfl rfl ?_
  refine l_nil ?_
  refine q_then ?_
  refine c_ret ?_
  exact f_ret (r_one rfl rfl) (⟨by first | exact vtrue (by  grind) | exact vfalse (by  grind) | exact bdec (by  grind), rfl⟩) (fun w S => S)
 · -- h1F
  have h1b := h1
  try simp only [decide_eq_false_iff_not, Int.not_lt, Int.not_le] at h1
  refine o_no rfl rfl rfl rfl ?_
  refine o_no rfl rfl rfl rfl ?_
  refine o_no rfl rfl rfl rfl ?_
  refine o_pick_false rfl rfl rfl ?_
  refine o_assign rfl rfl ?_
  refine l_nil ?_
  refine q_then ?_
  refine c_ret ?_
  exact f_ret (r_one rfl rfl) (⟨by first | exact vtrue (by  grind) | exact vfalse (by  grind) | exact bdec (by  grind), rfl⟩) (fun w S => S)

theorem valued_ {W : World} {F : List Res} {n : Int} : CS Try.prog 26 #[.int .i64 n] W (F) (fun r L' => r = .bool (decide (Valued n)) ∧ F = L') := by
 refine f_door (l0 := [(0, .int .i64 n)]) Try.func26 Try.ntmps26 rfl rfl rfl ?_
 refine c_seq ?_
 refine c_region ?_
 refine o_assign rfl rfl ?_
 refine l_nil ?_
 refine q_then ?_
 refine c_seq ?_
 refine c_seq ?_
 refine c_region ?_
 refine o_move rfl rfl ?_
 refine l_nil ?_
 refine q_then ?_
 refine c_block ?_
 refine c_seq ?_
 refine c_seq ?_
 refine c_region ?_
 refine o_bin rfl rfl rfl b_eql ?_
 refine o_assign rfl rfl ?_
 refine l_nil ?_
 refine q_then ?_
 refine c_cond rfl (fun h1 => ?_) (fun h1 => ?_)
 · -- h1T
  have h1b := h1
  try simp only [decide_eq_true_eq] at h1
  refine c_skip ?_
  refine q_then ?_
  refine c_cond rfl (fun h2 => ?_) (fun h2 => ?_)
  · -- h2T
   have h2b := h2
   try simp only [decide_eq_true_eq] at h2
   refine c_seq ?_
   refine c_region ?_
   refine o_assign rfl rfl ?_
   refine l_nil ?_
   refine q_then ?_
   refine c_ret ?_
   refine q_block_ret ?_
   refine q_pass_ret ?_
   exact f_ret (r_one rfl rfl) (⟨by first | exact vtrue (by unfold Valued; grind) | exact vfalse (by unfold Valued; grind) | exact bdec (by unfold Valued; grind), rfl⟩) (fun w S => S)
  · -- h2F
   have h2b := h2
   try simp only [decide_eq_false_iff_not, Int.not_lt, Int.not_le] at h2
   refine c_skip ?_
   refine q_block ?_
   refine q_then ?_
   refine c_seq ?_
   refine c_region ?_
   refine o_assign rfl rfl ?_
   refine l_nil ?_
   refine q_then ?_
   refine c_ret ?_
   exact f_ret (r_one rfl rfl) (⟨by first | exact vtrue (by unfold Valued; grind) | exact vfalse (by unfold Valued; grind) | exact bdec (by unfold Valued; grind), rfl⟩) (fun w S => S)
 · -- h1F
  have h1b := h1
  try simp only [decide_eq_false_iff_not, Int.not_lt, Int.not_le] at h1
  refine c_seq ?_
  refine c_region ?_
  refine o_bin rfl rfl rfl b_eql ?_
  refine o_assign rfl rfl ?_
  refine l_nil ?_
  refine q_then ?_
  refine c_cond rfl (fun h3 => ?_) (fun h3 => ?_)
  · -- h3T
   have h3b := h3
   try simp only [decide_eq_true_eq] at h3
   refine c_skip ?_
   refine q_then ?_
   refine c_cond rfl (fun h4 => ?_) (fun h4 => ?_)
   · -- h4T
    have h4b := h4
    try simp only [decide_eq_true_eq] at h4
    refine c_seq ?_
    refine c_region ?_
    refine o_assign rfl rfl ?_
    refine l_nil ?_
    refine q_then ?_
    refine c_ret ?_
    refine q_block_ret ?_
    refine q_pass_ret ?_
    exact f_ret (r_one rfl rfl) (⟨by first | exact vtrue (by unfold Valued; grind) | exact vfalse (by unfold Valued; grind) | exact bdec (by unfold Valued; grind), rfl⟩) (fun w S => S)
   · -- h4F
    have h4b := h4
    try simp only [decide_eq_false_iff_not, Int.not_lt, Int.not_le] at h4
    refine c_skip ?_
    refine q_block ?_
    refine q_then ?_
    refine c_seq ?_
    refine c_region ?_
    refine o_assign rfl rfl ?_
    refine l_nil ?_
    refine q_then ?_
    refine c_ret ?_
    exact f_ret (r_one rfl rfl) (⟨by first | exact vtrue (by unfold Valued; grind) | exact vfalse (by unfold Valued; grind) | exact bdec (by unfold Valued; grind), rfl⟩) (fun w S => S)
  · -- h3F
   have h3b := h3
   try simp only [decide_eq_false_iff_not, Int.not_lt, Int.not_le] at h3
   refine c_seq ?_
   refine c_region ?_
   refine o_bin rfl rfl rfl b_eql ?_
   refine o_assign rfl rfl ?_
   refine l_nil ?_
   refine q_then ?_
   refine c_cond rfl (fun h5 => ?_) (fun h5 => ?_)
   · -- h5T
    have h5b := h5
    try simp only [decide_eq_true_eq] at h5
    refine c_skip ?_
    refine q_then ?_
    refine c_cond rfl (fun h6 => ?_) (fun h6 => ?_)
    · -- h6T
     have h6b := h6
     try simp only [decide_eq_true_eq] at h6
     refine c_seq ?_
     refine c_region ?_
     refine o_assign rfl rfl ?_
     refine l_nil ?_
     refine q_then ?_
     refine c_ret ?_
     refine q_block_ret ?_
     refine q_pass_ret ?_
     exact f_ret (r_one rfl rfl) (⟨by first | exact vtrue (by unfold Valued; grind) | exact vfalse (by unfold Valued; grind) | exact bdec (by unfold Valued; grind), rfl⟩) (fun w S => S)
    · -- h6F
     have h6b := h6
     try simp only [decide_eq_false_iff_not, Int.not_lt, Int.not_le] at h6
     refine c_skip ?_
     refine q_block ?_
     refine q_then ?_
     refine c_seq ?_
     refine c_region ?_
     refine o_assign rfl rfl ?_
     refine l_nil ?_
     refine q_then ?_
     refine c_ret ?_
     exact f_ret (r_one rfl rfl) (⟨by first | exact vtrue (by unfold Valued; grind) | exact vfalse (by unfold Valued; grind) | exact bdec (by unfold Valued; grind), rfl⟩) (fun w S => S)
   · -- h5F
    have h5b := h5
    try simp only [decide_eq_false_iff_not, Int.not_lt, Int.not_le] at h5
    refine c_region ?_
    refine o_bin rfl rfl rfl b_eql ?_
    refine o_assign rfl rfl ?_
    refine l_nil ?_
    refine q_then ?_
    refine c_cond rfl (fun h7 => ?_) (fun h7 => ?_)
    · -- h7T
     have h7b := h7
     try simp only [decide_eq_true_eq] at h7
     refine c_seq ?_
     refine c_region ?_
     refine o_assign rfl rfl ?_
     refine l_nil ?_
     refine q_then ?_
     refine c_ret ?_
     refine q_block_ret ?_
     refine q_pass_ret ?_
     exact f_ret (r_one rfl rfl) (⟨by first | exact vtrue (by unfold Valued; grind) | exact vfalse (by unfold Valued; grind) | exact bdec (by unfold Valued; grind), rfl⟩) (fun w S => S)
    · -- h7F
     have h7b := h7
     try simp only [decide_eq_false_iff_not, Int.not_lt, Int.not_le] at h7
     refine c_skip ?_
     refine q_block ?_
     refine q_then ?_
     refine c_seq ?_
     refine c_region ?_
     refine o_assign rfl rfl ?_
     refine l_nil ?_
     refine q_then ?_
     refine c_ret ?_
     exact f_ret (r_one rfl rfl) (⟨by first | exact vtrue (by unfold Valued; grind) | exact vfalse (by unfold Valued; grind) | exact bdec (by unfold Valued; grind), rfl⟩) (fun w S => S)

end Go.Proofs.Ytoigakfglgdjdaa
