/- Printed by eng2.py out of 05/spec.py. -/
import Derived.Test.YtllclglbfdncnaaNames
import Derived.Test.YtllclglbfdncnaaRCopy
import Derived.Test.YtllclglbfdncnaaRight
import Derived.Test.YtllclglbfdncnaaArgs
set_option linter.unusedVariables false
set_option linter.unusedSimpArgs false
set_option maxRecDepth 10000
namespace Go.Proofs.Ytllclglbfdncnaa
open Go.RowKit Classical
set_option maxHeartbeats 1000000 in
theorem checks_ {W : World} {F : List Res} {g : Int} {t : Txn} (T_t : TxR W F t) : CS Try.prog 4 #[.agg #[.int .i64 t.f_Kind, .slice t.f_Reads.a (t.f_Reads.xs).length t.f_Reads.c, .slice t.f_Writes.a (t.f_Writes.xs).length t.f_Writes.c, .slice t.f_Ops.a (t.f_Ops.xs).length t.f_Ops.c, .int .i64 t.f_To], .int .i64 g] W (F) (fun r L' => r = .bool true ∧ F = L') := by
  refine f_door (l0 := [(0, .agg #[.int .i64 t.f_Kind, .slice t.f_Reads.a (t.f_Reads.xs).length t.f_Reads.c, .slice t.f_Writes.a (t.f_Writes.xs).length t.f_Writes.c, .slice t.f_Ops.a (t.f_Ops.xs).length t.f_Ops.c, .int .i64 t.f_To]), (1, .int .i64 g)]) Try.func4 Try.ntmps4 rfl rfl rfl ?_
  refine c_seq ?_
  refine c_region ?_
  refine o_box rfl rfl fun b2 => ?_
  refine o_assign rfl rfl ?_
  refine l_nil ?_
  refine q_then ?_
  refine c_seq ?_
  refine c_seq ?_
  refine c_region ?_
  refine o_call rfl cal10 rfl (speaks_) ?_
  rintro _ _ ⟨rfl, rfl⟩
  refine o_not rfl rfl ?_
  refine l_nil ?_
  refine q_then ?_
  refine c_false rfl ?_
  refine c_skip ?_
  refine q_then ?_
  refine c_seq ?_
  refine c_seq ?_
  refine c_region ?_
  refine o_loadn (vs := [_, _, _, _, _]) rfl rfl Try.underlying26 rfl ti26 (rdn_lit 0 rfl rfl) ?_
  refine o_call rfl cal11 rfl (great_ (t := t) (TxR.c T_t)) ?_
  rintro _ _ ⟨g10, hg10, rfl, rfl⟩
  refine l_nil ?_
  refine q_then ?_
  refine c_cond rfl (fun h1 => ?_) (fun h1 => ?_)
  · -- h1T
    have h1b := h1
    try simp only [decide_eq_true_eq, decide_eq_false_iff_not, Bool.not_eq_eq_eq_not, Bool.not_true, Bool.not_false, Bool.not_eq_true', Bool.not_eq_false', Int.not_lt, Int.not_le, Bool.or_eq_true, Bool.and_eq_true] at h1
    refine c_seq ?_
    refine c_region ?_
    refine o_assign rfl rfl ?_
    refine l_nil ?_
    refine q_then ?_
    refine c_ret ?_
    refine q_pass_ret ?_
    refine q_conv (fun w S => S.tail) ?_
    exact f_ret (r_one rfl rfl) (⟨rfl, rfl⟩) (fun w S => S)
  · -- h1F
    have h1b := h1
    try simp only [decide_eq_true_eq, decide_eq_false_iff_not, Bool.not_eq_eq_eq_not, Bool.not_true, Bool.not_false, Bool.not_eq_true', Bool.not_eq_false', Int.not_lt, Int.not_le, Bool.or_eq_true, Bool.and_eq_true] at h1
    refine c_skip ?_
    refine q_then ?_
    refine c_seq ?_
    refine c_region ?_
    refine o_loadn (vs := [_, _, _, _, _]) rfl rfl Try.underlying26 rfl ti26 (rdn_lit 0 rfl rfl) ?_
    refine o_call rfl cal12 rfl (copy_ (t := t) (TxR.c T_t) (hg10 (by assumption))) ?_
    rintro _ _ ⟨c12, hs_c12, rfl, rfl⟩
    have L_c12 : TxLen c12 := TxLen.same T_t.len hs_c12
    refine o_alloc rfl ti26 fun b5 => ?_
    refine o_storen rfl rfl ti26 rfl rfl rfl rfl ?_
    refine l_nil ?_
    refine q_then ?_
    refine c_seq ?_
    have hch : chkN c12 g = chkN t g := chkN_same hs_c12 g
    refine c_region ?_
    refine o_loadn (vs := [_, _, _, _, _]) rfl rfl Try.underlying26 rfl ti26 (rdn_lit 0 rfl rfl) ?_
    refine o_move rfl rfl ?_
    refine o_call rfl cal13 rfl (check_ (t := c12) (g := g) (txM_R L_c12 1 rfl)) ?_
    rintro _ _ ⟨rfl, rfl⟩
    refine o_assign rfl rfl ?_
    refine l_nil ?_
    refine q_then ?_
    refine c_seq ?_
    refine c_region ?_
    refine o_move rfl rfl ?_
    refine o_bin rfl rfl rfl b_eql ?_
    refine o_loadn (vs := [_, _, _, _, _]) rfl rfl Try.underlying26 rfl ti26 (rdn_lit 2 rfl rfl) ?_
    refine o_move rfl rfl ?_
    refine o_call rfl cal14 rfl (right_ (t := t) (g := g) (TxR.c (TxR.c (TxR.c T_t)))) ?_
    rintro _ _ ⟨rfl, rfl⟩
    refine o_bin rfl rfl rfl (b_beq Try.underlying4 _ _) ?_
    refine l_eq (t := 21) (v' := .bool true) rfl (show _ = Value.bool true from by rw [hch]; by_cases hb : ChkOk t g <;> simp [chkN_0, right_iff, hb]) ?_
    refine o_move rfl rfl ?_
    refine o_yes rfl rfl rfl ?_
    refine o_move rfl rfl ?_
    refine o_yes rfl rfl rfl ?_
    refine o_bin rfl rfl rfl b_eql ?_
    refine o_yes rfl rfl rfl ?_
    refine o_move rfl rfl ?_
    refine l_split (t := 25) rfl (fun h2 => ?_) (fun h2 => ?_)
    · -- h2T
      have h2b := h2
      try simp only [decide_eq_true_eq, decide_eq_false_iff_not, Bool.not_eq_eq_eq_not, Bool.not_true, Bool.not_false, Bool.not_eq_true', Bool.not_eq_false', Int.not_lt, Int.not_le, Bool.or_eq_true, Bool.and_eq_true] at h2
      refine o_no rfl rfl rfl rfl ?_
      refine o_no rfl rfl rfl rfl ?_
      refine o_yes rfl rfl rfl ?_
      refine o_pick_true rfl rfl rfl ?_
      refine o_pick_true rfl rfl rfl ?_
      refine o_move rfl rfl ?_
      refine o_yes rfl rfl rfl ?_
      refine o_loadn (vs := [_, _, _, _, _]) rfl rfl Try.underlying26 rfl ti26 (rdn_lit 0 rfl rfl) ?_
      refine o_yes rfl rfl rfl ?_
      refine o_loadn (vs := [_, _, _, _, _]) rfl rfl Try.underlying26 rfl ti26 (rdn_lit 2 rfl rfl) ?_
      refine o_yes rfl rfl rfl ?_
      refine o_call rfl cal15 rfl (same_ (a := c12) (b := t) (txM_R L_c12 1 rfl) (TxR.c (TxR.c (TxR.c T_t)))) ?_
      rintro _ _ ⟨rfl, rfl⟩
      refine l_eq (t := 33) (v' := .bool true) rfl (show _ = Value.bool true from by rw [decide_eq_true hs_c12]) ?_
      refine o_pick_true rfl rfl rfl ?_
      refine o_assign rfl rfl ?_
      refine l_nil ?_
      refine q_then ?_
      refine c_ret ?_
      refine q_conv (fun w S => S.tail) ?_
      refine q_conv (fun w S => S.tail) ?_
      refine q_conv (fun w S => S.tail) ?_
      exact f_ret (r_one rfl rfl) (⟨rfl, rfl⟩) (fun w S => S)
    · -- h2F
      have h2b := h2
      try simp only [decide_eq_true_eq, decide_eq_false_iff_not, Bool.not_eq_eq_eq_not, Bool.not_true, Bool.not_false, Bool.not_eq_true', Bool.not_eq_false', Int.not_lt, Int.not_le, Bool.or_eq_true, Bool.and_eq_true] at h2
      refine o_yes rfl rfl rfl ?_
      refine o_move rfl rfl ?_
      refine o_yes rfl rfl rfl ?_
      refine o_bin rfl rfl rfl b_eql ?_
      refine l_eq (t := 27) (v' := .bool true) rfl (show _ = Value.bool true from by rw [chkN_1 (by assumption)]; rfl) ?_
      refine o_yes rfl rfl rfl ?_
      refine o_pick_false rfl rfl rfl ?_
      refine o_pick_true rfl rfl rfl ?_
      refine o_move rfl rfl ?_
      refine o_yes rfl rfl rfl ?_
      refine o_loadn (vs := [_, _, _, _, _]) rfl rfl Try.underlying26 rfl ti26 (rdn_lit 0 rfl rfl) ?_
      refine o_yes rfl rfl rfl ?_
      refine o_loadn (vs := [_, _, _, _, _]) rfl rfl Try.underlying26 rfl ti26 (rdn_lit 2 rfl rfl) ?_
      refine o_yes rfl rfl rfl ?_
      refine o_call rfl cal15 rfl (same_ (a := c12) (b := t) (txM_R L_c12 1 rfl) (TxR.c (TxR.c (TxR.c T_t)))) ?_
      rintro _ _ ⟨rfl, rfl⟩
      refine l_eq (t := 33) (v' := .bool true) rfl (show _ = Value.bool true from by rw [decide_eq_true hs_c12]) ?_
      refine o_pick_true rfl rfl rfl ?_
      refine o_assign rfl rfl ?_
      refine l_nil ?_
      refine q_then ?_
      refine c_ret ?_
      refine q_conv (fun w S => S.tail) ?_
      refine q_conv (fun w S => S.tail) ?_
      refine q_conv (fun w S => S.tail) ?_
      exact f_ret (r_one rfl rfl) (⟨rfl, rfl⟩) (fun w S => S)

end Go.Proofs.Ytllclglbfdncnaa
