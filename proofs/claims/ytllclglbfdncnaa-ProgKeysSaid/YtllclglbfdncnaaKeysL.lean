/- Printed by eng2.py out of 05/spec.py. -/
import Derived.Test.YtllclglbfdncnaaNames
import Derived.Test.YtllclglbfdncnaaRCopy
import Derived.Test.YtllclglbfdncnaaRKeys
import Derived.Test.YtllclglbfdncnaaArgs
set_option linter.unusedVariables false
set_option linter.unusedSimpArgs false
set_option maxRecDepth 10000
namespace Go.Proofs.Ytllclglbfdncnaa
open Go.RowKit Classical
set_option maxHeartbeats 2000000 in
theorem keysL_ {W : World} {F : List Res} {key : ByteArray} {t : Txn} (T_t : TxR W F t) : CS Try.prog 9 #[.agg #[.int .i64 t.f_Kind, .slice t.f_Reads.a (t.f_Reads.xs).length t.f_Reads.c, .slice t.f_Writes.a (t.f_Writes.xs).length t.f_Writes.c, .slice t.f_Ops.a (t.f_Ops.xs).length t.f_Ops.c, .int .i64 t.f_To], .string key] W (F) (fun r L' => r = .bool true ∧ F = L') := by
 refine f_door (l0 := [(0, .agg #[.int .i64 t.f_Kind, .slice t.f_Reads.a (t.f_Reads.xs).length t.f_Reads.c, .slice t.f_Writes.a (t.f_Writes.xs).length t.f_Writes.c, .slice t.f_Ops.a (t.f_Ops.xs).length t.f_Ops.c, .int .i64 t.f_To]), (1, .string key)]) Try.func9 Try.ntmps9 rfl rfl rfl ?_
 refine c_seq ?_
 refine c_region ?_
 refine o_box rfl rfl fun b2 => ?_
 refine o_assign rfl rfl ?_
 refine l_nil ?_
 refine q_then ?_
 refine c_seq ?_
 refine c_seq ?_
 refine c_region ?_
 refine o_call rfl cal10 rfl (speaks_) ?_
 rintro _ _ ⟨rfl, rfl⟩
 refine o_not rfl rfl ?_
 refine l_nil ?_
 refine q_then ?_
 refine c_false rfl ?_
 refine c_skip ?_
 refine q_then ?_
 refine c_seq ?_
 refine c_seq ?_
 refine c_region ?_
 refine o_loadn (vs := [_, _, _, _, _]) rfl rfl Try.underlying26 rfl ti26 (rdn_lit 0 rfl rfl) ?_
 refine o_call rfl cal11 rfl (great_ (t := t) (TxR.c T_t)) ?_
 rintro _ _ ⟨g9, hg9, rfl, rfl⟩
 refine o_move rfl rfl ?_
 refine l_split (t := 10) rfl (fun h1 => ?_) (fun h1 => ?_)
 · -- h1T
  have h1b := h1
  try simp only [decide_eq_true_eq, decide_eq_false_iff_not, Bool.not_eq_eq_eq_not, Bool.not_true, Bool.not_false, Bool.not_eq_true', Bool.not_eq_false', Int.not_lt, Int.not_le, Bool.or_eq_true, Bool.and_eq_true] at h1
  refine o_no rfl rfl rfl rfl ?_
  refine o_no rfl rfl rfl rfl ?_
  refine o_no rfl rfl rfl rfl ?_
  refine o_pick_true rfl rfl rfl ?_
  refine l_nil ?_
  refine q_then ?_
  refine c_true rfl ?_
  refine c_seq ?_
  refine c_region ?_
  refine o_assign rfl rfl ?_
  refine l_nil ?_
  refine q_then ?_
  refine c_ret ?_
  refine q_pass_ret ?_
  refine q_conv (fun w S => S.tail) ?_
  exact f_ret (r_one rfl rfl) (⟨rfl, rfl⟩) (fun w S => S)
 · -- h1F
  have h1b := h1
  try simp only [decide_eq_true_eq, decide_eq_false_iff_not, Bool.not_eq_eq_eq_not, Bool.not_true, Bool.not_false, Bool.not_eq_true', Bool.not_eq_false', Int.not_lt, Int.not_le, Bool.or_eq_true, Bool.and_eq_true] at h1
  refine o_yes rfl rfl rfl ?_
  refine o_move rfl rfl ?_
  refine o_yes rfl rfl rfl ?_
  refine o_lenStr rfl rfl Try.underlying9 ?_
  refine o_yes rfl rfl rfl ?_
  refine o_bin rfl rfl rfl b_gtr ?_
  refine o_pick_false rfl rfl rfl ?_
  refine l_nil ?_
  refine q_then ?_
  refine c_cond rfl (fun h2 => ?_) (fun h2 => ?_)
  · -- h2T
   have h2b := h2
   try simp only [decide_eq_true_eq] at h2
   refine c_seq ?_
   refine c_region ?_
   refine o_assign rfl rfl ?_
   refine l_nil ?_
   refine q_then ?_
   refine c_ret ?_
   refine q_pass_ret ?_
   refine q_conv (fun w S => S.tail) ?_
   exact f_ret (r_one rfl rfl) (⟨rfl, rfl⟩) (fun w S => S)
  · -- h2F
   have h2b := h2
   try simp only [decide_eq_false_iff_not, Int.not_lt, Int.not_le] at h2
   refine c_skip ?_
   refine q_then ?_
   refine c_seq ?_
   refine c_region ?_
   refine o_loadn (vs := [_, _, _, _, _]) rfl rfl Try.underlying26 rfl ti26 (rdn_lit 0 rfl rfl) ?_
   refine o_call rfl cal12 rfl (copy_ (t := t) (TxR.c T_t) (hg9 (by assumption))) ?_
   rintro _ _ ⟨c16, hs_c16, rfl, rfl⟩
   have L_c16 : TxLen c16 := TxLen.same T_t.len hs_c16
   refine o_alloc rfl ti26 fun b5 => ?_
   refine o_storen rfl rfl ti26 rfl rfl rfl rfl ?_
   refine l_nil ?_
   refine q_then ?_
   refine c_seq ?_
   refine c_held [blk b5 (.cells #[.int .i64 c16.f_Kind, .slice c16.f_Reads.a (c16.f_Reads.xs).length c16.f_Reads.c, .slice c16.f_Writes.a (c16.f_Writes.xs).length c16.f_Writes.c, .slice c16.f_Ops.a (c16.f_Ops.xs).length c16.f_Ops.c, .int .i64 c16.f_To] 26 (0, 0)), txM c16, blk b2 (.cells #[.int .i64 t.f_Kind, .slice t.f_Reads.a (t.f_Reads.xs).length t.f_Reads.c, .slice t.f_Writes.a (t.f_Writes.xs).length t.f_Writes.c, .slice t.f_Ops.a (t.f_Ops.xs).length t.f_Ops.c, .int .i64 t.f_To] 26 (0, 0))] (by kernel_rfl) rfl ?_
   refine h_take 0 rfl rfl (by kernel_rfl) (by kernel_rfl) (by kernel_rfl) (fun L0 => v_loadn (vs := [_, _, _, _, _]) rfl rfl Try.underlying26 rfl ti26 (rdn_lit 0 rfl rfl)) ?_
   refine h_take 2 rfl rfl (by kernel_rfl) (by kernel_rfl) (by kernel_rfl) (fun L0 => v_loadn (vs := [_, _, _, _, _]) rfl rfl Try.underlying26 rfl ti26 (rdn_lit 2 rfl rfl)) ?_
   refine h_one 1 rfl (by kernel_rfl) ?_
   refine o_call rfl cal18 rfl (keys_ (t := c16) (txM_R L_c16 1 rfl) (by have h7 := (Smalls.same (hg9 (by assumption)) hs_c16).r; have h8 := (Smalls.same (hg9 (by assumption)) hs_c16).w; omega)) ?_
   rintro _ _ ⟨a18, c18, rfl, rfl⟩
   refine l_nil ?_
   refine q_conv (fun w S => S.perm p3) ?_
   refine q_conv (fun w S => S.perm p3) ?_
   refine q_conv (fun w S => S.perm p3) ?_
   refine h_next ?_
   refine h_one 3 rfl (by kernel_rfl) ?_
   refine o_call rfl cal20 rfl (rkeys_ (t := t) (TxR.c (TxR.c (TxR.c (TxR.c T_t)))) (by have h7 := (hg9 (by assumption)).r; have h8 := (hg9 (by assumption)).w; omega)) ?_
   rintro _ _ ⟨a20, c20, rfl, rfl⟩
   refine l_nil ?_
   refine q_conv (fun w S => S.perm p4) ?_
   refine q_conv (fun w S => S.perm p1) ?_
   refine q_conv (fun w S => S.perm p4) ?_
   refine q_conv (fun w S => S.perm p4) ?_
   refine q_conv (fun w S => S.perm p4) ?_
   refine h_next ?_
   refine h_one 4 rfl (by kernel_rfl) ?_
   refine o_call rfl cal19 rfl (sameTexts_ (rds_own e_S_ok 4 rfl) (by have h5 := keysT_len c16; have h6 := keysT_len t; have h7 := (Smalls.same (hg9 (by assumption)) hs_c16).r; have h8 := (Smalls.same (hg9 (by assumption)) hs_c16).w; omega) (rds_own e_S_ok 3 rfl)) ?_
   rintro _ _ ⟨rfl, rfl⟩
   refine l_nil ?_
   refine h_next ?_
   refine h_eq (t := 21) (v' := .bool true) rfl (show _ = Value.bool true from by rw [decide_eq_true (keysT_same hs_c16)]) ?_
   refine h_take 5 rfl rfl (by kernel_rfl) (by kernel_rfl) (by kernel_rfl) (fun L0 => v_move rfl rfl) ?_
   refine h_take_yes 6 rfl rfl rfl rfl rfl (by kernel_rfl) (by kernel_rfl) (by kernel_rfl) (fun L0 => v_loadn (vs := [_, _, _, _, _]) rfl rfl Try.underlying26 rfl ti26 (rdn_lit 0 rfl rfl)) ?_
   refine h_take_yes 7 rfl rfl rfl rfl rfl (by kernel_rfl) (by kernel_rfl) (by kernel_rfl) (fun L0 => v_move rfl rfl) ?_
   refine h_take_yes 9 rfl rfl rfl rfl rfl (by kernel_rfl) (by kernel_rfl) (by kernel_rfl) (fun L0 => v_fieldAddr (q := ⟨b2, 2, none⟩) rfl rfl Try.underlying26 rfl ti23 rfl) ?_
   refine h_take_yes 10 rfl rfl rfl rfl rfl (by kernel_rfl) (by kernel_rfl) (by kernel_rfl) (fun L0 => v_load1 rfl rfl Try.underlying23 rfl (rd_mem 2 rfl rfl)) ?_
   refine h_take_yes 11 rfl rfl rfl rfl rfl (by kernel_rfl) (by kernel_rfl) (by kernel_rfl) (fun L0 => v_move rfl rfl) ?_
   refine h_one 8 rfl (by kernel_rfl) ?_
   refine o_yes rfl rfl rfl ?_
   refine o_call rfl cal21 rfl (writes_ (t := c16) (key := key) (txM_R L_c16 1 rfl)) ?_
   rintro _ _ ⟨rfl, rfl⟩
   refine l_nil ?_
   refine h_next ?_
   refine h_one 12 rfl (by kernel_rfl) ?_
   refine o_yes rfl rfl rfl ?_
   refine o_call rfl cal22 rfl (in_ (TxR.c (TxR.c (TxR.c (TxR.c (TxR.c T_t))))).rw T_t.len.lw) ?_
   rintro _ _ ⟨rfl, rfl⟩
   refine l_nil ?_
   refine h_next ?_
   refine h_take_yes 13 rfl rfl rfl rfl rfl (by kernel_rfl) (by kernel_rfl) (by kernel_rfl) (fun L0 => v_bin rfl rfl rfl (b_beq Try.underlying4 _ _)) ?_
   refine h_eq (t := 30) (v' := .bool true) rfl (show _ = Value.bool true from by rw [hs_c16.2.2.2.1]; simp) ?_
   refine h_take 14 rfl rfl (by kernel_rfl) (by kernel_rfl) (by kernel_rfl) (fun L0 => v_pick_true rfl rfl rfl) ?_
   refine h_take 15 rfl rfl (by kernel_rfl) (by kernel_rfl) (by kernel_rfl) (fun L0 => v_move rfl rfl) ?_
   refine h_take_yes 16 rfl rfl rfl rfl rfl (by kernel_rfl) (by kernel_rfl) (by kernel_rfl) (fun L0 => v_loadn (vs := [_, _, _, _, _]) rfl rfl Try.underlying26 rfl ti26 (rdn_lit 0 rfl rfl)) ?_
   refine h_take_yes 17 rfl rfl rfl rfl rfl (by kernel_rfl) (by kernel_rfl) (by kernel_rfl) (fun L0 => v_loadn (vs := [_, _, _, _, _]) rfl rfl Try.underlying26 rfl ti26 (rdn_lit 2 rfl rfl)) ?_
   refine h_one 18 rfl (by kernel_rfl) ?_
   refine o_yes rfl rfl rfl ?_
   refine o_call rfl cal15 rfl (same_ (a := c16) (b := t) (txM_R L_c16 1 rfl) (TxR.c (TxR.c (TxR.c (TxR.c (TxR.c T_t)))))) ?_
   rintro _ _ ⟨rfl, rfl⟩
   refine l_nil ?_
   refine h_next ?_
   refine h_eq (t := 35) (v' := .bool true) rfl (show _ = Value.bool true from by rw [decide_eq_true hs_c16]) ?_
   refine h_take 19 rfl rfl (by kernel_rfl) (by kernel_rfl) (by kernel_rfl) (fun L0 => v_pick_true rfl rfl rfl) ?_
   refine h_take 20 rfl rfl (by kernel_rfl) (by kernel_rfl) (by kernel_rfl) (fun L0 => v_assign rfl rfl) ?_
   refine h_done (by kernel_rfl) ?_
   refine q_then ?_
   refine c_ret ?_
   refine q_conv (fun w S => S.tail) ?_
   refine q_conv (fun w S => S.tail) ?_
   refine q_conv (fun w S => S.tail) ?_
   refine q_conv (fun w S => S.tail) ?_
   refine q_conv (fun w S => S.tail) ?_
   exact f_ret (r_one rfl rfl) (⟨rfl, rfl⟩) (fun w S => S)

end Go.Proofs.Ytllclglbfdncnaa
