/- Printed by eng2.py out of 05/spec.py. -/
import Derived.Test.YtllclglbfdncnaaNames
import Derived.Test.YtllclglbfdncnaaRCopy
import Derived.Test.YtllclglbfdncnaaKeys
import Derived.Test.YtllclglbfdncnaaArgs
import Derived.Test.YtllclglbfdncnaaMod2
set_option linter.unusedVariables false
set_option linter.unusedSimpArgs false
set_option maxRecDepth 10000
namespace Go.Proofs.Ytllclglbfdncnaa
open Go.RowKit Classical
set_option maxHeartbeats 2000000 in
theorem wider_ {W : World} {F : List Res} {t : Txn} (T_t : TxR W F t) : CS Try.prog 8 #[.agg #[.int .i64 t.f_Kind, .slice t.f_Reads.a (t.f_Reads.xs).length t.f_Reads.c, .slice t.f_Writes.a (t.f_Writes.xs).length t.f_Writes.c, .slice t.f_Ops.a (t.f_Ops.xs).length t.f_Ops.c, .int .i64 t.f_To]] W (F) (fun r L' => r = .bool true ∧ F = L') := by
 refine f_door (l0 := [(0, .agg #[.int .i64 t.f_Kind, .slice t.f_Reads.a (t.f_Reads.xs).length t.f_Reads.c, .slice t.f_Writes.a (t.f_Writes.xs).length t.f_Writes.c, .slice t.f_Ops.a (t.f_Ops.xs).length t.f_Ops.c, .int .i64 t.f_To])]) Try.func8 Try.ntmps8 rfl rfl rfl ?_
 refine c_seq ?_
 refine c_region ?_
 refine o_box rfl rfl fun b1 => ?_
 refine o_assign rfl rfl ?_
 refine l_nil ?_
 refine q_then ?_
 refine c_seq ?_
 refine c_seq ?_
 refine c_region ?_
 refine o_call rfl cal10 rfl (speaks_) ?_
 rintro _ _ ⟨rfl, rfl⟩
 refine o_not rfl rfl ?_
 refine l_nil ?_
 refine q_then ?_
 refine c_false rfl ?_
 refine c_skip ?_
 refine q_then ?_
 refine c_seq ?_
 refine c_seq ?_
 refine c_region ?_
 refine o_loadn (vs := [_, _, _, _, _]) rfl rfl Try.underlying26 rfl ti26 (rdn_lit 0 rfl rfl) ?_
 refine o_call rfl cal11 rfl (great_ (t := t) (TxR.c T_t)) ?_
 rintro _ _ ⟨g7, hg7, rfl, rfl⟩
 refine o_move rfl rfl ?_
 refine l_split (t := 8) rfl (fun h1 => ?_) (fun h1 => ?_)
 · -- h1T
  have h1b := h1
  try simp only [decide_eq_true_eq, decide_eq_false_iff_not, Bool.not_eq_eq_eq_not, Bool.not_true, Bool.not_false, Bool.not_eq_true', Bool.not_eq_false', Int.not_lt, Int.not_le, Bool.or_eq_true, Bool.and_eq_true] at h1
  refine o_no rfl rfl rfl rfl ?_
  refine o_no rfl rfl rfl rfl ?_
  refine o_no rfl rfl rfl rfl ?_
  refine o_pick_true rfl rfl rfl ?_
  refine o_move rfl rfl ?_
  refine o_no rfl rfl rfl rfl ?_
  refine o_no rfl rfl rfl rfl ?_
  refine o_no rfl rfl rfl rfl ?_
  refine o_pick_true rfl rfl rfl ?_
  refine l_nil ?_
  refine q_then ?_
  refine c_true rfl ?_
  refine c_seq ?_
  refine c_region ?_
  refine o_assign rfl rfl ?_
  refine l_nil ?_
  refine q_then ?_
  refine c_ret ?_
  refine q_pass_ret ?_
  refine q_conv (fun w S => S.tail) ?_
  exact f_ret (r_one rfl rfl) (⟨rfl, rfl⟩) (fun w S => S)
 · -- h1F
  have h1b := h1
  try simp only [decide_eq_true_eq, decide_eq_false_iff_not, Bool.not_eq_eq_eq_not, Bool.not_true, Bool.not_false, Bool.not_eq_true', Bool.not_eq_false', Int.not_lt, Int.not_le, Bool.or_eq_true, Bool.and_eq_true] at h1
  refine o_yes rfl rfl rfl ?_
  refine o_loadn (vs := [_, _, _, _, _]) rfl rfl Try.underlying26 rfl ti26 (rdn_lit 0 rfl rfl) ?_
  refine o_yes rfl rfl rfl ?_
  refine o_call rfl cal13 rfl (check_ (t := t) (g := 3) (TxR.c T_t)) ?_
  rintro _ _ ⟨rfl, rfl⟩
  refine o_yes rfl rfl rfl ?_
  refine o_bin rfl rfl rfl b_neq ?_
  refine o_pick_false rfl rfl rfl ?_
  refine o_move rfl rfl ?_
  refine l_split (t := 13) rfl (fun h2 => ?_) (fun h2 => ?_)
  · -- h2T
   have h2b := h2
   try simp only [Bool.not_eq_true', decide_eq_false_iff_not, Int.not_lt, Int.not_le] at h2
   refine o_no rfl rfl rfl rfl ?_
   refine o_no rfl rfl rfl rfl ?_
   refine o_no rfl rfl rfl rfl ?_
   refine o_pick_true rfl rfl rfl ?_
   refine l_nil ?_
   refine q_then ?_
   refine c_true rfl ?_
   refine c_seq ?_
   refine c_region ?_
   refine o_assign rfl rfl ?_
   refine l_nil ?_
   refine q_then ?_
   refine c_ret ?_
   refine q_pass_ret ?_
   refine q_conv (fun w S => S.tail) ?_
   exact f_ret (r_one rfl rfl) (⟨rfl, rfl⟩) (fun w S => S)
  · -- h2F
   have h2b := h2
   try simp only [Bool.not_eq_false', decide_eq_true_eq] at h2
   refine o_yes rfl rfl rfl ?_
   refine o_fieldAddr (q := ⟨b1, 0, none⟩) rfl rfl Try.underlying26 rfl ti3 rfl ?_
   refine o_yes rfl rfl rfl ?_
   refine o_load1 rfl rfl Try.underlying3 rfl (rd_mem 0 rfl rfl) ?_
   refine o_yes rfl rfl rfl ?_
   refine o_bin rfl rfl rfl b_neq ?_
   refine o_pick_false rfl rfl rfl ?_
   refine l_nil ?_
   refine q_then ?_
   refine c_cond rfl (fun h3 => ?_) (fun h3 => ?_)
   · -- h3T
    have h3b := h3
    try simp only [Bool.not_eq_true', decide_eq_false_iff_not, Int.not_lt, Int.not_le] at h3
    refine c_seq ?_
    refine c_region ?_
    refine o_assign rfl rfl ?_
    refine l_nil ?_
    refine q_then ?_
    refine c_ret ?_
    refine q_pass_ret ?_
    refine q_conv (fun w S => S.tail) ?_
    exact f_ret (r_one rfl rfl) (⟨rfl, rfl⟩) (fun w S => S)
   · -- h3F
    have h3b := h3
    try simp only [Bool.not_eq_false', decide_eq_true_eq] at h3
    refine c_skip ?_
    refine q_then ?_
    refine c_seq ?_
    have hch : chkN t 3 = 0 := by simpa using h2
    have hkd : t.f_Kind = 1 := by simpa using h3
    have hsm := hg7 (by assumption)
    have hsr := hsm.r
    have hsw := hsm.w
    have hso := hsm.o
    have hkl := keysT_len t
    refine c_region ?_
    refine o_loadn (vs := [_, _, _, _, _]) rfl rfl Try.underlying26 rfl ti26 (rdn_lit 0 rfl rfl) ?_
    refine o_call rfl cal12 rfl (copy_ (t := t) (TxR.c T_t) (hg7 (by assumption))) ?_
    rintro _ _ ⟨c19, hs_c19, rfl, rfl⟩
    have L_c19 : TxLen c19 := TxLen.same T_t.len hs_c19
    refine o_alloc rfl ti26 fun b3 => ?_
    refine o_storen rfl rfl ti26 rfl rfl rfl rfl ?_
    refine l_nil ?_
    refine q_then ?_
    refine c_seq ?_
    refine c_conv (fun w S => S.perm p1) ?_
    refine c_conv (L' := row e_S.T e_S.sz c19.f_Reads.a (c19.f_Reads.xs).length c19.f_Reads.c (flat e_S c19.f_Reads.xs) :: row e_S.T e_S.sz c19.f_Writes.a (c19.f_Writes.xs).length c19.f_Writes.c (flat e_S c19.f_Writes.xs) :: row e_Op.T e_Op.sz c19.f_Ops.a (c19.f_Ops.xs).length c19.f_Ops.c (flat e_Op c19.f_Ops.xs) :: stars ((c19.f_Ops.xs.map Op.f_Value).map (vrow e8)) :: blk b3 (.cells #[.int .i64 c19.f_Kind, .slice c19.f_Reads.a (c19.f_Reads.xs).length c19.f_Reads.c, .slice c19.f_Writes.a (c19.f_Writes.xs).length c19.f_Writes.c, .slice c19.f_Ops.a (c19.f_Ops.xs).length c19.f_Ops.c, .int .i64 c19.f_To] 26 (0, 0)) :: blk b1 (.cells #[.int .i64 t.f_Kind, .slice t.f_Reads.a (t.f_Reads.xs).length t.f_Reads.c, .slice t.f_Writes.a (t.f_Writes.xs).length t.f_Writes.c, .slice t.f_Ops.a (t.f_Ops.xs).length t.f_Ops.c, .int .i64 t.f_To] 26 (0, 0)) :: F) (fun w S => Sat.flat (Ls := txL c19) S) ?_
    refine c_region ?_
    refine o_loadn (vs := [_, _, _, _, _]) rfl rfl Try.underlying26 rfl ti26 (rdn_lit 5 rfl rfl) ?_
    refine o_call rfl cal18 rfl (keys_ (t := t) (TxR.c (TxR.c (TxR.c (TxR.c (TxR.c (TxR.c T_t)))))) (by first | omega | (show List.length [] + (keysT t).length ≤ _; simp only [List.length_nil]; omega))) ?_
    rintro _ _ ⟨a21, c21, rfl, rfl⟩
    refine o_fieldAddr (q := ⟨b3, 1, none⟩) rfl rfl Try.underlying26 rfl ti23 rfl ?_
    refine l_f5 ?_
    refine o_store1 rfl rfl rfl ti23 rfl rfl ?_
    refine o_fieldAddr (q := ⟨b3, 2, none⟩) rfl rfl Try.underlying26 rfl ti23 rfl ?_
    refine o_store1 rfl rfl rfl ti23 rfl rfl ?_
    refine l_nil ?_
    refine q_then ?_
    refine c_seq ?_
    refine c_heldF [] (blk b3 (.cells #[.int .i64 c19.f_Kind, .slice none 0 0, .slice a21 (keysT t).length c21, .slice c19.f_Ops.a (c19.f_Ops.xs).length c19.f_Ops.c, .int .i64 c19.f_To] 26 (0, 0)) :: row e_S.T e_S.sz a21 (keysT t).length c21 (flat e_S (keysT t)) :: row e_S.T e_S.sz c19.f_Reads.a (c19.f_Reads.xs).length c19.f_Reads.c (flat e_S c19.f_Reads.xs) :: row e_S.T e_S.sz c19.f_Writes.a (c19.f_Writes.xs).length c19.f_Writes.c (flat e_S c19.f_Writes.xs) :: row e_Op.T e_Op.sz c19.f_Ops.a (c19.f_Ops.xs).length c19.f_Ops.c (flat e_Op c19.f_Ops.xs) :: stars ((c19.f_Ops.xs.map Op.f_Value).map (vrow e8)) :: blk b1 (.cells #[.int .i64 t.f_Kind, .slice t.f_Reads.a (t.f_Reads.xs).length t.f_Reads.c, .slice t.f_Writes.a (t.f_Writes.xs).length t.f_Writes.c, .slice t.f_Ops.a (t.f_Ops.xs).length t.f_Ops.c, .int .i64 t.f_To] 26 (0, 0)) :: F) (by kernel_rfl) ?_
    refine h_take 0 rfl rfl (by kernel_rfl) (by kernel_rfl) (by kernel_rfl) (fun L0 => v_loadn (vs := [_, _, _, _, _]) rfl rfl Try.underlying26 rfl ti26 (rdn_lit 0 rfl rfl)) ?_
    refine h_one 1 rfl (by kernel_rfl) ?_
    refine l_conv (L' := blk b3 (.cells #[.int .i64 c19.f_Kind, .slice none 0 0, .slice a21 (keysT t).length c21, .slice c19.f_Ops.a (c19.f_Ops.xs).length c19.f_Ops.c, .int .i64 c19.f_To] 26 (0, 0)) :: row e_S.T e_S.sz a21 (keysT t).length c21 (flat e_S (keysT t)) :: row e_S.T e_S.sz c19.f_Reads.a (c19.f_Reads.xs).length c19.f_Reads.c (flat e_S c19.f_Reads.xs) :: row e_S.T e_S.sz c19.f_Writes.a (c19.f_Writes.xs).length c19.f_Writes.c (flat e_S c19.f_Writes.xs) :: row e_Op.T e_Op.sz c19.f_Ops.a (c19.f_Ops.xs).length c19.f_Ops.c (flat e_Op c19.f_Ops.xs) :: stars ((c19.f_Ops.xs.map Op.f_Value).map (vrow e8)) :: blk b1 (.cells #[.int .i64 t.f_Kind, .slice t.f_Reads.a (t.f_Reads.xs).length t.f_Reads.c, .slice t.f_Writes.a (t.f_Writes.xs).length t.f_Writes.c, .slice t.f_Ops.a (t.f_Ops.xs).length t.f_Ops.c, .int .i64 t.f_To] 26 (0, 0)) :: F) (fun w S => S.perm List.perm_append_comm) ?_
    refine o_call rfl cal13 rfl (check_ (t := (⟨c19.f_Kind, ⟨none, [], 0⟩, ⟨a21, keysT t, c21⟩, ⟨c19.f_Ops.a, c19.f_Ops.xs, c19.f_Ops.c⟩, c19.f_To⟩ : Txn)) (g := 3) (TxR.mk (t := (⟨c19.f_Kind, ⟨none, [], 0⟩, ⟨a21, keysT t, c21⟩, ⟨c19.f_Ops.a, c19.f_Ops.xs, c19.f_Ops.c⟩, c19.f_To⟩ : Txn)) (rds_nil _ _) (rds_own e_S_ok 1 rfl) (rds_own e_Op_ok 4 rfl) (fun o ho => rds_vrow e8_ok 5 rfl (List.mem_map.2 ⟨o, ho, rfl⟩)) ⟨by simp, (by show (keysT t).length ≤ _; omega), L_c19.lo, L_c19.lv⟩)) ?_
    rintro _ _ ⟨rfl, rfl⟩
    refine l_nil ?_
    refine q_conv (L' := (blk b3 (.cells #[.int .i64 c19.f_Kind, .slice none 0 0, .slice a21 (keysT t).length c21, .slice c19.f_Ops.a (c19.f_Ops.xs).length c19.f_Ops.c, .int .i64 c19.f_To] 26 (0, 0)) :: row e_S.T e_S.sz a21 (keysT t).length c21 (flat e_S (keysT t)) :: row e_S.T e_S.sz c19.f_Reads.a (c19.f_Reads.xs).length c19.f_Reads.c (flat e_S c19.f_Reads.xs) :: row e_S.T e_S.sz c19.f_Writes.a (c19.f_Writes.xs).length c19.f_Writes.c (flat e_S c19.f_Writes.xs) :: row e_Op.T e_Op.sz c19.f_Ops.a (c19.f_Ops.xs).length c19.f_Ops.c (flat e_Op c19.f_Ops.xs) :: stars ((c19.f_Ops.xs.map Op.f_Value).map (vrow e8)) :: blk b1 (.cells #[.int .i64 t.f_Kind, .slice t.f_Reads.a (t.f_Reads.xs).length t.f_Reads.c, .slice t.f_Writes.a (t.f_Writes.xs).length t.f_Writes.c, .slice t.f_Ops.a (t.f_Ops.xs).length t.f_Ops.c, .int .i64 t.f_To] 26 (0, 0)) :: F) ++ []) (fun w S => S.perm (List.perm_append_comm (l₁ := []) (l₂ := blk b3 (.cells #[.int .i64 c19.f_Kind, .slice none 0 0, .slice a21 (keysT t).length c21, .slice c19.f_Ops.a (c19.f_Ops.xs).length c19.f_Ops.c, .int .i64 c19.f_To] 26 (0, 0)) :: row e_S.T e_S.sz a21 (keysT t).length c21 (flat e_S (keysT t)) :: row e_S.T e_S.sz c19.f_Reads.a (c19.f_Reads.xs).length c19.f_Reads.c (flat e_S c19.f_Reads.xs) :: row e_S.T e_S.sz c19.f_Writes.a (c19.f_Writes.xs).length c19.f_Writes.c (flat e_S c19.f_Writes.xs) :: row e_Op.T e_Op.sz c19.f_Ops.a (c19.f_Ops.xs).length c19.f_Ops.c (flat e_Op c19.f_Ops.xs) :: stars ((c19.f_Ops.xs.map Op.f_Value).map (vrow e8)) :: blk b1 (.cells #[.int .i64 t.f_Kind, .slice t.f_Reads.a (t.f_Reads.xs).length t.f_Reads.c, .slice t.f_Writes.a (t.f_Writes.xs).length t.f_Writes.c, .slice t.f_Ops.a (t.f_Ops.xs).length t.f_Ops.c, .int .i64 t.f_To] 26 (0, 0)) :: F))) ?_
    refine h_next ?_
    refine h_take 2 rfl rfl (by kernel_rfl) (by kernel_rfl) (by kernel_rfl) (fun L0 => v_bin rfl rfl rfl b_eql) ?_
    refine h_eq (t := 26) (v' := .bool true) rfl (by rw [chkN_wide (c := c19) hs_c19 rfl rfl rfl hkd hch]; rfl) ?_
    refine h_take 3 rfl rfl (by kernel_rfl) (by kernel_rfl) (by kernel_rfl) (fun L0 => v_move rfl rfl) ?_
    refine h_take_yes 4 rfl rfl rfl rfl rfl (by kernel_rfl) (by kernel_rfl) (by kernel_rfl) (fun L0 => v_loadn (vs := [_, _, _, _, _]) rfl rfl Try.underlying26 rfl ti26 (rdn_lit 0 rfl rfl)) ?_
    refine h_take_yes 6 rfl rfl rfl rfl rfl (by kernel_rfl) (by kernel_rfl) (by kernel_rfl) (fun L0 => v_loadn (vs := [_, _, _, _, _]) rfl rfl Try.underlying26 rfl ti26 (rdn_lit 6 rfl rfl)) ?_
    refine h_one 5 rfl (by kernel_rfl) ?_
    refine l_conv (L' := blk b3 (.cells #[.int .i64 c19.f_Kind, .slice none 0 0, .slice a21 (keysT t).length c21, .slice c19.f_Ops.a (c19.f_Ops.xs).length c19.f_Ops.c, .int .i64 c19.f_To] 26 (0, 0)) :: row e_S.T e_S.sz a21 (keysT t).length c21 (flat e_S (keysT t)) :: row e_S.T e_S.sz c19.f_Reads.a (c19.f_Reads.xs).length c19.f_Reads.c (flat e_S c19.f_Reads.xs) :: row e_S.T e_S.sz c19.f_Writes.a (c19.f_Writes.xs).length c19.f_Writes.c (flat e_S c19.f_Writes.xs) :: row e_Op.T e_Op.sz c19.f_Ops.a (c19.f_Ops.xs).length c19.f_Ops.c (flat e_Op c19.f_Ops.xs) :: stars ((c19.f_Ops.xs.map Op.f_Value).map (vrow e8)) :: blk b1 (.cells #[.int .i64 t.f_Kind, .slice t.f_Reads.a (t.f_Reads.xs).length t.f_Reads.c, .slice t.f_Writes.a (t.f_Writes.xs).length t.f_Writes.c, .slice t.f_Ops.a (t.f_Ops.xs).length t.f_Ops.c, .int .i64 t.f_To] 26 (0, 0)) :: F) (fun w S => S.perm List.perm_append_comm) ?_
    refine o_yes rfl rfl rfl ?_
    refine o_call rfl cal18 rfl (keys_ (t := (⟨c19.f_Kind, ⟨none, [], 0⟩, ⟨a21, keysT t, c21⟩, ⟨c19.f_Ops.a, c19.f_Ops.xs, c19.f_Ops.c⟩, c19.f_To⟩ : Txn)) (TxR.mk (t := (⟨c19.f_Kind, ⟨none, [], 0⟩, ⟨a21, keysT t, c21⟩, ⟨c19.f_Ops.a, c19.f_Ops.xs, c19.f_Ops.c⟩, c19.f_To⟩ : Txn)) (rds_nil _ _) (rds_own e_S_ok 1 rfl) (rds_own e_Op_ok 4 rfl) (fun o ho => rds_vrow e8_ok 5 rfl (List.mem_map.2 ⟨o, ho, rfl⟩)) ⟨by simp, (by show (keysT t).length ≤ _; omega), L_c19.lo, L_c19.lv⟩) (by first | omega | (show List.length [] + (keysT t).length ≤ _; simp only [List.length_nil]; omega))) ?_
    rintro _ _ ⟨a29, c29, rfl, rfl⟩
    refine l_nil ?_
    refine q_conv (L' := (blk b3 (.cells #[.int .i64 c19.f_Kind, .slice none 0 0, .slice a21 (keysT t).length c21, .slice c19.f_Ops.a (c19.f_Ops.xs).length c19.f_Ops.c, .int .i64 c19.f_To] 26 (0, 0)) :: row e_S.T e_S.sz a21 (keysT t).length c21 (flat e_S (keysT t)) :: row e_S.T e_S.sz c19.f_Reads.a (c19.f_Reads.xs).length c19.f_Reads.c (flat e_S c19.f_Reads.xs) :: row e_S.T e_S.sz c19.f_Writes.a (c19.f_Writes.xs).length c19.f_Writes.c (flat e_S c19.f_Writes.xs) :: row e_Op.T e_Op.sz c19.f_Ops.a (c19.f_Ops.xs).length c19.f_Ops.c (flat e_Op c19.f_Ops.xs) :: stars ((c19.f_Ops.xs.map Op.f_Value).map (vrow e8)) :: blk b1 (.cells #[.int .i64 t.f_Kind, .slice t.f_Reads.a (t.f_Reads.xs).length t.f_Reads.c, .slice t.f_Writes.a (t.f_Writes.xs).length t.f_Writes.c, .slice t.f_Ops.a (t.f_Ops.xs).length t.f_Ops.c, .int .i64 t.f_To] 26 (0, 0)) :: F) ++ [row e_S.T e_S.sz a29 (keysT (⟨c19.f_Kind, ⟨none, [], 0⟩, ⟨a21, keysT t, c21⟩, ⟨c19.f_Ops.a, c19.f_Ops.xs, c19.f_Ops.c⟩, c19.f_To⟩ : Txn)).length c29 (flat e_S (keysT (⟨c19.f_Kind, ⟨none, [], 0⟩, ⟨a21, keysT t, c21⟩, ⟨c19.f_Ops.a, c19.f_Ops.xs, c19.f_Ops.c⟩, c19.f_To⟩ : Txn)))]) (fun w S => S.perm (List.perm_append_comm (l₁ := [row e_S.T e_S.sz a29 (keysT (⟨c19.f_Kind, ⟨none, [], 0⟩, ⟨a21, keysT t, c21⟩, ⟨c19.f_Ops.a, c19.f_Ops.xs, c19.f_Ops.c⟩, c19.f_To⟩ : Txn)).length c29 (flat e_S (keysT (⟨c19.f_Kind, ⟨none, [], 0⟩, ⟨a21, keysT t, c21⟩, ⟨c19.f_Ops.a, c19.f_Ops.xs, c19.f_Ops.c⟩, c19.f_To⟩ : Txn)))]) (l₂ := blk b3 (.cells #[.int .i64 c19.f_Kind, .slice none 0 0, .slice a21 (keysT t).length c21, .slice c19.f_Ops.a (c19.f_Ops.xs).length c19.f_Ops.c, .int .i64 c19.f_To] 26 (0, 0)) :: row e_S.T e_S.sz a21 (keysT t).length c21 (flat e_S (keysT t)) :: row e_S.T e_S.sz c19.f_Reads.a (c19.f_Reads.xs).length c19.f_Reads.c (flat e_S c19.f_Reads.xs) :: row e_S.T e_S.sz c19.f_Writes.a (c19.f_Writes.xs).length c19.f_Writes.c (flat e_S c19.f_Writes.xs) :: row e_Op.T e_Op.sz c19.f_Ops.a (c19.f_Ops.xs).length c19.f_Ops.c (flat e_Op c19.f_Ops.xs) :: stars ((c19.f_Ops.xs.map Op.f_Value).map (vrow e8)) :: blk b1 (.cells #[.int .i64 t.f_Kind, .slice t.f_Reads.a (t.f_Reads.xs).length t.f_Reads.c, .slice t.f_Writes.a (t.f_Writes.xs).length t.f_Writes.c, .slice t.f_Ops.a (t.f_Ops.xs).length t.f_Ops.c, .int .i64 t.f_To] 26 (0, 0)) :: F))) ?_
    refine h_next ?_
    refine h_one 7 rfl (by kernel_rfl) ?_
    refine l_conv (L' := row e_S.T e_S.sz a29 (keysT (⟨c19.f_Kind, ⟨none, [], 0⟩, ⟨a21, keysT t, c21⟩, ⟨c19.f_Ops.a, c19.f_Ops.xs, c19.f_Ops.c⟩, c19.f_To⟩ : Txn)).length c29 (flat e_S (keysT (⟨c19.f_Kind, ⟨none, [], 0⟩, ⟨a21, keysT t, c21⟩, ⟨c19.f_Ops.a, c19.f_Ops.xs, c19.f_Ops.c⟩, c19.f_To⟩ : Txn))) :: blk b3 (.cells #[.int .i64 c19.f_Kind, .slice none 0 0, .slice a21 (keysT t).length c21, .slice c19.f_Ops.a (c19.f_Ops.xs).length c19.f_Ops.c, .int .i64 c19.f_To] 26 (0, 0)) :: row e_S.T e_S.sz a21 (keysT t).length c21 (flat e_S (keysT t)) :: row e_S.T e_S.sz c19.f_Reads.a (c19.f_Reads.xs).length c19.f_Reads.c (flat e_S c19.f_Reads.xs) :: row e_S.T e_S.sz c19.f_Writes.a (c19.f_Writes.xs).length c19.f_Writes.c (flat e_S c19.f_Writes.xs) :: row e_Op.T e_Op.sz c19.f_Ops.a (c19.f_Ops.xs).length c19.f_Ops.c (flat e_Op c19.f_Ops.xs) :: stars ((c19.f_Ops.xs.map Op.f_Value).map (vrow e8)) :: blk b1 (.cells #[.int .i64 t.f_Kind, .slice t.f_Reads.a (t.f_Reads.xs).length t.f_Reads.c, .slice t.f_Writes.a (t.f_Writes.xs).length t.f_Writes.c, .slice t.f_Ops.a (t.f_Ops.xs).length t.f_Ops.c, .int .i64 t.f_To] 26 (0, 0)) :: F) (fun w S => S.perm List.perm_append_comm) ?_
    refine o_yes rfl rfl rfl ?_
    refine o_call rfl cal18 rfl (keys_ (t := t) (TxR.c (TxR.c (TxR.c (TxR.c (TxR.c (TxR.c (TxR.c (TxR.c T_t)))))))) (by first | omega | (show List.length [] + (keysT t).length ≤ _; simp only [List.length_nil]; omega))) ?_
    rintro _ _ ⟨a31, c31, rfl, rfl⟩
    refine l_nil ?_
    refine q_conv (L' := (blk b3 (.cells #[.int .i64 c19.f_Kind, .slice none 0 0, .slice a21 (keysT t).length c21, .slice c19.f_Ops.a (c19.f_Ops.xs).length c19.f_Ops.c, .int .i64 c19.f_To] 26 (0, 0)) :: row e_S.T e_S.sz a21 (keysT t).length c21 (flat e_S (keysT t)) :: row e_S.T e_S.sz c19.f_Reads.a (c19.f_Reads.xs).length c19.f_Reads.c (flat e_S c19.f_Reads.xs) :: row e_S.T e_S.sz c19.f_Writes.a (c19.f_Writes.xs).length c19.f_Writes.c (flat e_S c19.f_Writes.xs) :: row e_Op.T e_Op.sz c19.f_Ops.a (c19.f_Ops.xs).length c19.f_Ops.c (flat e_Op c19.f_Ops.xs) :: stars ((c19.f_Ops.xs.map Op.f_Value).map (vrow e8)) :: blk b1 (.cells #[.int .i64 t.f_Kind, .slice t.f_Reads.a (t.f_Reads.xs).length t.f_Reads.c, .slice t.f_Writes.a (t.f_Writes.xs).length t.f_Writes.c, .slice t.f_Ops.a (t.f_Ops.xs).length t.f_Ops.c, .int .i64 t.f_To] 26 (0, 0)) :: F) ++ [row e_S.T e_S.sz a31 (keysT t).length c31 (flat e_S (keysT t)), row e_S.T e_S.sz a29 (keysT (⟨c19.f_Kind, ⟨none, [], 0⟩, ⟨a21, keysT t, c21⟩, ⟨c19.f_Ops.a, c19.f_Ops.xs, c19.f_Ops.c⟩, c19.f_To⟩ : Txn)).length c29 (flat e_S (keysT (⟨c19.f_Kind, ⟨none, [], 0⟩, ⟨a21, keysT t, c21⟩, ⟨c19.f_Ops.a, c19.f_Ops.xs, c19.f_Ops.c⟩, c19.f_To⟩ : Txn)))]) (fun w S => S.perm (List.perm_append_comm (l₁ := [row e_S.T e_S.sz a31 (keysT t).length c31 (flat e_S (keysT t)), row e_S.T e_S.sz a29 (keysT (⟨c19.f_Kind, ⟨none, [], 0⟩, ⟨a21, keysT t, c21⟩, ⟨c19.f_Ops.a, c19.f_Ops.xs, c19.f_Ops.c⟩, c19.f_To⟩ : Txn)).length c29 (flat e_S (keysT (⟨c19.f_Kind, ⟨none, [], 0⟩, ⟨a21, keysT t, c21⟩, ⟨c19.f_Ops.a, c19.f_Ops.xs, c19.f_Ops.c⟩, c19.f_To⟩ : Txn)))]) (l₂ := blk b3 (.cells #[.int .i64 c19.f_Kind, .slice none 0 0, .slice a21 (keysT t).length c21, .slice c19.f_Ops.a (c19.f_Ops.xs).length c19.f_Ops.c, .int .i64 c19.f_To] 26 (0, 0)) :: row e_S.T e_S.sz a21 (keysT t).length c21 (flat e_S (keysT t)) :: row e_S.T e_S.sz c19.f_Reads.a (c19.f_Reads.xs).length c19.f_Reads.c (flat e_S c19.f_Reads.xs) :: row e_S.T e_S.sz c19.f_Writes.a (c19.f_Writes.xs).length c19.f_Writes.c (flat e_S c19.f_Writes.xs) :: row e_Op.T e_Op.sz c19.f_Ops.a (c19.f_Ops.xs).length c19.f_Ops.c (flat e_Op c19.f_Ops.xs) :: stars ((c19.f_Ops.xs.map Op.f_Value).map (vrow e8)) :: blk b1 (.cells #[.int .i64 t.f_Kind, .slice t.f_Reads.a (t.f_Reads.xs).length t.f_Reads.c, .slice t.f_Writes.a (t.f_Writes.xs).length t.f_Writes.c, .slice t.f_Ops.a (t.f_Ops.xs).length t.f_Ops.c, .int .i64 t.f_To] 26 (0, 0)) :: F))) ?_
    refine h_next ?_
    refine h_one 8 rfl (by kernel_rfl) ?_
    refine l_conv (L' := row e_S.T e_S.sz a31 (keysT t).length c31 (flat e_S (keysT t)) :: row e_S.T e_S.sz a29 (keysT (⟨c19.f_Kind, ⟨none, [], 0⟩, ⟨a21, keysT t, c21⟩, ⟨c19.f_Ops.a, c19.f_Ops.xs, c19.f_Ops.c⟩, c19.f_To⟩ : Txn)).length c29 (flat e_S (keysT (⟨c19.f_Kind, ⟨none, [], 0⟩, ⟨a21, keysT t, c21⟩, ⟨c19.f_Ops.a, c19.f_Ops.xs, c19.f_Ops.c⟩, c19.f_To⟩ : Txn))) :: blk b3 (.cells #[.int .i64 c19.f_Kind, .slice none 0 0, .slice a21 (keysT t).length c21, .slice c19.f_Ops.a (c19.f_Ops.xs).length c19.f_Ops.c, .int .i64 c19.f_To] 26 (0, 0)) :: row e_S.T e_S.sz a21 (keysT t).length c21 (flat e_S (keysT t)) :: row e_S.T e_S.sz c19.f_Reads.a (c19.f_Reads.xs).length c19.f_Reads.c (flat e_S c19.f_Reads.xs) :: row e_S.T e_S.sz c19.f_Writes.a (c19.f_Writes.xs).length c19.f_Writes.c (flat e_S c19.f_Writes.xs) :: row e_Op.T e_Op.sz c19.f_Ops.a (c19.f_Ops.xs).length c19.f_Ops.c (flat e_Op c19.f_Ops.xs) :: stars ((c19.f_Ops.xs.map Op.f_Value).map (vrow e8)) :: blk b1 (.cells #[.int .i64 t.f_Kind, .slice t.f_Reads.a (t.f_Reads.xs).length t.f_Reads.c, .slice t.f_Writes.a (t.f_Writes.xs).length t.f_Writes.c, .slice t.f_Ops.a (t.f_Ops.xs).length t.f_Ops.c, .int .i64 t.f_To] 26 (0, 0)) :: F) (fun w S => S.perm List.perm_append_comm) ?_
    refine o_yes rfl rfl rfl ?_
    refine o_call rfl cal19 rfl (sameTexts_ (rds_own e_S_ok 1 rfl) (by first | omega | (rw [keysT_wide]; omega)) (rds_own e_S_ok 0 rfl)) ?_
    rintro _ _ ⟨rfl, rfl⟩
    refine l_nil ?_
    refine q_conv (L' := (blk b3 (.cells #[.int .i64 c19.f_Kind, .slice none 0 0, .slice a21 (keysT t).length c21, .slice c19.f_Ops.a (c19.f_Ops.xs).length c19.f_Ops.c, .int .i64 c19.f_To] 26 (0, 0)) :: row e_S.T e_S.sz a21 (keysT t).length c21 (flat e_S (keysT t)) :: row e_S.T e_S.sz c19.f_Reads.a (c19.f_Reads.xs).length c19.f_Reads.c (flat e_S c19.f_Reads.xs) :: row e_S.T e_S.sz c19.f_Writes.a (c19.f_Writes.xs).length c19.f_Writes.c (flat e_S c19.f_Writes.xs) :: row e_Op.T e_Op.sz c19.f_Ops.a (c19.f_Ops.xs).length c19.f_Ops.c (flat e_Op c19.f_Ops.xs) :: stars ((c19.f_Ops.xs.map Op.f_Value).map (vrow e8)) :: blk b1 (.cells #[.int .i64 t.f_Kind, .slice t.f_Reads.a (t.f_Reads.xs).length t.f_Reads.c, .slice t.f_Writes.a (t.f_Writes.xs).length t.f_Writes.c, .slice t.f_Ops.a (t.f_Ops.xs).length t.f_Ops.c, .int .i64 t.f_To] 26 (0, 0)) :: F) ++ [row e_S.T e_S.sz a31 (keysT t).length c31 (flat e_S (keysT t)), row e_S.T e_S.sz a29 (keysT (⟨c19.f_Kind, ⟨none, [], 0⟩, ⟨a21, keysT t, c21⟩, ⟨c19.f_Ops.a, c19.f_Ops.xs, c19.f_Ops.c⟩, c19.f_To⟩ : Txn)).length c29 (flat e_S (keysT (⟨c19.f_Kind, ⟨none, [], 0⟩, ⟨a21, keysT t, c21⟩, ⟨c19.f_Ops.a, c19.f_Ops.xs, c19.f_Ops.c⟩, c19.f_To⟩ : Txn)))]) (fun w S => S.perm (List.perm_append_comm (l₁ := [row e_S.T e_S.sz a31 (keysT t).length c31 (flat e_S (keysT t)), row e_S.T e_S.sz a29 (keysT (⟨c19.f_Kind, ⟨none, [], 0⟩, ⟨a21, keysT t, c21⟩, ⟨c19.f_Ops.a, c19.f_Ops.xs, c19.f_Ops.c⟩, c19.f_To⟩ : Txn)).length c29 (flat e_S (keysT (⟨c19.f_Kind, ⟨none, [], 0⟩, ⟨a21, keysT t, c21⟩, ⟨c19.f_Ops.a, c19.f_Ops.xs, c19.f_Ops.c⟩, c19.f_To⟩ : Txn)))]) (l₂ := blk b3 (.cells #[.int .i64 c19.f_Kind, .slice none 0 0, .slice a21 (keysT t).length c21, .slice c19.f_Ops.a (c19.f_Ops.xs).length c19.f_Ops.c, .int .i64 c19.f_To] 26 (0, 0)) :: row e_S.T e_S.sz a21 (keysT t).length c21 (flat e_S (keysT t)) :: row e_S.T e_S.sz c19.f_Reads.a (c19.f_Reads.xs).length c19.f_Reads.c (flat e_S c19.f_Reads.xs) :: row e_S.T e_S.sz c19.f_Writes.a (c19.f_Writes.xs).length c19.f_Writes.c (flat e_S c19.f_Writes.xs) :: row e_Op.T e_Op.sz c19.f_Ops.a (c19.f_Ops.xs).length c19.f_Ops.c (flat e_Op c19.f_Ops.xs) :: stars ((c19.f_Ops.xs.map Op.f_Value).map (vrow e8)) :: blk b1 (.cells #[.int .i64 t.f_Kind, .slice t.f_Reads.a (t.f_Reads.xs).length t.f_Reads.c, .slice t.f_Writes.a (t.f_Writes.xs).length t.f_Writes.c, .slice t.f_Ops.a (t.f_Ops.xs).length t.f_Ops.c, .int .i64 t.f_To] 26 (0, 0)) :: F))) ?_
    refine h_next ?_
    refine h_eq (t := 32) (v' := .bool true) rfl (show _ = Value.bool true from by rw [keysT_wide]; simp) ?_
    refine h_take 9 rfl rfl (by kernel_rfl) (by kernel_rfl) (by kernel_rfl) (fun L0 => v_pick_true rfl rfl rfl) ?_
    refine h_take 10 rfl rfl (by kernel_rfl) (by kernel_rfl) (by kernel_rfl) (fun L0 => v_assign rfl rfl) ?_
    refine h_done (by kernel_rfl) ?_
    refine q_conv (L' := row e_S.T e_S.sz a31 (keysT t).length c31 (flat e_S (keysT t)) :: row e_S.T e_S.sz a29 (keysT (⟨c19.f_Kind, ⟨none, [], 0⟩, ⟨a21, keysT t, c21⟩, ⟨c19.f_Ops.a, c19.f_Ops.xs, c19.f_Ops.c⟩, c19.f_To⟩ : Txn)).length c29 (flat e_S (keysT (⟨c19.f_Kind, ⟨none, [], 0⟩, ⟨a21, keysT t, c21⟩, ⟨c19.f_Ops.a, c19.f_Ops.xs, c19.f_Ops.c⟩, c19.f_To⟩ : Txn))) :: blk b3 (.cells #[.int .i64 c19.f_Kind, .slice none 0 0, .slice a21 (keysT t).length c21, .slice c19.f_Ops.a (c19.f_Ops.xs).length c19.f_Ops.c, .int .i64 c19.f_To] 26 (0, 0)) :: row e_S.T e_S.sz a21 (keysT t).length c21 (flat e_S (keysT t)) :: row e_S.T e_S.sz c19.f_Reads.a (c19.f_Reads.xs).length c19.f_Reads.c (flat e_S c19.f_Reads.xs) :: row e_S.T e_S.sz c19.f_Writes.a (c19.f_Writes.xs).length c19.f_Writes.c (flat e_S c19.f_Writes.xs) :: row e_Op.T e_Op.sz c19.f_Ops.a (c19.f_Ops.xs).length c19.f_Ops.c (flat e_Op c19.f_Ops.xs) :: stars ((c19.f_Ops.xs.map Op.f_Value).map (vrow e8)) :: blk b1 (.cells #[.int .i64 t.f_Kind, .slice t.f_Reads.a (t.f_Reads.xs).length t.f_Reads.c, .slice t.f_Writes.a (t.f_Writes.xs).length t.f_Writes.c, .slice t.f_Ops.a (t.f_Ops.xs).length t.f_Ops.c, .int .i64 t.f_To] 26 (0, 0)) :: F) (fun w S => S.perm List.perm_append_comm) ?_
    refine q_then ?_
    refine c_ret ?_
    refine q_conv (fun w S => S.tail) ?_
    refine q_conv (fun w S => S.tail) ?_
    refine q_conv (fun w S => S.tail) ?_
    refine q_conv (fun w S => S.tail) ?_
    refine q_conv (fun w S => S.tail) ?_
    refine q_conv (fun w S => S.tail) ?_
    refine q_conv (fun w S => S.tail) ?_
    refine q_conv (fun w S => S.tail) ?_
    refine q_conv (fun w S => S.tail) ?_
    exact f_ret (r_one rfl rfl) (⟨rfl, rfl⟩) (fun w S => S)

end Go.Proofs.Ytllclglbfdncnaa
