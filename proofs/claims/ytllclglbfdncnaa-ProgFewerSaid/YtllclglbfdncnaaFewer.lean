/- Printed by eng2.py out of 05/spec.py. -/
import Derived.Test.YtllclglbfdncnaaBits
import Derived.Test.YtllclglbfdncnaaNames
import Derived.Test.YtllclglbfdncnaaRCopy
import Derived.Test.YtllclglbfdncnaaKeys
import Derived.Test.YtllclglbfdncnaaArgs
import Derived.Test.YtllclglbfdncnaaMod2
set_option linter.unusedVariables false
set_option linter.unusedSimpArgs false
set_option maxRecDepth 10000
namespace Go.Proofs.Ytllclglbfdncnaa
open Go.RowKit Classical
set_option maxHeartbeats 2000000 in
theorem fewer_ {W : World} {F : List Res} {g k : Int} {t : Txn} (T_t : TxR W F t) : CS Try.prog 6 #[.agg #[.int .i64 t.f_Kind, .slice t.f_Reads.a (t.f_Reads.xs).length t.f_Reads.c, .slice t.f_Writes.a (t.f_Writes.xs).length t.f_Writes.c, .slice t.f_Ops.a (t.f_Ops.xs).length t.f_Ops.c, .int .i64 t.f_To], .int .i64 g, .int .i64 k] W (F) (fun r L' => r = .bool true ∧ F = L') := by
 refine f_door (l0 := [(0, .agg #[.int .i64 t.f_Kind, .slice t.f_Reads.a (t.f_Reads.xs).length t.f_Reads.c, .slice t.f_Writes.a (t.f_Writes.xs).length t.f_Writes.c, .slice t.f_Ops.a (t.f_Ops.xs).length t.f_Ops.c, .int .i64 t.f_To]), (1, .int .i64 g), (2, .int .i64 k)]) Try.func6 Try.ntmps6 rfl rfl rfl ?_
 refine c_seq ?_
 refine c_region ?_
 refine o_box rfl rfl fun b3 => ?_
 refine o_assign rfl rfl ?_
 refine l_nil ?_
 refine q_then ?_
 refine c_seq ?_
 refine c_seq ?_
 refine c_region ?_
 refine o_call rfl cal10 rfl (speaks_) ?_
 rintro _ _ ⟨rfl, rfl⟩
 refine o_not rfl rfl ?_
 refine l_nil ?_
 refine q_then ?_
 refine c_false rfl ?_
 refine c_skip ?_
 refine q_then ?_
 refine c_seq ?_
 refine c_seq ?_
 refine c_region ?_
 refine o_loadn (vs := [_, _, _, _, _]) rfl rfl Try.underlying26 rfl ti26 (rdn_lit 0 rfl rfl) ?_
 refine o_call rfl cal11 rfl (great_ (t := t) (TxR.c T_t)) ?_
 rintro _ _ ⟨g13, hg13, rfl, rfl⟩
 refine o_move rfl rfl ?_
 refine l_split (t := 14) rfl (fun h1 => ?_) (fun h1 => ?_)
 · -- h1T
  have h1b := h1
  try simp only [decide_eq_true_eq, decide_eq_false_iff_not, Bool.not_eq_eq_eq_not, Bool.not_true, Bool.not_false, Bool.not_eq_true', Bool.not_eq_false', Int.not_lt, Int.not_le, Bool.or_eq_true, Bool.and_eq_true] at h1
  refine o_no rfl rfl rfl rfl ?_
  refine o_no rfl rfl rfl rfl ?_
  refine o_no rfl rfl rfl rfl ?_
  refine o_no rfl rfl rfl rfl ?_
  refine o_pick_true rfl rfl rfl ?_
  refine l_nil ?_
  refine q_then ?_
  refine c_true rfl ?_
  refine c_seq ?_
  refine c_region ?_
  refine o_assign rfl rfl ?_
  refine l_nil ?_
  refine q_then ?_
  refine c_ret ?_
  refine q_pass_ret ?_
  refine q_conv (fun w S => S.tail) ?_
  exact f_ret (r_one rfl rfl) (⟨rfl, rfl⟩) (fun w S => S)
 · -- h1F
  have h1b := h1
  try simp only [decide_eq_true_eq, decide_eq_false_iff_not, Bool.not_eq_eq_eq_not, Bool.not_true, Bool.not_false, Bool.not_eq_true', Bool.not_eq_false', Int.not_lt, Int.not_le, Bool.or_eq_true, Bool.and_eq_true] at h1
  refine o_yes rfl rfl rfl ?_
  refine o_loadn (vs := [_, _, _, _, _]) rfl rfl Try.underlying26 rfl ti26 (rdn_lit 0 rfl rfl) ?_
  refine o_yes rfl rfl rfl ?_
  refine o_move rfl rfl ?_
  refine o_yes rfl rfl rfl ?_
  refine o_call rfl cal13 rfl (check_ (t := t) (g := g) (TxR.c T_t)) ?_
  rintro _ _ ⟨rfl, rfl⟩
  refine o_yes rfl rfl rfl ?_
  refine o_bin rfl rfl rfl b_neq ?_
  refine o_pick_false rfl rfl rfl ?_
  refine l_nil ?_
  refine q_then ?_
  refine c_cond rfl (fun h2 => ?_) (fun h2 => ?_)
  · -- h2T
   have h2b := h2
   try simp only [Bool.not_eq_true', decide_eq_false_iff_not, Int.not_lt, Int.not_le] at h2
   refine c_seq ?_
   refine c_region ?_
   refine o_assign rfl rfl ?_
   refine l_nil ?_
   refine q_then ?_
   refine c_ret ?_
   refine q_pass_ret ?_
   refine q_conv (fun w S => S.tail) ?_
   exact f_ret (r_one rfl rfl) (⟨rfl, rfl⟩) (fun w S => S)
  · -- h2F
   have h2b := h2
   try simp only [Bool.not_eq_false', decide_eq_true_eq] at h2
   refine c_skip ?_
   refine q_then ?_
   refine c_seq ?_
   refine c_seq ?_
   have hch : chkN t g = 0 := by simpa using h2
   have hg1 := (chkN_0.1 hch).1
   have hsm := hg13 (by assumption)
   have hsr := hsm.r
   have hsw := hsm.w
   have hso := hsm.o
   refine c_region ?_
   refine o_move rfl rfl ?_
   refine o_assign rfl rfl ?_
   refine l_nil ?_
   refine q_then ?_
   refine c_block ?_
   refine c_loop (α := Int) (fun z => [(1, .int .i64 g), (2, .int .i64 k), (3, .pointer (some ⟨b3, 0, none⟩)), (7, .int .i64 z)]) (fun z => blk b3 (.cells #[.int .i64 t.f_Kind, .slice t.f_Reads.a (t.f_Reads.xs).length t.f_Reads.c, .slice t.f_Writes.a (t.f_Writes.xs).length t.f_Writes.c, .slice t.f_Ops.a (t.f_Ops.xs).length t.f_Ops.c, .int .i64 t.f_To] 26 (0, 0)) :: F) (fun z => g ≤ z) (fun z => (4 - z).toNat) (g) (by exact Int.le_refl _) ⟨(by first | rfl | exact vint (by omega)), (by first | rfl | exact vint (by omega)), (by first | rfl | exact vint (by omega)), (by first | rfl | exact vint (by omega)), trivial⟩ (fun w S => S) ?_
   rintro n hn
   try dsimp only at *
   refine c_seq ?_
   refine c_seq ?_
   refine c_region ?_
   refine o_move rfl rfl ?_
   refine o_bin rfl rfl rfl b_leq ?_
   refine l_nil ?_
   refine q_then ?_
   refine c_cond rfl (fun h3 => ?_) (fun h3 => ?_)
   · -- h3T
    have h3b := h3
    try simp only [decide_eq_true_eq] at h3
    refine c_skip ?_
    refine q_then ?_
    refine c_seq ?_
    refine c_block ?_
    refine c_seq ?_
    refine c_region ?_
    refine o_loadn (vs := [_, _, _, _, _]) rfl rfl Try.underlying26 rfl ti26 (rdn_lit 0 rfl rfl) ?_
    refine o_move rfl rfl ?_
    refine o_call rfl cal13 rfl (check_ (t := t) (g := n) (TxR.c T_t)) ?_
    rintro _ _ ⟨rfl, rfl⟩
    refine o_bin rfl rfl rfl b_neq ?_
    refine l_eq (t := 28) (v' := .bool false) rfl (by rw [chk_more hch hn (by omega)]; rfl) ?_
    refine l_nil ?_
    refine q_then ?_
    refine c_false rfl ?_
    refine c_skip ?_
    refine q_block ?_
    refine q_then ?_
    refine c_region ?_
    refine o_move rfl rfl ?_
    refine o_bin rfl rfl rfl (b_add (wrap_i64 (by omega) (by omega))) ?_
    refine o_assign rfl rfl ?_
    refine l_nil ?_
    exact q_round (n + 1) (by omega) (by (try dsimp only); omega) ⟨(by first | rfl | exact vint (by omega)), (by first | rfl | exact vint (by omega)), (by first | rfl | exact vint (by omega)), (by first | rfl | exact vint (by omega)), trivial⟩ (fun w S => S)
   · -- h3F
    have h3b := h3
    try simp only [decide_eq_false_iff_not, Int.not_lt, Int.not_le] at h3
    refine c_exit ?_
    refine q_pass_exit ?_
    refine q_pass_exit ?_
    refine q_hit ?_
    refine q_then ?_
    refine c_seq ?_
    refine c_seq ?_
    refine c_region ?_
    refine o_fieldAddr (q := ⟨b3, 3, none⟩) rfl rfl Try.underlying26 rfl ti24 rfl ?_
    refine o_load1 rfl rfl Try.underlying24 rfl (rd_mem 0 rfl rfl) ?_
    refine o_len rfl rfl Try.underlying24 ?_
    refine o_bin rfl rfl rfl b_eql ?_
    refine l_nil ?_
    refine q_then ?_
    refine c_cond rfl (fun h4 => ?_) (fun h4 => ?_)
    · -- h4T
     have h4b := h4
     try simp only [decide_eq_true_eq] at h4
     refine c_seq ?_
     refine c_region ?_
     refine o_assign rfl rfl ?_
     refine l_nil ?_
     refine q_then ?_
     refine c_ret ?_
     refine q_pass_ret ?_
     refine q_conv (fun w S => S.tail) ?_
     exact f_ret (r_one rfl rfl) (⟨rfl, rfl⟩) (fun w S => S)
    · -- h4F
     have h4b := h4
     try simp only [decide_eq_false_iff_not, Int.not_lt, Int.not_le] at h4
     refine c_skip ?_
     refine q_then ?_
     refine c_seq ?_
     refine c_region ?_
     refine o_loadn (vs := [_, _, _, _, _]) rfl rfl Try.underlying26 rfl ti26 (rdn_lit 0 rfl rfl) ?_
     refine o_call rfl cal12 rfl (copy_ (t := t) (TxR.c T_t) (hg13 (by assumption))) ?_
     rintro _ _ ⟨c34, hs_c34, rfl, rfl⟩
     have L_c34 : TxLen c34 := TxLen.same T_t.len hs_c34
     refine o_alloc rfl ti26 fun b8 => ?_
     refine o_storen rfl rfl ti26 rfl rfl rfl rfl ?_
     refine l_nil ?_
     refine q_then ?_
     refine c_seq ?_
     refine c_conv (fun w S => S.perm p1) ?_
     refine c_conv (L' := row e_S.T e_S.sz c34.f_Reads.a (c34.f_Reads.xs).length c34.f_Reads.c (flat e_S c34.f_Reads.xs) :: row e_S.T e_S.sz c34.f_Writes.a (c34.f_Writes.xs).length c34.f_Writes.c (flat e_S c34.f_Writes.xs) :: row e_Op.T e_Op.sz c34.f_Ops.a (c34.f_Ops.xs).length c34.f_Ops.c (flat e_Op c34.f_Ops.xs) :: stars ((c34.f_Ops.xs.map Op.f_Value).map (vrow e8)) :: blk b8 (.cells #[.int .i64 c34.f_Kind, .slice c34.f_Reads.a (c34.f_Reads.xs).length c34.f_Reads.c, .slice c34.f_Writes.a (c34.f_Writes.xs).length c34.f_Writes.c, .slice c34.f_Ops.a (c34.f_Ops.xs).length c34.f_Ops.c, .int .i64 c34.f_To] 26 (0, 0)) :: blk b3 (.cells #[.int .i64 t.f_Kind, .slice t.f_Reads.a (t.f_Reads.xs).length t.f_Reads.c, .slice t.f_Writes.a (t.f_Writes.xs).length t.f_Writes.c, .slice t.f_Ops.a (t.f_Ops.xs).length t.f_Ops.c, .int .i64 t.f_To] 26 (0, 0)) :: F) (fun w S => Sat.flat (Ls := txL c34) S) ?_
     have hol : c34.f_Ops.xs.length = t.f_Ops.xs.length := hs_c34.2.2.2.2.1
     refine c_region ?_
     refine o_move rfl rfl ?_
     refine o_bin rfl rfl rfl (b_and rfl) ?_
     obtain ⟨q36, hq36, eq36⟩ := band64 k 1023 (by omega)
     refine l_eq (t := 36) (v' := .int .i64 (q36 : Int)) rfl (by first | exact congrArg _ eq36) ?_
     refine o_fieldAddr (q := ⟨b8, 3, none⟩) rfl rfl Try.underlying26 rfl ti24 rfl ?_
     refine o_load1 rfl rfl Try.underlying24 rfl (rd_mem 4 rfl rfl) ?_
     refine o_len rfl rfl Try.underlying24 ?_
     refine o_bin rfl rfl rfl (b_rem (by omega) rfl) ?_
     have hm40 : q36 % c34.f_Ops.xs.length < c34.f_Ops.xs.length := Nat.mod_lt _ (by omega)
     obtain ⟨m40, hmq⟩ : ∃ m, m = q36 % c34.f_Ops.xs.length := ⟨_, rfl⟩
     rw [← hmq] at hm40
     refine l_eq (t := 40) (v' := .int .i64 (m40 : Int)) rfl (by rw [hmq, tmodI]) ?_
     refine o_assign rfl rfl ?_
     refine l_nil ?_
     refine q_then ?_
     refine c_seq ?_
     refine c_conv (fun w S => S.perm p2) ?_
     refine c_rowcap ?_
     intro hrc
     have hrc1 := hrc.1
     refine c_conv (fun w S => S.perm p4) ?_
     refine c_conv (fun w S => S.perm p1) ?_
     refine c_conv (fun w S => S.perm p5) ?_
     refine c_conv (fun w S => S.perm p5) ?_
     refine c_conv (fun w S => S.perm p5) ?_
     refine c_conv (fun w S => S.perm p5) ?_
     refine c_conv (fun w S => S.perm p3) ?_
     refine c_conv (fun w S => S.perm p3) ?_
     refine c_conv (fun w S => S.perm p3) ?_
     refine c_conv (fun w S => S.perm p3) ?_
     refine c_conv (fun w S => S.perm p5) ?_
     refine c_conv (fun w S => S.perm p5) ?_
     refine c_heldF [row e_Op.T e_Op.sz c34.f_Ops.a (c34.f_Ops.xs).length c34.f_Ops.c (flat e_Op c34.f_Ops.xs), blk b8 (.cells #[.int .i64 c34.f_Kind, .slice c34.f_Reads.a (c34.f_Reads.xs).length c34.f_Reads.c, .slice c34.f_Writes.a (c34.f_Writes.xs).length c34.f_Writes.c, .slice c34.f_Ops.a (c34.f_Ops.xs).length c34.f_Ops.c, .int .i64 c34.f_To] 26 (0, 0))] (row e_S.T e_S.sz c34.f_Reads.a (c34.f_Reads.xs).length c34.f_Reads.c (flat e_S c34.f_Reads.xs) :: row e_S.T e_S.sz c34.f_Writes.a (c34.f_Writes.xs).length c34.f_Writes.c (flat e_S c34.f_Writes.xs) :: stars ((c34.f_Ops.xs.map Op.f_Value).map (vrow e8)) :: blk b3 (.cells #[.int .i64 t.f_Kind, .slice t.f_Reads.a (t.f_Reads.xs).length t.f_Reads.c, .slice t.f_Writes.a (t.f_Writes.xs).length t.f_Writes.c, .slice t.f_Ops.a (t.f_Ops.xs).length t.f_Ops.c, .int .i64 t.f_To] 26 (0, 0)) :: F) (by kernel_rfl) ?_
     refine h_take 0 rfl rfl (by kernel_rfl) (by kernel_rfl) (by kernel_rfl) (fun L0 => v_fieldAddr (q := ⟨b8, 3, none⟩) rfl rfl Try.underlying26 rfl ti24 rfl) ?_
     refine h_take 2 rfl rfl (by kernel_rfl) (by kernel_rfl) (by kernel_rfl) (fun L0 => v_move rfl rfl) ?_
     refine h_take 3 rfl rfl (by kernel_rfl) (by kernel_rfl) (by kernel_rfl) (fun L0 => v_move rfl rfl) ?_
     refine h_take 5 rfl rfl (by kernel_rfl) (by kernel_rfl) (by kernel_rfl) (fun L0 => v_fieldAddr (q := ⟨b8, 3, none⟩) rfl rfl Try.underlying26 rfl ti24 rfl) ?_
     refine h_take 7 rfl rfl (by kernel_rfl) (by kernel_rfl) (by kernel_rfl) (fun L0 => v_move rfl rfl) ?_
     refine h_take 8 rfl rfl (by kernel_rfl) (by kernel_rfl) (by kernel_rfl) (fun L0 => v_bin rfl rfl rfl (b_add (wrap_i64 (by omega) (by omega)))) ?_
     refine h_many (is := [1, 6]) (by kernel_rfl) (by decide) (forall_cons ⟨_, rfl, ?_⟩ (forall_cons ⟨_, rfl, ?_⟩ forall_nil))
     · -- 1 comes first
      refine l_conv (L' := row e_Op.T e_Op.sz c34.f_Ops.a (c34.f_Ops.xs).length c34.f_Ops.c (flat e_Op c34.f_Ops.xs) :: blk b8 (.cells #[.int .i64 c34.f_Kind, .slice c34.f_Reads.a (c34.f_Reads.xs).length c34.f_Reads.c, .slice c34.f_Writes.a (c34.f_Writes.xs).length c34.f_Writes.c, .slice c34.f_Ops.a (c34.f_Ops.xs).length c34.f_Ops.c, .int .i64 c34.f_To] 26 (0, 0)) :: row e_S.T e_S.sz c34.f_Reads.a (c34.f_Reads.xs).length c34.f_Reads.c (flat e_S c34.f_Reads.xs) :: row e_S.T e_S.sz c34.f_Writes.a (c34.f_Writes.xs).length c34.f_Writes.c (flat e_S c34.f_Writes.xs) :: stars ((c34.f_Ops.xs.map Op.f_Value).map (vrow e8)) :: blk b3 (.cells #[.int .i64 t.f_Kind, .slice t.f_Reads.a (t.f_Reads.xs).length t.f_Reads.c, .slice t.f_Writes.a (t.f_Writes.xs).length t.f_Writes.c, .slice t.f_Ops.a (t.f_Ops.xs).length t.f_Ops.c, .int .i64 t.f_To] 26 (0, 0)) :: F) (fun w S => S.perm List.perm_append_comm) ?_
      refine o_load1 rfl rfl Try.underlying24 rfl (rd_mem 1 rfl rfl) ?_
      refine l_nil ?_
      refine q_conv (L' := (row e_S.T e_S.sz c34.f_Reads.a (c34.f_Reads.xs).length c34.f_Reads.c (flat e_S c34.f_Reads.xs) :: row e_S.T e_S.sz c34.f_Writes.a (c34.f_Writes.xs).length c34.f_Writes.c (flat e_S c34.f_Writes.xs) :: stars ((c34.f_Ops.xs.map Op.f_Value).map (vrow e8)) :: blk b3 (.cells #[.int .i64 t.f_Kind, .slice t.f_Reads.a (t.f_Reads.xs).length t.f_Reads.c, .slice t.f_Writes.a (t.f_Writes.xs).length t.f_Writes.c, .slice t.f_Ops.a (t.f_Ops.xs).length t.f_Ops.c, .int .i64 t.f_To] 26 (0, 0)) :: F) ++ [row e_Op.T e_Op.sz c34.f_Ops.a (c34.f_Ops.xs).length c34.f_Ops.c (flat e_Op c34.f_Ops.xs), blk b8 (.cells #[.int .i64 c34.f_Kind, .slice c34.f_Reads.a (c34.f_Reads.xs).length c34.f_Reads.c, .slice c34.f_Writes.a (c34.f_Writes.xs).length c34.f_Writes.c, .slice c34.f_Ops.a (c34.f_Ops.xs).length c34.f_Ops.c, .int .i64 c34.f_To] 26 (0, 0))]) (fun w S => S.perm (List.perm_append_comm (l₁ := [row e_Op.T e_Op.sz c34.f_Ops.a (c34.f_Ops.xs).length c34.f_Ops.c (flat e_Op c34.f_Ops.xs), blk b8 (.cells #[.int .i64 c34.f_Kind, .slice c34.f_Reads.a (c34.f_Reads.xs).length c34.f_Reads.c, .slice c34.f_Writes.a (c34.f_Writes.xs).length c34.f_Writes.c, .slice c34.f_Ops.a (c34.f_Ops.xs).length c34.f_Ops.c, .int .i64 c34.f_To] 26 (0, 0))]) (l₂ := row e_S.T e_S.sz c34.f_Reads.a (c34.f_Reads.xs).length c34.f_Reads.c (flat e_S c34.f_Reads.xs) :: row e_S.T e_S.sz c34.f_Writes.a (c34.f_Writes.xs).length c34.f_Writes.c (flat e_S c34.f_Writes.xs) :: stars ((c34.f_Ops.xs.map Op.f_Value).map (vrow e8)) :: blk b3 (.cells #[.int .i64 t.f_Kind, .slice t.f_Reads.a (t.f_Reads.xs).length t.f_Reads.c, .slice t.f_Writes.a (t.f_Writes.xs).length t.f_Writes.c, .slice t.f_Ops.a (t.f_Ops.xs).length t.f_Ops.c, .int .i64 t.f_To] 26 (0, 0)) :: F))) ?_
      refine h_next ?_
      refine h_take 4 rfl rfl (by kernel_rfl) (by kernel_rfl) (by kernel_rfl) (fun L0 => v_cut (l' := 0) (h' := m40) (m := m40) rfl rfl Try.underlying24 ti35 (.inr ⟨_, _, rfl, icast rfl (by omega), (by omega)⟩) (.inr ⟨_, _, rfl, icast rfl (by omega), (by omega)⟩) (.inl ⟨rfl, rfl⟩)) ?_
      obtain ⟨ys45, ay45, cut45, hys45, hlys45, eay45⟩ : ∃ ys_ ay_, (∀ {L : List Res}, RdS W L e_Op c34.f_Ops.a c34.f_Ops.xs → RdS W L e_Op ay_ ys_) ∧ ys_ = sub c34.f_Ops.xs 0 m40 ∧ ys_.length = m40 - 0 ∧ cutA c34.f_Ops.a m40 0 4 = ay_ := ⟨_, _, fun h => rds_cut e_Op_ok h _ _ _ (by omega), rfl, sub_len (by omega), rfl⟩
      refine h_eq (t := 45) (v' := .slice ay45 ys45.length (m40 - 0)) rfl (by rw [eay45, hlys45]) ?_
      refine h_one 6 rfl (by kernel_rfl) ?_
      refine l_conv (L' := row e_Op.T e_Op.sz c34.f_Ops.a (c34.f_Ops.xs).length c34.f_Ops.c (flat e_Op c34.f_Ops.xs) :: blk b8 (.cells #[.int .i64 c34.f_Kind, .slice c34.f_Reads.a (c34.f_Reads.xs).length c34.f_Reads.c, .slice c34.f_Writes.a (c34.f_Writes.xs).length c34.f_Writes.c, .slice c34.f_Ops.a (c34.f_Ops.xs).length c34.f_Ops.c, .int .i64 c34.f_To] 26 (0, 0)) :: row e_S.T e_S.sz c34.f_Reads.a (c34.f_Reads.xs).length c34.f_Reads.c (flat e_S c34.f_Reads.xs) :: row e_S.T e_S.sz c34.f_Writes.a (c34.f_Writes.xs).length c34.f_Writes.c (flat e_S c34.f_Writes.xs) :: stars ((c34.f_Ops.xs.map Op.f_Value).map (vrow e8)) :: blk b3 (.cells #[.int .i64 t.f_Kind, .slice t.f_Reads.a (t.f_Reads.xs).length t.f_Reads.c, .slice t.f_Writes.a (t.f_Writes.xs).length t.f_Writes.c, .slice t.f_Ops.a (t.f_Ops.xs).length t.f_Ops.c, .int .i64 t.f_To] 26 (0, 0)) :: F) (fun w S => S.perm List.perm_append_comm) ?_
      refine o_load1 rfl rfl Try.underlying24 rfl (rd_mem 1 rfl rfl) ?_
      refine l_nil ?_
      refine q_conv (L' := (row e_S.T e_S.sz c34.f_Reads.a (c34.f_Reads.xs).length c34.f_Reads.c (flat e_S c34.f_Reads.xs) :: row e_S.T e_S.sz c34.f_Writes.a (c34.f_Writes.xs).length c34.f_Writes.c (flat e_S c34.f_Writes.xs) :: stars ((c34.f_Ops.xs.map Op.f_Value).map (vrow e8)) :: blk b3 (.cells #[.int .i64 t.f_Kind, .slice t.f_Reads.a (t.f_Reads.xs).length t.f_Reads.c, .slice t.f_Writes.a (t.f_Writes.xs).length t.f_Writes.c, .slice t.f_Ops.a (t.f_Ops.xs).length t.f_Ops.c, .int .i64 t.f_To] 26 (0, 0)) :: F) ++ [row e_Op.T e_Op.sz c34.f_Ops.a (c34.f_Ops.xs).length c34.f_Ops.c (flat e_Op c34.f_Ops.xs), blk b8 (.cells #[.int .i64 c34.f_Kind, .slice c34.f_Reads.a (c34.f_Reads.xs).length c34.f_Reads.c, .slice c34.f_Writes.a (c34.f_Writes.xs).length c34.f_Writes.c, .slice c34.f_Ops.a (c34.f_Ops.xs).length c34.f_Ops.c, .int .i64 c34.f_To] 26 (0, 0))]) (fun w S => S.perm (List.perm_append_comm (l₁ := [row e_Op.T e_Op.sz c34.f_Ops.a (c34.f_Ops.xs).length c34.f_Ops.c (flat e_Op c34.f_Ops.xs), blk b8 (.cells #[.int .i64 c34.f_Kind, .slice c34.f_Reads.a (c34.f_Reads.xs).length c34.f_Reads.c, .slice c34.f_Writes.a (c34.f_Writes.xs).length c34.f_Writes.c, .slice c34.f_Ops.a (c34.f_Ops.xs).length c34.f_Ops.c, .int .i64 c34.f_To] 26 (0, 0))]) (l₂ := row e_S.T e_S.sz c34.f_Reads.a (c34.f_Reads.xs).length c34.f_Reads.c (flat e_S c34.f_Reads.xs) :: row e_S.T e_S.sz c34.f_Writes.a (c34.f_Writes.xs).length c34.f_Writes.c (flat e_S c34.f_Writes.xs) :: stars ((c34.f_Ops.xs.map Op.f_Value).map (vrow e8)) :: blk b3 (.cells #[.int .i64 t.f_Kind, .slice t.f_Reads.a (t.f_Reads.xs).length t.f_Reads.c, .slice t.f_Writes.a (t.f_Writes.xs).length t.f_Writes.c, .slice t.f_Ops.a (t.f_Ops.xs).length t.f_Ops.c, .int .i64 t.f_To] 26 (0, 0)) :: F))) ?_
      refine h_next ?_
      refine h_take 9 rfl rfl (by kernel_rfl) (by kernel_rfl) (by kernel_rfl) (fun L0 => v_cut (l' := (m40 + 1)) (h' := ((c34.f_Ops.xs).length)) (m := c34.f_Ops.c) rfl rfl Try.underlying24 ti35 (.inl ⟨rfl, rfl⟩) (.inl ⟨rfl, rfl, rfl⟩) (.inr ⟨_, _, rfl, icast rfl (by omega), (by omega)⟩)) ?_
      obtain ⟨ys50, ay50, cut50, hys50, hlys50, eay50⟩ : ∃ ys_ ay_, (∀ {L : List Res}, RdS W L e_Op c34.f_Ops.a c34.f_Ops.xs → RdS W L e_Op ay_ ys_) ∧ ys_ = sub c34.f_Ops.xs (m40 + 1) ((c34.f_Ops.xs).length) ∧ ys_.length = ((c34.f_Ops.xs).length) - (m40 + 1) ∧ cutA c34.f_Ops.a c34.f_Ops.c (m40 + 1) 4 = ay_ := ⟨_, _, fun h => rds_cut e_Op_ok h _ _ _ (by omega), rfl, sub_len (by omega), rfl⟩
      refine h_eq (t := 50) (v' := .slice ay50 ys50.length (c34.f_Ops.c - (m40 + 1))) rfl (by rw [eay50, hlys50]) ?_
      refine h_one 10 rfl (by kernel_rfl) ?_
      refine l_conv (L' := row e_Op.T e_Op.sz c34.f_Ops.a (c34.f_Ops.xs).length c34.f_Ops.c (flat e_Op c34.f_Ops.xs) :: blk b8 (.cells #[.int .i64 c34.f_Kind, .slice c34.f_Reads.a (c34.f_Reads.xs).length c34.f_Reads.c, .slice c34.f_Writes.a (c34.f_Writes.xs).length c34.f_Writes.c, .slice c34.f_Ops.a (c34.f_Ops.xs).length c34.f_Ops.c, .int .i64 c34.f_To] 26 (0, 0)) :: row e_S.T e_S.sz c34.f_Reads.a (c34.f_Reads.xs).length c34.f_Reads.c (flat e_S c34.f_Reads.xs) :: row e_S.T e_S.sz c34.f_Writes.a (c34.f_Writes.xs).length c34.f_Writes.c (flat e_S c34.f_Writes.xs) :: stars ((c34.f_Ops.xs.map Op.f_Value).map (vrow e8)) :: blk b3 (.cells #[.int .i64 t.f_Kind, .slice t.f_Reads.a (t.f_Reads.xs).length t.f_Reads.c, .slice t.f_Writes.a (t.f_Writes.xs).length t.f_Writes.c, .slice t.f_Ops.a (t.f_Ops.xs).length t.f_Ops.c, .int .i64 t.f_To] 26 (0, 0)) :: F) (fun w S => S.perm List.perm_append_comm) ?_
      refine o_appendAt e_Op_ok eay45 hys45 (by omega) (by omega) (by omega) rfl rfl rfl Try.underlying24 (cut50 (rds_own e_Op_ok 0 rfl)) (by show (_ + _) * 56 ≤ _; omega) (by omega) fun a51 c51 => ?_
      refine l_nil ?_
      refine q_conv (L' := (row e_S.T e_S.sz c34.f_Reads.a (c34.f_Reads.xs).length c34.f_Reads.c (flat e_S c34.f_Reads.xs) :: row e_S.T e_S.sz c34.f_Writes.a (c34.f_Writes.xs).length c34.f_Writes.c (flat e_S c34.f_Writes.xs) :: stars ((c34.f_Ops.xs.map Op.f_Value).map (vrow e8)) :: blk b3 (.cells #[.int .i64 t.f_Kind, .slice t.f_Reads.a (t.f_Reads.xs).length t.f_Reads.c, .slice t.f_Writes.a (t.f_Writes.xs).length t.f_Writes.c, .slice t.f_Ops.a (t.f_Ops.xs).length t.f_Ops.c, .int .i64 t.f_To] 26 (0, 0)) :: F) ++ [row e_Op.T e_Op.sz a51 (ys45 ++ ys50).length c51 (flat e_Op (ys45 ++ ys50)), blk b8 (.cells #[.int .i64 c34.f_Kind, .slice c34.f_Reads.a (c34.f_Reads.xs).length c34.f_Reads.c, .slice c34.f_Writes.a (c34.f_Writes.xs).length c34.f_Writes.c, .slice c34.f_Ops.a (c34.f_Ops.xs).length c34.f_Ops.c, .int .i64 c34.f_To] 26 (0, 0))]) (fun w S => S.perm (List.perm_append_comm (l₁ := [row e_Op.T e_Op.sz a51 (ys45 ++ ys50).length c51 (flat e_Op (ys45 ++ ys50)), blk b8 (.cells #[.int .i64 c34.f_Kind, .slice c34.f_Reads.a (c34.f_Reads.xs).length c34.f_Reads.c, .slice c34.f_Writes.a (c34.f_Writes.xs).length c34.f_Writes.c, .slice c34.f_Ops.a (c34.f_Ops.xs).length c34.f_Ops.c, .int .i64 c34.f_To] 26 (0, 0))]) (l₂ := row e_S.T e_S.sz c34.f_Reads.a (c34.f_Reads.xs).length c34.f_Reads.c (flat e_S c34.f_Reads.xs) :: row e_S.T e_S.sz c34.f_Writes.a (c34.f_Writes.xs).length c34.f_Writes.c (flat e_S c34.f_Writes.xs) :: stars ((c34.f_Ops.xs.map Op.f_Value).map (vrow e8)) :: blk b3 (.cells #[.int .i64 t.f_Kind, .slice t.f_Reads.a (t.f_Reads.xs).length t.f_Reads.c, .slice t.f_Writes.a (t.f_Writes.xs).length t.f_Writes.c, .slice t.f_Ops.a (t.f_Ops.xs).length t.f_Ops.c, .int .i64 t.f_To] 26 (0, 0)) :: F))) ?_
      refine h_next ?_
      refine h_take 11 rfl rfl (by kernel_rfl) (by kernel_rfl) (by kernel_rfl) (fun L0 => v_fieldAddr (q := ⟨b8, 3, none⟩) rfl rfl Try.underlying26 rfl ti24 rfl) ?_
      refine h_one 12 rfl (by kernel_rfl) ?_
      refine l_conv (L' := row e_Op.T e_Op.sz a51 (ys45 ++ ys50).length c51 (flat e_Op (ys45 ++ ys50)) :: blk b8 (.cells #[.int .i64 c34.f_Kind, .slice c34.f_Reads.a (c34.f_Reads.xs).length c34.f_Reads.c, .slice c34.f_Writes.a (c34.f_Writes.xs).length c34.f_Writes.c, .slice c34.f_Ops.a (c34.f_Ops.xs).length c34.f_Ops.c, .int .i64 c34.f_To] 26 (0, 0)) :: row e_S.T e_S.sz c34.f_Reads.a (c34.f_Reads.xs).length c34.f_Reads.c (flat e_S c34.f_Reads.xs) :: row e_S.T e_S.sz c34.f_Writes.a (c34.f_Writes.xs).length c34.f_Writes.c (flat e_S c34.f_Writes.xs) :: stars ((c34.f_Ops.xs.map Op.f_Value).map (vrow e8)) :: blk b3 (.cells #[.int .i64 t.f_Kind, .slice t.f_Reads.a (t.f_Reads.xs).length t.f_Reads.c, .slice t.f_Writes.a (t.f_Writes.xs).length t.f_Writes.c, .slice t.f_Ops.a (t.f_Ops.xs).length t.f_Ops.c, .int .i64 t.f_To] 26 (0, 0)) :: F) (fun w S => S.perm List.perm_append_comm) ?_
      refine l_f1 ?_
      refine o_store1 rfl rfl rfl ti24 rfl rfl ?_
      refine l_nil ?_
      refine q_conv (L' := (row e_S.T e_S.sz c34.f_Reads.a (c34.f_Reads.xs).length c34.f_Reads.c (flat e_S c34.f_Reads.xs) :: row e_S.T e_S.sz c34.f_Writes.a (c34.f_Writes.xs).length c34.f_Writes.c (flat e_S c34.f_Writes.xs) :: stars ((c34.f_Ops.xs.map Op.f_Value).map (vrow e8)) :: blk b3 (.cells #[.int .i64 t.f_Kind, .slice t.f_Reads.a (t.f_Reads.xs).length t.f_Reads.c, .slice t.f_Writes.a (t.f_Writes.xs).length t.f_Writes.c, .slice t.f_Ops.a (t.f_Ops.xs).length t.f_Ops.c, .int .i64 t.f_To] 26 (0, 0)) :: F) ++ [blk b8 (.cells #[.int .i64 c34.f_Kind, .slice c34.f_Reads.a (c34.f_Reads.xs).length c34.f_Reads.c, .slice c34.f_Writes.a (c34.f_Writes.xs).length c34.f_Writes.c, .slice a51 (ys45 ++ ys50).length c51, .int .i64 c34.f_To] 26 (0, 0)), row e_Op.T e_Op.sz a51 (ys45 ++ ys50).length c51 (flat e_Op (ys45 ++ ys50))]) (fun w S => S.perm (List.perm_append_comm (l₁ := [blk b8 (.cells #[.int .i64 c34.f_Kind, .slice c34.f_Reads.a (c34.f_Reads.xs).length c34.f_Reads.c, .slice c34.f_Writes.a (c34.f_Writes.xs).length c34.f_Writes.c, .slice a51 (ys45 ++ ys50).length c51, .int .i64 c34.f_To] 26 (0, 0)), row e_Op.T e_Op.sz a51 (ys45 ++ ys50).length c51 (flat e_Op (ys45 ++ ys50))]) (l₂ := row e_S.T e_S.sz c34.f_Reads.a (c34.f_Reads.xs).length c34.f_Reads.c (flat e_S c34.f_Reads.xs) :: row e_S.T e_S.sz c34.f_Writes.a (c34.f_Writes.xs).length c34.f_Writes.c (flat e_S c34.f_Writes.xs) :: stars ((c34.f_Ops.xs.map Op.f_Value).map (vrow e8)) :: blk b3 (.cells #[.int .i64 t.f_Kind, .slice t.f_Reads.a (t.f_Reads.xs).length t.f_Reads.c, .slice t.f_Writes.a (t.f_Writes.xs).length t.f_Writes.c, .slice t.f_Ops.a (t.f_Ops.xs).length t.f_Ops.c, .int .i64 t.f_To] 26 (0, 0)) :: F))) ?_
      refine h_next ?_
      refine h_done (by kernel_rfl) ?_
      refine q_conv (L' := blk b8 (.cells #[.int .i64 c34.f_Kind, .slice c34.f_Reads.a (c34.f_Reads.xs).length c34.f_Reads.c, .slice c34.f_Writes.a (c34.f_Writes.xs).length c34.f_Writes.c, .slice a51 (ys45 ++ ys50).length c51, .int .i64 c34.f_To] 26 (0, 0)) :: row e_Op.T e_Op.sz a51 (ys45 ++ ys50).length c51 (flat e_Op (ys45 ++ ys50)) :: row e_S.T e_S.sz c34.f_Reads.a (c34.f_Reads.xs).length c34.f_Reads.c (flat e_S c34.f_Reads.xs) :: row e_S.T e_S.sz c34.f_Writes.a (c34.f_Writes.xs).length c34.f_Writes.c (flat e_S c34.f_Writes.xs) :: stars ((c34.f_Ops.xs.map Op.f_Value).map (vrow e8)) :: blk b3 (.cells #[.int .i64 t.f_Kind, .slice t.f_Reads.a (t.f_Reads.xs).length t.f_Reads.c, .slice t.f_Writes.a (t.f_Writes.xs).length t.f_Writes.c, .slice t.f_Ops.a (t.f_Ops.xs).length t.f_Ops.c, .int .i64 t.f_To] 26 (0, 0)) :: F) (fun w S => S.perm List.perm_append_comm) ?_
      refine q_then ?_
      refine c_seq ?_
      have hsub : ∀ o ∈ ys45 ++ ys50, o ∈ c34.f_Ops.xs := fun o ho => (fun o ho => (List.mem_append.1 ho).elim (fun h9 => sub_mem' (by rw [hys45] at h9; exact h9)) (fun h9 => sub_mem' (by rw [hys50] at h9; exact h9))) o ho
      refine c_heldF [] (blk b8 (.cells #[.int .i64 c34.f_Kind, .slice c34.f_Reads.a (c34.f_Reads.xs).length c34.f_Reads.c, .slice c34.f_Writes.a (c34.f_Writes.xs).length c34.f_Writes.c, .slice a51 (ys45 ++ ys50).length c51, .int .i64 c34.f_To] 26 (0, 0)) :: row e_Op.T e_Op.sz a51 (ys45 ++ ys50).length c51 (flat e_Op (ys45 ++ ys50)) :: row e_S.T e_S.sz c34.f_Reads.a (c34.f_Reads.xs).length c34.f_Reads.c (flat e_S c34.f_Reads.xs) :: row e_S.T e_S.sz c34.f_Writes.a (c34.f_Writes.xs).length c34.f_Writes.c (flat e_S c34.f_Writes.xs) :: stars ((c34.f_Ops.xs.map Op.f_Value).map (vrow e8)) :: blk b3 (.cells #[.int .i64 t.f_Kind, .slice t.f_Reads.a (t.f_Reads.xs).length t.f_Reads.c, .slice t.f_Writes.a (t.f_Writes.xs).length t.f_Writes.c, .slice t.f_Ops.a (t.f_Ops.xs).length t.f_Ops.c, .int .i64 t.f_To] 26 (0, 0)) :: F) (by kernel_rfl) ?_
      refine h_take 0 rfl rfl (by kernel_rfl) (by kernel_rfl) (by kernel_rfl) (fun L0 => v_loadn (vs := [_, _, _, _, _]) rfl rfl Try.underlying26 rfl ti26 (rdn_lit 0 rfl rfl)) ?_
      refine h_take 1 rfl rfl (by kernel_rfl) (by kernel_rfl) (by kernel_rfl) (fun L0 => v_move rfl rfl) ?_
      refine h_one 2 rfl (by kernel_rfl) ?_
      refine l_conv (L' := blk b8 (.cells #[.int .i64 c34.f_Kind, .slice c34.f_Reads.a (c34.f_Reads.xs).length c34.f_Reads.c, .slice c34.f_Writes.a (c34.f_Writes.xs).length c34.f_Writes.c, .slice a51 (ys45 ++ ys50).length c51, .int .i64 c34.f_To] 26 (0, 0)) :: row e_Op.T e_Op.sz a51 (ys45 ++ ys50).length c51 (flat e_Op (ys45 ++ ys50)) :: row e_S.T e_S.sz c34.f_Reads.a (c34.f_Reads.xs).length c34.f_Reads.c (flat e_S c34.f_Reads.xs) :: row e_S.T e_S.sz c34.f_Writes.a (c34.f_Writes.xs).length c34.f_Writes.c (flat e_S c34.f_Writes.xs) :: stars ((c34.f_Ops.xs.map Op.f_Value).map (vrow e8)) :: blk b3 (.cells #[.int .i64 t.f_Kind, .slice t.f_Reads.a (t.f_Reads.xs).length t.f_Reads.c, .slice t.f_Writes.a (t.f_Writes.xs).length t.f_Writes.c, .slice t.f_Ops.a (t.f_Ops.xs).length t.f_Ops.c, .int .i64 t.f_To] 26 (0, 0)) :: F) (fun w S => S.perm List.perm_append_comm) ?_
      refine o_call rfl cal13 rfl (check_ (t := (⟨c34.f_Kind, ⟨c34.f_Reads.a, c34.f_Reads.xs, c34.f_Reads.c⟩, ⟨c34.f_Writes.a, c34.f_Writes.xs, c34.f_Writes.c⟩, ⟨a51, ys45 ++ ys50, c51⟩, c34.f_To⟩ : Txn)) (g := g) (TxR.mk (t := (⟨c34.f_Kind, ⟨c34.f_Reads.a, c34.f_Reads.xs, c34.f_Reads.c⟩, ⟨c34.f_Writes.a, c34.f_Writes.xs, c34.f_Writes.c⟩, ⟨a51, ys45 ++ ys50, c51⟩, c34.f_To⟩ : Txn)) (rds_own e_S_ok 2 rfl) (rds_own e_S_ok 3 rfl) (rds_own e_Op_ok 1 rfl) (fun o ho => rds_vrow e8_ok 4 rfl (List.mem_map.2 ⟨o, hsub o ho, rfl⟩)) ⟨L_c34.lr, L_c34.lw, (by show (ys45 ++ ys50).length ≤ _; rw [List.length_append]; omega), fun o ho => L_c34.lv o (hsub o ho)⟩)) ?_
      rintro _ _ ⟨rfl, rfl⟩
      refine l_nil ?_
      refine q_conv (L' := (blk b8 (.cells #[.int .i64 c34.f_Kind, .slice c34.f_Reads.a (c34.f_Reads.xs).length c34.f_Reads.c, .slice c34.f_Writes.a (c34.f_Writes.xs).length c34.f_Writes.c, .slice a51 (ys45 ++ ys50).length c51, .int .i64 c34.f_To] 26 (0, 0)) :: row e_Op.T e_Op.sz a51 (ys45 ++ ys50).length c51 (flat e_Op (ys45 ++ ys50)) :: row e_S.T e_S.sz c34.f_Reads.a (c34.f_Reads.xs).length c34.f_Reads.c (flat e_S c34.f_Reads.xs) :: row e_S.T e_S.sz c34.f_Writes.a (c34.f_Writes.xs).length c34.f_Writes.c (flat e_S c34.f_Writes.xs) :: stars ((c34.f_Ops.xs.map Op.f_Value).map (vrow e8)) :: blk b3 (.cells #[.int .i64 t.f_Kind, .slice t.f_Reads.a (t.f_Reads.xs).length t.f_Reads.c, .slice t.f_Writes.a (t.f_Writes.xs).length t.f_Writes.c, .slice t.f_Ops.a (t.f_Ops.xs).length t.f_Ops.c, .int .i64 t.f_To] 26 (0, 0)) :: F) ++ []) (fun w S => S.perm (List.perm_append_comm (l₁ := []) (l₂ := blk b8 (.cells #[.int .i64 c34.f_Kind, .slice c34.f_Reads.a (c34.f_Reads.xs).length c34.f_Reads.c, .slice c34.f_Writes.a (c34.f_Writes.xs).length c34.f_Writes.c, .slice a51 (ys45 ++ ys50).length c51, .int .i64 c34.f_To] 26 (0, 0)) :: row e_Op.T e_Op.sz a51 (ys45 ++ ys50).length c51 (flat e_Op (ys45 ++ ys50)) :: row e_S.T e_S.sz c34.f_Reads.a (c34.f_Reads.xs).length c34.f_Reads.c (flat e_S c34.f_Reads.xs) :: row e_S.T e_S.sz c34.f_Writes.a (c34.f_Writes.xs).length c34.f_Writes.c (flat e_S c34.f_Writes.xs) :: stars ((c34.f_Ops.xs.map Op.f_Value).map (vrow e8)) :: blk b3 (.cells #[.int .i64 t.f_Kind, .slice t.f_Reads.a (t.f_Reads.xs).length t.f_Reads.c, .slice t.f_Writes.a (t.f_Writes.xs).length t.f_Writes.c, .slice t.f_Ops.a (t.f_Ops.xs).length t.f_Ops.c, .int .i64 t.f_To] 26 (0, 0)) :: F))) ?_
      refine h_next ?_
      refine h_take 3 rfl rfl (by kernel_rfl) (by kernel_rfl) (by kernel_rfl) (fun L0 => v_bin rfl rfl rfl b_eql) ?_
      refine h_eq (t := 56) (v' := .bool true) rfl (by rw [chkN_sub (t := c34) (c := (⟨c34.f_Kind, ⟨c34.f_Reads.a, c34.f_Reads.xs, c34.f_Reads.c⟩, ⟨c34.f_Writes.a, c34.f_Writes.xs, c34.f_Writes.c⟩, ⟨a51, ys45 ++ ys50, c51⟩, c34.f_To⟩ : Txn)) rfl rfl rfl rfl (by show (ys45 ++ ys50).length ≤ _; rw [List.length_append]; omega) hsub (by rw [chkN_same hs_c34]; exact hch)]; rfl) ?_
      refine h_take 4 rfl rfl (by kernel_rfl) (by kernel_rfl) (by kernel_rfl) (fun L0 => v_move rfl rfl) ?_
      refine h_take_yes 5 rfl rfl rfl rfl rfl (by kernel_rfl) (by kernel_rfl) (by kernel_rfl) (fun L0 => v_loadn (vs := [_, _, _, _, _]) rfl rfl Try.underlying26 rfl ti26 (rdn_lit 5 rfl rfl)) ?_
      refine h_take_yes 8 rfl rfl rfl rfl rfl (by kernel_rfl) (by kernel_rfl) (by kernel_rfl) (fun L0 => v_fieldAddr (q := ⟨b3, 1, none⟩) rfl rfl Try.underlying26 rfl ti23 rfl) ?_
      refine h_take_yes 9 rfl rfl rfl rfl rfl (by kernel_rfl) (by kernel_rfl) (by kernel_rfl) (fun L0 => v_load1 rfl rfl Try.underlying23 rfl (rd_mem 5 rfl rfl)) ?_
      refine h_take_yes 10 rfl rfl rfl rfl rfl (by kernel_rfl) (by kernel_rfl) (by kernel_rfl) (fun L0 => v_len rfl rfl Try.underlying23) ?_
      refine h_take_yes 11 rfl rfl rfl rfl rfl (by kernel_rfl) (by kernel_rfl) (by kernel_rfl) (fun L0 => v_fieldAddr (q := ⟨b3, 2, none⟩) rfl rfl Try.underlying26 rfl ti23 rfl) ?_
      refine h_take_yes 12 rfl rfl rfl rfl rfl (by kernel_rfl) (by kernel_rfl) (by kernel_rfl) (fun L0 => v_load1 rfl rfl Try.underlying23 rfl (rd_mem 5 rfl rfl)) ?_
      refine h_take_yes 13 rfl rfl rfl rfl rfl (by kernel_rfl) (by kernel_rfl) (by kernel_rfl) (fun L0 => v_len rfl rfl Try.underlying23) ?_
      refine h_take_yes 14 rfl rfl rfl rfl rfl (by kernel_rfl) (by kernel_rfl) (by kernel_rfl) (fun L0 => v_bin rfl rfl rfl (b_add (wrap_i64 (by omega) (by omega)))) ?_
      refine h_one 6 rfl (by kernel_rfl) ?_
      refine l_conv (L' := blk b8 (.cells #[.int .i64 c34.f_Kind, .slice c34.f_Reads.a (c34.f_Reads.xs).length c34.f_Reads.c, .slice c34.f_Writes.a (c34.f_Writes.xs).length c34.f_Writes.c, .slice a51 (ys45 ++ ys50).length c51, .int .i64 c34.f_To] 26 (0, 0)) :: row e_Op.T e_Op.sz a51 (ys45 ++ ys50).length c51 (flat e_Op (ys45 ++ ys50)) :: row e_S.T e_S.sz c34.f_Reads.a (c34.f_Reads.xs).length c34.f_Reads.c (flat e_S c34.f_Reads.xs) :: row e_S.T e_S.sz c34.f_Writes.a (c34.f_Writes.xs).length c34.f_Writes.c (flat e_S c34.f_Writes.xs) :: stars ((c34.f_Ops.xs.map Op.f_Value).map (vrow e8)) :: blk b3 (.cells #[.int .i64 t.f_Kind, .slice t.f_Reads.a (t.f_Reads.xs).length t.f_Reads.c, .slice t.f_Writes.a (t.f_Writes.xs).length t.f_Writes.c, .slice t.f_Ops.a (t.f_Ops.xs).length t.f_Ops.c, .int .i64 t.f_To] 26 (0, 0)) :: F) (fun w S => S.perm List.perm_append_comm) ?_
      refine o_yes rfl rfl rfl ?_
      refine o_call rfl cal18 rfl (keys_ (t := t) (TxR.c (TxR.c (TxR.c (TxR.c (TxR.c (TxR.c T_t)))))) (by omega)) ?_
      rintro _ _ ⟨a59, c59, rfl, rfl⟩
      refine l_nil ?_
      refine q_conv (L' := (blk b8 (.cells #[.int .i64 c34.f_Kind, .slice c34.f_Reads.a (c34.f_Reads.xs).length c34.f_Reads.c, .slice c34.f_Writes.a (c34.f_Writes.xs).length c34.f_Writes.c, .slice a51 (ys45 ++ ys50).length c51, .int .i64 c34.f_To] 26 (0, 0)) :: row e_Op.T e_Op.sz a51 (ys45 ++ ys50).length c51 (flat e_Op (ys45 ++ ys50)) :: row e_S.T e_S.sz c34.f_Reads.a (c34.f_Reads.xs).length c34.f_Reads.c (flat e_S c34.f_Reads.xs) :: row e_S.T e_S.sz c34.f_Writes.a (c34.f_Writes.xs).length c34.f_Writes.c (flat e_S c34.f_Writes.xs) :: stars ((c34.f_Ops.xs.map Op.f_Value).map (vrow e8)) :: blk b3 (.cells #[.int .i64 t.f_Kind, .slice t.f_Reads.a (t.f_Reads.xs).length t.f_Reads.c, .slice t.f_Writes.a (t.f_Writes.xs).length t.f_Writes.c, .slice t.f_Ops.a (t.f_Ops.xs).length t.f_Ops.c, .int .i64 t.f_To] 26 (0, 0)) :: F) ++ [row e_S.T e_S.sz a59 (keysT t).length c59 (flat e_S (keysT t))]) (fun w S => S.perm (List.perm_append_comm (l₁ := [row e_S.T e_S.sz a59 (keysT t).length c59 (flat e_S (keysT t))]) (l₂ := blk b8 (.cells #[.int .i64 c34.f_Kind, .slice c34.f_Reads.a (c34.f_Reads.xs).length c34.f_Reads.c, .slice c34.f_Writes.a (c34.f_Writes.xs).length c34.f_Writes.c, .slice a51 (ys45 ++ ys50).length c51, .int .i64 c34.f_To] 26 (0, 0)) :: row e_Op.T e_Op.sz a51 (ys45 ++ ys50).length c51 (flat e_Op (ys45 ++ ys50)) :: row e_S.T e_S.sz c34.f_Reads.a (c34.f_Reads.xs).length c34.f_Reads.c (flat e_S c34.f_Reads.xs) :: row e_S.T e_S.sz c34.f_Writes.a (c34.f_Writes.xs).length c34.f_Writes.c (flat e_S c34.f_Writes.xs) :: stars ((c34.f_Ops.xs.map Op.f_Value).map (vrow e8)) :: blk b3 (.cells #[.int .i64 t.f_Kind, .slice t.f_Reads.a (t.f_Reads.xs).length t.f_Reads.c, .slice t.f_Writes.a (t.f_Writes.xs).length t.f_Writes.c, .slice t.f_Ops.a (t.f_Ops.xs).length t.f_Ops.c, .int .i64 t.f_To] 26 (0, 0)) :: F))) ?_
      refine h_next ?_
      refine h_take_yes 7 rfl rfl rfl rfl rfl (by kernel_rfl) (by kernel_rfl) (by kernel_rfl) (fun L0 => v_len rfl rfl Try.underlying23) ?_
      refine h_take_yes 15 rfl rfl rfl rfl rfl (by kernel_rfl) (by kernel_rfl) (by kernel_rfl) (fun L0 => v_bin rfl rfl rfl b_eql) ?_
      refine h_eq (t := 68) (v' := .bool true) rfl (show _ = Value.bool true from by rw [keys_count hch]; simp) ?_
      refine h_take 16 rfl rfl (by kernel_rfl) (by kernel_rfl) (by kernel_rfl) (fun L0 => v_pick_true rfl rfl rfl) ?_
      refine h_take 17 rfl rfl (by kernel_rfl) (by kernel_rfl) (by kernel_rfl) (fun L0 => v_assign rfl rfl) ?_
      refine h_done (by kernel_rfl) ?_
      refine q_conv (L' := row e_S.T e_S.sz a59 (keysT t).length c59 (flat e_S (keysT t)) :: blk b8 (.cells #[.int .i64 c34.f_Kind, .slice c34.f_Reads.a (c34.f_Reads.xs).length c34.f_Reads.c, .slice c34.f_Writes.a (c34.f_Writes.xs).length c34.f_Writes.c, .slice a51 (ys45 ++ ys50).length c51, .int .i64 c34.f_To] 26 (0, 0)) :: row e_Op.T e_Op.sz a51 (ys45 ++ ys50).length c51 (flat e_Op (ys45 ++ ys50)) :: row e_S.T e_S.sz c34.f_Reads.a (c34.f_Reads.xs).length c34.f_Reads.c (flat e_S c34.f_Reads.xs) :: row e_S.T e_S.sz c34.f_Writes.a (c34.f_Writes.xs).length c34.f_Writes.c (flat e_S c34.f_Writes.xs) :: stars ((c34.f_Ops.xs.map Op.f_Value).map (vrow e8)) :: blk b3 (.cells #[.int .i64 t.f_Kind, .slice t.f_Reads.a (t.f_Reads.xs).length t.f_Reads.c, .slice t.f_Writes.a (t.f_Writes.xs).length t.f_Writes.c, .slice t.f_Ops.a (t.f_Ops.xs).length t.f_Ops.c, .int .i64 t.f_To] 26 (0, 0)) :: F) (fun w S => S.perm List.perm_append_comm) ?_
      refine q_then ?_
      refine c_ret ?_
      refine q_conv (fun w S => S.tail) ?_
      refine q_conv (fun w S => S.tail) ?_
      refine q_conv (fun w S => S.tail) ?_
      refine q_conv (fun w S => S.tail) ?_
      refine q_conv (fun w S => S.tail) ?_
      refine q_conv (fun w S => S.tail) ?_
      refine q_conv (fun w S => S.tail) ?_
      exact f_ret (r_one rfl rfl) (⟨rfl, rfl⟩) (fun w S => S)
     · -- 6 comes first
      refine l_conv (L' := row e_Op.T e_Op.sz c34.f_Ops.a (c34.f_Ops.xs).length c34.f_Ops.c (flat e_Op c34.f_Ops.xs) :: blk b8 (.cells #[.int .i64 c34.f_Kind, .slice c34.f_Reads.a (c34.f_Reads.xs).length c34.f_Reads.c, .slice c34.f_Writes.a (c34.f_Writes.xs).length c34.f_Writes.c, .slice c34.f_Ops.a (c34.f_Ops.xs).length c34.f_Ops.c, .int .i64 c34.f_To] 26 (0, 0)) :: row e_S.T e_S.sz c34.f_Reads.a (c34.f_Reads.xs).length c34.f_Reads.c (flat e_S c34.f_Reads.xs) :: row e_S.T e_S.sz c34.f_Writes.a (c34.f_Writes.xs).length c34.f_Writes.c (flat e_S c34.f_Writes.xs) :: stars ((c34.f_Ops.xs.map Op.f_Value).map (vrow e8)) :: blk b3 (.cells #[.int .i64 t.f_Kind, .slice t.f_Reads.a (t.f_Reads.xs).length t.f_Reads.c, .slice t.f_Writes.a (t.f_Writes.xs).length t.f_Writes.c, .slice t.f_Ops.a (t.f_Ops.xs).length t.f_Ops.c, .int .i64 t.f_To] 26 (0, 0)) :: F) (fun w S => S.perm List.perm_append_comm) ?_
      refine o_load1 rfl rfl Try.underlying24 rfl (rd_mem 1 rfl rfl) ?_
      refine l_nil ?_
      refine q_conv (L' := (row e_S.T e_S.sz c34.f_Reads.a (c34.f_Reads.xs).length c34.f_Reads.c (flat e_S c34.f_Reads.xs) :: row e_S.T e_S.sz c34.f_Writes.a (c34.f_Writes.xs).length c34.f_Writes.c (flat e_S c34.f_Writes.xs) :: stars ((c34.f_Ops.xs.map Op.f_Value).map (vrow e8)) :: blk b3 (.cells #[.int .i64 t.f_Kind, .slice t.f_Reads.a (t.f_Reads.xs).length t.f_Reads.c, .slice t.f_Writes.a (t.f_Writes.xs).length t.f_Writes.c, .slice t.f_Ops.a (t.f_Ops.xs).length t.f_Ops.c, .int .i64 t.f_To] 26 (0, 0)) :: F) ++ [row e_Op.T e_Op.sz c34.f_Ops.a (c34.f_Ops.xs).length c34.f_Ops.c (flat e_Op c34.f_Ops.xs), blk b8 (.cells #[.int .i64 c34.f_Kind, .slice c34.f_Reads.a (c34.f_Reads.xs).length c34.f_Reads.c, .slice c34.f_Writes.a (c34.f_Writes.xs).length c34.f_Writes.c, .slice c34.f_Ops.a (c34.f_Ops.xs).length c34.f_Ops.c, .int .i64 c34.f_To] 26 (0, 0))]) (fun w S => S.perm (List.perm_append_comm (l₁ := [row e_Op.T e_Op.sz c34.f_Ops.a (c34.f_Ops.xs).length c34.f_Ops.c (flat e_Op c34.f_Ops.xs), blk b8 (.cells #[.int .i64 c34.f_Kind, .slice c34.f_Reads.a (c34.f_Reads.xs).length c34.f_Reads.c, .slice c34.f_Writes.a (c34.f_Writes.xs).length c34.f_Writes.c, .slice c34.f_Ops.a (c34.f_Ops.xs).length c34.f_Ops.c, .int .i64 c34.f_To] 26 (0, 0))]) (l₂ := row e_S.T e_S.sz c34.f_Reads.a (c34.f_Reads.xs).length c34.f_Reads.c (flat e_S c34.f_Reads.xs) :: row e_S.T e_S.sz c34.f_Writes.a (c34.f_Writes.xs).length c34.f_Writes.c (flat e_S c34.f_Writes.xs) :: stars ((c34.f_Ops.xs.map Op.f_Value).map (vrow e8)) :: blk b3 (.cells #[.int .i64 t.f_Kind, .slice t.f_Reads.a (t.f_Reads.xs).length t.f_Reads.c, .slice t.f_Writes.a (t.f_Writes.xs).length t.f_Writes.c, .slice t.f_Ops.a (t.f_Ops.xs).length t.f_Ops.c, .int .i64 t.f_To] 26 (0, 0)) :: F))) ?_
      refine h_next ?_
      refine h_take 9 rfl rfl (by kernel_rfl) (by kernel_rfl) (by kernel_rfl) (fun L0 => v_cut (l' := (m40 + 1)) (h' := ((c34.f_Ops.xs).length)) (m := c34.f_Ops.c) rfl rfl Try.underlying24 ti35 (.inl ⟨rfl, rfl⟩) (.inl ⟨rfl, rfl, rfl⟩) (.inr ⟨_, _, rfl, icast rfl (by omega), (by omega)⟩)) ?_
      obtain ⟨ys50, ay50, cut50, hys50, hlys50, eay50⟩ : ∃ ys_ ay_, (∀ {L : List Res}, RdS W L e_Op c34.f_Ops.a c34.f_Ops.xs → RdS W L e_Op ay_ ys_) ∧ ys_ = sub c34.f_Ops.xs (m40 + 1) ((c34.f_Ops.xs).length) ∧ ys_.length = ((c34.f_Ops.xs).length) - (m40 + 1) ∧ cutA c34.f_Ops.a c34.f_Ops.c (m40 + 1) 4 = ay_ := ⟨_, _, fun h => rds_cut e_Op_ok h _ _ _ (by omega), rfl, sub_len (by omega), rfl⟩
      refine h_eq (t := 50) (v' := .slice ay50 ys50.length (c34.f_Ops.c - (m40 + 1))) rfl (by rw [eay50, hlys50]) ?_
      refine h_one 1 rfl (by kernel_rfl) ?_
      refine l_conv (L' := row e_Op.T e_Op.sz c34.f_Ops.a (c34.f_Ops.xs).length c34.f_Ops.c (flat e_Op c34.f_Ops.xs) :: blk b8 (.cells #[.int .i64 c34.f_Kind, .slice c34.f_Reads.a (c34.f_Reads.xs).length c34.f_Reads.c, .slice c34.f_Writes.a (c34.f_Writes.xs).length c34.f_Writes.c, .slice c34.f_Ops.a (c34.f_Ops.xs).length c34.f_Ops.c, .int .i64 c34.f_To] 26 (0, 0)) :: row e_S.T e_S.sz c34.f_Reads.a (c34.f_Reads.xs).length c34.f_Reads.c (flat e_S c34.f_Reads.xs) :: row e_S.T e_S.sz c34.f_Writes.a (c34.f_Writes.xs).length c34.f_Writes.c (flat e_S c34.f_Writes.xs) :: stars ((c34.f_Ops.xs.map Op.f_Value).map (vrow e8)) :: blk b3 (.cells #[.int .i64 t.f_Kind, .slice t.f_Reads.a (t.f_Reads.xs).length t.f_Reads.c, .slice t.f_Writes.a (t.f_Writes.xs).length t.f_Writes.c, .slice t.f_Ops.a (t.f_Ops.xs).length t.f_Ops.c, .int .i64 t.f_To] 26 (0, 0)) :: F) (fun w S => S.perm List.perm_append_comm) ?_
      refine o_load1 rfl rfl Try.underlying24 rfl (rd_mem 1 rfl rfl) ?_
      refine l_nil ?_
      refine q_conv (L' := (row e_S.T e_S.sz c34.f_Reads.a (c34.f_Reads.xs).length c34.f_Reads.c (flat e_S c34.f_Reads.xs) :: row e_S.T e_S.sz c34.f_Writes.a (c34.f_Writes.xs).length c34.f_Writes.c (flat e_S c34.f_Writes.xs) :: stars ((c34.f_Ops.xs.map Op.f_Value).map (vrow e8)) :: blk b3 (.cells #[.int .i64 t.f_Kind, .slice t.f_Reads.a (t.f_Reads.xs).length t.f_Reads.c, .slice t.f_Writes.a (t.f_Writes.xs).length t.f_Writes.c, .slice t.f_Ops.a (t.f_Ops.xs).length t.f_Ops.c, .int .i64 t.f_To] 26 (0, 0)) :: F) ++ [row e_Op.T e_Op.sz c34.f_Ops.a (c34.f_Ops.xs).length c34.f_Ops.c (flat e_Op c34.f_Ops.xs), blk b8 (.cells #[.int .i64 c34.f_Kind, .slice c34.f_Reads.a (c34.f_Reads.xs).length c34.f_Reads.c, .slice c34.f_Writes.a (c34.f_Writes.xs).length c34.f_Writes.c, .slice c34.f_Ops.a (c34.f_Ops.xs).length c34.f_Ops.c, .int .i64 c34.f_To] 26 (0, 0))]) (fun w S => S.perm (List.perm_append_comm (l₁ := [row e_Op.T e_Op.sz c34.f_Ops.a (c34.f_Ops.xs).length c34.f_Ops.c (flat e_Op c34.f_Ops.xs), blk b8 (.cells #[.int .i64 c34.f_Kind, .slice c34.f_Reads.a (c34.f_Reads.xs).length c34.f_Reads.c, .slice c34.f_Writes.a (c34.f_Writes.xs).length c34.f_Writes.c, .slice c34.f_Ops.a (c34.f_Ops.xs).length c34.f_Ops.c, .int .i64 c34.f_To] 26 (0, 0))]) (l₂ := row e_S.T e_S.sz c34.f_Reads.a (c34.f_Reads.xs).length c34.f_Reads.c (flat e_S c34.f_Reads.xs) :: row e_S.T e_S.sz c34.f_Writes.a (c34.f_Writes.xs).length c34.f_Writes.c (flat e_S c34.f_Writes.xs) :: stars ((c34.f_Ops.xs.map Op.f_Value).map (vrow e8)) :: blk b3 (.cells #[.int .i64 t.f_Kind, .slice t.f_Reads.a (t.f_Reads.xs).length t.f_Reads.c, .slice t.f_Writes.a (t.f_Writes.xs).length t.f_Writes.c, .slice t.f_Ops.a (t.f_Ops.xs).length t.f_Ops.c, .int .i64 t.f_To] 26 (0, 0)) :: F))) ?_
      refine h_next ?_
      refine h_take 4 rfl rfl (by kernel_rfl) (by kernel_rfl) (by kernel_rfl) (fun L0 => v_cut (l' := 0) (h' := m40) (m := m40) rfl rfl Try.underlying24 ti35 (.inr ⟨_, _, rfl, icast rfl (by omega), (by omega)⟩) (.inr ⟨_, _, rfl, icast rfl (by omega), (by omega)⟩) (.inl ⟨rfl, rfl⟩)) ?_
      obtain ⟨ys45, ay45, cut45, hys45, hlys45, eay45⟩ : ∃ ys_ ay_, (∀ {L : List Res}, RdS W L e_Op c34.f_Ops.a c34.f_Ops.xs → RdS W L e_Op ay_ ys_) ∧ ys_ = sub c34.f_Ops.xs 0 m40 ∧ ys_.length = m40 - 0 ∧ cutA c34.f_Ops.a m40 0 4 = ay_ := ⟨_, _, fun h => rds_cut e_Op_ok h _ _ _ (by omega), rfl, sub_len (by omega), rfl⟩
      refine h_eq (t := 45) (v' := .slice ay45 ys45.length (m40 - 0)) rfl (by rw [eay45, hlys45]) ?_
      refine h_one 10 rfl (by kernel_rfl) ?_
      refine l_conv (L' := row e_Op.T e_Op.sz c34.f_Ops.a (c34.f_Ops.xs).length c34.f_Ops.c (flat e_Op c34.f_Ops.xs) :: blk b8 (.cells #[.int .i64 c34.f_Kind, .slice c34.f_Reads.a (c34.f_Reads.xs).length c34.f_Reads.c, .slice c34.f_Writes.a (c34.f_Writes.xs).length c34.f_Writes.c, .slice c34.f_Ops.a (c34.f_Ops.xs).length c34.f_Ops.c, .int .i64 c34.f_To] 26 (0, 0)) :: row e_S.T e_S.sz c34.f_Reads.a (c34.f_Reads.xs).length c34.f_Reads.c (flat e_S c34.f_Reads.xs) :: row e_S.T e_S.sz c34.f_Writes.a (c34.f_Writes.xs).length c34.f_Writes.c (flat e_S c34.f_Writes.xs) :: stars ((c34.f_Ops.xs.map Op.f_Value).map (vrow e8)) :: blk b3 (.cells #[.int .i64 t.f_Kind, .slice t.f_Reads.a (t.f_Reads.xs).length t.f_Reads.c, .slice t.f_Writes.a (t.f_Writes.xs).length t.f_Writes.c, .slice t.f_Ops.a (t.f_Ops.xs).length t.f_Ops.c, .int .i64 t.f_To] 26 (0, 0)) :: F) (fun w S => S.perm List.perm_append_comm) ?_
      refine o_appendAt e_Op_ok eay45 hys45 (by omega) (by omega) (by omega) rfl rfl rfl Try.underlying24 (cut50 (rds_own e_Op_ok 0 rfl)) (by show (_ + _) * 56 ≤ _; omega) (by omega) fun a51 c51 => ?_
      refine l_nil ?_
      refine q_conv (L' := (row e_S.T e_S.sz c34.f_Reads.a (c34.f_Reads.xs).length c34.f_Reads.c (flat e_S c34.f_Reads.xs) :: row e_S.T e_S.sz c34.f_Writes.a (c34.f_Writes.xs).length c34.f_Writes.c (flat e_S c34.f_Writes.xs) :: stars ((c34.f_Ops.xs.map Op.f_Value).map (vrow e8)) :: blk b3 (.cells #[.int .i64 t.f_Kind, .slice t.f_Reads.a (t.f_Reads.xs).length t.f_Reads.c, .slice t.f_Writes.a (t.f_Writes.xs).length t.f_Writes.c, .slice t.f_Ops.a (t.f_Ops.xs).length t.f_Ops.c, .int .i64 t.f_To] 26 (0, 0)) :: F) ++ [row e_Op.T e_Op.sz a51 (ys45 ++ ys50).length c51 (flat e_Op (ys45 ++ ys50)), blk b8 (.cells #[.int .i64 c34.f_Kind, .slice c34.f_Reads.a (c34.f_Reads.xs).length c34.f_Reads.c, .slice c34.f_Writes.a (c34.f_Writes.xs).length c34.f_Writes.c, .slice c34.f_Ops.a (c34.f_Ops.xs).length c34.f_Ops.c, .int .i64 c34.f_To] 26 (0, 0))]) (fun w S => S.perm (List.perm_append_comm (l₁ := [row e_Op.T e_Op.sz a51 (ys45 ++ ys50).length c51 (flat e_Op (ys45 ++ ys50)), blk b8 (.cells #[.int .i64 c34.f_Kind, .slice c34.f_Reads.a (c34.f_Reads.xs).length c34.f_Reads.c, .slice c34.f_Writes.a (c34.f_Writes.xs).length c34.f_Writes.c, .slice c34.f_Ops.a (c34.f_Ops.xs).length c34.f_Ops.c, .int .i64 c34.f_To] 26 (0, 0))]) (l₂ := row e_S.T e_S.sz c34.f_Reads.a (c34.f_Reads.xs).length c34.f_Reads.c (flat e_S c34.f_Reads.xs) :: row e_S.T e_S.sz c34.f_Writes.a (c34.f_Writes.xs).length c34.f_Writes.c (flat e_S c34.f_Writes.xs) :: stars ((c34.f_Ops.xs.map Op.f_Value).map (vrow e8)) :: blk b3 (.cells #[.int .i64 t.f_Kind, .slice t.f_Reads.a (t.f_Reads.xs).length t.f_Reads.c, .slice t.f_Writes.a (t.f_Writes.xs).length t.f_Writes.c, .slice t.f_Ops.a (t.f_Ops.xs).length t.f_Ops.c, .int .i64 t.f_To] 26 (0, 0)) :: F))) ?_
      refine h_next ?_
      refine h_take 11 rfl rfl (by kernel_rfl) (by kernel_rfl) (by kernel_rfl) (fun L0 => v_fieldAddr (q := ⟨b8, 3, none⟩) rfl rfl Try.underlying26 rfl ti24 rfl) ?_
      refine h_one 12 rfl (by kernel_rfl) ?_
      refine l_conv (L' := row e_Op.T e_Op.sz a51 (ys45 ++ ys50).length c51 (flat e_Op (ys45 ++ ys50)) :: blk b8 (.cells #[.int .i64 c34.f_Kind, .slice c34.f_Reads.a (c34.f_Reads.xs).length c34.f_Reads.c, .slice c34.f_Writes.a (c34.f_Writes.xs).length c34.f_Writes.c, .slice c34.f_Ops.a (c34.f_Ops.xs).length c34.f_Ops.c, .int .i64 c34.f_To] 26 (0, 0)) :: row e_S.T e_S.sz c34.f_Reads.a (c34.f_Reads.xs).length c34.f_Reads.c (flat e_S c34.f_Reads.xs) :: row e_S.T e_S.sz c34.f_Writes.a (c34.f_Writes.xs).length c34.f_Writes.c (flat e_S c34.f_Writes.xs) :: stars ((c34.f_Ops.xs.map Op.f_Value).map (vrow e8)) :: blk b3 (.cells #[.int .i64 t.f_Kind, .slice t.f_Reads.a (t.f_Reads.xs).length t.f_Reads.c, .slice t.f_Writes.a (t.f_Writes.xs).length t.f_Writes.c, .slice t.f_Ops.a (t.f_Ops.xs).length t.f_Ops.c, .int .i64 t.f_To] 26 (0, 0)) :: F) (fun w S => S.perm List.perm_append_comm) ?_
      refine l_f1 ?_
      refine o_store1 rfl rfl rfl ti24 rfl rfl ?_
      refine l_nil ?_
      refine q_conv (L' := (row e_S.T e_S.sz c34.f_Reads.a (c34.f_Reads.xs).length c34.f_Reads.c (flat e_S c34.f_Reads.xs) :: row e_S.T e_S.sz c34.f_Writes.a (c34.f_Writes.xs).length c34.f_Writes.c (flat e_S c34.f_Writes.xs) :: stars ((c34.f_Ops.xs.map Op.f_Value).map (vrow e8)) :: blk b3 (.cells #[.int .i64 t.f_Kind, .slice t.f_Reads.a (t.f_Reads.xs).length t.f_Reads.c, .slice t.f_Writes.a (t.f_Writes.xs).length t.f_Writes.c, .slice t.f_Ops.a (t.f_Ops.xs).length t.f_Ops.c, .int .i64 t.f_To] 26 (0, 0)) :: F) ++ [blk b8 (.cells #[.int .i64 c34.f_Kind, .slice c34.f_Reads.a (c34.f_Reads.xs).length c34.f_Reads.c, .slice c34.f_Writes.a (c34.f_Writes.xs).length c34.f_Writes.c, .slice a51 (ys45 ++ ys50).length c51, .int .i64 c34.f_To] 26 (0, 0)), row e_Op.T e_Op.sz a51 (ys45 ++ ys50).length c51 (flat e_Op (ys45 ++ ys50))]) (fun w S => S.perm (List.perm_append_comm (l₁ := [blk b8 (.cells #[.int .i64 c34.f_Kind, .slice c34.f_Reads.a (c34.f_Reads.xs).length c34.f_Reads.c, .slice c34.f_Writes.a (c34.f_Writes.xs).length c34.f_Writes.c, .slice a51 (ys45 ++ ys50).length c51, .int .i64 c34.f_To] 26 (0, 0)), row e_Op.T e_Op.sz a51 (ys45 ++ ys50).length c51 (flat e_Op (ys45 ++ ys50))]) (l₂ := row e_S.T e_S.sz c34.f_Reads.a (c34.f_Reads.xs).length c34.f_Reads.c (flat e_S c34.f_Reads.xs) :: row e_S.T e_S.sz c34.f_Writes.a (c34.f_Writes.xs).length c34.f_Writes.c (flat e_S c34.f_Writes.xs) :: stars ((c34.f_Ops.xs.map Op.f_Value).map (vrow e8)) :: blk b3 (.cells #[.int .i64 t.f_Kind, .slice t.f_Reads.a (t.f_Reads.xs).length t.f_Reads.c, .slice t.f_Writes.a (t.f_Writes.xs).length t.f_Writes.c, .slice t.f_Ops.a (t.f_Ops.xs).length t.f_Ops.c, .int .i64 t.f_To] 26 (0, 0)) :: F))) ?_
      refine h_next ?_
      refine h_done (by kernel_rfl) ?_
      refine q_conv (L' := blk b8 (.cells #[.int .i64 c34.f_Kind, .slice c34.f_Reads.a (c34.f_Reads.xs).length c34.f_Reads.c, .slice c34.f_Writes.a (c34.f_Writes.xs).length c34.f_Writes.c, .slice a51 (ys45 ++ ys50).length c51, .int .i64 c34.f_To] 26 (0, 0)) :: row e_Op.T e_Op.sz a51 (ys45 ++ ys50).length c51 (flat e_Op (ys45 ++ ys50)) :: row e_S.T e_S.sz c34.f_Reads.a (c34.f_Reads.xs).length c34.f_Reads.c (flat e_S c34.f_Reads.xs) :: row e_S.T e_S.sz c34.f_Writes.a (c34.f_Writes.xs).length c34.f_Writes.c (flat e_S c34.f_Writes.xs) :: stars ((c34.f_Ops.xs.map Op.f_Value).map (vrow e8)) :: blk b3 (.cells #[.int .i64 t.f_Kind, .slice t.f_Reads.a (t.f_Reads.xs).length t.f_Reads.c, .slice t.f_Writes.a (t.f_Writes.xs).length t.f_Writes.c, .slice t.f_Ops.a (t.f_Ops.xs).length t.f_Ops.c, .int .i64 t.f_To] 26 (0, 0)) :: F) (fun w S => S.perm List.perm_append_comm) ?_
      refine q_then ?_
      refine c_seq ?_
      have hsub : ∀ o ∈ ys45 ++ ys50, o ∈ c34.f_Ops.xs := fun o ho => (fun o ho => (List.mem_append.1 ho).elim (fun h9 => sub_mem' (by rw [hys45] at h9; exact h9)) (fun h9 => sub_mem' (by rw [hys50] at h9; exact h9))) o ho
      refine c_heldF [] (blk b8 (.cells #[.int .i64 c34.f_Kind, .slice c34.f_Reads.a (c34.f_Reads.xs).length c34.f_Reads.c, .slice c34.f_Writes.a (c34.f_Writes.xs).length c34.f_Writes.c, .slice a51 (ys45 ++ ys50).length c51, .int .i64 c34.f_To] 26 (0, 0)) :: row e_Op.T e_Op.sz a51 (ys45 ++ ys50).length c51 (flat e_Op (ys45 ++ ys50)) :: row e_S.T e_S.sz c34.f_Reads.a (c34.f_Reads.xs).length c34.f_Reads.c (flat e_S c34.f_Reads.xs) :: row e_S.T e_S.sz c34.f_Writes.a (c34.f_Writes.xs).length c34.f_Writes.c (flat e_S c34.f_Writes.xs) :: stars ((c34.f_Ops.xs.map Op.f_Value).map (vrow e8)) :: blk b3 (.cells #[.int .i64 t.f_Kind, .slice t.f_Reads.a (t.f_Reads.xs).length t.f_Reads.c, .slice t.f_Writes.a (t.f_Writes.xs).length t.f_Writes.c, .slice t.f_Ops.a (t.f_Ops.xs).length t.f_Ops.c, .int .i64 t.f_To] 26 (0, 0)) :: F) (by kernel_rfl) ?_
      refine h_take 0 rfl rfl (by kernel_rfl) (by kernel_rfl) (by kernel_rfl) (fun L0 => v_loadn (vs := [_, _, _, _, _]) rfl rfl Try.underlying26 rfl ti26 (rdn_lit 0 rfl rfl)) ?_
      refine h_take 1 rfl rfl (by kernel_rfl) (by kernel_rfl) (by kernel_rfl) (fun L0 => v_move rfl rfl) ?_
      refine h_one 2 rfl (by kernel_rfl) ?_
      refine l_conv (L' := blk b8 (.cells #[.int .i64 c34.f_Kind, .slice c34.f_Reads.a (c34.f_Reads.xs).length c34.f_Reads.c, .slice c34.f_Writes.a (c34.f_Writes.xs).length c34.f_Writes.c, .slice a51 (ys45 ++ ys50).length c51, .int .i64 c34.f_To] 26 (0, 0)) :: row e_Op.T e_Op.sz a51 (ys45 ++ ys50).length c51 (flat e_Op (ys45 ++ ys50)) :: row e_S.T e_S.sz c34.f_Reads.a (c34.f_Reads.xs).length c34.f_Reads.c (flat e_S c34.f_Reads.xs) :: row e_S.T e_S.sz c34.f_Writes.a (c34.f_Writes.xs).length c34.f_Writes.c (flat e_S c34.f_Writes.xs) :: stars ((c34.f_Ops.xs.map Op.f_Value).map (vrow e8)) :: blk b3 (.cells #[.int .i64 t.f_Kind, .slice t.f_Reads.a (t.f_Reads.xs).length t.f_Reads.c, .slice t.f_Writes.a (t.f_Writes.xs).length t.f_Writes.c, .slice t.f_Ops.a (t.f_Ops.xs).length t.f_Ops.c, .int .i64 t.f_To] 26 (0, 0)) :: F) (fun w S => S.perm List.perm_append_comm) ?_
      refine o_call rfl cal13 rfl (check_ (t := (⟨c34.f_Kind, ⟨c34.f_Reads.a, c34.f_Reads.xs, c34.f_Reads.c⟩, ⟨c34.f_Writes.a, c34.f_Writes.xs, c34.f_Writes.c⟩, ⟨a51, ys45 ++ ys50, c51⟩, c34.f_To⟩ : Txn)) (g := g) (TxR.mk (t := (⟨c34.f_Kind, ⟨c34.f_Reads.a, c34.f_Reads.xs, c34.f_Reads.c⟩, ⟨c34.f_Writes.a, c34.f_Writes.xs, c34.f_Writes.c⟩, ⟨a51, ys45 ++ ys50, c51⟩, c34.f_To⟩ : Txn)) (rds_own e_S_ok 2 rfl) (rds_own e_S_ok 3 rfl) (rds_own e_Op_ok 1 rfl) (fun o ho => rds_vrow e8_ok 4 rfl (List.mem_map.2 ⟨o, hsub o ho, rfl⟩)) ⟨L_c34.lr, L_c34.lw, (by show (ys45 ++ ys50).length ≤ _; rw [List.length_append]; omega), fun o ho => L_c34.lv o (hsub o ho)⟩)) ?_
      rintro _ _ ⟨rfl, rfl⟩
      refine l_nil ?_
      refine q_conv (L' := (blk b8 (.cells #[.int .i64 c34.f_Kind, .slice c34.f_Reads.a (c34.f_Reads.xs).length c34.f_Reads.c, .slice c34.f_Writes.a (c34.f_Writes.xs).length c34.f_Writes.c, .slice a51 (ys45 ++ ys50).length c51, .int .i64 c34.f_To] 26 (0, 0)) :: row e_Op.T e_Op.sz a51 (ys45 ++ ys50).length c51 (flat e_Op (ys45 ++ ys50)) :: row e_S.T e_S.sz c34.f_Reads.a (c34.f_Reads.xs).length c34.f_Reads.c (flat e_S c34.f_Reads.xs) :: row e_S.T e_S.sz c34.f_Writes.a (c34.f_Writes.xs).length c34.f_Writes.c (flat e_S c34.f_Writes.xs) :: stars ((c34.f_Ops.xs.map Op.f_Value).map (vrow e8)) :: blk b3 (.cells #[.int .i64 t.f_Kind, .slice t.f_Reads.a (t.f_Reads.xs).length t.f_Reads.c, .slice t.f_Writes.a (t.f_Writes.xs).length t.f_Writes.c, .slice t.f_Ops.a (t.f_Ops.xs).length t.f_Ops.c, .int .i64 t.f_To] 26 (0, 0)) :: F) ++ []) (fun w S => S.perm (List.perm_append_comm (l₁ := []) (l₂ := blk b8 (.cells #[.int .i64 c34.f_Kind, .slice c34.f_Reads.a (c34.f_Reads.xs).length c34.f_Reads.c, .slice c34.f_Writes.a (c34.f_Writes.xs).length c34.f_Writes.c, .slice a51 (ys45 ++ ys50).length c51, .int .i64 c34.f_To] 26 (0, 0)) :: row e_Op.T e_Op.sz a51 (ys45 ++ ys50).length c51 (flat e_Op (ys45 ++ ys50)) :: row e_S.T e_S.sz c34.f_Reads.a (c34.f_Reads.xs).length c34.f_Reads.c (flat e_S c34.f_Reads.xs) :: row e_S.T e_S.sz c34.f_Writes.a (c34.f_Writes.xs).length c34.f_Writes.c (flat e_S c34.f_Writes.xs) :: stars ((c34.f_Ops.xs.map Op.f_Value).map (vrow e8)) :: blk b3 (.cells #[.int .i64 t.f_Kind, .slice t.f_Reads.a (t.f_Reads.xs).length t.f_Reads.c, .slice t.f_Writes.a (t.f_Writes.xs).length t.f_Writes.c, .slice t.f_Ops.a (t.f_Ops.xs).length t.f_Ops.c, .int .i64 t.f_To] 26 (0, 0)) :: F))) ?_
      refine h_next ?_
      refine h_take 3 rfl rfl (by kernel_rfl) (by kernel_rfl) (by kernel_rfl) (fun L0 => v_bin rfl rfl rfl b_eql) ?_
      refine h_eq (t := 56) (v' := .bool true) rfl (by rw [chkN_sub (t := c34) (c := (⟨c34.f_Kind, ⟨c34.f_Reads.a, c34.f_Reads.xs, c34.f_Reads.c⟩, ⟨c34.f_Writes.a, c34.f_Writes.xs, c34.f_Writes.c⟩, ⟨a51, ys45 ++ ys50, c51⟩, c34.f_To⟩ : Txn)) rfl rfl rfl rfl (by show (ys45 ++ ys50).length ≤ _; rw [List.length_append]; omega) hsub (by rw [chkN_same hs_c34]; exact hch)]; rfl) ?_
      refine h_take 4 rfl rfl (by kernel_rfl) (by kernel_rfl) (by kernel_rfl) (fun L0 => v_move rfl rfl) ?_
      refine h_take_yes 5 rfl rfl rfl rfl rfl (by kernel_rfl) (by kernel_rfl) (by kernel_rfl) (fun L0 => v_loadn (vs := [_, _, _, _, _]) rfl rfl Try.underlying26 rfl ti26 (rdn_lit 5 rfl rfl)) ?_
      refine h_take_yes 8 rfl rfl rfl rfl rfl (by kernel_rfl) (by kernel_rfl) (by kernel_rfl) (fun L0 => v_fieldAddr (q := ⟨b3, 1, none⟩) rfl rfl Try.underlying26 rfl ti23 rfl) ?_
      refine h_take_yes 9 rfl rfl rfl rfl rfl (by kernel_rfl) (by kernel_rfl) (by kernel_rfl) (fun L0 => v_load1 rfl rfl Try.underlying23 rfl (rd_mem 5 rfl rfl)) ?_
      refine h_take_yes 10 rfl rfl rfl rfl rfl (by kernel_rfl) (by kernel_rfl) (by kernel_rfl) (fun L0 => v_len rfl rfl Try.underlying23) ?_
      refine h_take_yes 11 rfl rfl rfl rfl rfl (by kernel_rfl) (by kernel_rfl) (by kernel_rfl) (fun L0 => v_fieldAddr (q := ⟨b3, 2, none⟩) rfl rfl Try.underlying26 rfl ti23 rfl) ?_
      refine h_take_yes 12 rfl rfl rfl rfl rfl (by kernel_rfl) (by kernel_rfl) (by kernel_rfl) (fun L0 => v_load1 rfl rfl Try.underlying23 rfl (rd_mem 5 rfl rfl)) ?_
      refine h_take_yes 13 rfl rfl rfl rfl rfl (by kernel_rfl) (by kernel_rfl) (by kernel_rfl) (fun L0 => v_len rfl rfl Try.underlying23) ?_
      refine h_take_yes 14 rfl rfl rfl rfl rfl (by kernel_rfl) (by kernel_rfl) (by kernel_rfl) (fun L0 => v_bin rfl rfl rfl (b_add (wrap_i64 (by omega) (by omega)))) ?_
      refine h_one 6 rfl (by kernel_rfl) ?_
      refine l_conv (L' := blk b8 (.cells #[.int .i64 c34.f_Kind, .slice c34.f_Reads.a (c34.f_Reads.xs).length c34.f_Reads.c, .slice c34.f_Writes.a (c34.f_Writes.xs).length c34.f_Writes.c, .slice a51 (ys45 ++ ys50).length c51, .int .i64 c34.f_To] 26 (0, 0)) :: row e_Op.T e_Op.sz a51 (ys45 ++ ys50).length c51 (flat e_Op (ys45 ++ ys50)) :: row e_S.T e_S.sz c34.f_Reads.a (c34.f_Reads.xs).length c34.f_Reads.c (flat e_S c34.f_Reads.xs) :: row e_S.T e_S.sz c34.f_Writes.a (c34.f_Writes.xs).length c34.f_Writes.c (flat e_S c34.f_Writes.xs) :: stars ((c34.f_Ops.xs.map Op.f_Value).map (vrow e8)) :: blk b3 (.cells #[.int .i64 t.f_Kind, .slice t.f_Reads.a (t.f_Reads.xs).length t.f_Reads.c, .slice t.f_Writes.a (t.f_Writes.xs).length t.f_Writes.c, .slice t.f_Ops.a (t.f_Ops.xs).length t.f_Ops.c, .int .i64 t.f_To] 26 (0, 0)) :: F) (fun w S => S.perm List.perm_append_comm) ?_
      refine o_yes rfl rfl rfl ?_
      refine o_call rfl cal18 rfl (keys_ (t := t) (TxR.c (TxR.c (TxR.c (TxR.c (TxR.c (TxR.c T_t)))))) (by omega)) ?_
      rintro _ _ ⟨a59, c59, rfl, rfl⟩
      refine l_nil ?_
      refine q_conv (L' := (blk b8 (.cells #[.int .i64 c34.f_Kind, .slice c34.f_Reads.a (c34.f_Reads.xs).length c34.f_Reads.c, .slice c34.f_Writes.a (c34.f_Writes.xs).length c34.f_Writes.c, .slice a51 (ys45 ++ ys50).length c51, .int .i64 c34.f_To] 26 (0, 0)) :: row e_Op.T e_Op.sz a51 (ys45 ++ ys50).length c51 (flat e_Op (ys45 ++ ys50)) :: row e_S.T e_S.sz c34.f_Reads.a (c34.f_Reads.xs).length c34.f_Reads.c (flat e_S c34.f_Reads.xs) :: row e_S.T e_S.sz c34.f_Writes.a (c34.f_Writes.xs).length c34.f_Writes.c (flat e_S c34.f_Writes.xs) :: stars ((c34.f_Ops.xs.map Op.f_Value).map (vrow e8)) :: blk b3 (.cells #[.int .i64 t.f_Kind, .slice t.f_Reads.a (t.f_Reads.xs).length t.f_Reads.c, .slice t.f_Writes.a (t.f_Writes.xs).length t.f_Writes.c, .slice t.f_Ops.a (t.f_Ops.xs).length t.f_Ops.c, .int .i64 t.f_To] 26 (0, 0)) :: F) ++ [row e_S.T e_S.sz a59 (keysT t).length c59 (flat e_S (keysT t))]) (fun w S => S.perm (List.perm_append_comm (l₁ := [row e_S.T e_S.sz a59 (keysT t).length c59 (flat e_S (keysT t))]) (l₂ := blk b8 (.cells #[.int .i64 c34.f_Kind, .slice c34.f_Reads.a (c34.f_Reads.xs).length c34.f_Reads.c, .slice c34.f_Writes.a (c34.f_Writes.xs).length c34.f_Writes.c, .slice a51 (ys45 ++ ys50).length c51, .int .i64 c34.f_To] 26 (0, 0)) :: row e_Op.T e_Op.sz a51 (ys45 ++ ys50).length c51 (flat e_Op (ys45 ++ ys50)) :: row e_S.T e_S.sz c34.f_Reads.a (c34.f_Reads.xs).length c34.f_Reads.c (flat e_S c34.f_Reads.xs) :: row e_S.T e_S.sz c34.f_Writes.a (c34.f_Writes.xs).length c34.f_Writes.c (flat e_S c34.f_Writes.xs) :: stars ((c34.f_Ops.xs.map Op.f_Value).map (vrow e8)) :: blk b3 (.cells #[.int .i64 t.f_Kind, .slice t.f_Reads.a (t.f_Reads.xs).length t.f_Reads.c, .slice t.f_Writes.a (t.f_Writes.xs).length t.f_Writes.c, .slice t.f_Ops.a (t.f_Ops.xs).length t.f_Ops.c, .int .i64 t.f_To] 26 (0, 0)) :: F))) ?_
      refine h_next ?_
      refine h_take_yes 7 rfl rfl rfl rfl rfl (by kernel_rfl) (by kernel_rfl) (by kernel_rfl) (fun L0 => v_len rfl rfl Try.underlying23) ?_
      refine h_take_yes 15 rfl rfl rfl rfl rfl (by kernel_rfl) (by kernel_rfl) (by kernel_rfl) (fun L0 => v_bin rfl rfl rfl b_eql) ?_
      refine h_eq (t := 68) (v' := .bool true) rfl (show _ = Value.bool true from by rw [keys_count hch]; simp) ?_
      refine h_take 16 rfl rfl (by kernel_rfl) (by kernel_rfl) (by kernel_rfl) (fun L0 => v_pick_true rfl rfl rfl) ?_
      refine h_take 17 rfl rfl (by kernel_rfl) (by kernel_rfl) (by kernel_rfl) (fun L0 => v_assign rfl rfl) ?_
      refine h_done (by kernel_rfl) ?_
      refine q_conv (L' := row e_S.T e_S.sz a59 (keysT t).length c59 (flat e_S (keysT t)) :: blk b8 (.cells #[.int .i64 c34.f_Kind, .slice c34.f_Reads.a (c34.f_Reads.xs).length c34.f_Reads.c, .slice c34.f_Writes.a (c34.f_Writes.xs).length c34.f_Writes.c, .slice a51 (ys45 ++ ys50).length c51, .int .i64 c34.f_To] 26 (0, 0)) :: row e_Op.T e_Op.sz a51 (ys45 ++ ys50).length c51 (flat e_Op (ys45 ++ ys50)) :: row e_S.T e_S.sz c34.f_Reads.a (c34.f_Reads.xs).length c34.f_Reads.c (flat e_S c34.f_Reads.xs) :: row e_S.T e_S.sz c34.f_Writes.a (c34.f_Writes.xs).length c34.f_Writes.c (flat e_S c34.f_Writes.xs) :: stars ((c34.f_Ops.xs.map Op.f_Value).map (vrow e8)) :: blk b3 (.cells #[.int .i64 t.f_Kind, .slice t.f_Reads.a (t.f_Reads.xs).length t.f_Reads.c, .slice t.f_Writes.a (t.f_Writes.xs).length t.f_Writes.c, .slice t.f_Ops.a (t.f_Ops.xs).length t.f_Ops.c, .int .i64 t.f_To] 26 (0, 0)) :: F) (fun w S => S.perm List.perm_append_comm) ?_
      refine q_then ?_
      refine c_ret ?_
      refine q_conv (fun w S => S.tail) ?_
      refine q_conv (fun w S => S.tail) ?_
      refine q_conv (fun w S => S.tail) ?_
      refine q_conv (fun w S => S.tail) ?_
      refine q_conv (fun w S => S.tail) ?_
      refine q_conv (fun w S => S.tail) ?_
      refine q_conv (fun w S => S.tail) ?_
      exact f_ret (r_one rfl rfl) (⟨rfl, rfl⟩) (fun w S => S)

end Go.Proofs.Ytllclglbfdncnaa
