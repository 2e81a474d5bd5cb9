/- Printed by eng2.py out of 09a/spec.py. -/
import Derived.Test.YtlblipkcbmcfkaaCopyp
import Derived.Test.YtlblipkcbmcfkaaPCopy
set_option linter.unusedVariables false
set_option linter.unusedSimpArgs false
set_option maxRecDepth 10000
namespace Go.Proofs.Ytlblipkcbmcfkaa
open Go.RowKit Classical
abbrev qzOCopyP1 (o : Order) : Obj := .cells #[.int .i64 o.f_Tag_Id_Node, .int .u64 o.f_Tag_Id_Epoch, .int .u64 o.f_Tag_Id_Seq, .int .i64 o.f_Tag_Try, .int .i64 o.f_Txn_Kind, .slice o.f_Txn_Reads.a (o.f_Txn_Reads.xs).length o.f_Txn_Reads.c, .slice o.f_Txn_Writes.a (o.f_Txn_Writes.xs).length o.f_Txn_Writes.c, .slice o.f_Txn_Ops.a (o.f_Txn_Ops.xs).length o.f_Txn_Ops.c, .int .i64 o.f_Txn_To, .slice o.f_Marks.a (o.f_Marks.xs).length o.f_Marks.c] 33 (0, 0)
abbrev qzOCopyP2 : Obj := .cells #[.int .i64 0, .int .u64 0, .int .u64 0, .int .i64 0, .int .i64 0, .slice none 0 0, .slice none 0 0, .slice none 0 0, .int .i64 0, .slice none 0 0] 33 (0, 0)
abbrev qzOCopyP3 (o : Order) (c5 : Txn) : Obj := .cells #[.int .i64 o.f_Tag_Id_Node, .int .u64 o.f_Tag_Id_Epoch, .int .u64 o.f_Tag_Id_Seq, .int .i64 o.f_Tag_Try, .int .i64 c5.f_Kind, .slice c5.f_Reads.a (c5.f_Reads.xs).length c5.f_Reads.c, .slice c5.f_Writes.a (c5.f_Writes.xs).length c5.f_Writes.c, .slice c5.f_Ops.a (c5.f_Ops.xs).length c5.f_Ops.c, .int .i64 c5.f_To, .slice o.f_Marks.a (o.f_Marks.xs).length o.f_Marks.c] 33 (0, 0)
abbrev qzOCopyP4 (o : Order) (c5 : Txn) (a8 : Option Addr) (c8 : Nat) : Obj := .cells #[.int .i64 o.f_Tag_Id_Node, .int .u64 o.f_Tag_Id_Epoch, .int .u64 o.f_Tag_Id_Seq, .int .i64 o.f_Tag_Try, .int .i64 c5.f_Kind, .slice c5.f_Reads.a (c5.f_Reads.xs).length c5.f_Reads.c, .slice c5.f_Writes.a (c5.f_Writes.xs).length c5.f_Writes.c, .slice c5.f_Ops.a (c5.f_Ops.xs).length c5.f_Ops.c, .int .i64 c5.f_To, .slice a8 (o.f_Marks.xs).length c8] 33 (0, 0)
theorem cloneM {W : World} {F : List Res} {xs : List Mark} {a : Option Addr} {c : Nat} (hs : RdS W F e_Mark a xs) (hb : xs.length * e_Mark.bytes ≤ 140737488355328) (hn : xs.length ≤ 140737488355328) : CS Try.prog 35 #[.slice a xs.length c] W (F) (fun r L' => ∃ (a' : Option Addr) (c' : Nat), r = .slice a' xs.length c' ∧ L' = row e_Mark.T e_Mark.sz a' xs.length c' (flat e_Mark xs) :: F) := by
 refine f_door (l0 := [(0, .slice a xs.length c)]) Try.func35 Try.ntmps35 rfl rfl rfl ?_
 refine c_seq ?_
 refine c_fact (rds_nilq hs) ?_
 intro hz
 refine c_region ?_
 refine o_assign rfl rfl ?_
 refine l_nil ?_
 refine q_then ?_
 refine c_seq ?_
 refine c_seq ?_
 refine c_region ?_
 refine o_move rfl rfl ?_
 refine o_bin rfl rfl rfl (b_sleq Try.underlying31 _ _ _) ?_
 refine l_nil ?_
 refine q_then ?_
 refine c_cond rfl (fun h1 => ?_) (fun h1 => ?_)
 · -- h1T
  have h1b := h1
  try simp only [decide_eq_true_eq, decide_eq_false_iff_not, Bool.not_eq_eq_eq_not, Bool.not_true, Bool.not_false, Bool.not_eq_true', Bool.not_eq_false', Int.not_lt, Int.not_le, Bool.or_eq_true, Bool.and_eq_true] at h1
  have hnil : xs = [] := hz (by simpa using h1)
  refine c_seq ?_
  refine c_region ?_
  refine o_assign rfl rfl ?_
  refine l_nil ?_
  refine q_then ?_
  refine c_ret ?_
  refine q_pass_ret ?_
  exact f_ret (r_one rfl rfl) (⟨none, 0, by rw [hnil]; rfl, rfl⟩) (by rw [hnil]; exact fun w S => S.own_nil)
 · -- h1F
  have h1b := h1
  try simp only [decide_eq_true_eq, decide_eq_false_iff_not, Bool.not_eq_eq_eq_not, Bool.not_true, Bool.not_false, Bool.not_eq_true', Bool.not_eq_false', Int.not_lt, Int.not_le, Bool.or_eq_true, Bool.and_eq_true] at h1
  refine c_skip ?_
  refine q_then ?_
  refine c_seq ?_
  refine c_region ?_
  refine o_lit e_Mark_ok rfl Try.underlying31 rfl rfl rfl (lit_ok rfl) ([] : List Mark) rfl rfl fun a5 => ?_
  refine o_move rfl rfl ?_
  refine o_append e_Mark_ok rfl rfl rfl Try.underlying31 (rds_c hs) (by simpa using hb) (by simpa using hn) fun a7 c7 => ?_
  refine o_assign rfl rfl ?_
  refine l_nil ?_
  refine q_then ?_
  refine c_ret ?_
  exact f_ret (r_one rfl rfl) (⟨_, _, rfl, rfl⟩) (fun w S => by simpa using S)

theorem ocopy_ {W : World} {F : List Res} {o : Order} (T_o : OrdR W F o) (small : OSmall o) : CS Try.prog 20 #[.agg #[.int .i64 o.f_Tag_Id_Node, .int .u64 o.f_Tag_Id_Epoch, .int .u64 o.f_Tag_Id_Seq, .int .i64 o.f_Tag_Try, .int .i64 o.f_Txn_Kind, .slice o.f_Txn_Reads.a (o.f_Txn_Reads.xs).length o.f_Txn_Reads.c, .slice o.f_Txn_Writes.a (o.f_Txn_Writes.xs).length o.f_Txn_Writes.c, .slice o.f_Txn_Ops.a (o.f_Txn_Ops.xs).length o.f_Txn_Ops.c, .int .i64 o.f_Txn_To, .slice o.f_Marks.a (o.f_Marks.xs).length o.f_Marks.c]] W (F) (fun r L' => ∃ c : Order, SameO c o ∧ r = .agg (e_Order.cells c).toArray ∧ L' = ordM c :: F) := by
 have hlm := small.m
 refine f_door (l0 := [(0, .agg #[.int .i64 o.f_Tag_Id_Node, .int .u64 o.f_Tag_Id_Epoch, .int .u64 o.f_Tag_Id_Seq, .int .i64 o.f_Tag_Try, .int .i64 o.f_Txn_Kind, .slice o.f_Txn_Reads.a (o.f_Txn_Reads.xs).length o.f_Txn_Reads.c, .slice o.f_Txn_Writes.a (o.f_Txn_Writes.xs).length o.f_Txn_Writes.c, .slice o.f_Txn_Ops.a (o.f_Txn_Ops.xs).length o.f_Txn_Ops.c, .int .i64 o.f_Txn_To, .slice o.f_Marks.a (o.f_Marks.xs).length o.f_Marks.c])]) Try.func20 Try.ntmps20 rfl rfl rfl ?_
 refine c_seq ?_
 refine c_region ?_
 refine o_box rfl rfl fun b1 => ?_
 refine o_alloc rfl ti33 fun b2 => ?_
 refine l_nil ?_
 refine q_then ?_
 refine c_seq ?_
 refine c_mid (α := Txn × (Option Addr) × Nat) (fun z => [(0, .agg #[.int .i64 o.f_Tag_Id_Node, .int .u64 o.f_Tag_Id_Epoch, .int .u64 o.f_Tag_Id_Seq, .int .i64 o.f_Tag_Try, .int .i64 o.f_Txn_Kind, .slice o.f_Txn_Reads.a (o.f_Txn_Reads.xs).length o.f_Txn_Reads.c, .slice o.f_Txn_Writes.a (o.f_Txn_Writes.xs).length o.f_Txn_Writes.c, .slice o.f_Txn_Ops.a (o.f_Txn_Ops.xs).length o.f_Txn_Ops.c, .int .i64 o.f_Txn_To, .slice o.f_Marks.a (o.f_Marks.xs).length o.f_Marks.c]), (1, .pointer (some ⟨b1, 0, none⟩)), (2, .pointer (some ⟨b2, 0, none⟩)), (3, .pointer (some ⟨b1, 4, none⟩)), (4, .agg #[.int .i64 o.f_Txn_Kind, .slice o.f_Txn_Reads.a (o.f_Txn_Reads.xs).length o.f_Txn_Reads.c, .slice o.f_Txn_Writes.a (o.f_Txn_Writes.xs).length o.f_Txn_Writes.c, .slice o.f_Txn_Ops.a (o.f_Txn_Ops.xs).length o.f_Txn_Ops.c, .int .i64 o.f_Txn_To]), (5, .agg #[.int .i64 z.1.f_Kind, .slice z.1.f_Reads.a (z.1.f_Reads.xs).length z.1.f_Reads.c, .slice z.1.f_Writes.a (z.1.f_Writes.xs).length z.1.f_Writes.c, .slice z.1.f_Ops.a (z.1.f_Ops.xs).length z.1.f_Ops.c, .int .i64 z.1.f_To]), (6, .pointer (some ⟨b1, 9, none⟩)), (7, .slice o.f_Marks.a (o.f_Marks.xs).length o.f_Marks.c), (8, .slice z.2.1 (o.f_Marks.xs).length z.2.2), (9, .pointer (some ⟨b1, 4, none⟩)), (10, .pointer (some ⟨b1, 9, none⟩))]) (fun z => blk b1 (.cells #[.int .i64 o.f_Tag_Id_Node, .int .u64 o.f_Tag_Id_Epoch, .int .u64 o.f_Tag_Id_Seq, .int .i64 o.f_Tag_Try, .int .i64 z.1.f_Kind, .slice z.1.f_Reads.a (z.1.f_Reads.xs).length z.1.f_Reads.c, .slice z.1.f_Writes.a (z.1.f_Writes.xs).length z.1.f_Writes.c, .slice z.1.f_Ops.a (z.1.f_Ops.xs).length z.1.f_Ops.c, .int .i64 z.1.f_To, .slice z.2.1 (o.f_Marks.xs).length z.2.2] 33 (0, 0)) :: row e_Mark.T e_Mark.sz z.2.1 (o.f_Marks.xs).length z.2.2 (flat e_Mark o.f_Marks.xs) :: txM z.1 :: blk b2 (qzOCopyP2) :: F) (fun z => SameT z.1 o.txn ∧ TxLen z.1) ?_ ?_
 · -- cut
  refine c_conv (fun w S => S.perm p1) ?_
  refine c_heldF [blk b1 (qzOCopyP1 o)] (blk b2 (qzOCopyP2) :: F) (by kernel_rfl) ?_
  refine h_take 0 rfl rfl (by kernel_rfl) (by kernel_rfl) (by kernel_rfl) (fun L0 => v_fieldAddr (q := ⟨b1, 4, none⟩) rfl rfl Try.underlying33 rfl ti30 rfl) ?_
  refine h_take 3 rfl rfl (by kernel_rfl) (by kernel_rfl) (by kernel_rfl) (fun L0 => v_fieldAddr (q := ⟨b1, 9, none⟩) rfl rfl Try.underlying33 rfl ti31 rfl) ?_
  refine h_many (is := [1, 4]) (by kernel_rfl) (by decide) (forall_cons ⟨_, rfl, ?_⟩ (forall_cons ⟨_, rfl, ?_⟩ forall_nil))
  · -- 1 comes first
   refine l_conv (L' := blk b1 (qzOCopyP1 o) :: blk b2 (qzOCopyP2) :: F) (fun w S => S.perm List.perm_append_comm) ?_
   refine o_loadn (vs := [_, _, _, _, _]) rfl rfl Try.underlying30 rfl ti30 (rdn_lit 0 rfl rfl) ?_
   refine l_nil ?_
   refine q_conv (L' := (blk b2 (qzOCopyP2) :: F) ++ [blk b1 (qzOCopyP1 o)]) (fun w S => S.perm (List.perm_append_comm (l₁ := [blk b1 (qzOCopyP1 o)]) (l₂ := blk b2 (qzOCopyP2) :: F))) ?_
   refine h_next ?_
   refine h_many (is := [2, 4]) (by kernel_rfl) (by decide) (forall_cons ⟨_, rfl, ?_⟩ (forall_cons ⟨_, rfl, ?_⟩ forall_nil))
   · -- 2 comes first
    refine l_conv (L' := blk b1 (qzOCopyP1 o) :: blk b2 (qzOCopyP2) :: F) (fun w S => S.perm List.perm_append_comm) ?_
    refine o_call rfl cal34 rfl (pcopy_ (t := o.txn) (OrdR.txn (OrdR.c (OrdR.c T_o))) small.tx) ?_
    rintro _ _ ⟨c5, hs_c5, rfl, rfl⟩
    have L_c5 : TxLen c5 := TxLen.same (OrdR.txn T_o).len hs_c5
    refine l_nil ?_
    refine q_conv (L' := (blk b2 (qzOCopyP2) :: F) ++ [txM c5, blk b1 (qzOCopyP1 o)]) (fun w S => S.perm (List.perm_append_comm (l₁ := [txM c5, blk b1 (qzOCopyP1 o)]) (l₂ := blk b2 (qzOCopyP2) :: F))) ?_
    refine h_next ?_
    refine h_one 4 rfl (by kernel_rfl) ?_
    refine l_conv (L' := txM c5 :: blk b1 (qzOCopyP1 o) :: blk b2 (qzOCopyP2) :: F) (fun w S => S.perm List.perm_append_comm) ?_
    refine o_load1 rfl rfl Try.underlying31 rfl (rd_mem 1 rfl rfl) ?_
    refine l_nil ?_
    refine q_conv (L' := (blk b2 (qzOCopyP2) :: F) ++ [txM c5, blk b1 (qzOCopyP1 o)]) (fun w S => S.perm (List.perm_append_comm (l₁ := [txM c5, blk b1 (qzOCopyP1 o)]) (l₂ := blk b2 (qzOCopyP2) :: F))) ?_
    refine h_next ?_
    refine h_take 6 rfl rfl (by kernel_rfl) (by kernel_rfl) (by kernel_rfl) (fun L0 => v_fieldAddr (q := ⟨b1, 4, none⟩) rfl rfl Try.underlying33 rfl ti30 rfl) ?_
    refine h_one 5 rfl (by kernel_rfl) ?_
    refine l_conv (L' := txM c5 :: blk b1 (qzOCopyP1 o) :: blk b2 (qzOCopyP2) :: F) (fun w S => S.perm List.perm_append_comm) ?_
    refine o_call rfl cal35 rfl (cloneM (OrdR.c (OrdR.c (OrdR.c T_o))).rm (by show _ * 32 ≤ _; omega) (by omega)) ?_
    rintro _ _ ⟨a8, c8, rfl, rfl⟩
    refine l_nil ?_
    refine q_conv (L' := (blk b2 (qzOCopyP2) :: F) ++ [row e_Mark.T e_Mark.sz a8 (o.f_Marks.xs).length c8 (flat e_Mark o.f_Marks.xs), txM c5, blk b1 (qzOCopyP1 o)]) (fun w S => S.perm (List.perm_append_comm (l₁ := [row e_Mark.T e_Mark.sz a8 (o.f_Marks.xs).length c8 (flat e_Mark o.f_Marks.xs), txM c5, blk b1 (qzOCopyP1 o)]) (l₂ := blk b2 (qzOCopyP2) :: F))) ?_
    refine h_next ?_
    refine h_one 7 rfl (by kernel_rfl) ?_
    refine l_conv (L' := row e_Mark.T e_Mark.sz a8 (o.f_Marks.xs).length c8 (flat e_Mark o.f_Marks.xs) :: txM c5 :: blk b1 (qzOCopyP1 o) :: blk b2 (qzOCopyP2) :: F) (fun w S => S.perm List.perm_append_comm) ?_
    refine l_f2 ?_
    refine o_storen rfl rfl ti30 rfl rfl rfl rfl ?_
    refine l_nil ?_
    refine q_conv (L' := (blk b2 (qzOCopyP2) :: F) ++ [blk b1 (qzOCopyP3 o c5), row e_Mark.T e_Mark.sz a8 (o.f_Marks.xs).length c8 (flat e_Mark o.f_Marks.xs), txM c5]) (fun w S => S.perm (List.perm_append_comm (l₁ := [blk b1 (qzOCopyP3 o c5), row e_Mark.T e_Mark.sz a8 (o.f_Marks.xs).length c8 (flat e_Mark o.f_Marks.xs), txM c5]) (l₂ := blk b2 (qzOCopyP2) :: F))) ?_
    refine h_next ?_
    refine h_take 8 rfl rfl (by kernel_rfl) (by kernel_rfl) (by kernel_rfl) (fun L0 => v_fieldAddr (q := ⟨b1, 9, none⟩) rfl rfl Try.underlying33 rfl ti31 rfl) ?_
    refine h_one 9 rfl (by kernel_rfl) ?_
    refine l_conv (L' := blk b1 (qzOCopyP3 o c5) :: row e_Mark.T e_Mark.sz a8 (o.f_Marks.xs).length c8 (flat e_Mark o.f_Marks.xs) :: txM c5 :: blk b2 (qzOCopyP2) :: F) (fun w S => S.perm List.perm_append_comm) ?_
    refine o_store1 rfl rfl rfl ti31 rfl rfl ?_
    refine l_nil ?_
    refine q_conv (L' := (blk b2 (qzOCopyP2) :: F) ++ [blk b1 (qzOCopyP4 o c5 a8 c8), row e_Mark.T e_Mark.sz a8 (o.f_Marks.xs).length c8 (flat e_Mark o.f_Marks.xs), txM c5]) (fun w S => S.perm (List.perm_append_comm (l₁ := [blk b1 (qzOCopyP4 o c5 a8 c8), row e_Mark.T e_Mark.sz a8 (o.f_Marks.xs).length c8 (flat e_Mark o.f_Marks.xs), txM c5]) (l₂ := blk b2 (qzOCopyP2) :: F))) ?_
    refine h_next ?_
    refine h_done (by kernel_rfl) ?_
    refine q_conv (L' := blk b1 (qzOCopyP4 o c5 a8 c8) :: row e_Mark.T e_Mark.sz a8 (o.f_Marks.xs).length c8 (flat e_Mark o.f_Marks.xs) :: txM c5 :: blk b2 (qzOCopyP2) :: F) (fun w S => S.perm List.perm_append_comm) ?_
    exact q_mid (c5, a8, c8) (by exact ⟨hs_c5, L_c5⟩) ⟨(by first | rfl | exact vint (by omega)), (by first | rfl | exact vint (by omega)), (by first | rfl | exact vint (by omega)), (by first | rfl | exact vint (by omega)), (by first | rfl | exact vint (by omega)), (by first | rfl | exact vint (by omega)), (by first | rfl | exact vint (by omega)), (by first | rfl | exact vint (by omega)), (by first | rfl | exact vint (by omega)), (by first | rfl | exact vint (by omega)), (by first | rfl | exact vint (by omega)), trivial⟩ (fun w S => S)
   · -- 4 comes first
    refine l_conv (L' := blk b1 (qzOCopyP1 o) :: blk b2 (qzOCopyP2) :: F) (fun w S => S.perm List.perm_append_comm) ?_
    refine o_load1 rfl rfl Try.underlying31 rfl (rd_mem 0 rfl rfl) ?_
    refine l_nil ?_
    refine q_conv (L' := (blk b2 (qzOCopyP2) :: F) ++ [blk b1 (qzOCopyP1 o)]) (fun w S => S.perm (List.perm_append_comm (l₁ := [blk b1 (qzOCopyP1 o)]) (l₂ := blk b2 (qzOCopyP2) :: F))) ?_
    refine h_next ?_
    refine h_one 2 rfl (by kernel_rfl) ?_
    refine l_conv (L' := blk b1 (qzOCopyP1 o) :: blk b2 (qzOCopyP2) :: F) (fun w S => S.perm List.perm_append_comm) ?_
    refine o_call rfl cal34 rfl (pcopy_ (t := o.txn) (OrdR.txn (OrdR.c (OrdR.c T_o))) small.tx) ?_
    rintro _ _ ⟨c5, hs_c5, rfl, rfl⟩
    have L_c5 : TxLen c5 := TxLen.same (OrdR.txn T_o).len hs_c5
    refine l_nil ?_
    refine q_conv (L' := (blk b2 (qzOCopyP2) :: F) ++ [txM c5, blk b1 (qzOCopyP1 o)]) (fun w S => S.perm (List.perm_append_comm (l₁ := [txM c5, blk b1 (qzOCopyP1 o)]) (l₂ := blk b2 (qzOCopyP2) :: F))) ?_
    refine h_next ?_
    refine h_take 6 rfl rfl (by kernel_rfl) (by kernel_rfl) (by kernel_rfl) (fun L0 => v_fieldAddr (q := ⟨b1, 4, none⟩) rfl rfl Try.underlying33 rfl ti30 rfl) ?_
    refine h_one 5 rfl (by kernel_rfl) ?_
    refine l_conv (L' := txM c5 :: blk b1 (qzOCopyP1 o) :: blk b2 (qzOCopyP2) :: F) (fun w S => S.perm List.perm_append_comm) ?_
    refine o_call rfl cal35 rfl (cloneM (OrdR.c (OrdR.c (OrdR.c T_o))).rm (by show _ * 32 ≤ _; omega) (by omega)) ?_
    rintro _ _ ⟨a8, c8, rfl, rfl⟩
    refine l_nil ?_
    refine q_conv (L' := (blk b2 (qzOCopyP2) :: F) ++ [row e_Mark.T e_Mark.sz a8 (o.f_Marks.xs).length c8 (flat e_Mark o.f_Marks.xs), txM c5, blk b1 (qzOCopyP1 o)]) (fun w S => S.perm (List.perm_append_comm (l₁ := [row e_Mark.T e_Mark.sz a8 (o.f_Marks.xs).length c8 (flat e_Mark o.f_Marks.xs), txM c5, blk b1 (qzOCopyP1 o)]) (l₂ := blk b2 (qzOCopyP2) :: F))) ?_
    refine h_next ?_
    refine h_one 7 rfl (by kernel_rfl) ?_
    refine l_conv (L' := row e_Mark.T e_Mark.sz a8 (o.f_Marks.xs).length c8 (flat e_Mark o.f_Marks.xs) :: txM c5 :: blk b1 (qzOCopyP1 o) :: blk b2 (qzOCopyP2) :: F) (fun w S => S.perm List.perm_append_comm) ?_
    refine l_f2 ?_
    refine o_storen rfl rfl ti30 rfl rfl rfl rfl ?_
    refine l_nil ?_
    refine q_conv (L' := (blk b2 (qzOCopyP2) :: F) ++ [blk b1 (qzOCopyP3 o c5), row e_Mark.T e_Mark.sz a8 (o.f_Marks.xs).length c8 (flat e_Mark o.f_Marks.xs), txM c5]) (fun w S => S.perm (List.perm_append_comm (l₁ := [blk b1 (qzOCopyP3 o c5), row e_Mark.T e_Mark.sz a8 (o.f_Marks.xs).length c8 (flat e_Mark o.f_Marks.xs), txM c5]) (l₂ := blk b2 (qzOCopyP2) :: F))) ?_
    refine h_next ?_
    refine h_take 8 rfl rfl (by kernel_rfl) (by kernel_rfl) (by kernel_rfl) (fun L0 => v_fieldAddr (q := ⟨b1, 9, none⟩) rfl rfl Try.underlying33 rfl ti31 rfl) ?_
    refine h_one 9 rfl (by kernel_rfl) ?_
    refine l_conv (L' := blk b1 (qzOCopyP3 o c5) :: row e_Mark.T e_Mark.sz a8 (o.f_Marks.xs).length c8 (flat e_Mark o.f_Marks.xs) :: txM c5 :: blk b2 (qzOCopyP2) :: F) (fun w S => S.perm List.perm_append_comm) ?_
    refine o_store1 rfl rfl rfl ti31 rfl rfl ?_
    refine l_nil ?_
    refine q_conv (L' := (blk b2 (qzOCopyP2) :: F) ++ [blk b1 (qzOCopyP4 o c5 a8 c8), row e_Mark.T e_Mark.sz a8 (o.f_Marks.xs).length c8 (flat e_Mark o.f_Marks.xs), txM c5]) (fun w S => S.perm (List.perm_append_comm (l₁ := [blk b1 (qzOCopyP4 o c5 a8 c8), row e_Mark.T e_Mark.sz a8 (o.f_Marks.xs).length c8 (flat e_Mark o.f_Marks.xs), txM c5]) (l₂ := blk b2 (qzOCopyP2) :: F))) ?_
    refine h_next ?_
    refine h_done (by kernel_rfl) ?_
    refine q_conv (L' := blk b1 (qzOCopyP4 o c5 a8 c8) :: row e_Mark.T e_Mark.sz a8 (o.f_Marks.xs).length c8 (flat e_Mark o.f_Marks.xs) :: txM c5 :: blk b2 (qzOCopyP2) :: F) (fun w S => S.perm List.perm_append_comm) ?_
    exact q_mid (c5, a8, c8) (by exact ⟨hs_c5, L_c5⟩) ⟨(by first | rfl | exact vint (by omega)), (by first | rfl | exact vint (by omega)), (by first | rfl | exact vint (by omega)), (by first | rfl | exact vint (by omega)), (by first | rfl | exact vint (by omega)), (by first | rfl | exact vint (by omega)), (by first | rfl | exact vint (by omega)), (by first | rfl | exact vint (by omega)), (by first | rfl | exact vint (by omega)), (by first | rfl | exact vint (by omega)), (by first | rfl | exact vint (by omega)), trivial⟩ (fun w S => S)
  · -- 4 comes first
   refine l_conv (L' := blk b1 (qzOCopyP1 o) :: blk b2 (qzOCopyP2) :: F) (fun w S => S.perm List.perm_append_comm) ?_
   refine o_load1 rfl rfl Try.underlying31 rfl (rd_mem 0 rfl rfl) ?_
   refine l_nil ?_
   refine q_conv (L' := (blk b2 (qzOCopyP2) :: F) ++ [blk b1 (qzOCopyP1 o)]) (fun w S => S.perm (List.perm_append_comm (l₁ := [blk b1 (qzOCopyP1 o)]) (l₂ := blk b2 (qzOCopyP2) :: F))) ?_
   refine h_next ?_
   refine h_one 1 rfl (by kernel_rfl) ?_
   refine l_conv (L' := blk b1 (qzOCopyP1 o) :: blk b2 (qzOCopyP2) :: F) (fun w S => S.perm List.perm_append_comm) ?_
   refine o_loadn (vs := [_, _, _, _, _]) rfl rfl Try.underlying30 rfl ti30 (rdn_lit 0 rfl rfl) ?_
   refine l_nil ?_
   refine q_conv (L' := (blk b2 (qzOCopyP2) :: F) ++ [blk b1 (qzOCopyP1 o)]) (fun w S => S.perm (List.perm_append_comm (l₁ := [blk b1 (qzOCopyP1 o)]) (l₂ := blk b2 (qzOCopyP2) :: F))) ?_
   refine h_next ?_
   refine h_one 2 rfl (by kernel_rfl) ?_
   refine l_conv (L' := blk b1 (qzOCopyP1 o) :: blk b2 (qzOCopyP2) :: F) (fun w S => S.perm List.perm_append_comm) ?_
   refine o_call rfl cal34 rfl (pcopy_ (t := o.txn) (OrdR.txn (OrdR.c (OrdR.c T_o))) small.tx) ?_
   rintro _ _ ⟨c5, hs_c5, rfl, rfl⟩
   have L_c5 : TxLen c5 := TxLen.same (OrdR.txn T_o).len hs_c5
   refine l_nil ?_
   refine q_conv (L' := (blk b2 (qzOCopyP2) :: F) ++ [txM c5, blk b1 (qzOCopyP1 o)]) (fun w S => S.perm (List.perm_append_comm (l₁ := [txM c5, blk b1 (qzOCopyP1 o)]) (l₂ := blk b2 (qzOCopyP2) :: F))) ?_
   refine h_next ?_
   refine h_take 6 rfl rfl (by kernel_rfl) (by kernel_rfl) (by kernel_rfl) (fun L0 => v_fieldAddr (q := ⟨b1, 4, none⟩) rfl rfl Try.underlying33 rfl ti30 rfl) ?_
   refine h_one 5 rfl (by kernel_rfl) ?_
   refine l_conv (L' := txM c5 :: blk b1 (qzOCopyP1 o) :: blk b2 (qzOCopyP2) :: F) (fun w S => S.perm List.perm_append_comm) ?_
   refine o_call rfl cal35 rfl (cloneM (OrdR.c (OrdR.c (OrdR.c T_o))).rm (by show _ * 32 ≤ _; omega) (by omega)) ?_
   rintro _ _ ⟨a8, c8, rfl, rfl⟩
   refine l_nil ?_
   refine q_conv (L' := (blk b2 (qzOCopyP2) :: F) ++ [row e_Mark.T e_Mark.sz a8 (o.f_Marks.xs).length c8 (flat e_Mark o.f_Marks.xs), txM c5, blk b1 (qzOCopyP1 o)]) (fun w S => S.perm (List.perm_append_comm (l₁ := [row e_Mark.T e_Mark.sz a8 (o.f_Marks.xs).length c8 (flat e_Mark o.f_Marks.xs), txM c5, blk b1 (qzOCopyP1 o)]) (l₂ := blk b2 (qzOCopyP2) :: F))) ?_
   refine h_next ?_
   refine h_one 7 rfl (by kernel_rfl) ?_
   refine l_conv (L' := row e_Mark.T e_Mark.sz a8 (o.f_Marks.xs).length c8 (flat e_Mark o.f_Marks.xs) :: txM c5 :: blk b1 (qzOCopyP1 o) :: blk b2 (qzOCopyP2) :: F) (fun w S => S.perm List.perm_append_comm) ?_
   refine l_f2 ?_
   refine o_storen rfl rfl ti30 rfl rfl rfl rfl ?_
   refine l_nil ?_
   refine q_conv (L' := (blk b2 (qzOCopyP2) :: F) ++ [blk b1 (qzOCopyP3 o c5), row e_Mark.T e_Mark.sz a8 (o.f_Marks.xs).length c8 (flat e_Mark o.f_Marks.xs), txM c5]) (fun w S => S.perm (List.perm_append_comm (l₁ := [blk b1 (qzOCopyP3 o c5), row e_Mark.T e_Mark.sz a8 (o.f_Marks.xs).length c8 (flat e_Mark o.f_Marks.xs), txM c5]) (l₂ := blk b2 (qzOCopyP2) :: F))) ?_
   refine h_next ?_
   refine h_take 8 rfl rfl (by kernel_rfl) (by kernel_rfl) (by kernel_rfl) (fun L0 => v_fieldAddr (q := ⟨b1, 9, none⟩) rfl rfl Try.underlying33 rfl ti31 rfl) ?_
   refine h_one 9 rfl (by kernel_rfl) ?_
   refine l_conv (L' := blk b1 (qzOCopyP3 o c5) :: row e_Mark.T e_Mark.sz a8 (o.f_Marks.xs).length c8 (flat e_Mark o.f_Marks.xs) :: txM c5 :: blk b2 (qzOCopyP2) :: F) (fun w S => S.perm List.perm_append_comm) ?_
   refine o_store1 rfl rfl rfl ti31 rfl rfl ?_
   refine l_nil ?_
   refine q_conv (L' := (blk b2 (qzOCopyP2) :: F) ++ [blk b1 (qzOCopyP4 o c5 a8 c8), row e_Mark.T e_Mark.sz a8 (o.f_Marks.xs).length c8 (flat e_Mark o.f_Marks.xs), txM c5]) (fun w S => S.perm (List.perm_append_comm (l₁ := [blk b1 (qzOCopyP4 o c5 a8 c8), row e_Mark.T e_Mark.sz a8 (o.f_Marks.xs).length c8 (flat e_Mark o.f_Marks.xs), txM c5]) (l₂ := blk b2 (qzOCopyP2) :: F))) ?_
   refine h_next ?_
   refine h_done (by kernel_rfl) ?_
   refine q_conv (L' := blk b1 (qzOCopyP4 o c5 a8 c8) :: row e_Mark.T e_Mark.sz a8 (o.f_Marks.xs).length c8 (flat e_Mark o.f_Marks.xs) :: txM c5 :: blk b2 (qzOCopyP2) :: F) (fun w S => S.perm List.perm_append_comm) ?_
   exact q_mid (c5, a8, c8) (by exact ⟨hs_c5, L_c5⟩) ⟨(by first | rfl | exact vint (by omega)), (by first | rfl | exact vint (by omega)), (by first | rfl | exact vint (by omega)), (by first | rfl | exact vint (by omega)), (by first | rfl | exact vint (by omega)), (by first | rfl | exact vint (by omega)), (by first | rfl | exact vint (by omega)), (by first | rfl | exact vint (by omega)), (by first | rfl | exact vint (by omega)), (by first | rfl | exact vint (by omega)), (by first | rfl | exact vint (by omega)), trivial⟩ (fun w S => S)
 · -- behind the cut
  rintro ⟨c5, a8, c8⟩ ⟨hs_c5, L_c5⟩
  try dsimp only at *
  refine c_seq ?_
  refine c_region ?_
  refine o_loadn (vs := [_, _, _, _, _, _, _, _, _, _]) rfl rfl Try.underlying33 rfl ti33 (rdn_lit 0 rfl rfl) ?_
  refine l_f3 ?_
  refine o_storen rfl rfl ti33 rfl rfl rfl rfl ?_
  refine l_nil ?_
  refine q_then ?_
  refine c_ret ?_
  refine f_retq (.inl rfl) (rs_1 rfl (rs_celln (vs := [.int .i64 o.f_Tag_Id_Node, .int .u64 o.f_Tag_Id_Epoch, .int .u64 o.f_Tag_Id_Seq, .int .i64 o.f_Tag_Try, .int .i64 c5.f_Kind, .slice c5.f_Reads.a (c5.f_Reads.xs).length c5.f_Reads.c, .slice c5.f_Writes.a (c5.f_Writes.xs).length c5.f_Writes.c, .slice c5.f_Ops.a (c5.f_Ops.xs).length c5.f_Ops.c, .int .i64 c5.f_To, .slice a8 (o.f_Marks.xs).length c8]) rfl Try.underlying33 rfl ti33 (rdn_lit 0 rfl rfl))) (fun w S => ?_)
  replace S := S.tail
  replace S := S.tail
  replace S := S.perm p1
  exact ⟨_, ⟨⟨o.f_Tag_Id_Node, o.f_Tag_Id_Epoch, o.f_Tag_Id_Seq, o.f_Tag_Try, c5.f_Kind, c5.f_Reads, c5.f_Writes, c5.f_Ops, c5.f_To, ⟨a8, o.f_Marks.xs, c8⟩⟩, ⟨rfl, hs_c5, rfl⟩, rfl, rfl⟩, (fun w S => Sat.unflat (Ls := [txM c5, vrow e_Mark ⟨a8, o.f_Marks.xs, c8⟩]) S) w S⟩

end Go.Proofs.Ytlblipkcbmcfkaa
