/- Printed by eng2.py out of 09a/spec.py. -/
import Derived.Test.YtlblipkcbmcfkaaCopyp
import Derived.Test.YtlblipkcbmcfkaaRCopy
set_option linter.unusedVariables false
set_option linter.unusedSimpArgs false
set_option maxRecDepth 10000
namespace Go.Proofs.Ytlblipkcbmcfkaa
open Go.RowKit Classical
abbrev qzOCopyR1 (o : Order) : Obj := .cells #[.int .i64 o.f_Tag_Id_Node, .int .u64 o.f_Tag_Id_Epoch, .int .u64 o.f_Tag_Id_Seq, .int .i64 o.f_Tag_Try, .int .i64 o.f_Txn_Kind, .slice o.f_Txn_Reads.a (o.f_Txn_Reads.xs).length o.f_Txn_Reads.c, .slice o.f_Txn_Writes.a (o.f_Txn_Writes.xs).length o.f_Txn_Writes.c, .slice o.f_Txn_Ops.a (o.f_Txn_Ops.xs).length o.f_Txn_Ops.c, .int .i64 o.f_Txn_To, .slice o.f_Marks.a (o.f_Marks.xs).length o.f_Marks.c] 33 (0, 0)
abbrev qzOCopyR2 : Obj := .cells #[.int .i64 0, .int .u64 0, .int .u64 0, .int .i64 0, .int .i64 0, .slice none 0 0, .slice none 0 0, .slice none 0 0, .int .i64 0, .slice none 0 0] 33 (0, 0)
abbrev qzOCopyR3 (o : Order) (c7 : Txn) (a11 : Option Addr) (c11 : Nat) : Obj := .cells #[.int .i64 o.f_Tag_Id_Node, .int .u64 o.f_Tag_Id_Epoch, .int .u64 o.f_Tag_Id_Seq, .int .i64 o.f_Tag_Try, .int .i64 c7.f_Kind, .slice c7.f_Reads.a (c7.f_Reads.xs).length c7.f_Reads.c, .slice c7.f_Writes.a (c7.f_Writes.xs).length c7.f_Writes.c, .slice c7.f_Ops.a (c7.f_Ops.xs).length c7.f_Ops.c, .int .i64 c7.f_To, .slice a11 (o.f_Marks.xs).length c11] 33 (0, 0)
theorem rocopy_ {W : World} {F : List Res} {o : Order} (T_o : OrdR W F o) (small : OSmall o) : CS Try.prog 9 #[.agg #[.int .i64 o.f_Tag_Id_Node, .int .u64 o.f_Tag_Id_Epoch, .int .u64 o.f_Tag_Id_Seq, .int .i64 o.f_Tag_Try, .int .i64 o.f_Txn_Kind, .slice o.f_Txn_Reads.a (o.f_Txn_Reads.xs).length o.f_Txn_Reads.c, .slice o.f_Txn_Writes.a (o.f_Txn_Writes.xs).length o.f_Txn_Writes.c, .slice o.f_Txn_Ops.a (o.f_Txn_Ops.xs).length o.f_Txn_Ops.c, .int .i64 o.f_Txn_To, .slice o.f_Marks.a (o.f_Marks.xs).length o.f_Marks.c]] W (F) (fun r L' => ∃ c : Order, SameO c o ∧ r = .agg (e_Order.cells c).toArray ∧ L' = ordM c :: F) := by
 have hlm := small.m
 refine f_door (l0 := [(0, .agg #[.int .i64 o.f_Tag_Id_Node, .int .u64 o.f_Tag_Id_Epoch, .int .u64 o.f_Tag_Id_Seq, .int .i64 o.f_Tag_Try, .int .i64 o.f_Txn_Kind, .slice o.f_Txn_Reads.a (o.f_Txn_Reads.xs).length o.f_Txn_Reads.c, .slice o.f_Txn_Writes.a (o.f_Txn_Writes.xs).length o.f_Txn_Writes.c, .slice o.f_Txn_Ops.a (o.f_Txn_Ops.xs).length o.f_Txn_Ops.c, .int .i64 o.f_Txn_To, .slice o.f_Marks.a (o.f_Marks.xs).length o.f_Marks.c])]) Try.func9 Try.ntmps9 rfl rfl rfl ?_
 refine c_seq ?_
 refine c_region ?_
 refine o_box rfl rfl fun b1 => ?_
 refine o_alloc rfl ti33 fun b2 => ?_
 refine l_nil ?_
 refine q_then ?_
 refine c_seq ?_
 refine c_mid (α := Txn × (Option Addr) × Nat × (Option Addr)) (fun z => [(0, .agg #[.int .i64 o.f_Tag_Id_Node, .int .u64 o.f_Tag_Id_Epoch, .int .u64 o.f_Tag_Id_Seq, .int .i64 o.f_Tag_Try, .int .i64 o.f_Txn_Kind, .slice o.f_Txn_Reads.a (o.f_Txn_Reads.xs).length o.f_Txn_Reads.c, .slice o.f_Txn_Writes.a (o.f_Txn_Writes.xs).length o.f_Txn_Writes.c, .slice o.f_Txn_Ops.a (o.f_Txn_Ops.xs).length o.f_Txn_Ops.c, .int .i64 o.f_Txn_To, .slice o.f_Marks.a (o.f_Marks.xs).length o.f_Marks.c]), (1, .pointer (some ⟨b1, 0, none⟩)), (2, .pointer (some ⟨b2, 0, none⟩)), (3, .pointer (some ⟨b1, 0, none⟩)), (4, .agg #[.int .i64 o.f_Tag_Id_Node, .int .u64 o.f_Tag_Id_Epoch, .int .u64 o.f_Tag_Id_Seq, .int .i64 o.f_Tag_Try]), (5, .pointer (some ⟨b1, 4, none⟩)), (6, .agg #[.int .i64 o.f_Txn_Kind, .slice o.f_Txn_Reads.a (o.f_Txn_Reads.xs).length o.f_Txn_Reads.c, .slice o.f_Txn_Writes.a (o.f_Txn_Writes.xs).length o.f_Txn_Writes.c, .slice o.f_Txn_Ops.a (o.f_Txn_Ops.xs).length o.f_Txn_Ops.c, .int .i64 o.f_Txn_To]), (7, .agg #[.int .i64 z.1.f_Kind, .slice z.1.f_Reads.a (z.1.f_Reads.xs).length z.1.f_Reads.c, .slice z.1.f_Writes.a (z.1.f_Writes.xs).length z.1.f_Writes.c, .slice z.1.f_Ops.a (z.1.f_Ops.xs).length z.1.f_Ops.c, .int .i64 z.1.f_To]), (8, .slice z.2.2.2 (([] : List Mark)).length 0), (9, .pointer (some ⟨b1, 9, none⟩)), (10, .slice o.f_Marks.a (o.f_Marks.xs).length o.f_Marks.c), (11, .slice z.2.1 (o.f_Marks.xs).length z.2.2.1), (12, .agg #[.int .i64 o.f_Tag_Id_Node, .int .u64 o.f_Tag_Id_Epoch, .int .u64 o.f_Tag_Id_Seq, .int .i64 o.f_Tag_Try, .int .i64 z.1.f_Kind, .slice z.1.f_Reads.a (z.1.f_Reads.xs).length z.1.f_Reads.c, .slice z.1.f_Writes.a (z.1.f_Writes.xs).length z.1.f_Writes.c, .slice z.1.f_Ops.a (z.1.f_Ops.xs).length z.1.f_Ops.c, .int .i64 z.1.f_To, .slice z.2.1 (o.f_Marks.xs).length z.2.2.1])]) (fun z => blk b2 (.cells #[.int .i64 o.f_Tag_Id_Node, .int .u64 o.f_Tag_Id_Epoch, .int .u64 o.f_Tag_Id_Seq, .int .i64 o.f_Tag_Try, .int .i64 z.1.f_Kind, .slice z.1.f_Reads.a (z.1.f_Reads.xs).length z.1.f_Reads.c, .slice z.1.f_Writes.a (z.1.f_Writes.xs).length z.1.f_Writes.c, .slice z.1.f_Ops.a (z.1.f_Ops.xs).length z.1.f_Ops.c, .int .i64 z.1.f_To, .slice z.2.1 (o.f_Marks.xs).length z.2.2.1] 33 (0, 0)) :: row e_Mark.T e_Mark.sz z.2.1 (o.f_Marks.xs).length z.2.2.1 (flat e_Mark o.f_Marks.xs) :: txM z.1 :: blk b1 (qzOCopyR1 o) :: F) (fun z => SameT z.1 o.txn ∧ TxLen z.1) ?_ ?_
 · -- cut
  refine c_conv (fun w S => S.perm p1) ?_
  refine c_conv (fun w S => S.perm p1) ?_
  refine c_heldF [blk b2 (qzOCopyR2)] (blk b1 (qzOCopyR1 o) :: F) (by kernel_rfl) ?_
  refine h_take 0 rfl rfl (by kernel_rfl) (by kernel_rfl) (by kernel_rfl) (fun L0 => v_fieldAddr (q := ⟨b1, 0, none⟩) rfl rfl Try.underlying33 rfl ti26 rfl) ?_
  refine h_take 1 rfl rfl (by kernel_rfl) (by kernel_rfl) (by kernel_rfl) (fun L0 => v_loadn (vs := [_, _, _, _]) rfl rfl Try.underlying26 rfl ti26 (rdn_lit 0 rfl rfl)) ?_
  refine h_take 2 rfl rfl (by kernel_rfl) (by kernel_rfl) (by kernel_rfl) (fun L0 => v_fieldAddr (q := ⟨b1, 4, none⟩) rfl rfl Try.underlying33 rfl ti30 rfl) ?_
  refine h_take 3 rfl rfl (by kernel_rfl) (by kernel_rfl) (by kernel_rfl) (fun L0 => v_loadn (vs := [_, _, _, _, _]) rfl rfl Try.underlying30 rfl ti30 (rdn_lit 0 rfl rfl)) ?_
  refine h_take 6 rfl rfl (by kernel_rfl) (by kernel_rfl) (by kernel_rfl) (fun L0 => v_fieldAddr (q := ⟨b1, 9, none⟩) rfl rfl Try.underlying33 rfl ti31 rfl) ?_
  refine h_take 7 rfl rfl (by kernel_rfl) (by kernel_rfl) (by kernel_rfl) (fun L0 => v_load1 rfl rfl Try.underlying31 rfl (rd_mem 0 rfl rfl)) ?_
  refine h_many (is := [4, 5]) (by kernel_rfl) (by decide) (forall_cons ⟨_, rfl, ?_⟩ (forall_cons ⟨_, rfl, ?_⟩ forall_nil))
  · -- 4 comes first
   refine l_conv (L' := blk b2 (qzOCopyR2) :: blk b1 (qzOCopyR1 o) :: F) (fun w S => S.perm List.perm_append_comm) ?_
   refine o_call rfl cal23 rfl (copy_ (t := o.txn) (OrdR.txn (OrdR.c (OrdR.c T_o))) small.tx) ?_
   rintro _ _ ⟨c7, hs_c7, rfl, rfl⟩
   have L_c7 : TxLen c7 := TxLen.same (OrdR.txn T_o).len hs_c7
   refine l_nil ?_
   refine q_conv (L' := (blk b1 (qzOCopyR1 o) :: F) ++ [txM c7, blk b2 (qzOCopyR2)]) (fun w S => S.perm (List.perm_append_comm (l₁ := [txM c7, blk b2 (qzOCopyR2)]) (l₂ := blk b1 (qzOCopyR1 o) :: F))) ?_
   refine h_next ?_
   refine h_one 5 rfl (by kernel_rfl) ?_
   refine l_conv (L' := txM c7 :: blk b2 (qzOCopyR2) :: blk b1 (qzOCopyR1 o) :: F) (fun w S => S.perm List.perm_append_comm) ?_
   refine o_lit e_Mark_ok rfl Try.underlying31 rfl rfl rfl (lit_ok rfl) ([] : List Mark) rfl rfl fun a8 => ?_
   refine l_nil ?_
   refine q_conv (L' := (blk b1 (qzOCopyR1 o) :: F) ++ [row e_Mark.T e_Mark.sz a8 (([] : List Mark)).length 0 (flat e_Mark ([] : List Mark)), txM c7, blk b2 (qzOCopyR2)]) (fun w S => S.perm (List.perm_append_comm (l₁ := [row e_Mark.T e_Mark.sz a8 (([] : List Mark)).length 0 (flat e_Mark ([] : List Mark)), txM c7, blk b2 (qzOCopyR2)]) (l₂ := blk b1 (qzOCopyR1 o) :: F))) ?_
   refine h_next ?_
   refine h_one 8 rfl (by kernel_rfl) ?_
   refine l_conv (L' := row e_Mark.T e_Mark.sz a8 (([] : List Mark)).length 0 (flat e_Mark ([] : List Mark)) :: txM c7 :: blk b2 (qzOCopyR2) :: blk b1 (qzOCopyR1 o) :: F) (fun w S => S.perm List.perm_append_comm) ?_
   refine o_append e_Mark_ok rfl rfl rfl Try.underlying31 (OrdR.c (OrdR.c (OrdR.c (OrdR.c T_o)))).rm (by show (_ + _) * _ ≤ _; simp only [List.length_nil]; omega) (by simp only [List.length_nil]; omega) fun a11 c11 => ?_
   refine l_eq (t := 11) (v' := .slice a11 (o.f_Marks.xs).length c11) rfl (by rfl) ?_
   refine l_conv (L' := row e_Mark.T e_Mark.sz a11 (o.f_Marks.xs).length c11 (flat e_Mark o.f_Marks.xs) :: _) (fun w S => by exact S) ?_
   refine l_nil ?_
   refine q_conv (L' := (blk b1 (qzOCopyR1 o) :: F) ++ [row e_Mark.T e_Mark.sz a11 (o.f_Marks.xs).length c11 (flat e_Mark o.f_Marks.xs), txM c7, blk b2 (qzOCopyR2)]) (fun w S => S.perm (List.perm_append_comm (l₁ := [row e_Mark.T e_Mark.sz a11 (o.f_Marks.xs).length c11 (flat e_Mark o.f_Marks.xs), txM c7, blk b2 (qzOCopyR2)]) (l₂ := blk b1 (qzOCopyR1 o) :: F))) ?_
   refine h_next ?_
   refine h_take 9 rfl rfl (by kernel_rfl) (by kernel_rfl) (by kernel_rfl) (fun L0 => v_build rfl sp33 ti33 rfl ((fill_cons (cells' := [.int .i64 o.f_Tag_Id_Node, .int .u64 o.f_Tag_Id_Epoch, .int .u64 o.f_Tag_Id_Seq, .int .i64 o.f_Tag_Try, .int .i64 0, .slice none 0 0, .slice none 0 0, .slice none 0 0, .int .i64 0, .slice none 0 0]) rfl rfl rfl rfl (fill_cons (cells' := [.int .i64 o.f_Tag_Id_Node, .int .u64 o.f_Tag_Id_Epoch, .int .u64 o.f_Tag_Id_Seq, .int .i64 o.f_Tag_Try, .int .i64 c7.f_Kind, .slice c7.f_Reads.a (c7.f_Reads.xs).length c7.f_Reads.c, .slice c7.f_Writes.a (c7.f_Writes.xs).length c7.f_Writes.c, .slice c7.f_Ops.a (c7.f_Ops.xs).length c7.f_Ops.c, .int .i64 c7.f_To, .slice none 0 0]) rfl rfl rfl rfl (fill_cons (cells' := [.int .i64 o.f_Tag_Id_Node, .int .u64 o.f_Tag_Id_Epoch, .int .u64 o.f_Tag_Id_Seq, .int .i64 o.f_Tag_Try, .int .i64 c7.f_Kind, .slice c7.f_Reads.a (c7.f_Reads.xs).length c7.f_Reads.c, .slice c7.f_Writes.a (c7.f_Writes.xs).length c7.f_Writes.c, .slice c7.f_Ops.a (c7.f_Ops.xs).length c7.f_Ops.c, .int .i64 c7.f_To, .slice a11 (o.f_Marks.xs).length c11]) rfl rfl rfl rfl fill_nil))))) ?_
   refine h_one 10 rfl (by kernel_rfl) ?_
   refine l_conv (L' := row e_Mark.T e_Mark.sz a11 (o.f_Marks.xs).length c11 (flat e_Mark o.f_Marks.xs) :: txM c7 :: blk b2 (qzOCopyR2) :: blk b1 (qzOCopyR1 o) :: F) (fun w S => S.perm List.perm_append_comm) ?_
   refine l_f2 ?_
   refine o_storen rfl rfl ti33 rfl rfl rfl rfl ?_
   refine l_nil ?_
   refine q_conv (L' := (blk b1 (qzOCopyR1 o) :: F) ++ [blk b2 (qzOCopyR3 o c7 a11 c11), row e_Mark.T e_Mark.sz a11 (o.f_Marks.xs).length c11 (flat e_Mark o.f_Marks.xs), txM c7]) (fun w S => S.perm (List.perm_append_comm (l₁ := [blk b2 (qzOCopyR3 o c7 a11 c11), row e_Mark.T e_Mark.sz a11 (o.f_Marks.xs).length c11 (flat e_Mark o.f_Marks.xs), txM c7]) (l₂ := blk b1 (qzOCopyR1 o) :: F))) ?_
   refine h_next ?_
   refine h_done (by kernel_rfl) ?_
   refine q_conv (L' := blk b2 (qzOCopyR3 o c7 a11 c11) :: row e_Mark.T e_Mark.sz a11 (o.f_Marks.xs).length c11 (flat e_Mark o.f_Marks.xs) :: txM c7 :: blk b1 (qzOCopyR1 o) :: F) (fun w S => S.perm List.perm_append_comm) ?_
   exact q_mid (c7, a11, c11, a8) (by exact ⟨hs_c7, L_c7⟩) ⟨(by first | rfl | exact vint (by omega)), (by first | rfl | exact vint (by omega)), (by first | rfl | exact vint (by omega)), (by first | rfl | exact vint (by omega)), (by first | rfl | exact vint (by omega)), (by first | rfl | exact vint (by omega)), (by first | rfl | exact vint (by omega)), (by first | rfl | exact vint (by omega)), (by first | rfl | exact vint (by omega)), (by first | rfl | exact vint (by omega)), (by first | rfl | exact vint (by omega)), (by first | rfl | exact vint (by omega)), (by first | rfl | exact vint (by omega)), trivial⟩ (fun w S => S)
  · -- 5 comes first
   refine l_conv (L' := blk b2 (qzOCopyR2) :: blk b1 (qzOCopyR1 o) :: F) (fun w S => S.perm List.perm_append_comm) ?_
   refine o_lit e_Mark_ok rfl Try.underlying31 rfl rfl rfl (lit_ok rfl) ([] : List Mark) rfl rfl fun a8 => ?_
   refine l_nil ?_
   refine q_conv (L' := (blk b1 (qzOCopyR1 o) :: F) ++ [row e_Mark.T e_Mark.sz a8 (([] : List Mark)).length 0 (flat e_Mark ([] : List Mark)), blk b2 (qzOCopyR2)]) (fun w S => S.perm (List.perm_append_comm (l₁ := [row e_Mark.T e_Mark.sz a8 (([] : List Mark)).length 0 (flat e_Mark ([] : List Mark)), blk b2 (qzOCopyR2)]) (l₂ := blk b1 (qzOCopyR1 o) :: F))) ?_
   refine h_next ?_
   refine h_one 4 rfl (by kernel_rfl) ?_
   refine l_conv (L' := row e_Mark.T e_Mark.sz a8 (([] : List Mark)).length 0 (flat e_Mark ([] : List Mark)) :: blk b2 (qzOCopyR2) :: blk b1 (qzOCopyR1 o) :: F) (fun w S => S.perm List.perm_append_comm) ?_
   refine o_call rfl cal23 rfl (copy_ (t := o.txn) (OrdR.txn (OrdR.c (OrdR.c (OrdR.c T_o)))) small.tx) ?_
   rintro _ _ ⟨c7, hs_c7, rfl, rfl⟩
   have L_c7 : TxLen c7 := TxLen.same (OrdR.txn T_o).len hs_c7
   refine l_nil ?_
   refine q_conv (L' := (blk b1 (qzOCopyR1 o) :: F) ++ [txM c7, row e_Mark.T e_Mark.sz a8 (([] : List Mark)).length 0 (flat e_Mark ([] : List Mark)), blk b2 (qzOCopyR2)]) (fun w S => S.perm (List.perm_append_comm (l₁ := [txM c7, row e_Mark.T e_Mark.sz a8 (([] : List Mark)).length 0 (flat e_Mark ([] : List Mark)), blk b2 (qzOCopyR2)]) (l₂ := blk b1 (qzOCopyR1 o) :: F))) ?_
   refine h_next ?_
   refine h_one 8 rfl (by kernel_rfl) ?_
   refine l_conv (L' := txM c7 :: row e_Mark.T e_Mark.sz a8 (([] : List Mark)).length 0 (flat e_Mark ([] : List Mark)) :: blk b2 (qzOCopyR2) :: blk b1 (qzOCopyR1 o) :: F) (fun w S => S.perm List.perm_append_comm) ?_
   refine l_f1 ?_
   refine o_append e_Mark_ok rfl rfl rfl Try.underlying31 (OrdR.c (OrdR.c (OrdR.c (OrdR.c T_o)))).rm (by show (_ + _) * _ ≤ _; simp only [List.length_nil]; omega) (by simp only [List.length_nil]; omega) fun a11 c11 => ?_
   refine l_eq (t := 11) (v' := .slice a11 (o.f_Marks.xs).length c11) rfl (by rfl) ?_
   refine l_conv (L' := row e_Mark.T e_Mark.sz a11 (o.f_Marks.xs).length c11 (flat e_Mark o.f_Marks.xs) :: _) (fun w S => by exact S) ?_
   refine l_nil ?_
   refine q_conv (L' := (blk b1 (qzOCopyR1 o) :: F) ++ [row e_Mark.T e_Mark.sz a11 (o.f_Marks.xs).length c11 (flat e_Mark o.f_Marks.xs), txM c7, blk b2 (qzOCopyR2)]) (fun w S => S.perm (List.perm_append_comm (l₁ := [row e_Mark.T e_Mark.sz a11 (o.f_Marks.xs).length c11 (flat e_Mark o.f_Marks.xs), txM c7, blk b2 (qzOCopyR2)]) (l₂ := blk b1 (qzOCopyR1 o) :: F))) ?_
   refine h_next ?_
   refine h_take 9 rfl rfl (by kernel_rfl) (by kernel_rfl) (by kernel_rfl) (fun L0 => v_build rfl sp33 ti33 rfl ((fill_cons (cells' := [.int .i64 o.f_Tag_Id_Node, .int .u64 o.f_Tag_Id_Epoch, .int .u64 o.f_Tag_Id_Seq, .int .i64 o.f_Tag_Try, .int .i64 0, .slice none 0 0, .slice none 0 0, .slice none 0 0, .int .i64 0, .slice none 0 0]) rfl rfl rfl rfl (fill_cons (cells' := [.int .i64 o.f_Tag_Id_Node, .int .u64 o.f_Tag_Id_Epoch, .int .u64 o.f_Tag_Id_Seq, .int .i64 o.f_Tag_Try, .int .i64 c7.f_Kind, .slice c7.f_Reads.a (c7.f_Reads.xs).length c7.f_Reads.c, .slice c7.f_Writes.a (c7.f_Writes.xs).length c7.f_Writes.c, .slice c7.f_Ops.a (c7.f_Ops.xs).length c7.f_Ops.c, .int .i64 c7.f_To, .slice none 0 0]) rfl rfl rfl rfl (fill_cons (cells' := [.int .i64 o.f_Tag_Id_Node, .int .u64 o.f_Tag_Id_Epoch, .int .u64 o.f_Tag_Id_Seq, .int .i64 o.f_Tag_Try, .int .i64 c7.f_Kind, .slice c7.f_Reads.a (c7.f_Reads.xs).length c7.f_Reads.c, .slice c7.f_Writes.a (c7.f_Writes.xs).length c7.f_Writes.c, .slice c7.f_Ops.a (c7.f_Ops.xs).length c7.f_Ops.c, .int .i64 c7.f_To, .slice a11 (o.f_Marks.xs).length c11]) rfl rfl rfl rfl fill_nil))))) ?_
   refine h_one 10 rfl (by kernel_rfl) ?_
   refine l_conv (L' := row e_Mark.T e_Mark.sz a11 (o.f_Marks.xs).length c11 (flat e_Mark o.f_Marks.xs) :: txM c7 :: blk b2 (qzOCopyR2) :: blk b1 (qzOCopyR1 o) :: F) (fun w S => S.perm List.perm_append_comm) ?_
   refine l_f2 ?_
   refine o_storen rfl rfl ti33 rfl rfl rfl rfl ?_
   refine l_nil ?_
   refine q_conv (L' := (blk b1 (qzOCopyR1 o) :: F) ++ [blk b2 (qzOCopyR3 o c7 a11 c11), row e_Mark.T e_Mark.sz a11 (o.f_Marks.xs).length c11 (flat e_Mark o.f_Marks.xs), txM c7]) (fun w S => S.perm (List.perm_append_comm (l₁ := [blk b2 (qzOCopyR3 o c7 a11 c11), row e_Mark.T e_Mark.sz a11 (o.f_Marks.xs).length c11 (flat e_Mark o.f_Marks.xs), txM c7]) (l₂ := blk b1 (qzOCopyR1 o) :: F))) ?_
   refine h_next ?_
   refine h_done (by kernel_rfl) ?_
   refine q_conv (L' := blk b2 (qzOCopyR3 o c7 a11 c11) :: row e_Mark.T e_Mark.sz a11 (o.f_Marks.xs).length c11 (flat e_Mark o.f_Marks.xs) :: txM c7 :: blk b1 (qzOCopyR1 o) :: F) (fun w S => S.perm List.perm_append_comm) ?_
   exact q_mid (c7, a11, c11, a8) (by exact ⟨hs_c7, L_c7⟩) ⟨(by first | rfl | exact vint (by omega)), (by first | rfl | exact vint (by omega)), (by first | rfl | exact vint (by omega)), (by first | rfl | exact vint (by omega)), (by first | rfl | exact vint (by omega)), (by first | rfl | exact vint (by omega)), (by first | rfl | exact vint (by omega)), (by first | rfl | exact vint (by omega)), (by first | rfl | exact vint (by omega)), (by first | rfl | exact vint (by omega)), (by first | rfl | exact vint (by omega)), (by first | rfl | exact vint (by omega)), (by first | rfl | exact vint (by omega)), trivial⟩ (fun w S => S)
 · -- behind the cut
  rintro ⟨c7, a11, c11, a8⟩ ⟨hs_c7, L_c7⟩
  try dsimp only at *
  refine c_ret ?_
  refine f_retq (.inl rfl) (rs_1 rfl (rs_celln (vs := [.int .i64 o.f_Tag_Id_Node, .int .u64 o.f_Tag_Id_Epoch, .int .u64 o.f_Tag_Id_Seq, .int .i64 o.f_Tag_Try, .int .i64 c7.f_Kind, .slice c7.f_Reads.a (c7.f_Reads.xs).length c7.f_Reads.c, .slice c7.f_Writes.a (c7.f_Writes.xs).length c7.f_Writes.c, .slice c7.f_Ops.a (c7.f_Ops.xs).length c7.f_Ops.c, .int .i64 c7.f_To, .slice a11 (o.f_Marks.xs).length c11]) rfl Try.underlying33 rfl ti33 (rdn_lit 0 rfl rfl))) (fun w S => ?_)
  replace S := S.tail
  replace S := (S.perm p2).tail
  replace S := S.perm p1
  exact ⟨_, ⟨⟨o.f_Tag_Id_Node, o.f_Tag_Id_Epoch, o.f_Tag_Id_Seq, o.f_Tag_Try, c7.f_Kind, c7.f_Reads, c7.f_Writes, c7.f_Ops, c7.f_To, ⟨a11, o.f_Marks.xs, c11⟩⟩, ⟨rfl, hs_c7, rfl⟩, rfl, rfl⟩, (fun w S => Sat.unflat (Ls := [txM c7, vrow e_Mark ⟨a11, o.f_Marks.xs, c11⟩]) S) w S⟩

end Go.Proofs.Ytlblipkcbmcfkaa
