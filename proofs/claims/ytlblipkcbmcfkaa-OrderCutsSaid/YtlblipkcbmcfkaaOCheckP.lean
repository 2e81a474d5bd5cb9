/- Printed by eng2.py out of 09a/spec.py. -/
import Derived.Test.YtlblipkcbmcfkaaOChkp
import Derived.Test.YtlblipkcbmcfkaaCheck
import Derived.Test.YtlblipkcbmcfkaaOSame
import Derived.Test.YtlblipkcbmcfkaaPart
set_option linter.unusedVariables false
set_option linter.unusedSimpArgs false
set_option maxRecDepth 10000
namespace Go.Proofs.Ytlblipkcbmcfkaa
open Go.RowKit Classical
theorem vchk1 {o : Order} {r : Int} (h : ¬ OrdOk o r) : Value.int .i64 1 = Value.int .i64 (chkO o r) := by rw [chkO_no h]
theorem vchk0 {o : Order} {r : Int} (h : OrdOk o r) : Value.int .i64 0 = Value.int .i64 (chkO o r) := by rw [chkO_yes h]
theorem chk_len (o : Order) : (keysT o.txn).length ≤ o.f_Txn_Reads.xs.length + o.f_Txn_Writes.xs.length := keysT_len o.txn
set_option maxHeartbeats 2000000 in
theorem ocheck_ {W : World} {F : List Res} {o : Order} (T_o : OrdR W F o) {g : Int} (hb : o.f_Txn_Reads.xs.length + o.f_Txn_Writes.xs.length ≤ 1000000) (hm : o.f_Marks.xs.length ≤ 1000000) : CS Try.prog 12 #[.agg #[.int .i64 o.f_Tag_Id_Node, .int .u64 o.f_Tag_Id_Epoch, .int .u64 o.f_Tag_Id_Seq, .int .i64 o.f_Tag_Try, .int .i64 o.f_Txn_Kind, .slice o.f_Txn_Reads.a (o.f_Txn_Reads.xs).length o.f_Txn_Reads.c, .slice o.f_Txn_Writes.a (o.f_Txn_Writes.xs).length o.f_Txn_Writes.c, .slice o.f_Txn_Ops.a (o.f_Txn_Ops.xs).length o.f_Txn_Ops.c, .int .i64 o.f_Txn_To, .slice o.f_Marks.a (o.f_Marks.xs).length o.f_Marks.c], .int .i64 g] W (F) (fun r L' => r = .int .i64 (chkO o g) ∧ F = L') := by
 refine f_door (l0 := [(0, .agg #[.int .i64 o.f_Tag_Id_Node, .int .u64 o.f_Tag_Id_Epoch, .int .u64 o.f_Tag_Id_Seq, .int .i64 o.f_Tag_Try, .int .i64 o.f_Txn_Kind, .slice o.f_Txn_Reads.a (o.f_Txn_Reads.xs).length o.f_Txn_Reads.c, .slice o.f_Txn_Writes.a (o.f_Txn_Writes.xs).length o.f_Txn_Writes.c, .slice o.f_Txn_Ops.a (o.f_Txn_Ops.xs).length o.f_Txn_Ops.c, .int .i64 o.f_Txn_To, .slice o.f_Marks.a (o.f_Marks.xs).length o.f_Marks.c]), (1, .int .i64 g)]) Try.func12 Try.ntmps12 rfl rfl rfl ?_
 refine c_seq ?_
 refine c_region ?_
 refine o_box rfl rfl fun b2 => ?_
 refine o_assign rfl rfl ?_
 refine l_nil ?_
 refine q_then ?_
 refine c_seq ?_
 refine c_mid (α := Nat × (Option Addr) × Nat) (fun z => [(0, .agg #[.int .i64 o.f_Tag_Id_Node, .int .u64 o.f_Tag_Id_Epoch, .int .u64 o.f_Tag_Id_Seq, .int .i64 o.f_Tag_Try, .int .i64 o.f_Txn_Kind, .slice o.f_Txn_Reads.a (o.f_Txn_Reads.xs).length o.f_Txn_Reads.c, .slice o.f_Txn_Writes.a (o.f_Txn_Writes.xs).length o.f_Txn_Writes.c, .slice o.f_Txn_Ops.a (o.f_Txn_Ops.xs).length o.f_Txn_Ops.c, .int .i64 o.f_Txn_To, .slice o.f_Marks.a (o.f_Marks.xs).length o.f_Marks.c]), (1, .int .i64 g), (2, .pointer (some ⟨b2, 0, none⟩)), (4, .int .i64 0), (5, .pointer (some ⟨z.1, 0, none⟩)), (6, .slice z.2.1 (keysT o.txn).length z.2.2), (10, .pointer (some ⟨b2, 0, none⟩)), (11, .pointer (some ⟨b2, 0, none⟩)), (12, .agg #[.int .i64 o.f_Tag_Id_Node, .int .u64 o.f_Tag_Id_Epoch, .int .u64 o.f_Tag_Id_Seq]), (13, .pointer (some ⟨b2, 4, none⟩)), (14, .agg #[.int .i64 o.f_Txn_Kind, .slice o.f_Txn_Reads.a (o.f_Txn_Reads.xs).length o.f_Txn_Reads.c, .slice o.f_Txn_Writes.a (o.f_Txn_Writes.xs).length o.f_Txn_Writes.c, .slice o.f_Txn_Ops.a (o.f_Txn_Ops.xs).length o.f_Txn_Ops.c, .int .i64 o.f_Txn_To]), (15, .slice z.2.1 (keysT o.txn).length z.2.2)]) (fun z => blk z.1 (.cells #[.int .i64 o.f_Tag_Id_Node, .int .u64 o.f_Tag_Id_Epoch, .int .u64 o.f_Tag_Id_Seq] 24 (0, 0)) :: row e_S.T e_S.sz z.2.1 (keysT o.txn).length z.2.2 (flat e_S (keysT o.txn)) :: blk b2 (.cells #[.int .i64 o.f_Tag_Id_Node, .int .u64 o.f_Tag_Id_Epoch, .int .u64 o.f_Tag_Id_Seq, .int .i64 o.f_Tag_Try, .int .i64 o.f_Txn_Kind, .slice o.f_Txn_Reads.a (o.f_Txn_Reads.xs).length o.f_Txn_Reads.c, .slice o.f_Txn_Writes.a (o.f_Txn_Writes.xs).length o.f_Txn_Writes.c, .slice o.f_Txn_Ops.a (o.f_Txn_Ops.xs).length o.f_Txn_Ops.c, .int .i64 o.f_Txn_To, .slice o.f_Marks.a (o.f_Marks.xs).length o.f_Marks.c] 33 (0, 0)) :: F) (fun z => True) ?_ ?_
 · -- cut
  refine c_heldF [] (blk b2 (.cells #[.int .i64 o.f_Tag_Id_Node, .int .u64 o.f_Tag_Id_Epoch, .int .u64 o.f_Tag_Id_Seq, .int .i64 o.f_Tag_Try, .int .i64 o.f_Txn_Kind, .slice o.f_Txn_Reads.a (o.f_Txn_Reads.xs).length o.f_Txn_Reads.c, .slice o.f_Txn_Writes.a (o.f_Txn_Writes.xs).length o.f_Txn_Writes.c, .slice o.f_Txn_Ops.a (o.f_Txn_Ops.xs).length o.f_Txn_Ops.c, .int .i64 o.f_Txn_To, .slice o.f_Marks.a (o.f_Marks.xs).length o.f_Marks.c] 33 (0, 0)) :: F) (by kernel_rfl) ?_
  refine h_take 0 rfl rfl (by kernel_rfl) (by kernel_rfl) (by kernel_rfl) (fun L0 => v_fieldAddr (q := ⟨b2, 0, none⟩) rfl rfl Try.underlying33 rfl ti26 rfl) ?_
  refine h_take 1 rfl rfl (by kernel_rfl) (by kernel_rfl) (by kernel_rfl) (fun L0 => v_fieldAddr (q := ⟨b2, 0, none⟩) rfl rfl Try.underlying26 rfl ti24 rfl) ?_
  refine h_take 2 rfl rfl (by kernel_rfl) (by kernel_rfl) (by kernel_rfl) (fun L0 => v_loadn (vs := [_, _, _]) rfl rfl Try.underlying24 rfl ti24 (rdn_lit 0 rfl rfl)) ?_
  refine h_take 3 rfl rfl (by kernel_rfl) (by kernel_rfl) (by kernel_rfl) (fun L0 => v_fieldAddr (q := ⟨b2, 4, none⟩) rfl rfl Try.underlying33 rfl ti30 rfl) ?_
  refine h_take 4 rfl rfl (by kernel_rfl) (by kernel_rfl) (by kernel_rfl) (fun L0 => v_loadn (vs := [_, _, _, _, _]) rfl rfl Try.underlying30 rfl ti30 (rdn_lit 0 rfl rfl)) ?_
  refine h_many (is := [5, 6]) (by kernel_rfl) (by decide) (forall_cons ⟨_, rfl, ?_⟩ (forall_cons ⟨_, rfl, ?_⟩ forall_nil))
  · -- 5 comes first
   refine l_conv (L' := blk b2 (.cells #[.int .i64 o.f_Tag_Id_Node, .int .u64 o.f_Tag_Id_Epoch, .int .u64 o.f_Tag_Id_Seq, .int .i64 o.f_Tag_Try, .int .i64 o.f_Txn_Kind, .slice o.f_Txn_Reads.a (o.f_Txn_Reads.xs).length o.f_Txn_Reads.c, .slice o.f_Txn_Writes.a (o.f_Txn_Writes.xs).length o.f_Txn_Writes.c, .slice o.f_Txn_Ops.a (o.f_Txn_Ops.xs).length o.f_Txn_Ops.c, .int .i64 o.f_Txn_To, .slice o.f_Marks.a (o.f_Marks.xs).length o.f_Marks.c] 33 (0, 0)) :: F) (fun w S => S.perm List.perm_append_comm) ?_
   refine o_call rfl cal26 rfl (keys_ (t := o.txn) (OrdR.txn (OrdR.c T_o)) hb) ?_
   rintro _ _ ⟨a15, c15, rfl, rfl⟩
   refine l_nil ?_
   refine q_conv (L' := (blk b2 (.cells #[.int .i64 o.f_Tag_Id_Node, .int .u64 o.f_Tag_Id_Epoch, .int .u64 o.f_Tag_Id_Seq, .int .i64 o.f_Tag_Try, .int .i64 o.f_Txn_Kind, .slice o.f_Txn_Reads.a (o.f_Txn_Reads.xs).length o.f_Txn_Reads.c, .slice o.f_Txn_Writes.a (o.f_Txn_Writes.xs).length o.f_Txn_Writes.c, .slice o.f_Txn_Ops.a (o.f_Txn_Ops.xs).length o.f_Txn_Ops.c, .int .i64 o.f_Txn_To, .slice o.f_Marks.a (o.f_Marks.xs).length o.f_Marks.c] 33 (0, 0)) :: F) ++ [row e_S.T e_S.sz a15 (keysT o.txn).length c15 (flat e_S (keysT o.txn))]) (fun w S => S.perm (List.perm_append_comm (l₁ := [row e_S.T e_S.sz a15 (keysT o.txn).length c15 (flat e_S (keysT o.txn))]) (l₂ := blk b2 (.cells #[.int .i64 o.f_Tag_Id_Node, .int .u64 o.f_Tag_Id_Epoch, .int .u64 o.f_Tag_Id_Seq, .int .i64 o.f_Tag_Try, .int .i64 o.f_Txn_Kind, .slice o.f_Txn_Reads.a (o.f_Txn_Reads.xs).length o.f_Txn_Reads.c, .slice o.f_Txn_Writes.a (o.f_Txn_Writes.xs).length o.f_Txn_Writes.c, .slice o.f_Txn_Ops.a (o.f_Txn_Ops.xs).length o.f_Txn_Ops.c, .int .i64 o.f_Txn_To, .slice o.f_Marks.a (o.f_Marks.xs).length o.f_Marks.c] 33 (0, 0)) :: F))) ?_
   refine h_next ?_
   refine h_one 6 rfl (by kernel_rfl) ?_
   refine l_conv (L' := row e_S.T e_S.sz a15 (keysT o.txn).length c15 (flat e_S (keysT o.txn)) :: blk b2 (.cells #[.int .i64 o.f_Tag_Id_Node, .int .u64 o.f_Tag_Id_Epoch, .int .u64 o.f_Tag_Id_Seq, .int .i64 o.f_Tag_Try, .int .i64 o.f_Txn_Kind, .slice o.f_Txn_Reads.a (o.f_Txn_Reads.xs).length o.f_Txn_Reads.c, .slice o.f_Txn_Writes.a (o.f_Txn_Writes.xs).length o.f_Txn_Writes.c, .slice o.f_Txn_Ops.a (o.f_Txn_Ops.xs).length o.f_Txn_Ops.c, .int .i64 o.f_Txn_To, .slice o.f_Marks.a (o.f_Marks.xs).length o.f_Marks.c] 33 (0, 0)) :: F) (fun w S => S.perm List.perm_append_comm) ?_
   refine o_alloc rfl ti24 fun b5 => ?_
   refine l_nil ?_
   refine q_conv (L' := (blk b2 (.cells #[.int .i64 o.f_Tag_Id_Node, .int .u64 o.f_Tag_Id_Epoch, .int .u64 o.f_Tag_Id_Seq, .int .i64 o.f_Tag_Try, .int .i64 o.f_Txn_Kind, .slice o.f_Txn_Reads.a (o.f_Txn_Reads.xs).length o.f_Txn_Reads.c, .slice o.f_Txn_Writes.a (o.f_Txn_Writes.xs).length o.f_Txn_Writes.c, .slice o.f_Txn_Ops.a (o.f_Txn_Ops.xs).length o.f_Txn_Ops.c, .int .i64 o.f_Txn_To, .slice o.f_Marks.a (o.f_Marks.xs).length o.f_Marks.c] 33 (0, 0)) :: F) ++ [blk b5 (.cells #[.int .i64 0, .int .u64 0, .int .u64 0] 24 (0, 0)), row e_S.T e_S.sz a15 (keysT o.txn).length c15 (flat e_S (keysT o.txn))]) (fun w S => S.perm (List.perm_append_comm (l₁ := [blk b5 (.cells #[.int .i64 0, .int .u64 0, .int .u64 0] 24 (0, 0)), row e_S.T e_S.sz a15 (keysT o.txn).length c15 (flat e_S (keysT o.txn))]) (l₂ := blk b2 (.cells #[.int .i64 o.f_Tag_Id_Node, .int .u64 o.f_Tag_Id_Epoch, .int .u64 o.f_Tag_Id_Seq, .int .i64 o.f_Tag_Try, .int .i64 o.f_Txn_Kind, .slice o.f_Txn_Reads.a (o.f_Txn_Reads.xs).length o.f_Txn_Reads.c, .slice o.f_Txn_Writes.a (o.f_Txn_Writes.xs).length o.f_Txn_Writes.c, .slice o.f_Txn_Ops.a (o.f_Txn_Ops.xs).length o.f_Txn_Ops.c, .int .i64 o.f_Txn_To, .slice o.f_Marks.a (o.f_Marks.xs).length o.f_Marks.c] 33 (0, 0)) :: F))) ?_
   refine h_next ?_
   refine h_one 7 rfl (by kernel_rfl) ?_
   refine l_conv (L' := blk b5 (.cells #[.int .i64 0, .int .u64 0, .int .u64 0] 24 (0, 0)) :: row e_S.T e_S.sz a15 (keysT o.txn).length c15 (flat e_S (keysT o.txn)) :: blk b2 (.cells #[.int .i64 o.f_Tag_Id_Node, .int .u64 o.f_Tag_Id_Epoch, .int .u64 o.f_Tag_Id_Seq, .int .i64 o.f_Tag_Try, .int .i64 o.f_Txn_Kind, .slice o.f_Txn_Reads.a (o.f_Txn_Reads.xs).length o.f_Txn_Reads.c, .slice o.f_Txn_Writes.a (o.f_Txn_Writes.xs).length o.f_Txn_Writes.c, .slice o.f_Txn_Ops.a (o.f_Txn_Ops.xs).length o.f_Txn_Ops.c, .int .i64 o.f_Txn_To, .slice o.f_Marks.a (o.f_Marks.xs).length o.f_Marks.c] 33 (0, 0)) :: F) (fun w S => S.perm List.perm_append_comm) ?_
   refine o_storen rfl rfl ti24 rfl rfl rfl rfl ?_
   refine l_nil ?_
   refine q_conv (L' := (blk b2 (.cells #[.int .i64 o.f_Tag_Id_Node, .int .u64 o.f_Tag_Id_Epoch, .int .u64 o.f_Tag_Id_Seq, .int .i64 o.f_Tag_Try, .int .i64 o.f_Txn_Kind, .slice o.f_Txn_Reads.a (o.f_Txn_Reads.xs).length o.f_Txn_Reads.c, .slice o.f_Txn_Writes.a (o.f_Txn_Writes.xs).length o.f_Txn_Writes.c, .slice o.f_Txn_Ops.a (o.f_Txn_Ops.xs).length o.f_Txn_Ops.c, .int .i64 o.f_Txn_To, .slice o.f_Marks.a (o.f_Marks.xs).length o.f_Marks.c] 33 (0, 0)) :: F) ++ [blk b5 (.cells #[.int .i64 o.f_Tag_Id_Node, .int .u64 o.f_Tag_Id_Epoch, .int .u64 o.f_Tag_Id_Seq] 24 (0, 0)), row e_S.T e_S.sz a15 (keysT o.txn).length c15 (flat e_S (keysT o.txn))]) (fun w S => S.perm (List.perm_append_comm (l₁ := [blk b5 (.cells #[.int .i64 o.f_Tag_Id_Node, .int .u64 o.f_Tag_Id_Epoch, .int .u64 o.f_Tag_Id_Seq] 24 (0, 0)), row e_S.T e_S.sz a15 (keysT o.txn).length c15 (flat e_S (keysT o.txn))]) (l₂ := blk b2 (.cells #[.int .i64 o.f_Tag_Id_Node, .int .u64 o.f_Tag_Id_Epoch, .int .u64 o.f_Tag_Id_Seq, .int .i64 o.f_Tag_Try, .int .i64 o.f_Txn_Kind, .slice o.f_Txn_Reads.a (o.f_Txn_Reads.xs).length o.f_Txn_Reads.c, .slice o.f_Txn_Writes.a (o.f_Txn_Writes.xs).length o.f_Txn_Writes.c, .slice o.f_Txn_Ops.a (o.f_Txn_Ops.xs).length o.f_Txn_Ops.c, .int .i64 o.f_Txn_To, .slice o.f_Marks.a (o.f_Marks.xs).length o.f_Marks.c] 33 (0, 0)) :: F))) ?_
   refine h_next ?_
   refine h_take 8 rfl rfl (by kernel_rfl) (by kernel_rfl) (by kernel_rfl) (fun L0 => v_assign rfl rfl) ?_
   refine h_done (by kernel_rfl) ?_
   refine q_conv (L' := blk b5 (.cells #[.int .i64 o.f_Tag_Id_Node, .int .u64 o.f_Tag_Id_Epoch, .int .u64 o.f_Tag_Id_Seq] 24 (0, 0)) :: row e_S.T e_S.sz a15 (keysT o.txn).length c15 (flat e_S (keysT o.txn)) :: blk b2 (.cells #[.int .i64 o.f_Tag_Id_Node, .int .u64 o.f_Tag_Id_Epoch, .int .u64 o.f_Tag_Id_Seq, .int .i64 o.f_Tag_Try, .int .i64 o.f_Txn_Kind, .slice o.f_Txn_Reads.a (o.f_Txn_Reads.xs).length o.f_Txn_Reads.c, .slice o.f_Txn_Writes.a (o.f_Txn_Writes.xs).length o.f_Txn_Writes.c, .slice o.f_Txn_Ops.a (o.f_Txn_Ops.xs).length o.f_Txn_Ops.c, .int .i64 o.f_Txn_To, .slice o.f_Marks.a (o.f_Marks.xs).length o.f_Marks.c] 33 (0, 0)) :: F) (fun w S => S.perm List.perm_append_comm) ?_
   exact q_mid (b5, a15, c15) (by trivial) ⟨(by first | rfl | exact vint (by omega)), (by first | rfl | exact vint (by omega)), (by first | rfl | exact vint (by omega)), (by first | rfl | exact vint (by omega)), (by first | rfl | exact vint (by omega)), (by first | rfl | exact vint (by omega)), (by first | rfl | exact vint (by omega)), (by first | rfl | exact vint (by omega)), (by first | rfl | exact vint (by omega)), (by first | rfl | exact vint (by omega)), (by first | rfl | exact vint (by omega)), (by first | rfl | exact vint (by omega)), trivial⟩ (fun w S => S)
  · -- 6 comes first
   refine l_conv (L' := blk b2 (.cells #[.int .i64 o.f_Tag_Id_Node, .int .u64 o.f_Tag_Id_Epoch, .int .u64 o.f_Tag_Id_Seq, .int .i64 o.f_Tag_Try, .int .i64 o.f_Txn_Kind, .slice o.f_Txn_Reads.a (o.f_Txn_Reads.xs).length o.f_Txn_Reads.c, .slice o.f_Txn_Writes.a (o.f_Txn_Writes.xs).length o.f_Txn_Writes.c, .slice o.f_Txn_Ops.a (o.f_Txn_Ops.xs).length o.f_Txn_Ops.c, .int .i64 o.f_Txn_To, .slice o.f_Marks.a (o.f_Marks.xs).length o.f_Marks.c] 33 (0, 0)) :: F) (fun w S => S.perm List.perm_append_comm) ?_
   refine o_alloc rfl ti24 fun b5 => ?_
   refine l_nil ?_
   refine q_conv (L' := (blk b2 (.cells #[.int .i64 o.f_Tag_Id_Node, .int .u64 o.f_Tag_Id_Epoch, .int .u64 o.f_Tag_Id_Seq, .int .i64 o.f_Tag_Try, .int .i64 o.f_Txn_Kind, .slice o.f_Txn_Reads.a (o.f_Txn_Reads.xs).length o.f_Txn_Reads.c, .slice o.f_Txn_Writes.a (o.f_Txn_Writes.xs).length o.f_Txn_Writes.c, .slice o.f_Txn_Ops.a (o.f_Txn_Ops.xs).length o.f_Txn_Ops.c, .int .i64 o.f_Txn_To, .slice o.f_Marks.a (o.f_Marks.xs).length o.f_Marks.c] 33 (0, 0)) :: F) ++ [blk b5 (.cells #[.int .i64 0, .int .u64 0, .int .u64 0] 24 (0, 0))]) (fun w S => S.perm (List.perm_append_comm (l₁ := [blk b5 (.cells #[.int .i64 0, .int .u64 0, .int .u64 0] 24 (0, 0))]) (l₂ := blk b2 (.cells #[.int .i64 o.f_Tag_Id_Node, .int .u64 o.f_Tag_Id_Epoch, .int .u64 o.f_Tag_Id_Seq, .int .i64 o.f_Tag_Try, .int .i64 o.f_Txn_Kind, .slice o.f_Txn_Reads.a (o.f_Txn_Reads.xs).length o.f_Txn_Reads.c, .slice o.f_Txn_Writes.a (o.f_Txn_Writes.xs).length o.f_Txn_Writes.c, .slice o.f_Txn_Ops.a (o.f_Txn_Ops.xs).length o.f_Txn_Ops.c, .int .i64 o.f_Txn_To, .slice o.f_Marks.a (o.f_Marks.xs).length o.f_Marks.c] 33 (0, 0)) :: F))) ?_
   refine h_next ?_
   refine h_one 5 rfl (by kernel_rfl) ?_
   refine l_conv (L' := blk b5 (.cells #[.int .i64 0, .int .u64 0, .int .u64 0] 24 (0, 0)) :: blk b2 (.cells #[.int .i64 o.f_Tag_Id_Node, .int .u64 o.f_Tag_Id_Epoch, .int .u64 o.f_Tag_Id_Seq, .int .i64 o.f_Tag_Try, .int .i64 o.f_Txn_Kind, .slice o.f_Txn_Reads.a (o.f_Txn_Reads.xs).length o.f_Txn_Reads.c, .slice o.f_Txn_Writes.a (o.f_Txn_Writes.xs).length o.f_Txn_Writes.c, .slice o.f_Txn_Ops.a (o.f_Txn_Ops.xs).length o.f_Txn_Ops.c, .int .i64 o.f_Txn_To, .slice o.f_Marks.a (o.f_Marks.xs).length o.f_Marks.c] 33 (0, 0)) :: F) (fun w S => S.perm List.perm_append_comm) ?_
   refine o_call rfl cal26 rfl (keys_ (t := o.txn) (OrdR.txn (OrdR.c (OrdR.c T_o))) hb) ?_
   rintro _ _ ⟨a15, c15, rfl, rfl⟩
   refine l_nil ?_
   refine q_conv (L' := (blk b2 (.cells #[.int .i64 o.f_Tag_Id_Node, .int .u64 o.f_Tag_Id_Epoch, .int .u64 o.f_Tag_Id_Seq, .int .i64 o.f_Tag_Try, .int .i64 o.f_Txn_Kind, .slice o.f_Txn_Reads.a (o.f_Txn_Reads.xs).length o.f_Txn_Reads.c, .slice o.f_Txn_Writes.a (o.f_Txn_Writes.xs).length o.f_Txn_Writes.c, .slice o.f_Txn_Ops.a (o.f_Txn_Ops.xs).length o.f_Txn_Ops.c, .int .i64 o.f_Txn_To, .slice o.f_Marks.a (o.f_Marks.xs).length o.f_Marks.c] 33 (0, 0)) :: F) ++ [row e_S.T e_S.sz a15 (keysT o.txn).length c15 (flat e_S (keysT o.txn)), blk b5 (.cells #[.int .i64 0, .int .u64 0, .int .u64 0] 24 (0, 0))]) (fun w S => S.perm (List.perm_append_comm (l₁ := [row e_S.T e_S.sz a15 (keysT o.txn).length c15 (flat e_S (keysT o.txn)), blk b5 (.cells #[.int .i64 0, .int .u64 0, .int .u64 0] 24 (0, 0))]) (l₂ := blk b2 (.cells #[.int .i64 o.f_Tag_Id_Node, .int .u64 o.f_Tag_Id_Epoch, .int .u64 o.f_Tag_Id_Seq, .int .i64 o.f_Tag_Try, .int .i64 o.f_Txn_Kind, .slice o.f_Txn_Reads.a (o.f_Txn_Reads.xs).length o.f_Txn_Reads.c, .slice o.f_Txn_Writes.a (o.f_Txn_Writes.xs).length o.f_Txn_Writes.c, .slice o.f_Txn_Ops.a (o.f_Txn_Ops.xs).length o.f_Txn_Ops.c, .int .i64 o.f_Txn_To, .slice o.f_Marks.a (o.f_Marks.xs).length o.f_Marks.c] 33 (0, 0)) :: F))) ?_
   refine h_next ?_
   refine h_one 7 rfl (by kernel_rfl) ?_
   refine l_conv (L' := row e_S.T e_S.sz a15 (keysT o.txn).length c15 (flat e_S (keysT o.txn)) :: blk b5 (.cells #[.int .i64 0, .int .u64 0, .int .u64 0] 24 (0, 0)) :: blk b2 (.cells #[.int .i64 o.f_Tag_Id_Node, .int .u64 o.f_Tag_Id_Epoch, .int .u64 o.f_Tag_Id_Seq, .int .i64 o.f_Tag_Try, .int .i64 o.f_Txn_Kind, .slice o.f_Txn_Reads.a (o.f_Txn_Reads.xs).length o.f_Txn_Reads.c, .slice o.f_Txn_Writes.a (o.f_Txn_Writes.xs).length o.f_Txn_Writes.c, .slice o.f_Txn_Ops.a (o.f_Txn_Ops.xs).length o.f_Txn_Ops.c, .int .i64 o.f_Txn_To, .slice o.f_Marks.a (o.f_Marks.xs).length o.f_Marks.c] 33 (0, 0)) :: F) (fun w S => S.perm List.perm_append_comm) ?_
   refine l_f1 ?_
   refine o_storen rfl rfl ti24 rfl rfl rfl rfl ?_
   refine l_nil ?_
   refine q_conv (L' := (blk b2 (.cells #[.int .i64 o.f_Tag_Id_Node, .int .u64 o.f_Tag_Id_Epoch, .int .u64 o.f_Tag_Id_Seq, .int .i64 o.f_Tag_Try, .int .i64 o.f_Txn_Kind, .slice o.f_Txn_Reads.a (o.f_Txn_Reads.xs).length o.f_Txn_Reads.c, .slice o.f_Txn_Writes.a (o.f_Txn_Writes.xs).length o.f_Txn_Writes.c, .slice o.f_Txn_Ops.a (o.f_Txn_Ops.xs).length o.f_Txn_Ops.c, .int .i64 o.f_Txn_To, .slice o.f_Marks.a (o.f_Marks.xs).length o.f_Marks.c] 33 (0, 0)) :: F) ++ [blk b5 (.cells #[.int .i64 o.f_Tag_Id_Node, .int .u64 o.f_Tag_Id_Epoch, .int .u64 o.f_Tag_Id_Seq] 24 (0, 0)), row e_S.T e_S.sz a15 (keysT o.txn).length c15 (flat e_S (keysT o.txn))]) (fun w S => S.perm (List.perm_append_comm (l₁ := [blk b5 (.cells #[.int .i64 o.f_Tag_Id_Node, .int .u64 o.f_Tag_Id_Epoch, .int .u64 o.f_Tag_Id_Seq] 24 (0, 0)), row e_S.T e_S.sz a15 (keysT o.txn).length c15 (flat e_S (keysT o.txn))]) (l₂ := blk b2 (.cells #[.int .i64 o.f_Tag_Id_Node, .int .u64 o.f_Tag_Id_Epoch, .int .u64 o.f_Tag_Id_Seq, .int .i64 o.f_Tag_Try, .int .i64 o.f_Txn_Kind, .slice o.f_Txn_Reads.a (o.f_Txn_Reads.xs).length o.f_Txn_Reads.c, .slice o.f_Txn_Writes.a (o.f_Txn_Writes.xs).length o.f_Txn_Writes.c, .slice o.f_Txn_Ops.a (o.f_Txn_Ops.xs).length o.f_Txn_Ops.c, .int .i64 o.f_Txn_To, .slice o.f_Marks.a (o.f_Marks.xs).length o.f_Marks.c] 33 (0, 0)) :: F))) ?_
   refine h_next ?_
   refine h_take 8 rfl rfl (by kernel_rfl) (by kernel_rfl) (by kernel_rfl) (fun L0 => v_assign rfl rfl) ?_
   refine h_done (by kernel_rfl) ?_
   refine q_conv (L' := blk b5 (.cells #[.int .i64 o.f_Tag_Id_Node, .int .u64 o.f_Tag_Id_Epoch, .int .u64 o.f_Tag_Id_Seq] 24 (0, 0)) :: row e_S.T e_S.sz a15 (keysT o.txn).length c15 (flat e_S (keysT o.txn)) :: blk b2 (.cells #[.int .i64 o.f_Tag_Id_Node, .int .u64 o.f_Tag_Id_Epoch, .int .u64 o.f_Tag_Id_Seq, .int .i64 o.f_Tag_Try, .int .i64 o.f_Txn_Kind, .slice o.f_Txn_Reads.a (o.f_Txn_Reads.xs).length o.f_Txn_Reads.c, .slice o.f_Txn_Writes.a (o.f_Txn_Writes.xs).length o.f_Txn_Writes.c, .slice o.f_Txn_Ops.a (o.f_Txn_Ops.xs).length o.f_Txn_Ops.c, .int .i64 o.f_Txn_To, .slice o.f_Marks.a (o.f_Marks.xs).length o.f_Marks.c] 33 (0, 0)) :: F) (fun w S => S.perm List.perm_append_comm) ?_
   exact q_mid (b5, a15, c15) (by trivial) ⟨(by first | rfl | exact vint (by omega)), (by first | rfl | exact vint (by omega)), (by first | rfl | exact vint (by omega)), (by first | rfl | exact vint (by omega)), (by first | rfl | exact vint (by omega)), (by first | rfl | exact vint (by omega)), (by first | rfl | exact vint (by omega)), (by first | rfl | exact vint (by omega)), (by first | rfl | exact vint (by omega)), (by first | rfl | exact vint (by omega)), (by first | rfl | exact vint (by omega)), (by first | rfl | exact vint (by omega)), trivial⟩ (fun w S => S)
 · -- behind the cut
  rintro ⟨b5, a15, c15⟩ _hp
  try dsimp only at *
  refine c_seq ?_
  have hkl := chk_len o
  refine c_region ?_
  refine o_fieldAddr (q := ⟨b2, 4, none⟩) rfl rfl Try.underlying33 rfl ti30 rfl ?_
  refine o_loadn (vs := [_, _, _, _, _]) rfl rfl Try.underlying30 rfl ti30 (rdn_lit 2 rfl rfl) ?_
  refine o_move rfl rfl ?_
  refine o_call rfl cal27 rfl (check_ (t := o.txn) (g := g) (OrdR.txn (OrdR.c (OrdR.c (OrdR.c T_o))))) ?_
  rintro _ _ ⟨rfl, rfl⟩
  refine o_bin rfl rfl rfl b_eql ?_
  refine o_move rfl rfl ?_
  refine l_split (t := 21) rfl (fun h1 => ?_) (fun h1 => ?_)
  · -- h1T
   have h1b := h1
   try simp only [decide_eq_true_eq] at h1
   refine o_yes rfl rfl rfl ?_
   refine o_fieldAddr (q := ⟨b5, 0, none⟩) rfl rfl Try.underlying24 rfl ti3 rfl ?_
   refine o_yes rfl rfl rfl ?_
   refine o_load1 rfl rfl Try.underlying3 rfl (rd_mem 0 rfl rfl) ?_
   refine o_yes rfl rfl rfl ?_
   refine o_bin rfl rfl rfl b_geq ?_
   refine o_pick_true rfl rfl rfl ?_
   refine o_move rfl rfl ?_
   refine l_split (t := 26) rfl (fun h2 => ?_) (fun h2 => ?_)
   · -- h2T
    have h2b := h2
    try simp only [decide_eq_true_eq] at h2
    refine o_yes rfl rfl rfl ?_
    refine o_fieldAddr (q := ⟨b5, 0, none⟩) rfl rfl Try.underlying24 rfl ti3 rfl ?_
    refine o_yes rfl rfl rfl ?_
    refine o_load1 rfl rfl Try.underlying3 rfl (rd_mem 0 rfl rfl) ?_
    refine o_yes rfl rfl rfl ?_
    refine o_bin rfl rfl rfl b_lss ?_
    refine o_pick_true rfl rfl rfl ?_
    refine o_move rfl rfl ?_
    refine l_split (t := 31) rfl (fun h3 => ?_) (fun h3 => ?_)
    · -- h3T
     have h3b := h3
     try simp only [decide_eq_true_eq] at h3
     refine o_yes rfl rfl rfl ?_
     refine o_fieldAddr (q := ⟨b5, 1, none⟩) rfl rfl Try.underlying24 rfl ti22 rfl ?_
     refine o_yes rfl rfl rfl ?_
     refine o_load1 rfl rfl Try.underlying22 rfl (rd_mem 0 rfl rfl) ?_
     refine o_yes rfl rfl rfl ?_
     refine o_bin rfl rfl rfl b_gtr ?_
     refine o_pick_true rfl rfl rfl ?_
     refine o_move rfl rfl ?_
     refine l_split (t := 36) rfl (fun h4 => ?_) (fun h4 => ?_)
     · -- h4T
      have h4b := h4
      try simp only [decide_eq_true_eq] at h4
      refine o_yes rfl rfl rfl ?_
      refine o_fieldAddr (q := ⟨b5, 2, none⟩) rfl rfl Try.underlying24 rfl ti22 rfl ?_
      refine o_yes rfl rfl rfl ?_
      refine o_load1 rfl rfl Try.underlying22 rfl (rd_mem 0 rfl rfl) ?_
      refine o_yes rfl rfl rfl ?_
      refine o_bin rfl rfl rfl b_gtr ?_
      refine o_pick_true rfl rfl rfl ?_
      refine o_move rfl rfl ?_
      refine l_split (t := 41) rfl (fun h5 => ?_) (fun h5 => ?_)
      · -- h5T
       have h5b := h5
       try simp only [decide_eq_true_eq] at h5
       refine o_yes rfl rfl rfl ?_
       refine o_fieldAddr (q := ⟨b2, 0, none⟩) rfl rfl Try.underlying33 rfl ti26 rfl ?_
       refine o_yes rfl rfl rfl ?_
       refine o_fieldAddr (q := ⟨b2, 3, none⟩) rfl rfl Try.underlying26 rfl ti3 rfl ?_
       refine o_yes rfl rfl rfl ?_
       refine o_load1 rfl rfl Try.underlying3 rfl (rd_mem 2 rfl rfl) ?_
       refine o_yes rfl rfl rfl ?_
       refine o_bin rfl rfl rfl b_geq ?_
       refine o_pick_true rfl rfl rfl ?_
       refine o_move rfl rfl ?_
       refine l_split (t := 47) rfl (fun h6 => ?_) (fun h6 => ?_)
       · -- h6T
        have h6b := h6
        try simp only [decide_eq_true_eq] at h6
        refine o_yes rfl rfl rfl ?_
        refine o_fieldAddr (q := ⟨b2, 0, none⟩) rfl rfl Try.underlying33 rfl ti26 rfl ?_
        refine o_yes rfl rfl rfl ?_
        refine o_fieldAddr (q := ⟨b2, 3, none⟩) rfl rfl Try.underlying26 rfl ti3 rfl ?_
        refine o_yes rfl rfl rfl ?_
        refine o_load1 rfl rfl Try.underlying3 rfl (rd_mem 2 rfl rfl) ?_
        refine o_yes rfl rfl rfl ?_
        refine o_bin rfl rfl rfl b_lss ?_
        refine o_pick_true rfl rfl rfl ?_
        refine o_assign rfl rfl ?_
        refine l_nil ?_
        refine q_then ?_
        refine c_seq ?_
        refine c_seq ?_
        refine c_region ?_
        refine o_move rfl rfl ?_
        refine o_not rfl rfl ?_
        refine o_move rfl rfl ?_
        refine l_split (t := 55) rfl (fun h7 => ?_) (fun h7 => ?_)
        · -- h7T
         have h7b := h7
         try simp only [Bool.not_eq_true', decide_eq_false_iff_not, Int.not_lt, Int.not_le] at h7
         refine o_no rfl rfl rfl rfl ?_
         refine o_no rfl rfl rfl rfl ?_
         refine o_no rfl rfl rfl rfl ?_
         refine o_no rfl rfl rfl rfl ?_
         refine o_no rfl rfl rfl rfl ?_
         refine o_no rfl rfl rfl rfl ?_
         refine o_pick_true rfl rfl rfl ?_
         refine l_nil ?_
         refine q_then ?_
         refine c_true rfl ?_
         refine c_seq ?_
         refine c_region ?_
         refine o_assign rfl rfl ?_
         refine l_nil ?_
         refine q_then ?_
         refine c_ret ?_
         refine q_pass_ret ?_
         refine q_conv (fun w S => S.tail) ?_
         refine q_conv (fun w S => S.tail) ?_
         refine q_conv (fun w S => S.tail) ?_
         exact f_ret (r_one rfl rfl) (⟨by first | exact vchk0 ⟨chkN_0.1 (by assumption), ⟨by omega, by omega, by omega, by omega, by omega, by omega⟩, by omega, by rw [show o.f_Marks.xs.length = i by omega]; exact hmk⟩ | exact vchk1 (ord_no hx69 hx75 (by unfold MkOk; grind)) | exact vchk1 (fun h9 => by obtain ⟨q1, ⟨q2, q3, q4, q5, q6, q7⟩, q8, q9⟩ := h9; first | omega | exact absurd (chkN_0.2 q1) (by assumption)), rfl⟩) (fun w S => S)
        · -- h7F
         have h7b := h7
         try simp only [Bool.not_eq_false', decide_eq_true_eq] at h7
         refine o_yes rfl rfl rfl ?_
         refine o_fieldAddr (q := ⟨b2, 9, none⟩) rfl rfl Try.underlying33 rfl ti31 rfl ?_
         refine o_yes rfl rfl rfl ?_
         refine o_load1 rfl rfl Try.underlying31 rfl (rd_mem 2 rfl rfl) ?_
         refine o_yes rfl rfl rfl ?_
         refine o_len rfl rfl Try.underlying31 ?_
         refine o_yes rfl rfl rfl ?_
         refine o_move rfl rfl ?_
         refine o_yes rfl rfl rfl ?_
         refine o_len rfl rfl Try.underlying27 ?_
         refine o_yes rfl rfl rfl ?_
         refine o_bin rfl rfl rfl b_neq ?_
         refine o_pick_false rfl rfl rfl ?_
         refine l_nil ?_
         refine q_then ?_
         refine c_cond rfl (fun h8 => ?_) (fun h8 => ?_)
         · -- h8T
          have h8b := h8
          try simp only [Bool.not_eq_true', decide_eq_false_iff_not, Int.not_lt, Int.not_le] at h8
          refine c_seq ?_
          refine c_region ?_
          refine o_assign rfl rfl ?_
          refine l_nil ?_
          refine q_then ?_
          refine c_ret ?_
          refine q_pass_ret ?_
          refine q_conv (fun w S => S.tail) ?_
          refine q_conv (fun w S => S.tail) ?_
          refine q_conv (fun w S => S.tail) ?_
          exact f_ret (r_one rfl rfl) (⟨by first | exact vchk0 ⟨chkN_0.1 (by assumption), ⟨by omega, by omega, by omega, by omega, by omega, by omega⟩, by omega, by rw [show o.f_Marks.xs.length = i by omega]; exact hmk⟩ | exact vchk1 (ord_no hx69 hx75 (by unfold MkOk; grind)) | exact vchk1 (fun h9 => by obtain ⟨q1, ⟨q2, q3, q4, q5, q6, q7⟩, q8, q9⟩ := h9; first | omega | exact absurd (chkN_0.2 q1) (by assumption)), rfl⟩) (fun w S => S)
         · -- h8F
          have h8b := h8
          try simp only [Bool.not_eq_false', decide_eq_true_eq] at h8
          refine c_skip ?_
          refine q_then ?_
          refine c_seq ?_
          refine c_seq ?_
          refine c_region ?_
          refine o_fieldAddr (q := ⟨b2, 9, none⟩) rfl rfl Try.underlying33 rfl ti31 rfl ?_
          refine o_load1 rfl rfl Try.underlying31 rfl (rd_mem 2 rfl rfl) ?_
          refine o_len rfl rfl Try.underlying31 ?_
          refine o_move rfl rfl ?_
          refine l_nil ?_
          refine q_then ?_
          refine c_block ?_
          refine c_loop (α := Nat) (fun z => [(1, .int .i64 g), (6, .slice a15 (keysT o.txn).length c15), (64, .slice o.f_Marks.a (o.f_Marks.xs).length o.f_Marks.c), (65, .int .i64 ((o.f_Marks.xs).length : Int)), (66, .int .i64 (z : Int))]) (fun z => blk b5 (.cells #[.int .i64 o.f_Tag_Id_Node, .int .u64 o.f_Tag_Id_Epoch, .int .u64 o.f_Tag_Id_Seq] 24 (0, 0)) :: row e_S.T e_S.sz a15 (keysT o.txn).length c15 (flat e_S (keysT o.txn)) :: blk b2 (.cells #[.int .i64 o.f_Tag_Id_Node, .int .u64 o.f_Tag_Id_Epoch, .int .u64 o.f_Tag_Id_Seq, .int .i64 o.f_Tag_Try, .int .i64 o.f_Txn_Kind, .slice o.f_Txn_Reads.a (o.f_Txn_Reads.xs).length o.f_Txn_Reads.c, .slice o.f_Txn_Writes.a (o.f_Txn_Writes.xs).length o.f_Txn_Writes.c, .slice o.f_Txn_Ops.a (o.f_Txn_Ops.xs).length o.f_Txn_Ops.c, .int .i64 o.f_Txn_To, .slice o.f_Marks.a (o.f_Marks.xs).length o.f_Marks.c] 33 (0, 0)) :: F) (fun z => z ≤ o.f_Marks.xs.length ∧ MksTo g o.f_Marks.xs (keysT o.txn) z) (fun z => o.f_Marks.xs.length - z) (0) (by exact ⟨Nat.zero_le _, mks_0⟩) ⟨(by first | rfl | exact vint (by omega)), (by first | rfl | exact vint (by omega)), (by first | rfl | exact vint (by omega)), (by first | rfl | exact vint (by omega)), (by first | rfl | exact vint (by omega)), trivial⟩ (fun w S => S) ?_
          rintro i ⟨hi, hmk⟩
          try dsimp only at *
          refine c_seq ?_
          refine c_region ?_
          refine o_bin rfl rfl rfl b_lss ?_
          refine l_nil ?_
          refine q_then ?_
          refine c_seq ?_
          refine c_cond rfl (fun h9 => ?_) (fun h9 => ?_)
          · -- h9T
           have h9b := h9
           try simp only [decide_eq_true_eq] at h9
           refine c_skip ?_
           refine q_then ?_
           refine c_seq ?_
           refine c_block ?_
           refine c_seq ?_
           refine c_region ?_
           refine o_move rfl rfl ?_
           refine o_index e_Mark_ok rfl rfl rfl Try.underlying31 (by omega) (by omega) (OrdR.c (OrdR.c (OrdR.c T_o))).rm fun ad69 ead69 => ?_
           obtain ⟨x69, hx69⟩ : ∃ x, (o.f_Marks.xs)[((i : Int)).toNat]? = some x := ⟨_, List.getElem?_eq_getElem (by omega)⟩
           refine o_loadn (vs := e_Mark.cells x69) rfl rfl Try.underlying51 rfl ti51 (rdn_sl e_Mark_ok ead69 (OrdR.c (OrdR.c (OrdR.c T_o))).rm hx69) ?_
           refine o_alloc rfl ti51 fun b9 => ?_
           refine o_assign rfl rfl ?_
           refine o_storen rfl rfl ti51 rfl rfl rfl rfl ?_
           refine l_nil ?_
           refine q_then ?_
           refine c_seq ?_
           refine c_fact (p := ∃ ad, a15 = some ad) (rds_some (e := e_S) (xs := keysT o.txn) (rds_own e_S_ok 2 rfl) (by intro h0; have h00 := congrArg List.length h0; simp only [List.length_nil] at h00; omega)) ?_
           rintro ⟨adk, eadk⟩
           refine c_quiet (by kernel_rfl) (by kernel_rfl) ?_
           refine Qt.o_val rfl (v_fieldAddr (q := ⟨b9, 0, none⟩) rfl rfl Try.underlying51 rfl ti9 rfl) ?_
           refine Qt.o_val rfl (v_load1 rfl rfl Try.underlying9 rfl (rd_mem 0 rfl rfl)) ?_
           refine Qt.o_val rfl (v_move rfl rfl) ?_
           refine Qt.o_val rfl (v_move rfl rfl) ?_
           refine Qt.o_val rfl (v_indexK e_S_ok eadk rfl rfl rfl Try.underlying27 (by omega) (by omega)) ?_
           obtain ⟨x75, hx75⟩ : ∃ x, (keysT o.txn)[((i : Int)).toNat]? = some x := ⟨_, List.getElem?_eq_getElem (by omega)⟩
           refine Qt.o_val rfl (v_load1 rfl rfl Try.underlying9 rfl (rd_sl0 e_S_ok eadk (rds_own e_S_ok 2 rfl) hx75 rfl)) ?_
           refine Qt.o_val rfl (v_bin rfl rfl rfl b_sneq) ?_
           refine Qt.o_val rfl (v_move rfl rfl) ?_
           refine Qt.l_split (t := 78) rfl (fun h10 => ?_) (fun h10 => ?_)
           · -- h10T
            have h10b := h10
            try simp only [Bool.not_eq_true', decide_eq_false_iff_not, Int.not_lt, Int.not_le] at h10
            refine Qt.o_no rfl rfl rfl rfl ?_
            refine Qt.o_no rfl rfl rfl rfl ?_
            refine Qt.o_no rfl rfl rfl rfl ?_
            refine Qt.o_val rfl (v_pick_true rfl rfl rfl) ?_
            refine Qt.o_val rfl (v_move rfl rfl) ?_
            refine Qt.o_no rfl rfl rfl rfl ?_
            refine Qt.o_no rfl rfl rfl rfl ?_
            refine Qt.o_no rfl rfl rfl rfl ?_
            refine Qt.o_no rfl rfl rfl rfl ?_
            refine Qt.o_val rfl (v_pick_true rfl rfl rfl) ?_
            refine Qt.l_nil ?_
            refine q_then ?_
            refine c_true rfl ?_
            refine c_seq ?_
            refine c_region ?_
            refine o_assign rfl rfl ?_
            refine l_nil ?_
            refine q_then ?_
            refine c_ret ?_
            refine q_block_ret ?_
            refine q_pass_ret ?_
            refine q_pass_ret ?_
            refine q_block_ret ?_
            refine q_pass_ret ?_
            refine q_conv (fun w S => S.tail) ?_
            refine q_conv (fun w S => S.tail) ?_
            refine q_conv (fun w S => S.tail) ?_
            refine q_conv (fun w S => S.tail) ?_
            exact f_ret (r_one rfl rfl) (⟨by first | exact vchk0 ⟨chkN_0.1 (by assumption), ⟨by omega, by omega, by omega, by omega, by omega, by omega⟩, by omega, by rw [show o.f_Marks.xs.length = i by omega]; exact hmk⟩ | exact vchk1 (ord_no hx69 hx75 (by unfold MkOk; grind)) | exact vchk1 (fun h9 => by obtain ⟨q1, ⟨q2, q3, q4, q5, q6, q7⟩, q8, q9⟩ := h9; first | omega | exact absurd (chkN_0.2 q1) (by assumption)), rfl⟩) (fun w S => S)
           · -- h10F
            have h10b := h10
            try simp only [Bool.not_eq_false', decide_eq_true_eq] at h10
            refine Qt.o_yes rfl rfl rfl ?_
            refine Qt.o_val rfl (v_fieldAddr (q := ⟨b9, 1, none⟩) rfl rfl Try.underlying51 rfl ti3 rfl) ?_
            refine Qt.o_yes rfl rfl rfl ?_
            refine Qt.o_val rfl (v_load1 rfl rfl Try.underlying3 rfl (rd_mem 0 rfl rfl)) ?_
            refine Qt.o_yes rfl rfl rfl ?_
            refine Qt.o_val rfl (v_bin rfl rfl rfl b_lss) ?_
            refine Qt.o_val rfl (v_pick_false rfl rfl rfl) ?_
            refine Qt.o_val rfl (v_move rfl rfl) ?_
            refine Qt.l_split (t := 83) rfl (fun h11 => ?_) (fun h11 => ?_)
            · -- h11T
             have h11b := h11
             try simp only [decide_eq_true_eq] at h11
             refine Qt.o_no rfl rfl rfl rfl ?_
             refine Qt.o_no rfl rfl rfl rfl ?_
             refine Qt.o_no rfl rfl rfl rfl ?_
             refine Qt.o_no rfl rfl rfl rfl ?_
             refine Qt.o_val rfl (v_pick_true rfl rfl rfl) ?_
             refine Qt.l_nil ?_
             refine q_then ?_
             refine c_true rfl ?_
             refine c_seq ?_
             refine c_region ?_
             refine o_assign rfl rfl ?_
             refine l_nil ?_
             refine q_then ?_
             refine c_ret ?_
             refine q_block_ret ?_
             refine q_pass_ret ?_
             refine q_pass_ret ?_
             refine q_block_ret ?_
             refine q_pass_ret ?_
             refine q_conv (fun w S => S.tail) ?_
             refine q_conv (fun w S => S.tail) ?_
             refine q_conv (fun w S => S.tail) ?_
             refine q_conv (fun w S => S.tail) ?_
             exact f_ret (r_one rfl rfl) (⟨by first | exact vchk0 ⟨chkN_0.1 (by assumption), ⟨by omega, by omega, by omega, by omega, by omega, by omega⟩, by omega, by rw [show o.f_Marks.xs.length = i by omega]; exact hmk⟩ | exact vchk1 (ord_no hx69 hx75 (by unfold MkOk; grind)) | exact vchk1 (fun h9 => by obtain ⟨q1, ⟨q2, q3, q4, q5, q6, q7⟩, q8, q9⟩ := h9; first | omega | exact absurd (chkN_0.2 q1) (by assumption)), rfl⟩) (fun w S => S)
            · -- h11F
             have h11b := h11
             try simp only [decide_eq_false_iff_not, Int.not_lt, Int.not_le] at h11
             refine Qt.o_yes rfl rfl rfl ?_
             refine Qt.o_val rfl (v_fieldAddr (q := ⟨b9, 1, none⟩) rfl rfl Try.underlying51 rfl ti3 rfl) ?_
             refine Qt.o_yes rfl rfl rfl ?_
             refine Qt.o_val rfl (v_load1 rfl rfl Try.underlying3 rfl (rd_mem 0 rfl rfl)) ?_
             refine Qt.o_yes rfl rfl rfl ?_
             refine Qt.o_val rfl (v_move rfl rfl) ?_
             refine Qt.o_yes rfl rfl rfl ?_
             refine Qt.o_val rfl (v_bin rfl rfl rfl b_geq) ?_
             refine Qt.o_val rfl (v_pick_false rfl rfl rfl) ?_
             refine Qt.l_nil ?_
             refine q_then ?_
             refine c_cond rfl (fun h12 => ?_) (fun h12 => ?_)
             · -- h12T
              have h12b := h12
              try simp only [decide_eq_true_eq] at h12
              refine c_seq ?_
              refine c_region ?_
              refine o_assign rfl rfl ?_
              refine l_nil ?_
              refine q_then ?_
              refine c_ret ?_
              refine q_block_ret ?_
              refine q_pass_ret ?_
              refine q_pass_ret ?_
              refine q_block_ret ?_
              refine q_pass_ret ?_
              refine q_conv (fun w S => S.tail) ?_
              refine q_conv (fun w S => S.tail) ?_
              refine q_conv (fun w S => S.tail) ?_
              refine q_conv (fun w S => S.tail) ?_
              exact f_ret (r_one rfl rfl) (⟨by first | exact vchk0 ⟨chkN_0.1 (by assumption), ⟨by omega, by omega, by omega, by omega, by omega, by omega⟩, by omega, by rw [show o.f_Marks.xs.length = i by omega]; exact hmk⟩ | exact vchk1 (ord_no hx69 hx75 (by unfold MkOk; grind)) | exact vchk1 (fun h9 => by obtain ⟨q1, ⟨q2, q3, q4, q5, q6, q7⟩, q8, q9⟩ := h9; first | omega | exact absurd (chkN_0.2 q1) (by assumption)), rfl⟩) (fun w S => S)
             · -- h12F
              have h12b := h12
              try simp only [decide_eq_false_iff_not, Int.not_lt, Int.not_le] at h12
              refine c_skip ?_
              refine q_block ?_
              refine q_then ?_
              refine c_region ?_
              refine o_bin rfl rfl rfl (b_add (wrap_i64 (by omega) (by omega))) ?_
              refine o_move rfl rfl ?_
              refine l_nil ?_
              refine q_conv (fun w S => S.tail) ?_
              exact q_round (i + 1) (by exact ⟨by omega, mks_on hmk hx69 hx75 (by unfold MkOk; grind)⟩) (by (try dsimp only); omega) ⟨(by first | rfl | exact vint (by omega)), (by first | rfl | exact vint (by omega)), (by first | rfl | exact vint (by omega)), (by first | rfl | exact vint (by omega)), (by first | rfl | exact vint (by omega)), trivial⟩ (fun w S => S)
          · -- h9F
           have h9b := h9
           try simp only [decide_eq_false_iff_not, Int.not_lt, Int.not_le] at h9
           refine c_exit ?_
           refine q_pass_exit ?_
           refine q_pass_exit ?_
           refine q_hit ?_
           refine q_then ?_
           refine c_seq ?_
           refine c_region ?_
           refine o_assign rfl rfl ?_
           refine l_nil ?_
           refine q_then ?_
           refine c_ret ?_
           refine q_conv (fun w S => S.tail) ?_
           refine q_conv (fun w S => S.tail) ?_
           refine q_conv (fun w S => S.tail) ?_
           exact f_ret (r_one rfl rfl) (⟨by first | exact vchk0 ⟨chkN_0.1 (by assumption), ⟨by omega, by omega, by omega, by omega, by omega, by omega⟩, by omega, by rw [show o.f_Marks.xs.length = i by omega]; exact hmk⟩ | exact vchk1 (ord_no hx69 hx75 (by unfold MkOk; grind)) | exact vchk1 (fun h9 => by obtain ⟨q1, ⟨q2, q3, q4, q5, q6, q7⟩, q8, q9⟩ := h9; first | omega | exact absurd (chkN_0.2 q1) (by assumption)), rfl⟩) (fun w S => S)
       · -- h6F
        have h6b := h6
        try simp only [decide_eq_false_iff_not, Int.not_lt, Int.not_le] at h6
        refine o_no rfl rfl rfl rfl ?_
        refine o_no rfl rfl rfl rfl ?_
        refine o_no rfl rfl rfl rfl ?_
        refine o_no rfl rfl rfl rfl ?_
        refine o_pick_false rfl rfl rfl ?_
        refine o_assign rfl rfl ?_
        refine l_nil ?_
        refine q_then ?_
        refine c_seq ?_
        refine c_seq ?_
        refine c_region ?_
        refine o_move rfl rfl ?_
        refine o_not rfl rfl ?_
        refine o_move rfl rfl ?_
        refine o_no rfl rfl rfl rfl ?_
        refine o_no rfl rfl rfl rfl ?_
        refine o_no rfl rfl rfl rfl ?_
        refine o_no rfl rfl rfl rfl ?_
        refine o_no rfl rfl rfl rfl ?_
        refine o_no rfl rfl rfl rfl ?_
        refine o_pick_true rfl rfl rfl ?_
        refine l_nil ?_
        refine q_then ?_
        refine c_true rfl ?_
        refine c_seq ?_
        refine c_region ?_
        refine o_assign rfl rfl ?_
        refine l_nil ?_
        refine q_then ?_
        refine c_ret ?_
        refine q_pass_ret ?_
        refine q_conv (fun w S => S.tail) ?_
        refine q_conv (fun w S => S.tail) ?_
        refine q_conv (fun w S => S.tail) ?_
        exact f_ret (r_one rfl rfl) (⟨by first | exact vchk0 ⟨chkN_0.1 (by assumption), ⟨by omega, by omega, by omega, by omega, by omega, by omega⟩, by omega, by rw [show o.f_Marks.xs.length = i by omega]; exact hmk⟩ | exact vchk1 (ord_no hx69 hx75 (by unfold MkOk; grind)) | exact vchk1 (fun h9 => by obtain ⟨q1, ⟨q2, q3, q4, q5, q6, q7⟩, q8, q9⟩ := h9; first | omega | exact absurd (chkN_0.2 q1) (by assumption)), rfl⟩) (fun w S => S)
      · -- h5F
       have h5b := h5
       try simp only [decide_eq_false_iff_not, Int.not_lt, Int.not_le] at h5
       refine o_no rfl rfl rfl rfl ?_
       refine o_no rfl rfl rfl rfl ?_
       refine o_no rfl rfl rfl rfl ?_
       refine o_no rfl rfl rfl rfl ?_
       refine o_pick_false rfl rfl rfl ?_
       refine o_move rfl rfl ?_
       refine o_no rfl rfl rfl rfl ?_
       refine o_no rfl rfl rfl rfl ?_
       refine o_no rfl rfl rfl rfl ?_
       refine o_no rfl rfl rfl rfl ?_
       refine o_pick_false rfl rfl rfl ?_
       refine o_assign rfl rfl ?_
       refine l_nil ?_
       refine q_then ?_
       refine c_seq ?_
       refine c_seq ?_
       refine c_region ?_
       refine o_move rfl rfl ?_
       refine o_not rfl rfl ?_
       refine o_move rfl rfl ?_
       refine o_no rfl rfl rfl rfl ?_
       refine o_no rfl rfl rfl rfl ?_
       refine o_no rfl rfl rfl rfl ?_
       refine o_no rfl rfl rfl rfl ?_
       refine o_no rfl rfl rfl rfl ?_
       refine o_no rfl rfl rfl rfl ?_
       refine o_pick_true rfl rfl rfl ?_
       refine l_nil ?_
       refine q_then ?_
       refine c_true rfl ?_
       refine c_seq ?_
       refine c_region ?_
       refine o_assign rfl rfl ?_
       refine l_nil ?_
       refine q_then ?_
       refine c_ret ?_
       refine q_pass_ret ?_
       refine q_conv (fun w S => S.tail) ?_
       refine q_conv (fun w S => S.tail) ?_
       refine q_conv (fun w S => S.tail) ?_
       exact f_ret (r_one rfl rfl) (⟨by first | exact vchk0 ⟨chkN_0.1 (by assumption), ⟨by omega, by omega, by omega, by omega, by omega, by omega⟩, by omega, by rw [show o.f_Marks.xs.length = i by omega]; exact hmk⟩ | exact vchk1 (ord_no hx69 hx75 (by unfold MkOk; grind)) | exact vchk1 (fun h9 => by obtain ⟨q1, ⟨q2, q3, q4, q5, q6, q7⟩, q8, q9⟩ := h9; first | omega | exact absurd (chkN_0.2 q1) (by assumption)), rfl⟩) (fun w S => S)
     · -- h4F
      have h4b := h4
      try simp only [decide_eq_false_iff_not, Int.not_lt, Int.not_le] at h4
      refine o_no rfl rfl rfl rfl ?_
      refine o_no rfl rfl rfl rfl ?_
      refine o_no rfl rfl rfl rfl ?_
      refine o_pick_false rfl rfl rfl ?_
      refine o_move rfl rfl ?_
      refine o_no rfl rfl rfl rfl ?_
      refine o_no rfl rfl rfl rfl ?_
      refine o_no rfl rfl rfl rfl ?_
      refine o_no rfl rfl rfl rfl ?_
      refine o_pick_false rfl rfl rfl ?_
      refine o_move rfl rfl ?_
      refine o_no rfl rfl rfl rfl ?_
      refine o_no rfl rfl rfl rfl ?_
      refine o_no rfl rfl rfl rfl ?_
      refine o_no rfl rfl rfl rfl ?_
      refine o_pick_false rfl rfl rfl ?_
      refine o_assign rfl rfl ?_
      refine l_nil ?_
      refine q_then ?_
      refine c_seq ?_
      refine c_seq ?_
      refine c_region ?_
      refine o_move rfl rfl ?_
      refine o_not rfl rfl ?_
      refine o_move rfl rfl ?_
      refine o_no rfl rfl rfl rfl ?_
      refine o_no rfl rfl rfl rfl ?_
      refine o_no rfl rfl rfl rfl ?_
      refine o_no rfl rfl rfl rfl ?_
      refine o_no rfl rfl rfl rfl ?_
      refine o_no rfl rfl rfl rfl ?_
      refine o_pick_true rfl rfl rfl ?_
      refine l_nil ?_
      refine q_then ?_
      refine c_true rfl ?_
      refine c_seq ?_
      refine c_region ?_
      refine o_assign rfl rfl ?_
      refine l_nil ?_
      refine q_then ?_
      refine c_ret ?_
      refine q_pass_ret ?_
      refine q_conv (fun w S => S.tail) ?_
      refine q_conv (fun w S => S.tail) ?_
      refine q_conv (fun w S => S.tail) ?_
      exact f_ret (r_one rfl rfl) (⟨by first | exact vchk0 ⟨chkN_0.1 (by assumption), ⟨by omega, by omega, by omega, by omega, by omega, by omega⟩, by omega, by rw [show o.f_Marks.xs.length = i by omega]; exact hmk⟩ | exact vchk1 (ord_no hx69 hx75 (by unfold MkOk; grind)) | exact vchk1 (fun h9 => by obtain ⟨q1, ⟨q2, q3, q4, q5, q6, q7⟩, q8, q9⟩ := h9; first | omega | exact absurd (chkN_0.2 q1) (by assumption)), rfl⟩) (fun w S => S)
    · -- h3F
     have h3b := h3
     try simp only [decide_eq_false_iff_not, Int.not_lt, Int.not_le] at h3
     refine o_no rfl rfl rfl rfl ?_
     refine o_no rfl rfl rfl rfl ?_
     refine o_no rfl rfl rfl rfl ?_
     refine o_pick_false rfl rfl rfl ?_
     refine o_move rfl rfl ?_
     refine o_no rfl rfl rfl rfl ?_
     refine o_no rfl rfl rfl rfl ?_
     refine o_no rfl rfl rfl rfl ?_
     refine o_pick_false rfl rfl rfl ?_
     refine o_move rfl rfl ?_
     refine o_no rfl rfl rfl rfl ?_
     refine o_no rfl rfl rfl rfl ?_
     refine o_no rfl rfl rfl rfl ?_
     refine o_no rfl rfl rfl rfl ?_
     refine o_pick_false rfl rfl rfl ?_
     refine o_move rfl rfl ?_
     refine o_no rfl rfl rfl rfl ?_
     refine o_no rfl rfl rfl rfl ?_
     refine o_no rfl rfl rfl rfl ?_
     refine o_no rfl rfl rfl rfl ?_
     refine o_pick_false rfl rfl rfl ?_
     refine o_assign rfl rfl ?_
     refine l_nil ?_
     refine q_then ?_
     refine c_seq ?_
     refine c_seq ?_
     refine c_region ?_
     refine o_move rfl rfl ?_
     refine o_not rfl rfl ?_
     refine o_move rfl rfl ?_
     refine o_no rfl rfl rfl rfl ?_
     refine o_no rfl rfl rfl rfl ?_
     refine o_no rfl rfl rfl rfl ?_
     refine o_no rfl rfl rfl rfl ?_
     refine o_no rfl rfl rfl rfl ?_
     refine o_no rfl rfl rfl rfl ?_
     refine o_pick_true rfl rfl rfl ?_
     refine l_nil ?_
     refine q_then ?_
     refine c_true rfl ?_
     refine c_seq ?_
     refine c_region ?_
     refine o_assign rfl rfl ?_
     refine l_nil ?_
     refine q_then ?_
     refine c_ret ?_
     refine q_pass_ret ?_
     refine q_conv (fun w S => S.tail) ?_
     refine q_conv (fun w S => S.tail) ?_
     refine q_conv (fun w S => S.tail) ?_
     exact f_ret (r_one rfl rfl) (⟨by first | exact vchk0 ⟨chkN_0.1 (by assumption), ⟨by omega, by omega, by omega, by omega, by omega, by omega⟩, by omega, by rw [show o.f_Marks.xs.length = i by omega]; exact hmk⟩ | exact vchk1 (ord_no hx69 hx75 (by unfold MkOk; grind)) | exact vchk1 (fun h9 => by obtain ⟨q1, ⟨q2, q3, q4, q5, q6, q7⟩, q8, q9⟩ := h9; first | omega | exact absurd (chkN_0.2 q1) (by assumption)), rfl⟩) (fun w S => S)
   · -- h2F
    have h2b := h2
    try simp only [decide_eq_false_iff_not, Int.not_lt, Int.not_le] at h2
    refine o_no rfl rfl rfl rfl ?_
    refine o_no rfl rfl rfl rfl ?_
    refine o_no rfl rfl rfl rfl ?_
    refine o_pick_false rfl rfl rfl ?_
    refine o_move rfl rfl ?_
    refine o_no rfl rfl rfl rfl ?_
    refine o_no rfl rfl rfl rfl ?_
    refine o_no rfl rfl rfl rfl ?_
    refine o_pick_false rfl rfl rfl ?_
    refine o_move rfl rfl ?_
    refine o_no rfl rfl rfl rfl ?_
    refine o_no rfl rfl rfl rfl ?_
    refine o_no rfl rfl rfl rfl ?_
    refine o_pick_false rfl rfl rfl ?_
    refine o_move rfl rfl ?_
    refine o_no rfl rfl rfl rfl ?_
    refine o_no rfl rfl rfl rfl ?_
    refine o_no rfl rfl rfl rfl ?_
    refine o_no rfl rfl rfl rfl ?_
    refine o_pick_false rfl rfl rfl ?_
    refine o_move rfl rfl ?_
    refine o_no rfl rfl rfl rfl ?_
    refine o_no rfl rfl rfl rfl ?_
    refine o_no rfl rfl rfl rfl ?_
    refine o_no rfl rfl rfl rfl ?_
    refine o_pick_false rfl rfl rfl ?_
    refine o_assign rfl rfl ?_
    refine l_nil ?_
    refine q_then ?_
    refine c_seq ?_
    refine c_seq ?_
    refine c_region ?_
    refine o_move rfl rfl ?_
    refine o_not rfl rfl ?_
    refine o_move rfl rfl ?_
    refine o_no rfl rfl rfl rfl ?_
    refine o_no rfl rfl rfl rfl ?_
    refine o_no rfl rfl rfl rfl ?_
    refine o_no rfl rfl rfl rfl ?_
    refine o_no rfl rfl rfl rfl ?_
    refine o_no rfl rfl rfl rfl ?_
    refine o_pick_true rfl rfl rfl ?_
    refine l_nil ?_
    refine q_then ?_
    refine c_true rfl ?_
    refine c_seq ?_
    refine c_region ?_
    refine o_assign rfl rfl ?_
    refine l_nil ?_
    refine q_then ?_
    refine c_ret ?_
    refine q_pass_ret ?_
    refine q_conv (fun w S => S.tail) ?_
    refine q_conv (fun w S => S.tail) ?_
    refine q_conv (fun w S => S.tail) ?_
    exact f_ret (r_one rfl rfl) (⟨by first | exact vchk0 ⟨chkN_0.1 (by assumption), ⟨by omega, by omega, by omega, by omega, by omega, by omega⟩, by omega, by rw [show o.f_Marks.xs.length = i by omega]; exact hmk⟩ | exact vchk1 (ord_no hx69 hx75 (by unfold MkOk; grind)) | exact vchk1 (fun h9 => by obtain ⟨q1, ⟨q2, q3, q4, q5, q6, q7⟩, q8, q9⟩ := h9; first | omega | exact absurd (chkN_0.2 q1) (by assumption)), rfl⟩) (fun w S => S)
  · -- h1F
   have h1b := h1
   try simp only [decide_eq_false_iff_not, Int.not_lt, Int.not_le] at h1
   refine o_no rfl rfl rfl rfl ?_
   refine o_no rfl rfl rfl rfl ?_
   refine o_no rfl rfl rfl rfl ?_
   refine o_pick_false rfl rfl rfl ?_
   refine o_move rfl rfl ?_
   refine o_no rfl rfl rfl rfl ?_
   refine o_no rfl rfl rfl rfl ?_
   refine o_no rfl rfl rfl rfl ?_
   refine o_pick_false rfl rfl rfl ?_
   refine o_move rfl rfl ?_
   refine o_no rfl rfl rfl rfl ?_
   refine o_no rfl rfl rfl rfl ?_
   refine o_no rfl rfl rfl rfl ?_
   refine o_pick_false rfl rfl rfl ?_
   refine o_move rfl rfl ?_
   refine o_no rfl rfl rfl rfl ?_
   refine o_no rfl rfl rfl rfl ?_
   refine o_no rfl rfl rfl rfl ?_
   refine o_pick_false rfl rfl rfl ?_
   refine o_move rfl rfl ?_
   refine o_no rfl rfl rfl rfl ?_
   refine o_no rfl rfl rfl rfl ?_
   refine o_no rfl rfl rfl rfl ?_
   refine o_no rfl rfl rfl rfl ?_
   refine o_pick_false rfl rfl rfl ?_
   refine o_move rfl rfl ?_
   refine o_no rfl rfl rfl rfl ?_
   refine o_no rfl rfl rfl rfl ?_
   refine o_no rfl rfl rfl rfl ?_
   refine o_no rfl rfl rfl rfl ?_
   refine o_pick_false rfl rfl rfl ?_
   refine o_assign rfl rfl ?_
   refine l_nil ?_
   refine q_then ?_
   refine c_seq ?_
   refine c_seq ?_
   refine c_region ?_
   refine o_move rfl rfl ?_
   refine o_not rfl rfl ?_
   refine o_move rfl rfl ?_
   refine o_no rfl rfl rfl rfl ?_
   refine o_no rfl rfl rfl rfl ?_
   refine o_no rfl rfl rfl rfl ?_
   refine o_no rfl rfl rfl rfl ?_
   refine o_no rfl rfl rfl rfl ?_
   refine o_no rfl rfl rfl rfl ?_
   refine o_pick_true rfl rfl rfl ?_
   refine l_nil ?_
   refine q_then ?_
   refine c_true rfl ?_
   refine c_seq ?_
   refine c_region ?_
   refine o_assign rfl rfl ?_
   refine l_nil ?_
   refine q_then ?_
   refine c_ret ?_
   refine q_pass_ret ?_
   refine q_conv (fun w S => S.tail) ?_
   refine q_conv (fun w S => S.tail) ?_
   refine q_conv (fun w S => S.tail) ?_
   exact f_ret (r_one rfl rfl) (⟨by first | exact vchk0 ⟨chkN_0.1 (by assumption), ⟨by omega, by omega, by omega, by omega, by omega, by omega⟩, by omega, by rw [show o.f_Marks.xs.length = i by omega]; exact hmk⟩ | exact vchk1 (ord_no hx69 hx75 (by unfold MkOk; grind)) | exact vchk1 (fun h9 => by obtain ⟨q1, ⟨q2, q3, q4, q5, q6, q7⟩, q8, q9⟩ := h9; first | omega | exact absurd (chkN_0.2 q1) (by assumption)), rfl⟩) (fun w S => S)

end Go.Proofs.Ytlblipkcbmcfkaa
