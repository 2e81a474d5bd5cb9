/- Texts of the proof: OCheckP, OWrite, R9, R9x, ORdp, ORdq, ORd9p, ORd9q, ORd9r, ORd9s, RKeys, TyE. -/
import Derived.Test.YtlblipkcbmcfkaaGreatPiC
namespace Go.Proofs.YtlblipkcbmcfkaaGreat
section
set_option linter.unusedVariables false
set_option linter.unusedSimpArgs false
set_option maxRecDepth 10000
open Go.RowKit Classical
theorem vchk1 {o : Order} {r : Int} (h : ¬ OrdOk o r) : Value.int .i64 1 = Value.int .i64 (chkO o r) := by rw [chkO_no h]
theorem vchk0 {o : Order} {r : Int} (h : OrdOk o r) : Value.int .i64 0 = Value.int .i64 (chkO o r) := by rw [chkO_yes h]
theorem chk_len (o : Order) : (keysT o.txn).length ≤ o.f_Txn_Reads.xs.length + o.f_Txn_Writes.xs.length := keysT_len o.txn
set_option maxHeartbeats 2000000 in
theorem ocheck_ {W : World} {F : List Res} {o : Order} (T_o : OrdR W F o) {g : Int} (hb : o.f_Txn_Reads.xs.length + o.f_Txn_Writes.xs.length ≤ 1000000) (hm : o.f_Marks.xs.length ≤ 1000000) : CS Tryz.prog 22 #[.agg #[.int .i64 o.f_Tag_Id_Node, .int .u64 o.f_Tag_Id_Epoch, .int .u64 o.f_Tag_Id_Seq, .int .i64 o.f_Tag_Try, .int .i64 o.f_Txn_Kind, .slice o.f_Txn_Reads.a (o.f_Txn_Reads.xs).length o.f_Txn_Reads.c, .slice o.f_Txn_Writes.a (o.f_Txn_Writes.xs).length o.f_Txn_Writes.c, .slice o.f_Txn_Ops.a (o.f_Txn_Ops.xs).length o.f_Txn_Ops.c, .int .i64 o.f_Txn_To, .slice o.f_Marks.a (o.f_Marks.xs).length o.f_Marks.c], .int .i64 g] W (F) (fun r L' => r = .int .i64 (chkO o g) ∧ F = L') := by
 refine f_door (l0 := [(0, .agg #[.int .i64 o.f_Tag_Id_Node, .int .u64 o.f_Tag_Id_Epoch, .int .u64 o.f_Tag_Id_Seq, .int .i64 o.f_Tag_Try, .int .i64 o.f_Txn_Kind, .slice o.f_Txn_Reads.a (o.f_Txn_Reads.xs).length o.f_Txn_Reads.c, .slice o.f_Txn_Writes.a (o.f_Txn_Writes.xs).length o.f_Txn_Writes.c, .slice o.f_Txn_Ops.a (o.f_Txn_Ops.xs).length o.f_Txn_Ops.c, .int .i64 o.f_Txn_To, .slice o.f_Marks.a (o.f_Marks.xs).length o.f_Marks.c]), (1, .int .i64 g)]) Tryz.func22 Tryz.ntmps22 rfl rfl rfl ?_
 refine c_seq ?_
 refine c_region ?_
 refine o_box rfl rfl fun b2 => ?_
 refine o_assign rfl rfl ?_
 refine l_nil ?_
 refine q_then ?_
 refine c_seq ?_
 refine c_mid (α := Nat × (Option Addr) × Nat) (fun z => [(0, .agg #[.int .i64 o.f_Tag_Id_Node, .int .u64 o.f_Tag_Id_Epoch, .int .u64 o.f_Tag_Id_Seq, .int .i64 o.f_Tag_Try, .int .i64 o.f_Txn_Kind, .slice o.f_Txn_Reads.a (o.f_Txn_Reads.xs).length o.f_Txn_Reads.c, .slice o.f_Txn_Writes.a (o.f_Txn_Writes.xs).length o.f_Txn_Writes.c, .slice o.f_Txn_Ops.a (o.f_Txn_Ops.xs).length o.f_Txn_Ops.c, .int .i64 o.f_Txn_To, .slice o.f_Marks.a (o.f_Marks.xs).length o.f_Marks.c]), (1, .int .i64 g), (2, .pointer (some ⟨b2, 0, none⟩)), (4, .int .i64 0), (5, .pointer (some ⟨z.1, 0, none⟩)), (6, .slice z.2.1 (keysT o.txn).length z.2.2), (10, .pointer (some ⟨b2, 0, none⟩)), (11, .pointer (some ⟨b2, 0, none⟩)), (12, .agg #[.int .i64 o.f_Tag_Id_Node, .int .u64 o.f_Tag_Id_Epoch, .int .u64 o.f_Tag_Id_Seq]), (13, .pointer (some ⟨b2, 4, none⟩)), (14, .agg #[.int .i64 o.f_Txn_Kind, .slice o.f_Txn_Reads.a (o.f_Txn_Reads.xs).length o.f_Txn_Reads.c, .slice o.f_Txn_Writes.a (o.f_Txn_Writes.xs).length o.f_Txn_Writes.c, .slice o.f_Txn_Ops.a (o.f_Txn_Ops.xs).length o.f_Txn_Ops.c, .int .i64 o.f_Txn_To]), (15, .slice z.2.1 (keysT o.txn).length z.2.2)]) (fun z => blk z.1 (.cells #[.int .i64 o.f_Tag_Id_Node, .int .u64 o.f_Tag_Id_Epoch, .int .u64 o.f_Tag_Id_Seq] 24 (0, 0)) :: row e_S.T e_S.sz z.2.1 (keysT o.txn).length z.2.2 (flat e_S (keysT o.txn)) :: blk b2 (.cells #[.int .i64 o.f_Tag_Id_Node, .int .u64 o.f_Tag_Id_Epoch, .int .u64 o.f_Tag_Id_Seq, .int .i64 o.f_Tag_Try, .int .i64 o.f_Txn_Kind, .slice o.f_Txn_Reads.a (o.f_Txn_Reads.xs).length o.f_Txn_Reads.c, .slice o.f_Txn_Writes.a (o.f_Txn_Writes.xs).length o.f_Txn_Writes.c, .slice o.f_Txn_Ops.a (o.f_Txn_Ops.xs).length o.f_Txn_Ops.c, .int .i64 o.f_Txn_To, .slice o.f_Marks.a (o.f_Marks.xs).length o.f_Marks.c] 33 (0, 0)) :: F) (fun z => True) ?_ ?_
 · -- cut
  refine c_heldF [] (blk b2 (.cells #[.int .i64 o.f_Tag_Id_Node, .int .u64 o.f_Tag_Id_Epoch, .int .u64 o.f_Tag_Id_Seq, .int .i64 o.f_Tag_Try, .int .i64 o.f_Txn_Kind, .slice o.f_Txn_Reads.a (o.f_Txn_Reads.xs).length o.f_Txn_Reads.c, .slice o.f_Txn_Writes.a (o.f_Txn_Writes.xs).length o.f_Txn_Writes.c, .slice o.f_Txn_Ops.a (o.f_Txn_Ops.xs).length o.f_Txn_Ops.c, .int .i64 o.f_Txn_To, .slice o.f_Marks.a (o.f_Marks.xs).length o.f_Marks.c] 33 (0, 0)) :: F) (by kernel_rfl) ?_
  refine h_take 0 rfl rfl (by kernel_rfl) (by kernel_rfl) (by kernel_rfl) (fun L0 => v_fieldAddr (q := ⟨b2, 0, none⟩) rfl rfl Tryz.underlying33 rfl ti26 rfl) ?_
  refine h_take 1 rfl rfl (by kernel_rfl) (by kernel_rfl) (by kernel_rfl) (fun L0 => v_fieldAddr (q := ⟨b2, 0, none⟩) rfl rfl Tryz.underlying26 rfl ti24 rfl) ?_
  refine h_take 2 rfl rfl (by kernel_rfl) (by kernel_rfl) (by kernel_rfl) (fun L0 => v_loadn (vs := [_, _, _]) rfl rfl Tryz.underlying24 rfl ti24 (rdn_lit 0 rfl rfl)) ?_
  refine h_take 3 rfl rfl (by kernel_rfl) (by kernel_rfl) (by kernel_rfl) (fun L0 => v_fieldAddr (q := ⟨b2, 4, none⟩) rfl rfl Tryz.underlying33 rfl ti30 rfl) ?_
  refine h_take 4 rfl rfl (by kernel_rfl) (by kernel_rfl) (by kernel_rfl) (fun L0 => v_loadn (vs := [_, _, _, _, _]) rfl rfl Tryz.underlying30 rfl ti30 (rdn_lit 0 rfl rfl)) ?_
  refine h_many (is := [5, 6]) (by kernel_rfl) (by decide) (forall_cons ⟨_, rfl, ?_⟩ (forall_cons ⟨_, rfl, ?_⟩ forall_nil))
  · -- 5 comes first
   refine l_conv (L' := blk b2 (.cells #[.int .i64 o.f_Tag_Id_Node, .int .u64 o.f_Tag_Id_Epoch, .int .u64 o.f_Tag_Id_Seq, .int .i64 o.f_Tag_Try, .int .i64 o.f_Txn_Kind, .slice o.f_Txn_Reads.a (o.f_Txn_Reads.xs).length o.f_Txn_Reads.c, .slice o.f_Txn_Writes.a (o.f_Txn_Writes.xs).length o.f_Txn_Writes.c, .slice o.f_Txn_Ops.a (o.f_Txn_Ops.xs).length o.f_Txn_Ops.c, .int .i64 o.f_Txn_To, .slice o.f_Marks.a (o.f_Marks.xs).length o.f_Marks.c] 33 (0, 0)) :: F) (fun w S => S.perm List.perm_append_comm) ?_
   refine o_call rfl cal40 rfl (keys_ (t := o.txn) (OrdR.txn (OrdR.c T_o)) hb) ?_
   rintro _ _ ⟨a15, c15, rfl, rfl⟩
   refine l_nil ?_
   refine q_conv (L' := (blk b2 (.cells #[.int .i64 o.f_Tag_Id_Node, .int .u64 o.f_Tag_Id_Epoch, .int .u64 o.f_Tag_Id_Seq, .int .i64 o.f_Tag_Try, .int .i64 o.f_Txn_Kind, .slice o.f_Txn_Reads.a (o.f_Txn_Reads.xs).length o.f_Txn_Reads.c, .slice o.f_Txn_Writes.a (o.f_Txn_Writes.xs).length o.f_Txn_Writes.c, .slice o.f_Txn_Ops.a (o.f_Txn_Ops.xs).length o.f_Txn_Ops.c, .int .i64 o.f_Txn_To, .slice o.f_Marks.a (o.f_Marks.xs).length o.f_Marks.c] 33 (0, 0)) :: F) ++ [row e_S.T e_S.sz a15 (keysT o.txn).length c15 (flat e_S (keysT o.txn))]) (fun w S => S.perm (List.perm_append_comm (l₁ := [row e_S.T e_S.sz a15 (keysT o.txn).length c15 (flat e_S (keysT o.txn))]) (l₂ := blk b2 (.cells #[.int .i64 o.f_Tag_Id_Node, .int .u64 o.f_Tag_Id_Epoch, .int .u64 o.f_Tag_Id_Seq, .int .i64 o.f_Tag_Try, .int .i64 o.f_Txn_Kind, .slice o.f_Txn_Reads.a (o.f_Txn_Reads.xs).length o.f_Txn_Reads.c, .slice o.f_Txn_Writes.a (o.f_Txn_Writes.xs).length o.f_Txn_Writes.c, .slice o.f_Txn_Ops.a (o.f_Txn_Ops.xs).length o.f_Txn_Ops.c, .int .i64 o.f_Txn_To, .slice o.f_Marks.a (o.f_Marks.xs).length o.f_Marks.c] 33 (0, 0)) :: F))) ?_
   refine h_next ?_
   refine h_one 6 rfl (by kernel_rfl) ?_
   refine l_conv (L' := row e_S.T e_S.sz a15 (keysT o.txn).length c15 (flat e_S (keysT o.txn)) :: blk b2 (.cells #[.int .i64 o.f_Tag_Id_Node, .int .u64 o.f_Tag_Id_Epoch, .int .u64 o.f_Tag_Id_Seq, .int .i64 o.f_Tag_Try, .int .i64 o.f_Txn_Kind, .slice o.f_Txn_Reads.a (o.f_Txn_Reads.xs).length o.f_Txn_Reads.c, .slice o.f_Txn_Writes.a (o.f_Txn_Writes.xs).length o.f_Txn_Writes.c, .slice o.f_Txn_Ops.a (o.f_Txn_Ops.xs).length o.f_Txn_Ops.c, .int .i64 o.f_Txn_To, .slice o.f_Marks.a (o.f_Marks.xs).length o.f_Marks.c] 33 (0, 0)) :: F) (fun w S => S.perm List.perm_append_comm) ?_
   refine o_alloc rfl ti24 fun b5 => ?_
   refine l_nil ?_
   refine q_conv (L' := (blk b2 (.cells #[.int .i64 o.f_Tag_Id_Node, .int .u64 o.f_Tag_Id_Epoch, .int .u64 o.f_Tag_Id_Seq, .int .i64 o.f_Tag_Try, .int .i64 o.f_Txn_Kind, .slice o.f_Txn_Reads.a (o.f_Txn_Reads.xs).length o.f_Txn_Reads.c, .slice o.f_Txn_Writes.a (o.f_Txn_Writes.xs).length o.f_Txn_Writes.c, .slice o.f_Txn_Ops.a (o.f_Txn_Ops.xs).length o.f_Txn_Ops.c, .int .i64 o.f_Txn_To, .slice o.f_Marks.a (o.f_Marks.xs).length o.f_Marks.c] 33 (0, 0)) :: F) ++ [blk b5 (.cells #[.int .i64 0, .int .u64 0, .int .u64 0] 24 (0, 0)), row e_S.T e_S.sz a15 (keysT o.txn).length c15 (flat e_S (keysT o.txn))]) (fun w S => S.perm (List.perm_append_comm (l₁ := [blk b5 (.cells #[.int .i64 0, .int .u64 0, .int .u64 0] 24 (0, 0)), row e_S.T e_S.sz a15 (keysT o.txn).length c15 (flat e_S (keysT o.txn))]) (l₂ := blk b2 (.cells #[.int .i64 o.f_Tag_Id_Node, .int .u64 o.f_Tag_Id_Epoch, .int .u64 o.f_Tag_Id_Seq, .int .i64 o.f_Tag_Try, .int .i64 o.f_Txn_Kind, .slice o.f_Txn_Reads.a (o.f_Txn_Reads.xs).length o.f_Txn_Reads.c, .slice o.f_Txn_Writes.a (o.f_Txn_Writes.xs).length o.f_Txn_Writes.c, .slice o.f_Txn_Ops.a (o.f_Txn_Ops.xs).length o.f_Txn_Ops.c, .int .i64 o.f_Txn_To, .slice o.f_Marks.a (o.f_Marks.xs).length o.f_Marks.c] 33 (0, 0)) :: F))) ?_
   refine h_next ?_
   refine h_one 7 rfl (by kernel_rfl) ?_
   refine l_conv (L' := blk b5 (.cells #[.int .i64 0, .int .u64 0, .int .u64 0] 24 (0, 0)) :: row e_S.T e_S.sz a15 (keysT o.txn).length c15 (flat e_S (keysT o.txn)) :: blk b2 (.cells #[.int .i64 o.f_Tag_Id_Node, .int .u64 o.f_Tag_Id_Epoch, .int .u64 o.f_Tag_Id_Seq, .int .i64 o.f_Tag_Try, .int .i64 o.f_Txn_Kind, .slice o.f_Txn_Reads.a (o.f_Txn_Reads.xs).length o.f_Txn_Reads.c, .slice o.f_Txn_Writes.a (o.f_Txn_Writes.xs).length o.f_Txn_Writes.c, .slice o.f_Txn_Ops.a (o.f_Txn_Ops.xs).length o.f_Txn_Ops.c, .int .i64 o.f_Txn_To, .slice o.f_Marks.a (o.f_Marks.xs).length o.f_Marks.c] 33 (0, 0)) :: F) (fun w S => S.perm List.perm_append_comm) ?_
   refine o_storen rfl rfl ti24 rfl rfl rfl rfl ?_
   refine l_nil ?_
   refine q_conv (L' := (blk b2 (.cells #[.int .i64 o.f_Tag_Id_Node, .int .u64 o.f_Tag_Id_Epoch, .int .u64 o.f_Tag_Id_Seq, .int .i64 o.f_Tag_Try, .int .i64 o.f_Txn_Kind, .slice o.f_Txn_Reads.a (o.f_Txn_Reads.xs).length o.f_Txn_Reads.c, .slice o.f_Txn_Writes.a (o.f_Txn_Writes.xs).length o.f_Txn_Writes.c, .slice o.f_Txn_Ops.a (o.f_Txn_Ops.xs).length o.f_Txn_Ops.c, .int .i64 o.f_Txn_To, .slice o.f_Marks.a (o.f_Marks.xs).length o.f_Marks.c] 33 (0, 0)) :: F) ++ [blk b5 (.cells #[.int .i64 o.f_Tag_Id_Node, .int .u64 o.f_Tag_Id_Epoch, .int .u64 o.f_Tag_Id_Seq] 24 (0, 0)), row e_S.T e_S.sz a15 (keysT o.txn).length c15 (flat e_S (keysT o.txn))]) (fun w S => S.perm (List.perm_append_comm (l₁ := [blk b5 (.cells #[.int .i64 o.f_Tag_Id_Node, .int .u64 o.f_Tag_Id_Epoch, .int .u64 o.f_Tag_Id_Seq] 24 (0, 0)), row e_S.T e_S.sz a15 (keysT o.txn).length c15 (flat e_S (keysT o.txn))]) (l₂ := blk b2 (.cells #[.int .i64 o.f_Tag_Id_Node, .int .u64 o.f_Tag_Id_Epoch, .int .u64 o.f_Tag_Id_Seq, .int .i64 o.f_Tag_Try, .int .i64 o.f_Txn_Kind, .slice o.f_Txn_Reads.a (o.f_Txn_Reads.xs).length o.f_Txn_Reads.c, .slice o.f_Txn_Writes.a (o.f_Txn_Writes.xs).length o.f_Txn_Writes.c, .slice o.f_Txn_Ops.a (o.f_Txn_Ops.xs).length o.f_Txn_Ops.c, .int .i64 o.f_Txn_To, .slice o.f_Marks.a (o.f_Marks.xs).length o.f_Marks.c] 33 (0, 0)) :: F))) ?_
   refine h_next ?_
   refine h_take 8 rfl rfl (by kernel_rfl) (by kernel_rfl) (by kernel_rfl) (fun L0 => v_assign rfl rfl) ?_
   refine h_done (by kernel_rfl) ?_
   refine q_conv (L' := blk b5 (.cells #[.int .i64 o.f_Tag_Id_Node, .int .u64 o.f_Tag_Id_Epoch, .int .u64 o.f_Tag_Id_Seq] 24 (0, 0)) :: row e_S.T e_S.sz a15 (keysT o.txn).length c15 (flat e_S (keysT o.txn)) :: blk b2 (.cells #[.int .i64 o.f_Tag_Id_Node, .int .u64 o.f_Tag_Id_Epoch, .int .u64 o.f_Tag_Id_Seq, .int .i64 o.f_Tag_Try, .int .i64 o.f_Txn_Kind, .slice o.f_Txn_Reads.a (o.f_Txn_Reads.xs).length o.f_Txn_Reads.c, .slice o.f_Txn_Writes.a (o.f_Txn_Writes.xs).length o.f_Txn_Writes.c, .slice o.f_Txn_Ops.a (o.f_Txn_Ops.xs).length o.f_Txn_Ops.c, .int .i64 o.f_Txn_To, .slice o.f_Marks.a (o.f_Marks.xs).length o.f_Marks.c] 33 (0, 0)) :: F) (fun w S => S.perm List.perm_append_comm) ?_
   exact q_mid (b5, a15, c15) (by trivial) ⟨(by first | rfl | exact vint (by omega)), (by first | rfl | exact vint (by omega)), (by first | rfl | exact vint (by omega)), (by first | rfl | exact vint (by omega)), (by first | rfl | exact vint (by omega)), (by first | rfl | exact vint (by omega)), (by first | rfl | exact vint (by omega)), (by first | rfl | exact vint (by omega)), (by first | rfl | exact vint (by omega)), (by first | rfl | exact vint (by omega)), (by first | rfl | exact vint (by omega)), (by first | rfl | exact vint (by omega)), trivial⟩ (fun w S => S)
  · -- 6 comes first
   refine l_conv (L' := blk b2 (.cells #[.int .i64 o.f_Tag_Id_Node, .int .u64 o.f_Tag_Id_Epoch, .int .u64 o.f_Tag_Id_Seq, .int .i64 o.f_Tag_Try, .int .i64 o.f_Txn_Kind, .slice o.f_Txn_Reads.a (o.f_Txn_Reads.xs).length o.f_Txn_Reads.c, .slice o.f_Txn_Writes.a (o.f_Txn_Writes.xs).length o.f_Txn_Writes.c, .slice o.f_Txn_Ops.a (o.f_Txn_Ops.xs).length o.f_Txn_Ops.c, .int .i64 o.f_Txn_To, .slice o.f_Marks.a (o.f_Marks.xs).length o.f_Marks.c] 33 (0, 0)) :: F) (fun w S => S.perm List.perm_append_comm) ?_
   refine o_alloc rfl ti24 fun b5 => ?_
   refine l_nil ?_
   refine q_conv (L' := (blk b2 (.cells #[.int .i64 o.f_Tag_Id_Node, .int .u64 o.f_Tag_Id_Epoch, .int .u64 o.f_Tag_Id_Seq, .int .i64 o.f_Tag_Try, .int .i64 o.f_Txn_Kind, .slice o.f_Txn_Reads.a (o.f_Txn_Reads.xs).length o.f_Txn_Reads.c, .slice o.f_Txn_Writes.a (o.f_Txn_Writes.xs).length o.f_Txn_Writes.c, .slice o.f_Txn_Ops.a (o.f_Txn_Ops.xs).length o.f_Txn_Ops.c, .int .i64 o.f_Txn_To, .slice o.f_Marks.a (o.f_Marks.xs).length o.f_Marks.c] 33 (0, 0)) :: F) ++ [blk b5 (.cells #[.int .i64 0, .int .u64 0, .int .u64 0] 24 (0, 0))]) (fun w S => S.perm (List.perm_append_comm (l₁ := [blk b5 (.cells #[.int .i64 0, .int .u64 0, .int .u64 0] 24 (0, 0))]) (l₂ := blk b2 (.cells #[.int .i64 o.f_Tag_Id_Node, .int .u64 o.f_Tag_Id_Epoch, .int .u64 o.f_Tag_Id_Seq, .int .i64 o.f_Tag_Try, .int .i64 o.f_Txn_Kind, .slice o.f_Txn_Reads.a (o.f_Txn_Reads.xs).length o.f_Txn_Reads.c, .slice o.f_Txn_Writes.a (o.f_Txn_Writes.xs).length o.f_Txn_Writes.c, .slice o.f_Txn_Ops.a (o.f_Txn_Ops.xs).length o.f_Txn_Ops.c, .int .i64 o.f_Txn_To, .slice o.f_Marks.a (o.f_Marks.xs).length o.f_Marks.c] 33 (0, 0)) :: F))) ?_
   refine h_next ?_
   refine h_one 5 rfl (by kernel_rfl) ?_
   refine l_conv (L' := blk b5 (.cells #[.int .i64 0, .int .u64 0, .int .u64 0] 24 (0, 0)) :: blk b2 (.cells #[.int .i64 o.f_Tag_Id_Node, .int .u64 o.f_Tag_Id_Epoch, .int .u64 o.f_Tag_Id_Seq, .int .i64 o.f_Tag_Try, .int .i64 o.f_Txn_Kind, .slice o.f_Txn_Reads.a (o.f_Txn_Reads.xs).length o.f_Txn_Reads.c, .slice o.f_Txn_Writes.a (o.f_Txn_Writes.xs).length o.f_Txn_Writes.c, .slice o.f_Txn_Ops.a (o.f_Txn_Ops.xs).length o.f_Txn_Ops.c, .int .i64 o.f_Txn_To, .slice o.f_Marks.a (o.f_Marks.xs).length o.f_Marks.c] 33 (0, 0)) :: F) (fun w S => S.perm List.perm_append_comm) ?_
   refine o_call rfl cal40 rfl (keys_ (t := o.txn) (OrdR.txn (OrdR.c (OrdR.c T_o))) hb) ?_
   rintro _ _ ⟨a15, c15, rfl, rfl⟩
   refine l_nil ?_
   refine q_conv (L' := (blk b2 (.cells #[.int .i64 o.f_Tag_Id_Node, .int .u64 o.f_Tag_Id_Epoch, .int .u64 o.f_Tag_Id_Seq, .int .i64 o.f_Tag_Try, .int .i64 o.f_Txn_Kind, .slice o.f_Txn_Reads.a (o.f_Txn_Reads.xs).length o.f_Txn_Reads.c, .slice o.f_Txn_Writes.a (o.f_Txn_Writes.xs).length o.f_Txn_Writes.c, .slice o.f_Txn_Ops.a (o.f_Txn_Ops.xs).length o.f_Txn_Ops.c, .int .i64 o.f_Txn_To, .slice o.f_Marks.a (o.f_Marks.xs).length o.f_Marks.c] 33 (0, 0)) :: F) ++ [row e_S.T e_S.sz a15 (keysT o.txn).length c15 (flat e_S (keysT o.txn)), blk b5 (.cells #[.int .i64 0, .int .u64 0, .int .u64 0] 24 (0, 0))]) (fun w S => S.perm (List.perm_append_comm (l₁ := [row e_S.T e_S.sz a15 (keysT o.txn).length c15 (flat e_S (keysT o.txn)), blk b5 (.cells #[.int .i64 0, .int .u64 0, .int .u64 0] 24 (0, 0))]) (l₂ := blk b2 (.cells #[.int .i64 o.f_Tag_Id_Node, .int .u64 o.f_Tag_Id_Epoch, .int .u64 o.f_Tag_Id_Seq, .int .i64 o.f_Tag_Try, .int .i64 o.f_Txn_Kind, .slice o.f_Txn_Reads.a (o.f_Txn_Reads.xs).length o.f_Txn_Reads.c, .slice o.f_Txn_Writes.a (o.f_Txn_Writes.xs).length o.f_Txn_Writes.c, .slice o.f_Txn_Ops.a (o.f_Txn_Ops.xs).length o.f_Txn_Ops.c, .int .i64 o.f_Txn_To, .slice o.f_Marks.a (o.f_Marks.xs).length o.f_Marks.c] 33 (0, 0)) :: F))) ?_
   refine h_next ?_
   refine h_one 7 rfl (by kernel_rfl) ?_
   refine l_conv (L' := row e_S.T e_S.sz a15 (keysT o.txn).length c15 (flat e_S (keysT o.txn)) :: blk b5 (.cells #[.int .i64 0, .int .u64 0, .int .u64 0] 24 (0, 0)) :: blk b2 (.cells #[.int .i64 o.f_Tag_Id_Node, .int .u64 o.f_Tag_Id_Epoch, .int .u64 o.f_Tag_Id_Seq, .int .i64 o.f_Tag_Try, .int .i64 o.f_Txn_Kind, .slice o.f_Txn_Reads.a (o.f_Txn_Reads.xs).length o.f_Txn_Reads.c, .slice o.f_Txn_Writes.a (o.f_Txn_Writes.xs).length o.f_Txn_Writes.c, .slice o.f_Txn_Ops.a (o.f_Txn_Ops.xs).length o.f_Txn_Ops.c, .int .i64 o.f_Txn_To, .slice o.f_Marks.a (o.f_Marks.xs).length o.f_Marks.c] 33 (0, 0)) :: F) (fun w S => S.perm List.perm_append_comm) ?_
   refine l_f1 ?_
   refine o_storen rfl rfl ti24 rfl rfl rfl rfl ?_
   refine l_nil ?_
   refine q_conv (L' := (blk b2 (.cells #[.int .i64 o.f_Tag_Id_Node, .int .u64 o.f_Tag_Id_Epoch, .int .u64 o.f_Tag_Id_Seq, .int .i64 o.f_Tag_Try, .int .i64 o.f_Txn_Kind, .slice o.f_Txn_Reads.a (o.f_Txn_Reads.xs).length o.f_Txn_Reads.c, .slice o.f_Txn_Writes.a (o.f_Txn_Writes.xs).length o.f_Txn_Writes.c, .slice o.f_Txn_Ops.a (o.f_Txn_Ops.xs).length o.f_Txn_Ops.c, .int .i64 o.f_Txn_To, .slice o.f_Marks.a (o.f_Marks.xs).length o.f_Marks.c] 33 (0, 0)) :: F) ++ [blk b5 (.cells #[.int .i64 o.f_Tag_Id_Node, .int .u64 o.f_Tag_Id_Epoch, .int .u64 o.f_Tag_Id_Seq] 24 (0, 0)), row e_S.T e_S.sz a15 (keysT o.txn).length c15 (flat e_S (keysT o.txn))]) (fun w S => S.perm (List.perm_append_comm (l₁ := [blk b5 (.cells #[.int .i64 o.f_Tag_Id_Node, .int .u64 o.f_Tag_Id_Epoch, .int .u64 o.f_Tag_Id_Seq] 24 (0, 0)), row e_S.T e_S.sz a15 (keysT o.txn).length c15 (flat e_S (keysT o.txn))]) (l₂ := blk b2 (.cells #[.int .i64 o.f_Tag_Id_Node, .int .u64 o.f_Tag_Id_Epoch, .int .u64 o.f_Tag_Id_Seq, .int .i64 o.f_Tag_Try, .int .i64 o.f_Txn_Kind, .slice o.f_Txn_Reads.a (o.f_Txn_Reads.xs).length o.f_Txn_Reads.c, .slice o.f_Txn_Writes.a (o.f_Txn_Writes.xs).length o.f_Txn_Writes.c, .slice o.f_Txn_Ops.a (o.f_Txn_Ops.xs).length o.f_Txn_Ops.c, .int .i64 o.f_Txn_To, .slice o.f_Marks.a (o.f_Marks.xs).length o.f_Marks.c] 33 (0, 0)) :: F))) ?_
   refine h_next ?_
   refine h_take 8 rfl rfl (by kernel_rfl) (by kernel_rfl) (by kernel_rfl) (fun L0 => v_assign rfl rfl) ?_
   refine h_done (by kernel_rfl) ?_
   refine q_conv (L' := blk b5 (.cells #[.int .i64 o.f_Tag_Id_Node, .int .u64 o.f_Tag_Id_Epoch, .int .u64 o.f_Tag_Id_Seq] 24 (0, 0)) :: row e_S.T e_S.sz a15 (keysT o.txn).length c15 (flat e_S (keysT o.txn)) :: blk b2 (.cells #[.int .i64 o.f_Tag_Id_Node, .int .u64 o.f_Tag_Id_Epoch, .int .u64 o.f_Tag_Id_Seq, .int .i64 o.f_Tag_Try, .int .i64 o.f_Txn_Kind, .slice o.f_Txn_Reads.a (o.f_Txn_Reads.xs).length o.f_Txn_Reads.c, .slice o.f_Txn_Writes.a (o.f_Txn_Writes.xs).length o.f_Txn_Writes.c, .slice o.f_Txn_Ops.a (o.f_Txn_Ops.xs).length o.f_Txn_Ops.c, .int .i64 o.f_Txn_To, .slice o.f_Marks.a (o.f_Marks.xs).length o.f_Marks.c] 33 (0, 0)) :: F) (fun w S => S.perm List.perm_append_comm) ?_
   exact q_mid (b5, a15, c15) (by trivial) ⟨(by first | rfl | exact vint (by omega)), (by first | rfl | exact vint (by omega)), (by first | rfl | exact vint (by omega)), (by first | rfl | exact vint (by omega)), (by first | rfl | exact vint (by omega)), (by first | rfl | exact vint (by omega)), (by first | rfl | exact vint (by omega)), (by first | rfl | exact vint (by omega)), (by first | rfl | exact vint (by omega)), (by first | rfl | exact vint (by omega)), (by first | rfl | exact vint (by omega)), (by first | rfl | exact vint (by omega)), trivial⟩ (fun w S => S)
 · -- behind the cut
  rintro ⟨b5, a15, c15⟩ _hp
  try dsimp only at *
  refine c_seq ?_
  have hkl := chk_len o
  refine c_region ?_
  refine o_fieldAddr (q := ⟨b2, 4, none⟩) rfl rfl Tryz.underlying33 rfl ti30 rfl ?_
  refine o_loadn (vs := [_, _, _, _, _]) rfl rfl Tryz.underlying30 rfl ti30 (rdn_lit 2 rfl rfl) ?_
  refine o_move rfl rfl ?_
  refine o_call rfl cal41 rfl (check_ (t := o.txn) (g := g) (OrdR.txn (OrdR.c (OrdR.c (OrdR.c T_o))))) ?_
  rintro _ _ ⟨rfl, rfl⟩
  refine o_bin rfl rfl rfl b_eql ?_
  refine o_move rfl rfl ?_
  refine l_split (t := 21) rfl (fun h1 => ?_) (fun h1 => ?_)
  · -- h1T
   have h1b := h1
   try simp only [decide_eq_true_eq] at h1
   refine o_yes rfl rfl rfl ?_
   refine o_fieldAddr (q := ⟨b5, 0, none⟩) rfl rfl Tryz.underlying24 rfl ti3 rfl ?_
   refine o_yes rfl rfl rfl ?_
   refine o_load1 rfl rfl Tryz.underlying3 rfl (rd_mem 0 rfl rfl) ?_
   refine o_yes rfl rfl rfl ?_
   refine o_bin rfl rfl rfl b_geq ?_
   refine o_pick_true rfl rfl rfl ?_
   refine o_move rfl rfl ?_
   refine l_split (t := 26) rfl (fun h2 => ?_) (fun h2 => ?_)
   · -- h2T
    have h2b := h2
    try simp only [decide_eq_true_eq] at h2
    refine o_yes rfl rfl rfl ?_
    refine o_fieldAddr (q := ⟨b5, 0, none⟩) rfl rfl Tryz.underlying24 rfl ti3 rfl ?_
    refine o_yes rfl rfl rfl ?_
    refine o_load1 rfl rfl Tryz.underlying3 rfl (rd_mem 0 rfl rfl) ?_
    refine o_yes rfl rfl rfl ?_
    refine o_bin rfl rfl rfl b_lss ?_
    refine o_pick_true rfl rfl rfl ?_
    refine o_move rfl rfl ?_
    refine l_split (t := 31) rfl (fun h3 => ?_) (fun h3 => ?_)
    · -- h3T
     have h3b := h3
     try simp only [decide_eq_true_eq] at h3
     refine o_yes rfl rfl rfl ?_
     refine o_fieldAddr (q := ⟨b5, 1, none⟩) rfl rfl Tryz.underlying24 rfl ti22 rfl ?_
     refine o_yes rfl rfl rfl ?_
     refine o_load1 rfl rfl Tryz.underlying22 rfl (rd_mem 0 rfl rfl) ?_
     refine o_yes rfl rfl rfl ?_
     refine o_bin rfl rfl rfl b_gtr ?_
     refine o_pick_true rfl rfl rfl ?_
     refine o_move rfl rfl ?_
     refine l_split (t := 36) rfl (fun h4 => ?_) (fun h4 => ?_)
     · -- h4T
      have h4b := h4
      try simp only [decide_eq_true_eq] at h4
      refine o_yes rfl rfl rfl ?_
      refine o_fieldAddr (q := ⟨b5, 2, none⟩) rfl rfl Tryz.underlying24 rfl ti22 rfl ?_
      refine o_yes rfl rfl rfl ?_
      refine o_load1 rfl rfl Tryz.underlying22 rfl (rd_mem 0 rfl rfl) ?_
      refine o_yes rfl rfl rfl ?_
      refine o_bin rfl rfl rfl b_gtr ?_
      refine o_pick_true rfl rfl rfl ?_
      refine o_move rfl rfl ?_
      refine l_split (t := 41) rfl (fun h5 => ?_) (fun h5 => ?_)
      · -- h5T
       have h5b := h5
       try simp only [decide_eq_true_eq] at h5
       refine o_yes rfl rfl rfl ?_
       refine o_fieldAddr (q := ⟨b2, 0, none⟩) rfl rfl Tryz.underlying33 rfl ti26 rfl ?_
       refine o_yes rfl rfl rfl ?_
       refine o_fieldAddr (q := ⟨b2, 3, none⟩) rfl rfl Tryz.underlying26 rfl ti3 rfl ?_
       refine o_yes rfl rfl rfl ?_
       refine o_load1 rfl rfl Tryz.underlying3 rfl (rd_mem 2 rfl rfl) ?_
       refine o_yes rfl rfl rfl ?_
       refine o_bin rfl rfl rfl b_geq ?_
       refine o_pick_true rfl rfl rfl ?_
       refine o_move rfl rfl ?_
       refine l_split (t := 47) rfl (fun h6 => ?_) (fun h6 => ?_)
       · -- h6T
        have h6b := h6
        try simp only [decide_eq_true_eq] at h6
        refine o_yes rfl rfl rfl ?_
        refine o_fieldAddr (q := ⟨b2, 0, none⟩) rfl rfl Tryz.underlying33 rfl ti26 rfl ?_
        refine o_yes rfl rfl rfl ?_
        refine o_fieldAddr (q := ⟨b2, 3, none⟩) rfl rfl Tryz.underlying26 rfl ti3 rfl ?_
        refine o_yes rfl rfl rfl ?_
        refine o_load1 rfl rfl Tryz.underlying3 rfl (rd_mem 2 rfl rfl) ?_
        refine o_yes rfl rfl rfl ?_
        refine o_bin rfl rfl rfl b_lss ?_
        refine o_pick_true rfl rfl rfl ?_
        refine o_assign rfl rfl ?_
        refine l_nil ?_
        refine q_then ?_
        refine c_seq ?_
        refine c_seq ?_
        refine c_region ?_
        refine o_move rfl rfl ?_
        refine o_not rfl rfl ?_
        refine o_move rfl rfl ?_
        refine l_split (t := 55) rfl (fun h7 => ?_) (fun h7 => ?_)
        · -- h7T
         have h7b := h7
         try simp only [Bool.not_eq_true', decide_eq_false_iff_not, Int.not_lt, Int.not_le] at h7
         refine o_no rfl rfl rfl rfl ?_
         refine o_no rfl rfl rfl rfl ?_
         refine o_no rfl rfl rfl rfl ?_
         refine o_no rfl rfl rfl rfl ?_
         refine o_no rfl rfl rfl rfl ?_
         refine o_no rfl rfl rfl rfl ?_
         refine o_pick_true rfl rfl rfl ?_
         refine l_nil ?_
         refine q_then ?_
         refine c_true rfl ?_
         refine c_seq ?_
         refine c_region ?_
         refine o_assign rfl rfl ?_
         refine l_nil ?_
         refine q_then ?_
         refine c_ret ?_
         refine q_pass_ret ?_
         refine q_conv (fun w S => S.tail) ?_
         refine q_conv (fun w S => S.tail) ?_
         refine q_conv (fun w S => S.tail) ?_
         exact f_ret (r_one rfl rfl) (⟨by first | exact vchk0 ⟨chkN_0.1 (by assumption), ⟨by omega, by omega, by omega, by omega, by omega, by omega⟩, by omega, by rw [show o.f_Marks.xs.length = i by omega]; exact hmk⟩ | exact vchk1 (ord_no hx69 hx75 (by unfold MkOk; grind)) | exact vchk1 (fun h9 => by obtain ⟨q1, ⟨q2, q3, q4, q5, q6, q7⟩, q8, q9⟩ := h9; first | omega | exact absurd (chkN_0.2 q1) (by assumption)), rfl⟩) (fun w S => S)
        · -- h7F
         have h7b := h7
         try simp only [Bool.not_eq_false', decide_eq_true_eq] at h7
         refine o_yes rfl rfl rfl ?_
         refine o_fieldAddr (q := ⟨b2, 9, none⟩) rfl rfl Tryz.underlying33 rfl ti31 rfl ?_
         refine o_yes rfl rfl rfl ?_
         refine o_load1 rfl rfl Tryz.underlying31 rfl (rd_mem 2 rfl rfl) ?_
         refine o_yes rfl rfl rfl ?_
         refine o_len rfl rfl Tryz.underlying31 ?_
         refine o_yes rfl rfl rfl ?_
         refine o_move rfl rfl ?_
         refine o_yes rfl rfl rfl ?_
         refine o_len rfl rfl Tryz.underlying27 ?_
         refine o_yes rfl rfl rfl ?_
         refine o_bin rfl rfl rfl b_neq ?_
         refine o_pick_false rfl rfl rfl ?_
         refine l_nil ?_
         refine q_then ?_
         refine c_cond rfl (fun h8 => ?_) (fun h8 => ?_)
         · -- h8T
          have h8b := h8
          try simp only [Bool.not_eq_true', decide_eq_false_iff_not, Int.not_lt, Int.not_le] at h8
          refine c_seq ?_
          refine c_region ?_
          refine o_assign rfl rfl ?_
          refine l_nil ?_
          refine q_then ?_
          refine c_ret ?_
          refine q_pass_ret ?_
          refine q_conv (fun w S => S.tail) ?_
          refine q_conv (fun w S => S.tail) ?_
          refine q_conv (fun w S => S.tail) ?_
          exact f_ret (r_one rfl rfl) (⟨by first | exact vchk0 ⟨chkN_0.1 (by assumption), ⟨by omega, by omega, by omega, by omega, by omega, by omega⟩, by omega, by rw [show o.f_Marks.xs.length = i by omega]; exact hmk⟩ | exact vchk1 (ord_no hx69 hx75 (by unfold MkOk; grind)) | exact vchk1 (fun h9 => by obtain ⟨q1, ⟨q2, q3, q4, q5, q6, q7⟩, q8, q9⟩ := h9; first | omega | exact absurd (chkN_0.2 q1) (by assumption)), rfl⟩) (fun w S => S)
         · -- h8F
          have h8b := h8
          try simp only [Bool.not_eq_false', decide_eq_true_eq] at h8
          refine c_skip ?_
          refine q_then ?_
          refine c_seq ?_
          refine c_seq ?_
          refine c_region ?_
          refine o_fieldAddr (q := ⟨b2, 9, none⟩) rfl rfl Tryz.underlying33 rfl ti31 rfl ?_
          refine o_load1 rfl rfl Tryz.underlying31 rfl (rd_mem 2 rfl rfl) ?_
          refine o_len rfl rfl Tryz.underlying31 ?_
          refine o_move rfl rfl ?_
          refine l_nil ?_
          refine q_then ?_
          refine c_block ?_
          refine c_loop (α := Nat) (fun z => [(1, .int .i64 g), (6, .slice a15 (keysT o.txn).length c15), (64, .slice o.f_Marks.a (o.f_Marks.xs).length o.f_Marks.c), (65, .int .i64 ((o.f_Marks.xs).length : Int)), (66, .int .i64 (z : Int))]) (fun z => blk b5 (.cells #[.int .i64 o.f_Tag_Id_Node, .int .u64 o.f_Tag_Id_Epoch, .int .u64 o.f_Tag_Id_Seq] 24 (0, 0)) :: row e_S.T e_S.sz a15 (keysT o.txn).length c15 (flat e_S (keysT o.txn)) :: blk b2 (.cells #[.int .i64 o.f_Tag_Id_Node, .int .u64 o.f_Tag_Id_Epoch, .int .u64 o.f_Tag_Id_Seq, .int .i64 o.f_Tag_Try, .int .i64 o.f_Txn_Kind, .slice o.f_Txn_Reads.a (o.f_Txn_Reads.xs).length o.f_Txn_Reads.c, .slice o.f_Txn_Writes.a (o.f_Txn_Writes.xs).length o.f_Txn_Writes.c, .slice o.f_Txn_Ops.a (o.f_Txn_Ops.xs).length o.f_Txn_Ops.c, .int .i64 o.f_Txn_To, .slice o.f_Marks.a (o.f_Marks.xs).length o.f_Marks.c] 33 (0, 0)) :: F) (fun z => z ≤ o.f_Marks.xs.length ∧ MksTo g o.f_Marks.xs (keysT o.txn) z) (fun z => o.f_Marks.xs.length - z) (0) (by exact ⟨Nat.zero_le _, mks_0⟩) ⟨(by first | rfl | exact vint (by omega)), (by first | rfl | exact vint (by omega)), (by first | rfl | exact vint (by omega)), (by first | rfl | exact vint (by omega)), (by first | rfl | exact vint (by omega)), trivial⟩ (fun w S => S) ?_
          rintro i ⟨hi, hmk⟩
          try dsimp only at *
          refine c_seq ?_
          refine c_region ?_
          refine o_bin rfl rfl rfl b_lss ?_
          refine l_nil ?_
          refine q_then ?_
          refine c_seq ?_
          refine c_cond rfl (fun h9 => ?_) (fun h9 => ?_)
          · -- h9T
           have h9b := h9
           try simp only [decide_eq_true_eq] at h9
           refine c_skip ?_
           refine q_then ?_
           refine c_seq ?_
           refine c_block ?_
           refine c_seq ?_
           refine c_region ?_
           refine o_move rfl rfl ?_
           refine o_index e_Mark_ok rfl rfl rfl Tryz.underlying31 (by omega) (by omega) (OrdR.c (OrdR.c (OrdR.c T_o))).rm fun ad69 ead69 => ?_
           obtain ⟨x69, hx69⟩ : ∃ x, (o.f_Marks.xs)[((i : Int)).toNat]? = some x := ⟨_, List.getElem?_eq_getElem (by omega)⟩
           refine o_loadn (vs := e_Mark.cells x69) rfl rfl Tryz.underlying60 rfl ti60 (rdn_sl e_Mark_ok ead69 (OrdR.c (OrdR.c (OrdR.c T_o))).rm hx69) ?_
           refine o_alloc rfl ti60 fun b9 => ?_
           refine o_assign rfl rfl ?_
           refine o_storen rfl rfl ti60 rfl rfl rfl rfl ?_
           refine l_nil ?_
           refine q_then ?_
           refine c_seq ?_
           refine c_fact (p := ∃ ad, a15 = some ad) (rds_some (e := e_S) (xs := keysT o.txn) (rds_own e_S_ok 2 rfl) (by intro h0; have h00 := congrArg List.length h0; simp only [List.length_nil] at h00; omega)) ?_
           rintro ⟨adk, eadk⟩
           refine c_quiet (by kernel_rfl) (by kernel_rfl) ?_
           refine Qt.o_val rfl (v_fieldAddr (q := ⟨b9, 0, none⟩) rfl rfl Tryz.underlying60 rfl ti9 rfl) ?_
           refine Qt.o_val rfl (v_load1 rfl rfl Tryz.underlying9 rfl (rd_mem 0 rfl rfl)) ?_
           refine Qt.o_val rfl (v_move rfl rfl) ?_
           refine Qt.o_val rfl (v_move rfl rfl) ?_
           refine Qt.o_val rfl (v_indexK e_S_ok eadk rfl rfl rfl Tryz.underlying27 (by omega) (by omega)) ?_
           obtain ⟨x75, hx75⟩ : ∃ x, (keysT o.txn)[((i : Int)).toNat]? = some x := ⟨_, List.getElem?_eq_getElem (by omega)⟩
           refine Qt.o_val rfl (v_load1 rfl rfl Tryz.underlying9 rfl (rd_sl0 e_S_ok eadk (rds_own e_S_ok 2 rfl) hx75 rfl)) ?_
           refine Qt.o_val rfl (v_bin rfl rfl rfl b_sneq) ?_
           refine Qt.o_val rfl (v_move rfl rfl) ?_
           refine Qt.l_split (t := 78) rfl (fun h10 => ?_) (fun h10 => ?_)
           · -- h10T
            have h10b := h10
            try simp only [Bool.not_eq_true', decide_eq_false_iff_not, Int.not_lt, Int.not_le] at h10
            refine Qt.o_no rfl rfl rfl rfl ?_
            refine Qt.o_no rfl rfl rfl rfl ?_
            refine Qt.o_no rfl rfl rfl rfl ?_
            refine Qt.o_val rfl (v_pick_true rfl rfl rfl) ?_
            refine Qt.o_val rfl (v_move rfl rfl) ?_
            refine Qt.o_no rfl rfl rfl rfl ?_
            refine Qt.o_no rfl rfl rfl rfl ?_
            refine Qt.o_no rfl rfl rfl rfl ?_
            refine Qt.o_no rfl rfl rfl rfl ?_
            refine Qt.o_val rfl (v_pick_true rfl rfl rfl) ?_
            refine Qt.l_nil ?_
            refine q_then ?_
            refine c_true rfl ?_
            refine c_seq ?_
            refine c_region ?_
            refine o_assign rfl rfl ?_
            refine l_nil ?_
            refine q_then ?_
            refine c_ret ?_
            refine q_block_ret ?_
            refine q_pass_ret ?_
            refine q_pass_ret ?_
            refine q_block_ret ?_
            refine q_pass_ret ?_
            refine q_conv (fun w S => S.tail) ?_
            refine q_conv (fun w S => S.tail) ?_
            refine q_conv (fun w S => S.tail) ?_
            refine q_conv (fun w S => S.tail) ?_
            exact f_ret (r_one rfl rfl) (⟨by first | exact vchk0 ⟨chkN_0.1 (by assumption), ⟨by omega, by omega, by omega, by omega, by omega, by omega⟩, by omega, by rw [show o.f_Marks.xs.length = i by omega]; exact hmk⟩ | exact vchk1 (ord_no hx69 hx75 (by unfold MkOk; grind)) | exact vchk1 (fun h9 => by obtain ⟨q1, ⟨q2, q3, q4, q5, q6, q7⟩, q8, q9⟩ := h9; first | omega | exact absurd (chkN_0.2 q1) (by assumption)), rfl⟩) (fun w S => S)
           · -- h10F
            have h10b := h10
            try simp only [Bool.not_eq_false', decide_eq_true_eq] at h10
            refine Qt.o_yes rfl rfl rfl ?_
            refine Qt.o_val rfl (v_fieldAddr (q := ⟨b9, 1, none⟩) rfl rfl Tryz.underlying60 rfl ti3 rfl) ?_
            refine Qt.o_yes rfl rfl rfl ?_
            refine Qt.o_val rfl (v_load1 rfl rfl Tryz.underlying3 rfl (rd_mem 0 rfl rfl)) ?_
            refine Qt.o_yes rfl rfl rfl ?_
            refine Qt.o_val rfl (v_bin rfl rfl rfl b_lss) ?_
            refine Qt.o_val rfl (v_pick_false rfl rfl rfl) ?_
            refine Qt.o_val rfl (v_move rfl rfl) ?_
            refine Qt.l_split (t := 83) rfl (fun h11 => ?_) (fun h11 => ?_)
            · -- h11T
             have h11b := h11
             try simp only [decide_eq_true_eq] at h11
             refine Qt.o_no rfl rfl rfl rfl ?_
             refine Qt.o_no rfl rfl rfl rfl ?_
             refine Qt.o_no rfl rfl rfl rfl ?_
             refine Qt.o_no rfl rfl rfl rfl ?_
             refine Qt.o_val rfl (v_pick_true rfl rfl rfl) ?_
             refine Qt.l_nil ?_
             refine q_then ?_
             refine c_true rfl ?_
             refine c_seq ?_
             refine c_region ?_
             refine o_assign rfl rfl ?_
             refine l_nil ?_
             refine q_then ?_
             refine c_ret ?_
             refine q_block_ret ?_
             refine q_pass_ret ?_
             refine q_pass_ret ?_
             refine q_block_ret ?_
             refine q_pass_ret ?_
             refine q_conv (fun w S => S.tail) ?_
             refine q_conv (fun w S => S.tail) ?_
             refine q_conv (fun w S => S.tail) ?_
             refine q_conv (fun w S => S.tail) ?_
             exact f_ret (r_one rfl rfl) (⟨by first | exact vchk0 ⟨chkN_0.1 (by assumption), ⟨by omega, by omega, by omega, by omega, by omega, by omega⟩, by omega, by rw [show o.f_Marks.xs.length = i by omega]; exact hmk⟩ | exact vchk1 (ord_no hx69 hx75 (by unfold MkOk; grind)) | exact vchk1 (fun h9 => by obtain ⟨q1, ⟨q2, q3, q4, q5, q6, q7⟩, q8, q9⟩ := h9; first | omega | exact absurd (chkN_0.2 q1) (by assumption)), rfl⟩) (fun w S => S)
            · -- h11F
             have h11b := h11
             try simp only [decide_eq_false_iff_not, Int.not_lt, Int.not_le] at h11
             refine Qt.o_yes rfl rfl rfl ?_
             refine Qt.o_val rfl (v_fieldAddr (q := ⟨b9, 1, none⟩) rfl rfl Tryz.underlying60 rfl ti3 rfl) ?_
             refine Qt.o_yes rfl rfl rfl ?_
             refine Qt.o_val rfl (v_load1 rfl rfl Tryz.underlying3 rfl (rd_mem 0 rfl rfl)) ?_
             refine Qt.o_yes rfl rfl rfl ?_
             refine Qt.o_val rfl (v_move rfl rfl) ?_
             refine Qt.o_yes rfl rfl rfl ?_
             refine Qt.o_val rfl (v_bin rfl rfl rfl b_geq) ?_
             refine Qt.o_val rfl (v_pick_false rfl rfl rfl) ?_
             refine Qt.l_nil ?_
             refine q_then ?_
             refine c_cond rfl (fun h12 => ?_) (fun h12 => ?_)
             · -- h12T
              have h12b := h12
              try simp only [decide_eq_true_eq] at h12
              refine c_seq ?_
              refine c_region ?_
              refine o_assign rfl rfl ?_
              refine l_nil ?_
              refine q_then ?_
              refine c_ret ?_
              refine q_block_ret ?_
              refine q_pass_ret ?_
              refine q_pass_ret ?_
              refine q_block_ret ?_
              refine q_pass_ret ?_
              refine q_conv (fun w S => S.tail) ?_
              refine q_conv (fun w S => S.tail) ?_
              refine q_conv (fun w S => S.tail) ?_
              refine q_conv (fun w S => S.tail) ?_
              exact f_ret (r_one rfl rfl) (⟨by first | exact vchk0 ⟨chkN_0.1 (by assumption), ⟨by omega, by omega, by omega, by omega, by omega, by omega⟩, by omega, by rw [show o.f_Marks.xs.length = i by omega]; exact hmk⟩ | exact vchk1 (ord_no hx69 hx75 (by unfold MkOk; grind)) | exact vchk1 (fun h9 => by obtain ⟨q1, ⟨q2, q3, q4, q5, q6, q7⟩, q8, q9⟩ := h9; first | omega | exact absurd (chkN_0.2 q1) (by assumption)), rfl⟩) (fun w S => S)
             · -- h12F
              have h12b := h12
              try simp only [decide_eq_false_iff_not, Int.not_lt, Int.not_le] at h12
              refine c_skip ?_
              refine q_block ?_
              refine q_then ?_
              refine c_region ?_
              refine o_bin rfl rfl rfl (b_add (wrap_i64 (by omega) (by omega))) ?_
              refine o_move rfl rfl ?_
              refine l_nil ?_
              refine q_conv (fun w S => S.tail) ?_
              exact q_round (i + 1) (by exact ⟨by omega, mks_on hmk hx69 hx75 (by unfold MkOk; grind)⟩) (by (try dsimp only); omega) ⟨(by first | rfl | exact vint (by omega)), (by first | rfl | exact vint (by omega)), (by first | rfl | exact vint (by omega)), (by first | rfl | exact vint (by omega)), (by first | rfl | exact vint (by omega)), trivial⟩ (fun w S => S)
          · -- h9F
           have h9b := h9
           try simp only [decide_eq_false_iff_not, Int.not_lt, Int.not_le] at h9
           refine c_exit ?_
           refine q_pass_exit ?_
           refine q_pass_exit ?_
           refine q_hit ?_
           refine q_then ?_
           refine c_seq ?_
           refine c_region ?_
           refine o_assign rfl rfl ?_
           refine l_nil ?_
           refine q_then ?_
           refine c_ret ?_
           refine q_conv (fun w S => S.tail) ?_
           refine q_conv (fun w S => S.tail) ?_
           refine q_conv (fun w S => S.tail) ?_
           exact f_ret (r_one rfl rfl) (⟨by first | exact vchk0 ⟨chkN_0.1 (by assumption), ⟨by omega, by omega, by omega, by omega, by omega, by omega⟩, by omega, by rw [show o.f_Marks.xs.length = i by omega]; exact hmk⟩ | exact vchk1 (ord_no hx69 hx75 (by unfold MkOk; grind)) | exact vchk1 (fun h9 => by obtain ⟨q1, ⟨q2, q3, q4, q5, q6, q7⟩, q8, q9⟩ := h9; first | omega | exact absurd (chkN_0.2 q1) (by assumption)), rfl⟩) (fun w S => S)
       · -- h6F
        have h6b := h6
        try simp only [decide_eq_false_iff_not, Int.not_lt, Int.not_le] at h6
        refine o_no rfl rfl rfl rfl ?_
        refine o_no rfl rfl rfl rfl ?_
        refine o_no rfl rfl rfl rfl ?_
        refine o_no rfl rfl rfl rfl ?_
        refine o_pick_false rfl rfl rfl ?_
        refine o_assign rfl rfl ?_
        refine l_nil ?_
        refine q_then ?_
        refine c_seq ?_
        refine c_seq ?_
        refine c_region ?_
        refine o_move rfl rfl ?_
        refine o_not rfl rfl ?_
        refine o_move rfl rfl ?_
        refine o_no rfl rfl rfl rfl ?_
        refine o_no rfl rfl rfl rfl ?_
        refine o_no rfl rfl rfl rfl ?_
        refine o_no rfl rfl rfl rfl ?_
        refine o_no rfl rfl rfl rfl ?_
        refine o_no rfl rfl rfl rfl ?_
        refine o_pick_true rfl rfl rfl ?_
        refine l_nil ?_
        refine q_then ?_
        refine c_true rfl ?_
        refine c_seq ?_
        refine c_region ?_
        refine o_assign rfl rfl ?_
        refine l_nil ?_
        refine q_then ?_
        refine c_ret ?_
        refine q_pass_ret ?_
        refine q_conv (fun w S => S.tail) ?_
        refine q_conv (fun w S => S.tail) ?_
        refine q_conv (fun w S => S.tail) ?_
        exact f_ret (r_one rfl rfl) (⟨by first | exact vchk0 ⟨chkN_0.1 (by assumption), ⟨by omega, by omega, by omega, by omega, by omega, by omega⟩, by omega, by rw [show o.f_Marks.xs.length = i by omega]; exact hmk⟩ | exact vchk1 (ord_no hx69 hx75 (by unfold MkOk; grind)) | exact vchk1 (fun h9 => by obtain ⟨q1, ⟨q2, q3, q4, q5, q6, q7⟩, q8, q9⟩ := h9; first | omega | exact absurd (chkN_0.2 q1) (by assumption)), rfl⟩) (fun w S => S)
      · -- h5F
       have h5b := h5
       try simp only [decide_eq_false_iff_not, Int.not_lt, Int.not_le] at h5
       refine o_no rfl rfl rfl rfl ?_
       refine o_no rfl rfl rfl rfl ?_
       refine o_no rfl rfl rfl rfl ?_
       refine o_no rfl rfl rfl rfl ?_
       refine o_pick_false rfl rfl rfl ?_
       refine o_move rfl rfl ?_
       refine o_no rfl rfl rfl rfl ?_
       refine o_no rfl rfl rfl rfl ?_
       refine o_no rfl rfl rfl rfl ?_
       refine o_no rfl rfl rfl rfl ?_
       refine o_pick_false rfl rfl rfl ?_
       refine o_assign rfl rfl ?_
       refine l_nil ?_
       refine q_then ?_
       refine c_seq ?_
       refine c_seq ?_
       refine c_region ?_
       refine o_move rfl rfl ?_
       refine o_not rfl rfl ?_
       refine o_move rfl rfl ?_
       refine o_no rfl rfl rfl rfl ?_
       refine o_no rfl rfl rfl rfl ?_
       refine o_no rfl rfl rfl rfl ?_
       refine o_no rfl rfl rfl rfl ?_
       refine o_no rfl rfl rfl rfl ?_
       refine o_no rfl rfl rfl rfl ?_
       refine o_pick_true rfl rfl rfl ?_
       refine l_nil ?_
       refine q_then ?_
       refine c_true rfl ?_
       refine c_seq ?_
       refine c_region ?_
       refine o_assign rfl rfl ?_
       refine l_nil ?_
       refine q_then ?_
       refine c_ret ?_
       refine q_pass_ret ?_
       refine q_conv (fun w S => S.tail) ?_
       refine q_conv (fun w S => S.tail) ?_
       refine q_conv (fun w S => S.tail) ?_
       exact f_ret (r_one rfl rfl) (⟨by first | exact vchk0 ⟨chkN_0.1 (by assumption), ⟨by omega, by omega, by omega, by omega, by omega, by omega⟩, by omega, by rw [show o.f_Marks.xs.length = i by omega]; exact hmk⟩ | exact vchk1 (ord_no hx69 hx75 (by unfold MkOk; grind)) | exact vchk1 (fun h9 => by obtain ⟨q1, ⟨q2, q3, q4, q5, q6, q7⟩, q8, q9⟩ := h9; first | omega | exact absurd (chkN_0.2 q1) (by assumption)), rfl⟩) (fun w S => S)
     · -- h4F
      have h4b := h4
      try simp only [decide_eq_false_iff_not, Int.not_lt, Int.not_le] at h4
      refine o_no rfl rfl rfl rfl ?_
      refine o_no rfl rfl rfl rfl ?_
      refine o_no rfl rfl rfl rfl ?_
      refine o_pick_false rfl rfl rfl ?_
      refine o_move rfl rfl ?_
      refine o_no rfl rfl rfl rfl ?_
      refine o_no rfl rfl rfl rfl ?_
      refine o_no rfl rfl rfl rfl ?_
      refine o_no rfl rfl rfl rfl ?_
      refine o_pick_false rfl rfl rfl ?_
      refine o_move rfl rfl ?_
      refine o_no rfl rfl rfl rfl ?_
      refine o_no rfl rfl rfl rfl ?_
      refine o_no rfl rfl rfl rfl ?_
      refine o_no rfl rfl rfl rfl ?_
      refine o_pick_false rfl rfl rfl ?_
      refine o_assign rfl rfl ?_
      refine l_nil ?_
      refine q_then ?_
      refine c_seq ?_
      refine c_seq ?_
      refine c_region ?_
      refine o_move rfl rfl ?_
      refine o_not rfl rfl ?_
      refine o_move rfl rfl ?_
      refine o_no rfl rfl rfl rfl ?_
      refine o_no rfl rfl rfl rfl ?_
      refine o_no rfl rfl rfl rfl ?_
      refine o_no rfl rfl rfl rfl ?_
      refine o_no rfl rfl rfl rfl ?_
      refine o_no rfl rfl rfl rfl ?_
      refine o_pick_true rfl rfl rfl ?_
      refine l_nil ?_
      refine q_then ?_
      refine c_true rfl ?_
      refine c_seq ?_
      refine c_region ?_
      refine o_assign rfl rfl ?_
      refine l_nil ?_
      refine q_then ?_
      refine c_ret ?_
      refine q_pass_ret ?_
      refine q_conv (fun w S => S.tail) ?_
      refine q_conv (fun w S => S.tail) ?_
      refine q_conv (fun w S => S.tail) ?_
      exact f_ret (r_one rfl rfl) (⟨by first | exact vchk0 ⟨chkN_0.1 (by assumption), ⟨by omega, by omega, by omega, by omega, by omega, by omega⟩, by omega, by rw [show o.f_Marks.xs.length = i by omega]; exact hmk⟩ | exact vchk1 (ord_no hx69 hx75 (by unfold MkOk; grind)) | exact vchk1 (fun h9 => by obtain ⟨q1, ⟨q2, q3, q4, q5, q6, q7⟩, q8, q9⟩ := h9; first | omega | exact absurd (chkN_0.2 q1) (by assumption)), rfl⟩) (fun w S => S)
    · -- h3F
     have h3b := h3
     try simp only [decide_eq_false_iff_not, Int.not_lt, Int.not_le] at h3
     refine o_no rfl rfl rfl rfl ?_
     refine o_no rfl rfl rfl rfl ?_
     refine o_no rfl rfl rfl rfl ?_
     refine o_pick_false rfl rfl rfl ?_
     refine o_move rfl rfl ?_
     refine o_no rfl rfl rfl rfl ?_
     refine o_no rfl rfl rfl rfl ?_
     refine o_no rfl rfl rfl rfl ?_
     refine o_pick_false rfl rfl rfl ?_
     refine o_move rfl rfl ?_
     refine o_no rfl rfl rfl rfl ?_
     refine o_no rfl rfl rfl rfl ?_
     refine o_no rfl rfl rfl rfl ?_
     refine o_no rfl rfl rfl rfl ?_
     refine o_pick_false rfl rfl rfl ?_
     refine o_move rfl rfl ?_
     refine o_no rfl rfl rfl rfl ?_
     refine o_no rfl rfl rfl rfl ?_
     refine o_no rfl rfl rfl rfl ?_
     refine o_no rfl rfl rfl rfl ?_
     refine o_pick_false rfl rfl rfl ?_
     refine o_assign rfl rfl ?_
     refine l_nil ?_
     refine q_then ?_
     refine c_seq ?_
     refine c_seq ?_
     refine c_region ?_
     refine o_move rfl rfl ?_
     refine o_not rfl rfl ?_
     refine o_move rfl rfl ?_
     refine o_no rfl rfl rfl rfl ?_
     refine o_no rfl rfl rfl rfl ?_
     refine o_no rfl rfl rfl rfl ?_
     refine o_no rfl rfl rfl rfl ?_
     refine o_no rfl rfl rfl rfl ?_
     refine o_no rfl rfl rfl rfl ?_
     refine o_pick_true rfl rfl rfl ?_
     refine l_nil ?_
     refine q_then ?_
     refine c_true rfl ?_
     refine c_seq ?_
     refine c_region ?_
     refine o_assign rfl rfl ?_
     refine l_nil ?_
     refine q_then ?_
     refine c_ret ?_
     refine q_pass_ret ?_
     refine q_conv (fun w S => S.tail) ?_
     refine q_conv (fun w S => S.tail) ?_
     refine q_conv (fun w S => S.tail) ?_
     exact f_ret (r_one rfl rfl) (⟨by first | exact vchk0 ⟨chkN_0.1 (by assumption), ⟨by omega, by omega, by omega, by omega, by omega, by omega⟩, by omega, by rw [show o.f_Marks.xs.length = i by omega]; exact hmk⟩ | exact vchk1 (ord_no hx69 hx75 (by unfold MkOk; grind)) | exact vchk1 (fun h9 => by obtain ⟨q1, ⟨q2, q3, q4, q5, q6, q7⟩, q8, q9⟩ := h9; first | omega | exact absurd (chkN_0.2 q1) (by assumption)), rfl⟩) (fun w S => S)
   · -- h2F
    have h2b := h2
    try simp only [decide_eq_false_iff_not, Int.not_lt, Int.not_le] at h2
    refine o_no rfl rfl rfl rfl ?_
    refine o_no rfl rfl rfl rfl ?_
    refine o_no rfl rfl rfl rfl ?_
    refine o_pick_false rfl rfl rfl ?_
    refine o_move rfl rfl ?_
    refine o_no rfl rfl rfl rfl ?_
    refine o_no rfl rfl rfl rfl ?_
    refine o_no rfl rfl rfl rfl ?_
    refine o_pick_false rfl rfl rfl ?_
    refine o_move rfl rfl ?_
    refine o_no rfl rfl rfl rfl ?_
    refine o_no rfl rfl rfl rfl ?_
    refine o_no rfl rfl rfl rfl ?_
    refine o_pick_false rfl rfl rfl ?_
    refine o_move rfl rfl ?_
    refine o_no rfl rfl rfl rfl ?_
    refine o_no rfl rfl rfl rfl ?_
    refine o_no rfl rfl rfl rfl ?_
    refine o_no rfl rfl rfl rfl ?_
    refine o_pick_false rfl rfl rfl ?_
    refine o_move rfl rfl ?_
    refine o_no rfl rfl rfl rfl ?_
    refine o_no rfl rfl rfl rfl ?_
    refine o_no rfl rfl rfl rfl ?_
    refine o_no rfl rfl rfl rfl ?_
    refine o_pick_false rfl rfl rfl ?_
    refine o_assign rfl rfl ?_
    refine l_nil ?_
    refine q_then ?_
    refine c_seq ?_
    refine c_seq ?_
    refine c_region ?_
    refine o_move rfl rfl ?_
    refine o_not rfl rfl ?_
    refine o_move rfl rfl ?_
    refine o_no rfl rfl rfl rfl ?_
    refine o_no rfl rfl rfl rfl ?_
    refine o_no rfl rfl rfl rfl ?_
    refine o_no rfl rfl rfl rfl ?_
    refine o_no rfl rfl rfl rfl ?_
    refine o_no rfl rfl rfl rfl ?_
    refine o_pick_true rfl rfl rfl ?_
    refine l_nil ?_
    refine q_then ?_
    refine c_true rfl ?_
    refine c_seq ?_
    refine c_region ?_
    refine o_assign rfl rfl ?_
    refine l_nil ?_
    refine q_then ?_
    refine c_ret ?_
    refine q_pass_ret ?_
    refine q_conv (fun w S => S.tail) ?_
    refine q_conv (fun w S => S.tail) ?_
    refine q_conv (fun w S => S.tail) ?_
    exact f_ret (r_one rfl rfl) (⟨by first | exact vchk0 ⟨chkN_0.1 (by assumption), ⟨by omega, by omega, by omega, by omega, by omega, by omega⟩, by omega, by rw [show o.f_Marks.xs.length = i by omega]; exact hmk⟩ | exact vchk1 (ord_no hx69 hx75 (by unfold MkOk; grind)) | exact vchk1 (fun h9 => by obtain ⟨q1, ⟨q2, q3, q4, q5, q6, q7⟩, q8, q9⟩ := h9; first | omega | exact absurd (chkN_0.2 q1) (by assumption)), rfl⟩) (fun w S => S)
  · -- h1F
   have h1b := h1
   try simp only [decide_eq_false_iff_not, Int.not_lt, Int.not_le] at h1
   refine o_no rfl rfl rfl rfl ?_
   refine o_no rfl rfl rfl rfl ?_
   refine o_no rfl rfl rfl rfl ?_
   refine o_pick_false rfl rfl rfl ?_
   refine o_move rfl rfl ?_
   refine o_no rfl rfl rfl rfl ?_
   refine o_no rfl rfl rfl rfl ?_
   refine o_no rfl rfl rfl rfl ?_
   refine o_pick_false rfl rfl rfl ?_
   refine o_move rfl rfl ?_
   refine o_no rfl rfl rfl rfl ?_
   refine o_no rfl rfl rfl rfl ?_
   refine o_no rfl rfl rfl rfl ?_
   refine o_pick_false rfl rfl rfl ?_
   refine o_move rfl rfl ?_
   refine o_no rfl rfl rfl rfl ?_
   refine o_no rfl rfl rfl rfl ?_
   refine o_no rfl rfl rfl rfl ?_
   refine o_pick_false rfl rfl rfl ?_
   refine o_move rfl rfl ?_
   refine o_no rfl rfl rfl rfl ?_
   refine o_no rfl rfl rfl rfl ?_
   refine o_no rfl rfl rfl rfl ?_
   refine o_no rfl rfl rfl rfl ?_
   refine o_pick_false rfl rfl rfl ?_
   refine o_move rfl rfl ?_
   refine o_no rfl rfl rfl rfl ?_
   refine o_no rfl rfl rfl rfl ?_
   refine o_no rfl rfl rfl rfl ?_
   refine o_no rfl rfl rfl rfl ?_
   refine o_pick_false rfl rfl rfl ?_
   refine o_assign rfl rfl ?_
   refine l_nil ?_
   refine q_then ?_
   refine c_seq ?_
   refine c_seq ?_
   refine c_region ?_
   refine o_move rfl rfl ?_
   refine o_not rfl rfl ?_
   refine o_move rfl rfl ?_
   refine o_no rfl rfl rfl rfl ?_
   refine o_no rfl rfl rfl rfl ?_
   refine o_no rfl rfl rfl rfl ?_
   refine o_no rfl rfl rfl rfl ?_
   refine o_no rfl rfl rfl rfl ?_
   refine o_no rfl rfl rfl rfl ?_
   refine o_pick_true rfl rfl rfl ?_
   refine l_nil ?_
   refine q_then ?_
   refine c_true rfl ?_
   refine c_seq ?_
   refine c_region ?_
   refine o_assign rfl rfl ?_
   refine l_nil ?_
   refine q_then ?_
   refine c_ret ?_
   refine q_pass_ret ?_
   refine q_conv (fun w S => S.tail) ?_
   refine q_conv (fun w S => S.tail) ?_
   refine q_conv (fun w S => S.tail) ?_
   exact f_ret (r_one rfl rfl) (⟨by first | exact vchk0 ⟨chkN_0.1 (by assumption), ⟨by omega, by omega, by omega, by omega, by omega, by omega⟩, by omega, by rw [show o.f_Marks.xs.length = i by omega]; exact hmk⟩ | exact vchk1 (ord_no hx69 hx75 (by unfold MkOk; grind)) | exact vchk1 (fun h9 => by obtain ⟨q1, ⟨q2, q3, q4, q5, q6, q7⟩, q8, q9⟩ := h9; first | omega | exact absurd (chkN_0.2 q1) (by assumption)), rfl⟩) (fun w S => S)
end
section
set_option linter.unusedVariables false
set_option linter.unusedSimpArgs false
set_option maxRecDepth 10000
section
open Go.RowKit Classical
def nB (x : Int) : List UInt8 := numB x.toNat
def numsB (ns : List Int) : List UInt8 := ns.flatMap nB
def strB (s : ByteArray) : List UInt8 := numB s.data.toList.length ++ s.data.toList
def textsB (ss : List ByteArray) : List UInt8 := ss.flatMap strB
def zig (n : Int) : Int := if 0 ≤ n then 2 * n else -2 * n - 1
def opB (x : Op) : List UInt8 := nB x.f_Kind ++ strB x.f_Key ++ (numB x.f_Value.xs.length ++ x.f_Value.xs) ++ nB (zig x.f_N)
def opsB (xs : List Op) : List UInt8 := xs.flatMap opB
def mkB (m : Mark) : List UInt8 := nB m.f_Home ++ nB m.f_Count
def mksB (ms : List Mark) : List UInt8 := ms.flatMap mkB
def headN (o : Order) : List Int := [o.f_Tag_Id_Node, o.f_Tag_Id_Epoch, o.f_Tag_Id_Seq, o.f_Tag_Try, o.f_Txn_Kind, o.f_Txn_To]
def ordB1 (o : Order) : List UInt8 := numsB (headN o) ++ (numB o.f_Txn_Reads.xs.length ++ textsB o.f_Txn_Reads.xs) ++ (numB o.f_Txn_Writes.xs.length ++ textsB o.f_Txn_Writes.xs) ++ numB o.f_Txn_Ops.xs.length
def ordB (o : Order) : List UInt8 := ordB1 o ++ opsB o.f_Txn_Ops.xs ++ mksB o.f_Marks.xs
structure OWf (o : Order) : Prop where
  ep : 0 ≤ o.f_Tag_Id_Epoch ∧ o.f_Tag_Id_Epoch < 18446744073709551616
  sq : 0 ≤ o.f_Tag_Id_Seq ∧ o.f_Tag_Id_Seq < 18446744073709551616
  mc : ∀ m ∈ o.f_Marks.xs, 0 ≤ m.f_Count ∧ m.f_Count < 18446744073709551616
  op : ∀ x ∈ o.f_Txn_Ops.xs, -9223372036854775808 ≤ x.f_N ∧ x.f_N ≤ 9223372036854775807
theorem zig_0 {n : Int} (h : -9223372036854775808 ≤ n ∧ n ≤ 9223372036854775807) : 0 ≤ zig n ∧ zig n < 18446744073709551616 := by unfold zig; split <;> omega
theorem zig_inj {m n : Int} (h : zig m = zig n) : m = n := by unfold zig at h; split at h <;> split at h <;> omega
theorem bv_nat (a : Int) (h0 : 0 ≤ a) (h1 : a < 18446744073709551616) : ((BitVec.ofInt 64 a).toNat : Int) = a := by
  rw [BitVec.toNat_ofInt]
  omega
theorem turn_zig {n : Int} (h : -9223372036854775808 ≤ n ∧ n ≤ 9223372036854775807) : ibits .xor .u64 (IntKind.u64.wrap (IntKind.u64.wrap n * 2 ^ (min (1 : Int).toNat IntKind.u64.bits))) (IntKind.u64.wrap (n.fdiv (2 ^ (min (63 : Int).toNat IntKind.i64.bits)))) = zig n := by
  have e1 : (2 : Int) ^ (min (1 : Int).toNat IntKind.u64.bits) = 2 := by decide
  have e2 : (2 : Int) ^ (min (63 : Int).toNat IntKind.i64.bits) = 9223372036854775808 := by decide
  rw [e1, e2]
  show IntKind.u64.wrap ((BitVec.ofInt 64 _ ^^^ BitVec.ofInt 64 _).toNat : Int) = _
  by_cases hn : 0 ≤ n
  · have e3 : n.fdiv 9223372036854775808 = 0 := by rw [Int.fdiv_eq_ediv_of_nonneg _ (by omega)]; omega
    rw [e3, wrap_u64 hn (by omega), wrap_u64 (x := n * 2) (by omega) (by omega), wrap_u64 (x := 0) (by omega) (by omega)]
    rw [show BitVec.ofInt 64 0 = 0#64 from rfl, BitVec.xor_zero, bv_nat _ (by omega) (by omega), wrap_u64 (by omega) (by omega)]
    unfold zig; rw [if_pos hn]; omega
  · have e3 : n.fdiv 9223372036854775808 = -1 := by rw [Int.fdiv_eq_ediv_of_nonneg _ (by omega)]; omega
    have e4 : IntKind.u64.wrap n = n + 18446744073709551616 := by simp [IntKind.wrap, IntKind.signed, IntKind.bits]; omega
    have e5 : IntKind.u64.wrap ((n + 18446744073709551616) * 2) = 2 * n + 18446744073709551616 := by simp [IntKind.wrap, IntKind.signed, IntKind.bits]; omega
    have e6 : IntKind.u64.wrap (-1) = 18446744073709551615 := by decide
    rw [e3, e4, e5, e6]
    rw [show BitVec.ofInt 64 18446744073709551615 = BitVec.allOnes 64 from by decide, BitVec.xor_allOnes, BitVec.toNat_not]
    have e7 := bv_nat (2 * n + 18446744073709551616) (by omega) (by omega)
    rw [wrap_u64 (by omega) (by omega)]
    unfold zig; rw [if_neg hn]; omega
theorem fm_len {α : Type} {f : α → List UInt8} {k : Nat} : ∀ {xs : List α}, (∀ x ∈ xs, (f x).length ≤ k) → (xs.flatMap f).length ≤ k * xs.length
  | [], _ => by simp
  | x :: xs, h => by
    have h1 := h x (by simp)
    have h2 := fm_len (xs := xs) fun y hy => h y (by simp [hy])
    rw [List.flatMap_cons, List.length_append, List.length_cons, Nat.mul_succ]; omega
theorem fm_on {α : Type} {f : α → List UInt8} {xs : List α} {i : Nat} {x : α} (hx : xs[((i : Int)).toNat]? = some x) : (xs.take (i + 1)).flatMap f = (xs.take i).flatMap f ++ f x := by
  have hx' : xs[i]? = some x := hx
  rw [List.take_add_one, hx', List.flatMap_append]; simp
theorem nB_len {x : Int} (h : x < 18446744073709551616) : (nB x).length ≤ 10 := numB_len_le 10 _ (by omega) (by omega)
theorem nl_len {n : Nat} (h : n ≤ 1000000) : (numB n).length ≤ 10 := numB_len_le 10 _ (by omega) (by omega)
theorem strB_len {s : ByteArray} (h : s.size ≤ 200) : (strB s).length ≤ 210 := by
  have h9 : s.data.toList.length = s.size := by simp
  unfold strB
  have := nl_len (n := s.data.toList.length) (by omega)
  rw [List.length_append]; omega
theorem numsB_len {ns : List Int} (h : ∀ x ∈ ns, x < 18446744073709551616) : (numsB ns).length ≤ 10 * ns.length := fm_len fun x hx => nB_len (h x hx)
theorem textsB_len {ss : List ByteArray} (h : ∀ x ∈ ss, x.size ≤ 200) : (textsB ss).length ≤ 210 * ss.length := fm_len fun x hx => strB_len (h x hx)
theorem opB_len {x : Op} (h : x.f_Key.size ≤ 200 ∧ x.f_Value.xs.length ≤ 200) (k : x.f_Kind ≤ 7) (w : -9223372036854775808 ≤ x.f_N ∧ x.f_N ≤ 9223372036854775807) : (opB x).length ≤ 440 := by
  have h1 := nB_len (x := x.f_Kind) (by omega)
  have h2 := strB_len h.1
  have h3 := nl_len (n := x.f_Value.xs.length) (by omega)
  have h4 := nB_len (zig_0 w).2
  unfold opB
  simp only [List.length_append]; omega
theorem mkB_len {m : Mark} (h : m.f_Home < 3) (w : m.f_Count < 18446744073709551616) : (mkB m).length ≤ 20 := by
  have h1 := nB_len (x := m.f_Home) (by omega)
  have h2 := nB_len w
  unfold mkB
  rw [List.length_append]; omega
section
variable {o : Order}
theorem ok_hd (h : OrdOk o 3) (w : OWf o) : ∀ x ∈ headN o, 0 ≤ x ∧ x < 18446744073709551616 := fun x hx => by
  obtain ⟨⟨_, _, _, h1⟩, ⟨i1, i2, i3, i4, i5, i6⟩, _, _⟩ := h
  have hk : 0 ≤ o.f_Txn_Kind ∧ o.f_Txn_Kind ≤ 2 ∧ 0 ≤ o.f_Txn_To ∧ o.f_Txn_To ≤ 3 := by
    rcases h1 with ⟨q1, q2, _⟩ | ⟨q1, _, _, _, q2, q3⟩
    · exact ⟨by show (0 : Int) ≤ o.txn.f_Kind; omega, by show o.txn.f_Kind ≤ 2; omega, by show (0 : Int) ≤ o.txn.f_To; omega, by show o.txn.f_To ≤ 3; omega⟩
    · exact ⟨by show (0 : Int) ≤ o.txn.f_Kind; omega, by show o.txn.f_Kind ≤ 2; omega, by show (0 : Int) ≤ o.txn.f_To; omega, by show o.txn.f_To ≤ 3; omega⟩
  have e := w.ep; have s := w.sq
  simp only [headN, List.mem_cons, List.not_mem_nil, or_false] at hx
  rcases hx with rfl | rfl | rfl | rfl | rfl | rfl <;> omega
theorem ok_op (h : OrdOk o 3) : ∀ x ∈ o.f_Txn_Ops.xs, 1 ≤ x.f_Kind ∧ x.f_Kind ≤ 7 := fun x hx => by
  obtain ⟨⟨_, _, _, h1⟩, _⟩ := h
  rcases h1 with ⟨_, _, _, h4⟩ | ⟨_, _, h4, _⟩
  · have h5 : StepOk o.txn x := Classical.byContradiction fun h9 => h4 ⟨x, hx, h9⟩
    obtain ⟨_, _, h6⟩ := h5
    rcases h6 with h6 | h6 | h6 | h6 | h6 <;> omega
  · have h5 : o.f_Txn_Ops.xs.length = 0 := h4
    rw [List.eq_nil_of_length_eq_zero h5] at hx; cases hx
theorem ok_mk (h : OrdOk o 3) {j : Nat} {m : Mark} (hm : o.f_Marks.xs[j]? = some m) : ∃ k, (keysT o.txn)[j]? = some k ∧ m.f_Key = k ∧ 0 ≤ m.f_Home ∧ m.f_Home < 3 := by
  have hj := (List.getElem?_eq_some_iff.1 hm).1
  have hk := List.getElem?_eq_getElem (show j < (keysT o.txn).length by have := h.2.2.1; omega)
  exact ⟨_, hk, h.2.2.2 j m _ hj hm hk⟩
theorem ok_mk' (h : OrdOk o 3) : ∀ m ∈ o.f_Marks.xs, 0 ≤ m.f_Home ∧ m.f_Home < 3 := fun m hm => by
  obtain ⟨j, hj, rfl⟩ := List.mem_iff_getElem.1 hm
  obtain ⟨k, _, _, h2⟩ := ok_mk h (List.getElem?_eq_getElem hj)
  exact h2
theorem opsB_len (h : OrdOk o 3) (w : OWf o) (sm : OSmall o) (i : Nat) : (opsB (o.f_Txn_Ops.xs.take i)).length ≤ 26400 := by
  have h1 := fm_len (f := opB) (k := 440) (xs := o.f_Txn_Ops.xs.take i) fun x hx => opB_len (sm.os x (List.mem_of_mem_take hx)) (ok_op h x (List.mem_of_mem_take hx)).2 (w.op x (List.mem_of_mem_take hx))
  have h2 := sm.ol
  rw [List.length_take] at h1
  unfold opsB
  omega
theorem mksB_len (h : OrdOk o 3) (w : OWf o) (sm : OSmall o) (i : Nat) : (mksB (o.f_Marks.xs.take i)).length ≤ 1200 := by
  have h1 := fm_len (f := mkB) (k := 20) (xs := o.f_Marks.xs.take i) fun x hx => mkB_len (ok_mk' h x (List.mem_of_mem_take hx)).2 (w.mc x (List.mem_of_mem_take hx)).2
  have h2 := sm.m
  rw [List.length_take] at h1
  unfold mksB
  omega
theorem ordB1_len (h : OrdOk o 3) (w : OWf o) (sm : OSmall o) : (ordB1 o).length ≤ 20000 := by
  have h1 := numsB_len (ns := headN o) fun x hx => (ok_hd h w x hx).2
  have h2 := textsB_len sm.tr
  have h3 := textsB_len sm.tw
  have r := sm.r; have ww := sm.w; have ol := sm.ol
  have n1 := nl_len (n := o.f_Txn_Reads.xs.length) (by omega)
  have n2 := nl_len (n := o.f_Txn_Writes.xs.length) (by omega)
  have n3 := nl_len (n := o.f_Txn_Ops.xs.length) (by omega)
  have l6 : (headN o).length = 6 := rfl
  unfold ordB1
  simp only [List.length_append]
  omega
theorem ordB_len (h : OrdOk o 3) (w : OWf o) (sm : OSmall o) : (ordB o).length ≤ 50000 := by
  have h1 := ordB1_len h w sm
  have h2 := opsB_len h w sm o.f_Txn_Ops.xs.length
  have h3 := mksB_len h w sm o.f_Marks.xs.length
  rw [List.take_length] at h2 h3
  unfold ordB
  simp only [List.length_append]
  omega
end
theorem nB_app {x y : Int} {s t : List UInt8} (hx : 0 ≤ x) (hy : 0 ≤ y) (h : nB x ++ s = nB y ++ t) : x = y ∧ s = t := by
  obtain ⟨h1, h2⟩ := numB_app h
  exact ⟨by omega, h2⟩
theorem strB_app {x y : ByteArray} {s t : List UInt8} (h : strB x ++ s = strB y ++ t) : x = y ∧ s = t := by
  unfold strB at h
  rw [List.append_assoc, List.append_assoc] at h
  obtain ⟨h1, h2⟩ := numB_app h
  obtain ⟨h3, h4⟩ := List.append_inj h2 h1
  refine ⟨?_, h4⟩
  cases x; cases y
  simp at h3
  rw [h3]
theorem fm_app {α : Type} {f : α → List UInt8} {R : α → α → Prop} {p : α → Prop} (hf : ∀ {x y : α} {s t : List UInt8}, p x → p y → f x ++ s = f y ++ t → R x y ∧ s = t) : ∀ {xs ys : List α} {s t : List UInt8}, xs.length = ys.length → (∀ x ∈ xs, p x) → (∀ y ∈ ys, p y) → xs.flatMap f ++ s = ys.flatMap f ++ t → (∀ (i : Nat) x y, xs[i]? = some x → ys[i]? = some y → R x y) ∧ s = t
  | [], [], s, t, _, _, _, h => ⟨fun i x y hx => (by cases hx), by simpa using h⟩
  | x :: xs, y :: ys, s, t, hl, hx, hy, h => by
    simp only [List.flatMap_cons, List.append_assoc] at h
    obtain ⟨e1, h⟩ := hf (hx x (by simp)) (hy y (by simp)) h
    obtain ⟨e2, h⟩ := fm_app hf (by simpa using hl) (fun z hz => hx z (by simp [hz])) (fun z hz => hy z (by simp [hz])) h
    refine ⟨fun i a b ha hb => ?_, h⟩
    cases i with
    | zero => simp at ha hb; subst ha; subst hb; exact e1
    | succ i => exact e2 i a b (by simpa using ha) (by simpa using hb)
theorem list_eq {α : Type} {xs ys : List α} (hl : xs.length = ys.length) (h : ∀ (i : Nat) x y, xs[i]? = some x → ys[i]? = some y → x = y) : xs = ys :=
  List.ext_getElem hl fun i h1 h2 => h i _ _ (List.getElem?_eq_getElem h1) (List.getElem?_eq_getElem h2)
theorem texts_app {xs ys : List ByteArray} {s t : List UInt8} (h : numB xs.length ++ textsB xs ++ s = numB ys.length ++ textsB ys ++ t) : xs = ys ∧ s = t := by
  rw [List.append_assoc, List.append_assoc] at h
  obtain ⟨h1, h2⟩ := numB_app h
  obtain ⟨h3, h4⟩ := fm_app (f := strB) (R := fun x y => x = y) (p := fun _ => True) (fun _ _ h => strB_app h) h1 (fun _ _ => trivial) (fun _ _ => trivial) h2
  exact ⟨list_eq h1 h3, h4⟩
theorem opB_app {x y : Op} {s t : List UInt8} (hx : 1 ≤ x.f_Kind ∧ x.f_Kind ≤ 7 ∧ 0 ≤ zig x.f_N) (hy : 1 ≤ y.f_Kind ∧ y.f_Kind ≤ 7 ∧ 0 ≤ zig y.f_N) (h : opB x ++ s = opB y ++ t) : SameOp x y ∧ s = t := by
  unfold opB at h
  simp only [List.append_assoc] at h
  obtain ⟨e1, h⟩ := nB_app (by omega) (by omega) h
  obtain ⟨e2, h⟩ := strB_app h
  obtain ⟨e3, h⟩ := numB_app h
  obtain ⟨e4, h⟩ := List.append_inj h e3
  obtain ⟨e5, h⟩ := nB_app hx.2.2 hy.2.2 h
  exact ⟨⟨e1, e2, zig_inj e5, e4⟩, h⟩
theorem mkB_app {x y : Mark} {s t : List UInt8} (hx : 0 ≤ x.f_Home ∧ 0 ≤ x.f_Count) (hy : 0 ≤ y.f_Home ∧ 0 ≤ y.f_Count) (h : mkB x ++ s = mkB y ++ t) : (x.f_Home = y.f_Home ∧ x.f_Count = y.f_Count) ∧ s = t := by
  unfold mkB at h
  simp only [List.append_assoc] at h
  obtain ⟨e1, h⟩ := nB_app hx.1 hy.1 h
  obtain ⟨e2, h⟩ := nB_app hx.2 hy.2 h
  exact ⟨⟨e1, e2⟩, h⟩
theorem ordB_app {a b : Order} {s t : List UInt8} (ha : OrdOk a 3) (hb : OrdOk b 3) (wa : OWf a) (wb : OWf b) (h0 : ordB a ++ s = ordB b ++ t) : SameO a b ∧ s = t := by
  unfold ordB ordB1 at h0
  simp only [List.append_assoc] at h0
  obtain ⟨e1, h0⟩ := fm_app (f := nB) (R := fun x y => x = y) (p := fun x => 0 ≤ x) (fun hx hy h => nB_app hx hy h) (xs := headN a) (ys := headN b) rfl (fun x hx => (ok_hd ha wa x hx).1) (fun x hx => (ok_hd hb wb x hx).1) h0
  have e1' : headN a = headN b := list_eq rfl e1
  rw [← List.append_assoc, ← List.append_assoc (numB b.f_Txn_Reads.xs.length)] at h0
  obtain ⟨e2, h0⟩ := texts_app h0
  rw [← List.append_assoc, ← List.append_assoc (numB b.f_Txn_Writes.xs.length)] at h0
  obtain ⟨e3, h0⟩ := texts_app h0
  obtain ⟨e4, h0⟩ := numB_app h0
  have op0 : ∀ {o : Order}, OrdOk o 3 → OWf o → ∀ x ∈ o.f_Txn_Ops.xs, 1 ≤ x.f_Kind ∧ x.f_Kind ≤ 7 ∧ 0 ≤ zig x.f_N := fun h w x hx => ⟨(ok_op h x hx).1, (ok_op h x hx).2, (zig_0 (w.op x hx)).1⟩
  obtain ⟨e5, h0⟩ := fm_app (f := opB) (R := SameOp) (fun hx hy h => opB_app hx hy h) e4 (op0 ha wa) (op0 hb wb) h0
  simp only [headN, List.cons.injEq, and_true] at e1'
  obtain ⟨t1, t2, t3, t4, t5, t6⟩ := e1'
  have st : SameT a.txn b.txn := ⟨t5, t6, e2, e3, e4, fun j x y _ hx hy => e5 j x y hx hy⟩
  have kk := keysT_same st
  have ml : a.f_Marks.xs.length = b.f_Marks.xs.length := by rw [ha.2.2.1, hb.2.2.1, kk]
  have mk0 : ∀ {o : Order}, OrdOk o 3 → OWf o → ∀ x ∈ o.f_Marks.xs, 0 ≤ x.f_Home ∧ 0 ≤ x.f_Count := fun h w x hx => ⟨(ok_mk' h x hx).1, (w.mc x hx).1⟩
  obtain ⟨e6, hst⟩ := fm_app (f := mkB) (R := fun x y => x.f_Home = y.f_Home ∧ x.f_Count = y.f_Count) (fun hx hy h => mkB_app hx hy h) ml (mk0 ha wa) (mk0 hb wb) h0
  refine ⟨⟨?_, st, list_eq ml fun i x y hx hy => ?_⟩, hst⟩
  · show (⟨_, _, _, _⟩ : Tag) = ⟨_, _, _, _⟩
    rw [t1, t2, t3, t4]
  · obtain ⟨f1, f2⟩ := e6 i x y hx hy
    obtain ⟨k, k1, k2, _⟩ := ok_mk ha hx
    obtain ⟨k', k1', k2', _⟩ := ok_mk hb hy
    rw [kk, k1'] at k1; cases k1
    cases x; cases y
    simp only at f1 f2 k2 k2'
    subst f1 f2 k2 k2'
    rfl
theorem ordB_inj {a b : Order} (ha : OrdOk a 3) (hb : OrdOk b 3) (wa : OWf a) (wb : OWf b) (h : ordB a = ordB b) : SameO a b := (ordB_app (s := []) (t := []) ha hb wa wb (by rw [h])).1
theorem opsB_same : ∀ {xs ys : List Op}, xs.length = ys.length → (∀ (i : Nat) x y, xs[i]? = some x → ys[i]? = some y → SameOp x y) → opsB xs = opsB ys
  | [], [], _, _ => rfl
  | x :: xs, y :: ys, hl, h => by
    have h1 := opsB_same (xs := xs) (ys := ys) (by simpa using hl) fun i a b ha hb => h (i + 1) a b (by simpa using ha) (by simpa using hb)
    obtain ⟨q1, q2, q3, q4⟩ := h 0 x y rfl rfl
    unfold opsB at h1 ⊢
    rw [List.flatMap_cons, List.flatMap_cons, h1]
    unfold opB
    rw [q1, q2, q3, q4]
theorem ordB_same {a b : Order} (h : SameO a b) : ordB a = ordB b := by
  obtain ⟨h1, ⟨t1, t2, t3, t4, t5, t6⟩, h3⟩ := h
  have e1 : headN a = headN b := by
    have g1 : a.f_Tag_Id_Node = b.f_Tag_Id_Node := congrArg Tag.f_Id_Node h1
    have g2 : a.f_Tag_Id_Epoch = b.f_Tag_Id_Epoch := congrArg Tag.f_Id_Epoch h1
    have g3 : a.f_Tag_Id_Seq = b.f_Tag_Id_Seq := congrArg Tag.f_Id_Seq h1
    have g4 : a.f_Tag_Try = b.f_Tag_Try := congrArg Tag.f_Try h1
    have g5 : a.f_Txn_Kind = b.f_Txn_Kind := t1
    have g6 : a.f_Txn_To = b.f_Txn_To := t2
    unfold headN
    rw [g1, g2, g3, g4, g5, g6]
  have e2 : a.f_Txn_Reads.xs = b.f_Txn_Reads.xs := t3
  have e3 : a.f_Txn_Writes.xs = b.f_Txn_Writes.xs := t4
  have e4 : a.f_Txn_Ops.xs.length = b.f_Txn_Ops.xs.length := t5
  have e5 : opsB a.f_Txn_Ops.xs = opsB b.f_Txn_Ops.xs := opsB_same e4 fun i x y hx hy => t6 i x y (List.getElem?_eq_some_iff.1 hx).1 hx hy
  unfold ordB ordB1
  rw [e1, e2, e3, e4, e5, h3]
end
section
open Go.RowKit Classical
theorem nums_ {W : World} {F : List Res} {k : Nat} {xs : List UInt8} {a : Option Addr} {c : Nat} {ns : List Int} {na : Option Addr} {nc : Nat} (hs : RdS W F e_U64 na ns) (h0 : ∀ x ∈ ns, 0 ≤ x ∧ x < 18446744073709551616) (hl : ns.length ≤ 100) (hn : xs.length ≤ 1000000000) : CS Tryz.prog 33 #[.pointer (some ⟨k, 0, none⟩), .slice na ns.length nc] W (blk k (.cells #[.slice a (xs).length c] 68 (0, 0)) :: row e8.T e8.sz a (xs).length c (flat e8 xs) :: F) (fun r L' => ∃ (a' : Option Addr) (c' : Nat), r = .tuple #[] ∧ L' = blk k (.cells #[.slice a' ((xs ++ numsB ns)).length c'] 68 (0, 0)) :: row e8.T e8.sz a' ((xs ++ numsB ns)).length c' (flat e8 (xs ++ numsB ns)) :: F) := by
 refine f_door (l0 := [(0, .pointer (some ⟨k, 0, none⟩)), (1, .slice na ns.length nc)]) Tryz.func33 Tryz.ntmps33 rfl rfl rfl ?_
 refine c_seq ?_
 refine c_conv (L' := blk k (.cells #[.slice a (xs ++ numsB (ns.take 0)).length c] 68 (0, 0)) :: row e8.T e8.sz a (xs ++ numsB (ns.take 0)).length c (flat e8 (xs ++ numsB (ns.take 0))) :: _) (fun w S => by rw [show xs = xs ++ numsB (ns.take 0) from by simp [numsB]] at S; exact S) ?_
 refine c_region ?_
 refine o_move rfl rfl ?_
 refine o_len rfl rfl Tryz.underlying110 ?_
 refine o_move rfl rfl ?_
 refine l_nil ?_
 refine q_then ?_
 refine c_block ?_
 refine c_loop (α := Nat × (Option Addr) × Nat) (fun z => [(0, .pointer (some ⟨k, 0, none⟩)), (6, .slice na (ns).length nc), (7, .int .i64 ((ns).length : Int)), (8, .int .i64 (z.1 : Int))]) (fun z => blk k (.cells #[.slice z.2.1 (xs ++ numsB (ns.take z.1)).length z.2.2] 68 (0, 0)) :: row e8.T e8.sz z.2.1 (xs ++ numsB (ns.take z.1)).length z.2.2 (flat e8 (xs ++ numsB (ns.take z.1))) :: F) (fun z => z.1 ≤ ns.length) (fun z => ns.length - z.1) (0, a, c) (by exact Nat.zero_le _) ⟨(by first | rfl | exact vint (by omega)), (by first | rfl | exact vint (by omega)), (by first | rfl | exact vint (by omega)), (by first | rfl | exact vint (by omega)), trivial⟩ (fun w S => S) ?_
 rintro ⟨i, a9, c9⟩ hi
 try dsimp only at *
 refine c_seq ?_
 refine c_region ?_
 refine o_bin rfl rfl rfl b_lss ?_
 refine l_nil ?_
 refine q_then ?_
 refine c_seq ?_
 refine c_cond rfl (fun h1 => ?_) (fun h1 => ?_)
 · -- h1T
  have h1b := h1
  try simp only [decide_eq_true_eq] at h1
  refine c_skip ?_
  refine q_then ?_
  refine c_seq ?_
  refine c_block ?_
  refine c_seq ?_
  refine c_region ?_
  refine o_index e_U64_ok rfl rfl rfl Tryz.underlying110 (by omega) (by omega) (rds_c (rds_c hs)) fun ad10 ead10 => ?_
  obtain ⟨x10, hx10⟩ : ∃ x, (ns)[((i : Int)).toNat]? = some x := ⟨_, List.getElem?_eq_getElem (by omega)⟩
  have hx10' := h0 x10 (List.mem_of_getElem? hx10)
  have hnl := numsB_len (ns := ns.take i) fun x hx => (h0 x (List.mem_of_mem_take hx)).2
  have htl : (ns.take i).length ≤ 100 := by rw [List.length_take]; omega
  refine o_load1 rfl rfl Tryz.underlying22 rfl (rd_sl0 e_U64_ok ead10 (rds_c (rds_c hs)) hx10 rfl) ?_
  refine o_assign rfl rfl ?_
  refine l_nil ?_
  refine q_then ?_
  refine c_region ?_
  refine o_move rfl rfl ?_
  refine o_move rfl rfl ?_
  refine l_eq (t := 13) (v' := .int .u64 (x10.toNat : Int)) rfl (by exact congrArg (Value.int .u64) (Int.toNat_of_nonneg hx10'.1).symm) ?_
  refine l_f1 ?_
  refine l_f1 ?_
  refine o_call rfl cal43 rfl (penNum (v := x10.toNat) (by omega) (by (try simp only [List.length_append, List.length_nil]); omega)) ?_
  rintro _ _ ⟨a14, c14, rfl, rfl⟩
  refine l_nil ?_
  refine q_block ?_
  refine q_then ?_
  refine c_region ?_
  refine o_bin rfl rfl rfl (b_add (wrap_i64 (by omega) (by omega))) ?_
  refine o_move rfl rfl ?_
  refine l_nil ?_
  refine q_conv (L' := blk k (.cells #[.slice a14 (xs ++ numsB (ns.take (i + 1))).length c14] 68 (0, 0)) :: row e8.T e8.sz a14 (xs ++ numsB (ns.take (i + 1))).length c14 (flat e8 (xs ++ numsB (ns.take (i + 1)))) :: _) (fun w S => by rw [show xs ++ numsB (ns.take i) ++ numB x10.toNat = xs ++ numsB (ns.take (i + 1)) from by unfold numsB; rw [fm_on hx10, List.append_assoc]; rfl] at S; exact S) ?_
  exact q_round (i + 1, a14, c14) (by (try dsimp only); omega) (by (try dsimp only); omega) ⟨(by first | rfl | exact vint (by omega)), (by first | rfl | exact vint (by omega)), (by first | rfl | exact vint (by omega)), (by first | rfl | exact vint (by omega)), trivial⟩ (fun w S => S)
 · -- h1F
  have h1b := h1
  try simp only [decide_eq_false_iff_not, Int.not_lt, Int.not_le] at h1
  obtain rfl : i = ns.length := by omega
  refine c_exit ?_
  refine q_pass_exit ?_
  refine q_pass_exit ?_
  refine q_hit ?_
  exact f_end (r_none rfl) (⟨_, _, rfl, rfl⟩) (fun w S => by rw [List.take_length] at S; exact S)
theorem texts_ {W : World} {F : List Res} {k : Nat} {xs : List UInt8} {a : Option Addr} {c : Nat} {ss : List ByteArray} {sa : Option Addr} {sc : Nat} (hs : RdS W F e_S sa ss) (hz : ∀ x ∈ ss, x.size ≤ 200) (hl : ss.length ≤ 100) (hn : xs.length ≤ 1000000000) : CS Tryz.prog 42 #[.pointer (some ⟨k, 0, none⟩), .slice sa ss.length sc] W (blk k (.cells #[.slice a (xs).length c] 68 (0, 0)) :: row e8.T e8.sz a (xs).length c (flat e8 xs) :: F) (fun r L' => ∃ (a' : Option Addr) (c' : Nat), r = .tuple #[] ∧ L' = blk k (.cells #[.slice a' ((xs ++ numB ss.length ++ textsB ss)).length c'] 68 (0, 0)) :: row e8.T e8.sz a' ((xs ++ numB ss.length ++ textsB ss)).length c' (flat e8 (xs ++ numB ss.length ++ textsB ss)) :: F) := by
 refine f_door (l0 := [(0, .pointer (some ⟨k, 0, none⟩)), (1, .slice sa ss.length sc)]) Tryz.func42 Tryz.ntmps42 rfl rfl rfl ?_
 refine c_seq ?_
 refine c_region ?_
 refine o_move rfl rfl ?_
 refine o_move rfl rfl ?_
 refine o_len rfl rfl Tryz.underlying27 ?_
 refine o_int rfl rfl Tryz.underlying3 Tryz.underlying22 (wrap_u64 (by omega) (by omega)) ?_
 refine l_f1 ?_
 refine l_f1 ?_
 refine o_call rfl cal43 rfl (penNum (v := ss.length) (by omega) (by (try simp only [List.length_append, List.length_nil]); omega)) ?_
 rintro _ _ ⟨a10, c10, rfl, rfl⟩
 refine l_nil ?_
 refine q_then ?_
 refine c_seq ?_
 refine c_conv (L' := blk k (.cells #[.slice a10 (xs ++ numB ss.length ++ textsB (ss.take 0)).length c10] 68 (0, 0)) :: row e8.T e8.sz a10 (xs ++ numB ss.length ++ textsB (ss.take 0)).length c10 (flat e8 (xs ++ numB ss.length ++ textsB (ss.take 0))) :: _) (fun w S => by rw [show xs ++ numB ss.length = xs ++ numB ss.length ++ textsB (ss.take 0) from by simp [textsB]] at S; exact S) ?_
 have hnl0 := nl_len (n := ss.length) (by omega)
 refine c_region ?_
 refine o_move rfl rfl ?_
 refine o_len rfl rfl Tryz.underlying27 ?_
 refine o_move rfl rfl ?_
 refine l_nil ?_
 refine q_then ?_
 refine c_block ?_
 refine c_loop (α := Nat × (Option Addr) × Nat) (fun z => [(0, .pointer (some ⟨k, 0, none⟩)), (11, .slice sa (ss).length sc), (12, .int .i64 ((ss).length : Int)), (13, .int .i64 (z.1 : Int))]) (fun z => blk k (.cells #[.slice z.2.1 (xs ++ numB ss.length ++ textsB (ss.take z.1)).length z.2.2] 68 (0, 0)) :: row e8.T e8.sz z.2.1 (xs ++ numB ss.length ++ textsB (ss.take z.1)).length z.2.2 (flat e8 (xs ++ numB ss.length ++ textsB (ss.take z.1))) :: F) (fun z => z.1 ≤ ss.length) (fun z => ss.length - z.1) (0, a10, c10) (by exact Nat.zero_le _) ⟨(by first | rfl | exact vint (by omega)), (by first | rfl | exact vint (by omega)), (by first | rfl | exact vint (by omega)), (by first | rfl | exact vint (by omega)), trivial⟩ (fun w S => S) ?_
 rintro ⟨i, a9, c9⟩ hi
 try dsimp only at *
 refine c_seq ?_
 refine c_region ?_
 refine o_bin rfl rfl rfl b_lss ?_
 refine l_nil ?_
 refine q_then ?_
 refine c_seq ?_
 refine c_cond rfl (fun h1 => ?_) (fun h1 => ?_)
 · -- h1T
  have h1b := h1
  try simp only [decide_eq_true_eq] at h1
  refine c_skip ?_
  refine q_then ?_
  refine c_seq ?_
  refine c_block ?_
  refine c_seq ?_
  refine c_region ?_
  refine o_index e_S_ok rfl rfl rfl Tryz.underlying27 (by omega) (by omega) (rds_c (rds_c hs)) fun ad15 ead15 => ?_
  obtain ⟨x15, hx15⟩ : ∃ x, (ss)[((i : Int)).toNat]? = some x := ⟨_, List.getElem?_eq_getElem (by omega)⟩
  have hx15' := hz x15 (List.mem_of_getElem? hx15)
  have hnl := textsB_len (ss := ss.take i) fun x hx => hz x (List.mem_of_mem_take hx)
  have htl : (ss.take i).length ≤ 100 := by rw [List.length_take]; omega
  have htd : x15.data.toList.length ≤ 200 := by simp; omega
  have hnd := nl_len (n := x15.data.toList.length) (by omega)
  refine o_load1 rfl rfl Tryz.underlying9 rfl (rd_sl0 e_S_ok ead15 (rds_c (rds_c hs)) hx15 rfl) ?_
  refine o_assign rfl rfl ?_
  refine l_nil ?_
  refine q_then ?_
  refine c_region ?_
  refine o_move rfl rfl ?_
  refine o_move rfl rfl ?_
  refine o_strBytes (e := e8) rfl rfl rfl rfl Tryz.underlying9 Tryz.underlying34 Tryz.underlying5 fun a19 c19 hc19 => ?_
  refine l_f2 ?_
  refine l_f2 ?_
  refine l_f1 ?_
  refine l_f1 ?_
  refine o_call rfl cal44 rfl (penText (rds_mrow e8_ok 0 rfl) (by (try simp only [List.length_append, List.length_nil]); omega) (by (try simp only [List.length_append, List.length_nil]); omega)) ?_
  rintro _ _ ⟨a20, c20, rfl, rfl⟩
  refine l_nil ?_
  refine q_block ?_
  refine q_then ?_
  refine c_region ?_
  refine o_bin rfl rfl rfl (b_add (wrap_i64 (by omega) (by omega))) ?_
  refine o_move rfl rfl ?_
  refine l_nil ?_
  refine q_conv (L' := blk k (.cells #[.slice a20 (xs ++ numB ss.length ++ textsB (ss.take (i + 1))).length c20] 68 (0, 0)) :: row e8.T e8.sz a20 (xs ++ numB ss.length ++ textsB (ss.take (i + 1))).length c20 (flat e8 (xs ++ numB ss.length ++ textsB (ss.take (i + 1)))) :: _) (fun w S => by rw [show xs ++ numB ss.length ++ textsB (ss.take i) ++ numB x15.data.toList.length ++ x15.data.toList = xs ++ numB ss.length ++ textsB (ss.take (i + 1)) from by unfold textsB; rw [fm_on hx15]; unfold strB; simp only [List.append_assoc]] at S; exact S) ?_
  refine q_conv (fun w S => (S.perm p2).tail) ?_
  exact q_round (i + 1, a20, c20) (by (try dsimp only); omega) (by (try dsimp only); omega) ⟨(by first | rfl | exact vint (by omega)), (by first | rfl | exact vint (by omega)), (by first | rfl | exact vint (by omega)), (by first | rfl | exact vint (by omega)), trivial⟩ (fun w S => S)
 · -- h1F
  have h1b := h1
  try simp only [decide_eq_false_iff_not, Int.not_lt, Int.not_le] at h1
  obtain rfl : i = ss.length := by omega
  refine c_exit ?_
  refine q_pass_exit ?_
  refine q_pass_exit ?_
  refine q_hit ?_
  exact f_end (r_none rfl) (⟨_, _, rfl, rfl⟩) (fun w S => by rw [List.take_length] at S; exact S)
theorem turned_ {W : World} {F : List Res} {n : Int} (hn : -9223372036854775808 ≤ n ∧ n ≤ 9223372036854775807) : CS Tryz.prog 45 #[.int .i64 n] W (F) (fun r L' => r = .int .u64 (zig n) ∧ F = L') := by
 refine f_door (l0 := [(0, .int .i64 n)]) Tryz.func45 Tryz.ntmps45 rfl rfl rfl ?_
 refine c_seq ?_
 refine c_region ?_
 refine o_assign rfl rfl ?_
 refine l_nil ?_
 refine q_then ?_
 refine c_seq ?_
 refine c_region ?_
 refine o_move rfl rfl ?_
 refine o_int rfl rfl Tryz.underlying2 Tryz.underlying22 rfl ?_
 refine o_bin rfl rfl rfl (b_shl (by omega) rfl) ?_
 refine o_move rfl rfl ?_
 refine o_bin rfl rfl rfl (b_shr (by omega) rfl) ?_
 refine o_int rfl rfl Tryz.underlying2 Tryz.underlying22 rfl ?_
 refine o_bin rfl rfl rfl (b_xor (turn_zig hn)) ?_
 refine o_assign rfl rfl ?_
 refine l_nil ?_
 refine q_then ?_
 refine c_ret ?_
 exact f_ret (r_one rfl rfl) (⟨rfl, rfl⟩) (fun w S => S)
end
section
open Go.RowKit Classical
theorem wu64 {x : Int} (h0 : 0 ≤ x) (h1 : x < 18446744073709551616) : IntKind.u64.wrap x = ((x.toNat : Nat) : Int) := by rw [wrap_u64 h0 (by omega)]; omega
set_option maxHeartbeats 2000000 in
theorem owrite_ {W : World} {F : List Res} {k : Nat} {xs : List UInt8} {a : Option Addr} {c : Nat} {o : Order} (T_o : OrdR W F o) (hok : OrdOk o 3) (wf : OWf o) (sm : OSmall o) (hn : xs.length ≤ 1000000) : CS Tryz.prog 23 #[.pointer (some ⟨k, 0, none⟩), .agg #[.int .i64 o.f_Tag_Id_Node, .int .u64 o.f_Tag_Id_Epoch, .int .u64 o.f_Tag_Id_Seq, .int .i64 o.f_Tag_Try, .int .i64 o.f_Txn_Kind, .slice o.f_Txn_Reads.a (o.f_Txn_Reads.xs).length o.f_Txn_Reads.c, .slice o.f_Txn_Writes.a (o.f_Txn_Writes.xs).length o.f_Txn_Writes.c, .slice o.f_Txn_Ops.a (o.f_Txn_Ops.xs).length o.f_Txn_Ops.c, .int .i64 o.f_Txn_To, .slice o.f_Marks.a (o.f_Marks.xs).length o.f_Marks.c]] W (blk k (.cells #[.slice a (xs).length c] 68 (0, 0)) :: row e8.T e8.sz a (xs).length c (flat e8 xs) :: F) (fun r L' => ∃ (a' : Option Addr) (c' : Nat), r = .tuple #[] ∧ L' = blk k (.cells #[.slice a' ((xs ++ ordB o)).length c'] 68 (0, 0)) :: row e8.T e8.sz a' ((xs ++ ordB o)).length c' (flat e8 (xs ++ ordB o)) :: F) := by
 have q1 := ok_hd hok wf o.f_Tag_Id_Node (by simp [headN])
 have q2 := ok_hd hok wf o.f_Tag_Try (by simp [headN])
 have q3 := ok_hd hok wf o.f_Txn_Kind (by simp [headN])
 have q4 := ok_hd hok wf o.f_Txn_To (by simp [headN])
 have hb1 := numsB_len (ns := headN o) fun x hx => (ok_hd hok wf x hx).2
 have l6 : (headN o).length = 6 := rfl
 have hr := sm.r
 have hw := sm.w
 have hol := sm.ol
 have hml := sm.m
 have hb2 := textsB_len sm.tr
 have hb3 := textsB_len sm.tw
 have n1 := nl_len (n := o.f_Txn_Reads.xs.length) (by omega)
 have n2 := nl_len (n := o.f_Txn_Writes.xs.length) (by omega)
 have n3 := nl_len (n := o.f_Txn_Ops.xs.length) (by omega)
 have hb4 := ordB1_len hok wf sm
 have hb5 := opsB_len hok wf sm o.f_Txn_Ops.xs.length
 rw [List.take_length] at hb5
 refine f_door (l0 := [(0, .pointer (some ⟨k, 0, none⟩)), (1, .agg #[.int .i64 o.f_Tag_Id_Node, .int .u64 o.f_Tag_Id_Epoch, .int .u64 o.f_Tag_Id_Seq, .int .i64 o.f_Tag_Try, .int .i64 o.f_Txn_Kind, .slice o.f_Txn_Reads.a (o.f_Txn_Reads.xs).length o.f_Txn_Reads.c, .slice o.f_Txn_Writes.a (o.f_Txn_Writes.xs).length o.f_Txn_Writes.c, .slice o.f_Txn_Ops.a (o.f_Txn_Ops.xs).length o.f_Txn_Ops.c, .int .i64 o.f_Txn_To, .slice o.f_Marks.a (o.f_Marks.xs).length o.f_Marks.c])]) Tryz.func23 Tryz.ntmps23 rfl rfl rfl ?_
 refine c_seq ?_
 refine c_region ?_
 refine o_box rfl rfl fun b3 => ?_
 refine l_nil ?_
 refine q_then ?_
 refine c_seq ?_
 refine c_region ?_
 refine o_move rfl rfl ?_
 refine o_fieldAddr (q := ⟨b3, 0, none⟩) rfl rfl Tryz.underlying33 rfl ti26 rfl ?_
 refine o_fieldAddr (q := ⟨b3, 0, none⟩) rfl rfl Tryz.underlying26 rfl ti24 rfl ?_
 refine o_fieldAddr (q := ⟨b3, 0, none⟩) rfl rfl Tryz.underlying24 rfl ti3 rfl ?_
 refine o_load1 rfl rfl Tryz.underlying3 rfl (rd_mem 0 rfl rfl) ?_
 refine o_int rfl rfl Tryz.underlying3 Tryz.underlying22 (wrap_u64 (by omega) (by omega)) ?_
 refine o_fieldAddr (q := ⟨b3, 0, none⟩) rfl rfl Tryz.underlying33 rfl ti26 rfl ?_
 refine o_fieldAddr (q := ⟨b3, 0, none⟩) rfl rfl Tryz.underlying26 rfl ti24 rfl ?_
 refine o_fieldAddr (q := ⟨b3, 1, none⟩) rfl rfl Tryz.underlying24 rfl ti22 rfl ?_
 refine o_load1 rfl rfl Tryz.underlying22 rfl (rd_mem 0 rfl rfl) ?_
 refine o_fieldAddr (q := ⟨b3, 0, none⟩) rfl rfl Tryz.underlying33 rfl ti26 rfl ?_
 refine o_fieldAddr (q := ⟨b3, 0, none⟩) rfl rfl Tryz.underlying26 rfl ti24 rfl ?_
 refine o_fieldAddr (q := ⟨b3, 2, none⟩) rfl rfl Tryz.underlying24 rfl ti22 rfl ?_
 refine o_load1 rfl rfl Tryz.underlying22 rfl (rd_mem 0 rfl rfl) ?_
 refine o_fieldAddr (q := ⟨b3, 0, none⟩) rfl rfl Tryz.underlying33 rfl ti26 rfl ?_
 refine o_fieldAddr (q := ⟨b3, 3, none⟩) rfl rfl Tryz.underlying26 rfl ti3 rfl ?_
 refine o_load1 rfl rfl Tryz.underlying3 rfl (rd_mem 0 rfl rfl) ?_
 refine o_int rfl rfl Tryz.underlying3 Tryz.underlying22 (wrap_u64 (by omega) (by omega)) ?_
 refine o_fieldAddr (q := ⟨b3, 4, none⟩) rfl rfl Tryz.underlying33 rfl ti30 rfl ?_
 refine o_fieldAddr (q := ⟨b3, 4, none⟩) rfl rfl Tryz.underlying30 rfl ti3 rfl ?_
 refine o_load1 rfl rfl Tryz.underlying3 rfl (rd_mem 0 rfl rfl) ?_
 refine o_int rfl rfl Tryz.underlying3 Tryz.underlying22 (wrap_u64 (by omega) (by omega)) ?_
 refine o_fieldAddr (q := ⟨b3, 4, none⟩) rfl rfl Tryz.underlying33 rfl ti30 rfl ?_
 refine o_fieldAddr (q := ⟨b3, 8, none⟩) rfl rfl Tryz.underlying30 rfl ti3 rfl ?_
 refine o_load1 rfl rfl Tryz.underlying3 rfl (rd_mem 0 rfl rfl) ?_
 refine o_int rfl rfl Tryz.underlying3 Tryz.underlying22 (wrap_u64 (by omega) (by omega)) ?_
 refine o_lit e_U64_ok rfl Tryz.underlying110 rfl rfl rfl (lit_ok rfl) (headN o) rfl rfl fun a34 => ?_
 refine l_f3 ?_
 refine l_f3 ?_
 refine o_call rfl cal33 rfl (nums_ (ns := (headN o)) (rds_own e_U64_ok 0 rfl) (ok_hd hok wf) (by show _ ≤ 100; exact Nat.le_of_ble_eq_true rfl) (by (try simp only [List.length_append, List.length_nil]); omega)) ?_
 rintro _ _ ⟨a35, c35, rfl, rfl⟩
 refine l_nil ?_
 refine q_then ?_
 refine c_seq ?_
 refine c_region ?_
 refine o_move rfl rfl ?_
 refine o_fieldAddr (q := ⟨b3, 4, none⟩) rfl rfl Tryz.underlying33 rfl ti30 rfl ?_
 refine o_fieldAddr (q := ⟨b3, 5, none⟩) rfl rfl Tryz.underlying30 rfl ti27 rfl ?_
 refine o_load1 rfl rfl Tryz.underlying27 rfl (rd_mem 3 rfl rfl) ?_
 refine l_f1 ?_
 refine l_f1 ?_
 refine o_call rfl cal42 rfl (texts_ (ss := o.f_Txn_Reads.xs) (OrdR.c (OrdR.c T_o)).rr sm.tr (by omega) (by (try simp only [List.length_append, List.length_nil]); omega)) ?_
 rintro _ _ ⟨a40, c40, rfl, rfl⟩
 refine l_nil ?_
 refine q_then ?_
 refine c_seq ?_
 refine c_region ?_
 refine o_move rfl rfl ?_
 refine o_fieldAddr (q := ⟨b3, 4, none⟩) rfl rfl Tryz.underlying33 rfl ti30 rfl ?_
 refine o_fieldAddr (q := ⟨b3, 6, none⟩) rfl rfl Tryz.underlying30 rfl ti27 rfl ?_
 refine o_load1 rfl rfl Tryz.underlying27 rfl (rd_mem 3 rfl rfl) ?_
 refine l_f1 ?_
 refine l_f1 ?_
 refine o_call rfl cal42 rfl (texts_ (ss := o.f_Txn_Writes.xs) (OrdR.c (OrdR.c T_o)).rw sm.tw (by omega) (by (try simp only [List.length_append, List.length_nil]); omega)) ?_
 rintro _ _ ⟨a45, c45, rfl, rfl⟩
 refine l_nil ?_
 refine q_then ?_
 refine c_seq ?_
 refine c_region ?_
 refine o_move rfl rfl ?_
 refine o_fieldAddr (q := ⟨b3, 4, none⟩) rfl rfl Tryz.underlying33 rfl ti30 rfl ?_
 refine o_fieldAddr (q := ⟨b3, 7, none⟩) rfl rfl Tryz.underlying30 rfl ti28 rfl ?_
 refine o_load1 rfl rfl Tryz.underlying28 rfl (rd_mem 3 rfl rfl) ?_
 refine o_len rfl rfl Tryz.underlying28 ?_
 refine o_int rfl rfl Tryz.underlying3 Tryz.underlying22 (wrap_u64 (by omega) (by omega)) ?_
 refine l_f1 ?_
 refine l_f1 ?_
 refine o_call rfl cal43 rfl (penNum (v := o.f_Txn_Ops.xs.length) (by omega) (by (try simp only [List.length_append, List.length_nil]); omega)) ?_
 rintro _ _ ⟨a52, c52, rfl, rfl⟩
 refine l_nil ?_
 refine q_then ?_
 refine c_seq ?_
 refine c_seq ?_
 refine c_conv (L' := blk k (.cells #[.slice a52 (xs ++ ordB1 o ++ opsB (o.f_Txn_Ops.xs.take 0)).length c52] 68 (0, 0)) :: row e8.T e8.sz a52 (xs ++ ordB1 o ++ opsB (o.f_Txn_Ops.xs.take 0)).length c52 (flat e8 (xs ++ ordB1 o ++ opsB (o.f_Txn_Ops.xs.take 0))) :: _) (fun w S => by rw [show xs ++ numsB (headN o) ++ numB o.f_Txn_Reads.xs.length ++ textsB o.f_Txn_Reads.xs ++ numB o.f_Txn_Writes.xs.length ++ textsB o.f_Txn_Writes.xs ++ numB o.f_Txn_Ops.xs.length = xs ++ ordB1 o ++ opsB (o.f_Txn_Ops.xs.take 0) from by simp [ordB1, opsB]] at S; exact S) ?_
 refine c_region ?_
 refine o_fieldAddr (q := ⟨b3, 4, none⟩) rfl rfl Tryz.underlying33 rfl ti30 rfl ?_
 refine o_fieldAddr (q := ⟨b3, 7, none⟩) rfl rfl Tryz.underlying30 rfl ti28 rfl ?_
 refine o_load1 rfl rfl Tryz.underlying28 rfl (rd_mem 3 rfl rfl) ?_
 refine o_len rfl rfl Tryz.underlying28 ?_
 refine o_move rfl rfl ?_
 refine l_nil ?_
 refine q_then ?_
 refine c_block ?_
 refine c_loop (α := Nat × (Option Addr) × Nat) (fun z => [(0, .pointer (some ⟨k, 0, none⟩)), (3, .pointer (some ⟨b3, 0, none⟩)), (55, .slice o.f_Txn_Ops.a (o.f_Txn_Ops.xs).length o.f_Txn_Ops.c), (56, .int .i64 ((o.f_Txn_Ops.xs).length : Int)), (57, .int .i64 (z.1 : Int))]) (fun z => blk k (.cells #[.slice z.2.1 (xs ++ ordB1 o ++ opsB (o.f_Txn_Ops.xs.take z.1)).length z.2.2] 68 (0, 0)) :: row e8.T e8.sz z.2.1 (xs ++ ordB1 o ++ opsB (o.f_Txn_Ops.xs.take z.1)).length z.2.2 (flat e8 (xs ++ ordB1 o ++ opsB (o.f_Txn_Ops.xs.take z.1))) :: row e_U64.T e_U64.sz a34 (headN o).length 6 (flat e_U64 (headN o)) :: blk b3 (.cells #[.int .i64 o.f_Tag_Id_Node, .int .u64 o.f_Tag_Id_Epoch, .int .u64 o.f_Tag_Id_Seq, .int .i64 o.f_Tag_Try, .int .i64 o.f_Txn_Kind, .slice o.f_Txn_Reads.a (o.f_Txn_Reads.xs).length o.f_Txn_Reads.c, .slice o.f_Txn_Writes.a (o.f_Txn_Writes.xs).length o.f_Txn_Writes.c, .slice o.f_Txn_Ops.a (o.f_Txn_Ops.xs).length o.f_Txn_Ops.c, .int .i64 o.f_Txn_To, .slice o.f_Marks.a (o.f_Marks.xs).length o.f_Marks.c] 33 (0, 0)) :: F) (fun z => z.1 ≤ o.f_Txn_Ops.xs.length) (fun z => o.f_Txn_Ops.xs.length - z.1) (0, a52, c52) (by exact Nat.zero_le _) ⟨(by first | rfl | exact vint (by omega)), (by first | rfl | exact vint (by omega)), (by first | rfl | exact vint (by omega)), (by first | rfl | exact vint (by omega)), (by first | rfl | exact vint (by omega)), trivial⟩ (fun w S => S) ?_
 rintro ⟨i, a9, c9⟩ hi
 try dsimp only at *
 refine c_seq ?_
 refine c_region ?_
 refine o_bin rfl rfl rfl b_lss ?_
 refine l_nil ?_
 refine q_then ?_
 refine c_seq ?_
 refine c_cond rfl (fun h1 => ?_) (fun h1 => ?_)
 · -- h1T
  have h1b := h1
  try simp only [decide_eq_true_eq] at h1
  refine c_skip ?_
  refine q_then ?_
  refine c_seq ?_
  refine c_block ?_
  refine c_seq ?_
  refine c_region ?_
  refine o_index e_Op_ok rfl rfl rfl Tryz.underlying28 (by omega) (by omega) (OrdR.c (OrdR.c (OrdR.c (OrdR.c T_o)))).ro fun ad59 ead59 => ?_
  obtain ⟨x59, hx59⟩ : ∃ x, (o.f_Txn_Ops.xs)[((i : Int)).toNat]? = some x := ⟨_, List.getElem?_eq_getElem (by omega)⟩
  have hk59 := ok_op hok x59 (List.mem_of_getElem? hx59)
  have hs59 := sm.os x59 (List.mem_of_getElem? hx59)
  have hw59 := wf.op x59 (List.mem_of_getElem? hx59)
  have hol9 := opsB_len hok wf sm i
  have htd : x59.f_Key.data.toList.length ≤ 200 := by simp; omega
  have hnd := nl_len (n := x59.f_Key.data.toList.length) (by omega)
  have hnv := nl_len (n := x59.f_Value.xs.length) (by omega)
  have hnk := nl_len (n := x59.f_Kind.toNat) (by omega)
  refine o_loadn (vs := e_Op.cells x59) rfl rfl Tryz.underlying92 rfl ti92 (rdn_sl e_Op_ok ead59 (OrdR.c (OrdR.c (OrdR.c (OrdR.c T_o)))).ro hx59) ?_
  refine o_alloc rfl ti92 fun b5 => ?_
  refine o_storen rfl rfl ti92 rfl rfl rfl rfl ?_
  refine l_nil ?_
  refine q_then ?_
  refine c_seq ?_
  refine c_region ?_
  refine o_move rfl rfl ?_
  refine o_fieldAddr (q := ⟨b5, 0, none⟩) rfl rfl Tryz.underlying92 rfl ti3 rfl ?_
  refine o_load1 rfl rfl Tryz.underlying3 rfl (rd_mem 0 rfl rfl) ?_
  refine o_int rfl rfl Tryz.underlying3 Tryz.underlying22 (wu64 (by omega) (by omega)) ?_
  refine l_f2 ?_
  refine l_f2 ?_
  refine o_call rfl cal43 rfl (penNum (v := x59.f_Kind.toNat) (by omega) (by (try simp only [List.length_append, List.length_nil]); omega)) ?_
  rintro _ _ ⟨a65, c65, rfl, rfl⟩
  refine l_nil ?_
  refine q_then ?_
  refine c_seq ?_
  refine c_region ?_
  refine o_move rfl rfl ?_
  refine o_fieldAddr (q := ⟨b5, 1, none⟩) rfl rfl Tryz.underlying92 rfl ti9 rfl ?_
  refine o_load1 rfl rfl Tryz.underlying9 rfl (rd_mem 2 rfl rfl) ?_
  refine o_strBytes (e := e8) rfl rfl rfl rfl Tryz.underlying9 Tryz.underlying34 Tryz.underlying5 fun a69 c69 hc69 => ?_
  refine l_f2 ?_
  refine l_f2 ?_
  refine l_f1 ?_
  refine l_f1 ?_
  refine o_call rfl cal44 rfl (penText (rds_mrow e8_ok 0 rfl) (by (try simp only [List.length_append, List.length_nil]); omega) (by (try simp only [List.length_append, List.length_nil]); omega)) ?_
  rintro _ _ ⟨a70, c70, rfl, rfl⟩
  refine l_nil ?_
  refine q_then ?_
  refine c_seq ?_
  refine c_region ?_
  refine o_move rfl rfl ?_
  refine o_fieldAddr (q := ⟨b5, 2, none⟩) rfl rfl Tryz.underlying92 rfl ti34 rfl ?_
  refine o_load1 rfl rfl Tryz.underlying34 rfl (rd_mem 3 rfl rfl) ?_
  refine l_f1 ?_
  refine l_f1 ?_
  refine l_f1 ?_
  refine l_f1 ?_
  refine o_call rfl cal44 rfl (penText ((OrdR.c (OrdR.c (OrdR.c (OrdR.c T_o)))).rv x59 (List.mem_of_getElem? hx59)) (by (try simp only [List.length_append, List.length_nil]); omega) (by (try simp only [List.length_append, List.length_nil]); omega)) ?_
  rintro _ _ ⟨a74, c74, rfl, rfl⟩
  refine l_nil ?_
  refine q_then ?_
  refine c_region ?_
  refine o_move rfl rfl ?_
  refine o_fieldAddr (q := ⟨b5, 3, none⟩) rfl rfl Tryz.underlying92 rfl ti2 rfl ?_
  refine o_load1 rfl rfl Tryz.underlying2 rfl (rd_mem 3 rfl rfl) ?_
  refine o_call rfl cal45 rfl (turned_ (n := x59.f_N) hw59) ?_
  rintro _ _ ⟨rfl, rfl⟩
  refine l_eq (t := 78) (v' := .int .u64 ((zig x59.f_N).toNat : Int)) rfl (by exact congrArg (Value.int .u64) (Int.toNat_of_nonneg (zig_0 hw59).1).symm) ?_
  refine l_f1 ?_
  refine l_f1 ?_
  refine o_call rfl cal43 rfl (penNum (v := (zig x59.f_N).toNat) (by have := (zig_0 hw59).2; omega) (by (try simp only [List.length_append, List.length_nil]); omega)) ?_
  rintro _ _ ⟨a79, c79, rfl, rfl⟩
  refine l_nil ?_
  refine q_block ?_
  refine q_then ?_
  refine c_region ?_
  refine o_bin rfl rfl rfl (b_add (wrap_i64 (by omega) (by omega))) ?_
  refine o_move rfl rfl ?_
  refine l_nil ?_
  refine q_conv (L' := blk k (.cells #[.slice a79 (xs ++ ordB1 o ++ opsB (o.f_Txn_Ops.xs.take (i + 1))).length c79] 68 (0, 0)) :: row e8.T e8.sz a79 (xs ++ ordB1 o ++ opsB (o.f_Txn_Ops.xs.take (i + 1))).length c79 (flat e8 (xs ++ ordB1 o ++ opsB (o.f_Txn_Ops.xs.take (i + 1)))) :: _) (fun w S => by rw [show xs ++ ordB1 o ++ opsB (o.f_Txn_Ops.xs.take i) ++ numB x59.f_Kind.toNat ++ numB x59.f_Key.data.toList.length ++ x59.f_Key.data.toList ++ numB x59.f_Value.xs.length ++ x59.f_Value.xs ++ numB (zig x59.f_N).toNat = xs ++ ordB1 o ++ opsB (o.f_Txn_Ops.xs.take (i + 1)) from by unfold opsB; rw [fm_on hx59]; unfold opB strB nB; simp only [List.append_assoc]] at S; exact S) ?_
  refine q_conv (fun w S => (S.perm p2).tail) ?_
  refine q_conv (fun w S => (S.perm p2).tail) ?_
  exact q_round (i + 1, a79, c79) (by (try dsimp only); omega) (by (try dsimp only); omega) ⟨(by first | rfl | exact vint (by omega)), (by first | rfl | exact vint (by omega)), (by first | rfl | exact vint (by omega)), (by first | rfl | exact vint (by omega)), (by first | rfl | exact vint (by omega)), trivial⟩ (fun w S => S)
 · -- h1F
  have h1b := h1
  try simp only [decide_eq_false_iff_not, Int.not_lt, Int.not_le] at h1
  obtain rfl : i = o.f_Txn_Ops.xs.length := by omega
  refine c_exit ?_
  refine q_pass_exit ?_
  refine q_pass_exit ?_
  refine q_hit ?_
  refine q_then ?_
  refine c_seq ?_
  refine c_conv (L' := blk k (.cells #[.slice a9 (xs ++ ordB1 o ++ opsB o.f_Txn_Ops.xs ++ mksB (o.f_Marks.xs.take 0)).length c9] 68 (0, 0)) :: row e8.T e8.sz a9 (xs ++ ordB1 o ++ opsB o.f_Txn_Ops.xs ++ mksB (o.f_Marks.xs.take 0)).length c9 (flat e8 (xs ++ ordB1 o ++ opsB o.f_Txn_Ops.xs ++ mksB (o.f_Marks.xs.take 0))) :: _) (fun w S => by rw [show xs ++ ordB1 o ++ opsB (o.f_Txn_Ops.xs.take o.f_Txn_Ops.xs.length) = xs ++ ordB1 o ++ opsB o.f_Txn_Ops.xs ++ mksB (o.f_Marks.xs.take 0) from by simp [mksB]] at S; exact S) ?_
  refine c_region ?_
  refine o_fieldAddr (q := ⟨b3, 9, none⟩) rfl rfl Tryz.underlying33 rfl ti31 rfl ?_
  refine o_load1 rfl rfl Tryz.underlying31 rfl (rd_mem 3 rfl rfl) ?_
  refine o_len rfl rfl Tryz.underlying31 ?_
  refine o_move rfl rfl ?_
  refine l_nil ?_
  refine q_then ?_
  refine c_block ?_
  refine c_loop (α := Nat × (Option Addr) × Nat) (fun z => [(0, .pointer (some ⟨k, 0, none⟩)), (82, .slice o.f_Marks.a (o.f_Marks.xs).length o.f_Marks.c), (83, .int .i64 ((o.f_Marks.xs).length : Int)), (84, .int .i64 (z.1 : Int))]) (fun z => blk k (.cells #[.slice z.2.1 (xs ++ ordB1 o ++ opsB o.f_Txn_Ops.xs ++ mksB (o.f_Marks.xs.take z.1)).length z.2.2] 68 (0, 0)) :: row e8.T e8.sz z.2.1 (xs ++ ordB1 o ++ opsB o.f_Txn_Ops.xs ++ mksB (o.f_Marks.xs.take z.1)).length z.2.2 (flat e8 (xs ++ ordB1 o ++ opsB o.f_Txn_Ops.xs ++ mksB (o.f_Marks.xs.take z.1))) :: row e_U64.T e_U64.sz a34 (headN o).length 6 (flat e_U64 (headN o)) :: blk b3 (.cells #[.int .i64 o.f_Tag_Id_Node, .int .u64 o.f_Tag_Id_Epoch, .int .u64 o.f_Tag_Id_Seq, .int .i64 o.f_Tag_Try, .int .i64 o.f_Txn_Kind, .slice o.f_Txn_Reads.a (o.f_Txn_Reads.xs).length o.f_Txn_Reads.c, .slice o.f_Txn_Writes.a (o.f_Txn_Writes.xs).length o.f_Txn_Writes.c, .slice o.f_Txn_Ops.a (o.f_Txn_Ops.xs).length o.f_Txn_Ops.c, .int .i64 o.f_Txn_To, .slice o.f_Marks.a (o.f_Marks.xs).length o.f_Marks.c] 33 (0, 0)) :: F) (fun z => z.1 ≤ o.f_Marks.xs.length) (fun z => o.f_Marks.xs.length - z.1) (0, a9, c9) (by exact Nat.zero_le _) ⟨(by first | rfl | exact vint (by omega)), (by first | rfl | exact vint (by omega)), (by first | rfl | exact vint (by omega)), (by first | rfl | exact vint (by omega)), trivial⟩ (fun w S => S) ?_
  rintro ⟨j, a8, c8⟩ hj
  try dsimp only at *
  refine c_seq ?_
  refine c_region ?_
  refine o_bin rfl rfl rfl b_lss ?_
  refine l_nil ?_
  refine q_then ?_
  refine c_seq ?_
  refine c_cond rfl (fun h2 => ?_) (fun h2 => ?_)
  · -- h2T
   have h2b := h2
   try simp only [decide_eq_true_eq] at h2
   refine c_skip ?_
   refine q_then ?_
   refine c_seq ?_
   refine c_block ?_
   refine c_seq ?_
   refine c_region ?_
   refine o_index e_Mark_ok rfl rfl rfl Tryz.underlying31 (by omega) (by omega) (OrdR.c (OrdR.c (OrdR.c (OrdR.c T_o)))).rm fun ad86 ead86 => ?_
   obtain ⟨x86, hx86⟩ : ∃ x, (o.f_Marks.xs)[((j : Int)).toNat]? = some x := ⟨_, List.getElem?_eq_getElem (by omega)⟩
   have hh86 := ok_mk' hok x86 (List.mem_of_getElem? hx86)
   have hc86 := wf.mc x86 (List.mem_of_getElem? hx86)
   have hml9 := mksB_len hok wf sm j
   have hnh := nl_len (n := x86.f_Home.toNat) (by omega)
   refine o_loadn (vs := e_Mark.cells x86) rfl rfl Tryz.underlying60 rfl ti60 (rdn_sl e_Mark_ok ead86 (OrdR.c (OrdR.c (OrdR.c (OrdR.c T_o)))).rm hx86) ?_
   refine o_alloc rfl ti60 fun b7 => ?_
   refine o_storen rfl rfl ti60 rfl rfl rfl rfl ?_
   refine l_nil ?_
   refine q_then ?_
   refine c_seq ?_
   refine c_region ?_
   refine o_move rfl rfl ?_
   refine o_fieldAddr (q := ⟨b7, 1, none⟩) rfl rfl Tryz.underlying60 rfl ti3 rfl ?_
   refine o_load1 rfl rfl Tryz.underlying3 rfl (rd_mem 0 rfl rfl) ?_
   refine o_int rfl rfl Tryz.underlying3 Tryz.underlying22 (wu64 (by omega) (by omega)) ?_
   refine l_f2 ?_
   refine l_f2 ?_
   refine o_call rfl cal43 rfl (penNum (v := x86.f_Home.toNat) (by omega) (by (try simp only [List.length_append, List.length_nil]); omega)) ?_
   rintro _ _ ⟨a92, c92, rfl, rfl⟩
   refine l_nil ?_
   refine q_then ?_
   refine c_region ?_
   refine o_move rfl rfl ?_
   refine o_fieldAddr (q := ⟨b7, 2, none⟩) rfl rfl Tryz.underlying60 rfl ti22 rfl ?_
   refine o_load1 rfl rfl Tryz.underlying22 rfl (rd_mem 2 rfl rfl) ?_
   refine l_eq (t := 95) (v' := .int .u64 (x86.f_Count.toNat : Int)) rfl (by exact congrArg (Value.int .u64) (Int.toNat_of_nonneg hc86.1).symm) ?_
   refine l_f1 ?_
   refine l_f1 ?_
   refine o_call rfl cal43 rfl (penNum (v := x86.f_Count.toNat) (by omega) (by (try simp only [List.length_append, List.length_nil]); omega)) ?_
   rintro _ _ ⟨a96, c96, rfl, rfl⟩
   refine l_nil ?_
   refine q_block ?_
   refine q_then ?_
   refine c_region ?_
   refine o_bin rfl rfl rfl (b_add (wrap_i64 (by omega) (by omega))) ?_
   refine o_move rfl rfl ?_
   refine l_nil ?_
   refine q_conv (L' := blk k (.cells #[.slice a96 (xs ++ ordB1 o ++ opsB o.f_Txn_Ops.xs ++ mksB (o.f_Marks.xs.take (j + 1))).length c96] 68 (0, 0)) :: row e8.T e8.sz a96 (xs ++ ordB1 o ++ opsB o.f_Txn_Ops.xs ++ mksB (o.f_Marks.xs.take (j + 1))).length c96 (flat e8 (xs ++ ordB1 o ++ opsB o.f_Txn_Ops.xs ++ mksB (o.f_Marks.xs.take (j + 1)))) :: _) (fun w S => by rw [show xs ++ ordB1 o ++ opsB o.f_Txn_Ops.xs ++ mksB (o.f_Marks.xs.take j) ++ numB x86.f_Home.toNat ++ numB x86.f_Count.toNat = xs ++ ordB1 o ++ opsB o.f_Txn_Ops.xs ++ mksB (o.f_Marks.xs.take (j + 1)) from by unfold mksB; rw [fm_on hx86]; unfold mkB nB; simp only [List.append_assoc]] at S; exact S) ?_
   refine q_conv (fun w S => (S.perm p2).tail) ?_
   exact q_round (j + 1, a96, c96) (by (try dsimp only); omega) (by (try dsimp only); omega) ⟨(by first | rfl | exact vint (by omega)), (by first | rfl | exact vint (by omega)), (by first | rfl | exact vint (by omega)), (by first | rfl | exact vint (by omega)), trivial⟩ (fun w S => S)
  · -- h2F
   have h2b := h2
   try simp only [decide_eq_false_iff_not, Int.not_lt, Int.not_le] at h2
   obtain rfl : j = o.f_Marks.xs.length := by omega
   refine c_exit ?_
   refine q_pass_exit ?_
   refine q_pass_exit ?_
   refine q_hit ?_
   refine q_conv (fun w S => (S.perm p2).tail) ?_
   refine q_conv (fun w S => (S.perm p2).tail) ?_
   exact f_end (r_none rfl) (⟨_, _, rfl, rfl⟩) (fun w S => by rw [show xs ++ ordB1 o ++ opsB o.f_Txn_Ops.xs ++ mksB (o.f_Marks.xs.take o.f_Marks.xs.length) = xs ++ ordB o from by rw [List.take_length]; simp [ordB]] at S; exact S)
end
section
open Go.RowKit Classical
def ItOk (x : Item) : Prop := (x.f_Kind = 1 ∧ x.f_Index = 0) ∨ (x.f_Kind = 2 ∧ 0 ≤ x.f_Index ∧ x.f_Index < 64)
def itemB (x : Item) : List UInt8 := numsB [x.f_Kind, x.f_Index] ++ ordB x.ord
noncomputable def chkI (x : Item) : Int := if ItOk x ∧ OrdOk x.ord 3 then 0 else 1
noncomputable def wrI (x : Item) : List UInt8 := if ItOk x ∧ OrdOk x.ord 3 then itemB x else []
theorem chkI_0 {x : Item} : chkI x = 0 ↔ ItOk x ∧ OrdOk x.ord 3 := by unfold chkI; split <;> simp_all
theorem it_hd {x : Item} (h : ItOk x) : ∀ y ∈ [x.f_Kind, x.f_Index], 0 ≤ y ∧ y < 18446744073709551616 := fun y hy => by
  simp only [List.mem_cons, List.not_mem_nil, or_false] at hy
  unfold ItOk at h
  rcases hy with rfl | rfl <;> omega
theorem okb_of {o : Order} (sm : OSmall o) : o.f_Txn_Reads.xs.length + o.f_Txn_Writes.xs.length ≤ 1000000 := by have := sm.r; have := sm.w; omega
set_option maxHeartbeats 1000000 in
theorem iWrite_ {W : World} {F : List Res} {x : Item} (T_x : OrdR W F x.ord) (sm : OSmall x.ord) (wf : OWf x.ord) : CS Tryz.prog 13 #[.agg #[.int .i64 x.f_Kind, .int .i64 x.f_Index, .int .i64 x.ord.f_Tag_Id_Node, .int .u64 x.ord.f_Tag_Id_Epoch, .int .u64 x.ord.f_Tag_Id_Seq, .int .i64 x.ord.f_Tag_Try, .int .i64 x.ord.f_Txn_Kind, .slice x.ord.f_Txn_Reads.a (x.ord.f_Txn_Reads.xs).length x.ord.f_Txn_Reads.c, .slice x.ord.f_Txn_Writes.a (x.ord.f_Txn_Writes.xs).length x.ord.f_Txn_Writes.c, .slice x.ord.f_Txn_Ops.a (x.ord.f_Txn_Ops.xs).length x.ord.f_Txn_Ops.c, .int .i64 x.ord.f_Txn_To, .slice x.ord.f_Marks.a (x.ord.f_Marks.xs).length x.ord.f_Marks.c]] W (F) (fun r L' => ∃ (out : List UInt8) (a2 : Option Addr) (c2 : Nat), out = wrI x ∧ r = .tuple #[.slice a2 out.length c2, .int .i64 (chkI x)] ∧ L' = row e8.T e8.sz a2 (out).length c2 (flat e8 out) :: F) := by
 refine f_door (l0 := [(0, .agg #[.int .i64 x.f_Kind, .int .i64 x.f_Index, .int .i64 x.ord.f_Tag_Id_Node, .int .u64 x.ord.f_Tag_Id_Epoch, .int .u64 x.ord.f_Tag_Id_Seq, .int .i64 x.ord.f_Tag_Try, .int .i64 x.ord.f_Txn_Kind, .slice x.ord.f_Txn_Reads.a (x.ord.f_Txn_Reads.xs).length x.ord.f_Txn_Reads.c, .slice x.ord.f_Txn_Writes.a (x.ord.f_Txn_Writes.xs).length x.ord.f_Txn_Writes.c, .slice x.ord.f_Txn_Ops.a (x.ord.f_Txn_Ops.xs).length x.ord.f_Txn_Ops.c, .int .i64 x.ord.f_Txn_To, .slice x.ord.f_Marks.a (x.ord.f_Marks.xs).length x.ord.f_Marks.c])]) Tryz.func13 Tryz.ntmps13 rfl rfl rfl ?_
 refine c_seq ?_
 refine c_region ?_
 refine o_box rfl rfl fun b1 => ?_
 refine o_assign rfl rfl ?_
 refine o_assign rfl rfl ?_
 refine l_nil ?_
 refine q_then ?_
 refine c_seq ?_
 refine c_region ?_
 refine o_fieldAddr (q := ⟨b1, 0, none⟩) rfl rfl Tryz.underlying50 rfl ti3 rfl ?_
 refine o_load1 rfl rfl Tryz.underlying3 rfl (rd_mem 0 rfl rfl) ?_
 refine o_bin rfl rfl rfl b_eql ?_
 refine o_move rfl rfl ?_
 refine l_split (t := 9) rfl (fun h1 => ?_) (fun h1 => ?_)
 · -- h1T
  have h1b := h1
  try simp only [decide_eq_true_eq] at h1
  refine o_yes rfl rfl rfl ?_
  refine o_fieldAddr (q := ⟨b1, 1, none⟩) rfl rfl Tryz.underlying50 rfl ti3 rfl ?_
  refine o_yes rfl rfl rfl ?_
  refine o_load1 rfl rfl Tryz.underlying3 rfl (rd_mem 0 rfl rfl) ?_
  refine o_yes rfl rfl rfl ?_
  refine o_bin rfl rfl rfl b_eql ?_
  refine o_pick_true rfl rfl rfl ?_
  refine o_move rfl rfl ?_
  refine l_split (t := 14) rfl (fun h2 => ?_) (fun h2 => ?_)
  · -- h2T
   have h2b := h2
   try simp only [decide_eq_true_eq] at h2
   refine o_no rfl rfl rfl rfl ?_
   refine o_no rfl rfl rfl rfl ?_
   refine o_no rfl rfl rfl rfl ?_
   refine o_no rfl rfl rfl rfl ?_
   refine o_no rfl rfl rfl rfl ?_
   refine o_no rfl rfl rfl rfl ?_
   refine o_no rfl rfl rfl rfl ?_
   refine o_no rfl rfl rfl rfl ?_
   refine o_no rfl rfl rfl rfl ?_
   refine o_no rfl rfl rfl rfl ?_
   refine o_no rfl rfl rfl rfl ?_
   refine o_no rfl rfl rfl rfl ?_
   refine o_no rfl rfl rfl rfl ?_
   refine o_pick_true rfl rfl rfl ?_
   refine o_assign rfl rfl ?_
   refine l_nil ?_
   refine q_then ?_
   refine c_seq ?_
   refine c_seq ?_
   refine c_region ?_
   refine o_move rfl rfl ?_
   refine o_not rfl rfl ?_
   refine o_move rfl rfl ?_
   refine o_yes rfl rfl rfl ?_
   refine o_fieldAddr (q := ⟨b1, 2, none⟩) rfl rfl Tryz.underlying50 rfl ti33 rfl ?_
   refine o_yes rfl rfl rfl ?_
   refine o_loadn (vs := [_, _, _, _, _, _, _, _, _, _]) rfl rfl Tryz.underlying33 rfl ti33 (rdn_lit 0 rfl rfl) ?_
   refine o_yes rfl rfl rfl ?_
   refine o_call rfl cal22 rfl (ocheck_ (o := x.ord) (g := 3) (OrdR.c T_x) (okb_of sm) (by have := sm.m; omega)) ?_
   rintro _ _ ⟨rfl, rfl⟩
   refine o_yes rfl rfl rfl ?_
   refine o_bin rfl rfl rfl b_neq ?_
   refine o_pick_false rfl rfl rfl ?_
   refine l_nil ?_
   refine q_then ?_
   refine c_cond rfl (fun h3 => ?_) (fun h3 => ?_)
   · -- h3T
    have h3b := h3
    try simp only [Bool.not_eq_true', decide_eq_false_iff_not, Int.not_lt, Int.not_le] at h3
    refine c_seq ?_
    have hno : ¬ (ItOk x ∧ OrdOk x.ord 3) := by unfold ItOk; first | (intro h9; omega) | (rintro ⟨h8, h9⟩; first | omega | (exact absurd (chkO_yes h9) (by assumption)) | (rw [chkO_yes h9] at *; simp_all))
    refine c_nilrow e8 ?_
    refine c_region ?_
    refine o_assign rfl rfl ?_
    refine o_assign rfl rfl ?_
    refine l_nil ?_
    refine q_then ?_
    refine c_ret ?_
    refine q_pass_ret ?_
    refine q_conv (fun w S => (S.perm p1).tail) ?_
    exact f_ret (r_two rfl rfl rfl) (⟨[], none, 0, by rw [wrI, if_neg hno], by rw [show chkI x = 1 from if_neg hno]; rfl, rfl⟩) (fun w S => S)
   · -- h3F
    have h3b := h3
    try simp only [Bool.not_eq_false', decide_eq_true_eq] at h3
    refine c_skip ?_
    refine q_then ?_
    refine c_seq ?_
    have hok : ItOk x ∧ OrdOk x.ord 3 := ⟨by unfold ItOk; omega, chkO_0.1 (by first | assumption | simp_all)⟩
    have hh := it_hd hok.1
    have hbl := ordB_len hok.2 wf sm
    have g1 := hh x.f_Kind (by simp)
    have g2 := hh x.f_Index (by simp)
    have hnl := numsB_len (ns := [x.f_Kind, x.f_Index]) fun y hy => (hh y hy).2
    have l2 : [x.f_Kind, x.f_Index].length = 2 := rfl
    refine c_region ?_
    refine o_build rfl sp68 ti68 rfl rfl ?_
    refine o_box rfl rfl fun b38 => ?_
    refine l_nilrow e8 ?_
    refine l_conv (L' := blk b38 (.cells #[.slice none (([] : List UInt8)).length 0] 68 (0, 0)) :: row e8.T e8.sz none (([] : List UInt8)).length 0 (flat e8 ([] : List UInt8)) :: _) (fun w S => S.perm p1) ?_
    refine o_assign rfl rfl ?_
    refine l_nil ?_
    refine q_then ?_
    refine c_seq ?_
    refine c_region ?_
    refine o_move rfl rfl ?_
    refine o_fieldAddr (q := ⟨b1, 0, none⟩) rfl rfl Tryz.underlying50 rfl ti3 rfl ?_
    refine o_load1 rfl rfl Tryz.underlying3 rfl (rd_mem 2 rfl rfl) ?_
    refine o_int rfl rfl Tryz.underlying3 Tryz.underlying22 (wrap_u64 (by omega) (by omega)) ?_
    refine o_fieldAddr (q := ⟨b1, 1, none⟩) rfl rfl Tryz.underlying50 rfl ti3 rfl ?_
    refine o_load1 rfl rfl Tryz.underlying3 rfl (rd_mem 2 rfl rfl) ?_
    refine o_int rfl rfl Tryz.underlying3 Tryz.underlying22 (wrap_u64 (by omega) (by omega)) ?_
    refine o_lit e_U64_ok rfl Tryz.underlying110 rfl rfl rfl (lit_ok rfl) [x.f_Kind, x.f_Index] rfl rfl fun a46 => ?_
    refine l_f2 ?_
    refine l_f2 ?_
    refine o_call rfl cal33 rfl (nums_ (ns := [x.f_Kind, x.f_Index]) (rds_own e_U64_ok 0 rfl) (it_hd hok.1) (by show _ ≤ 100; exact Nat.le_of_ble_eq_true rfl) (by (try simp only [List.length_append, List.length_nil]); omega)) ?_
    rintro _ _ ⟨a47, c47, rfl, rfl⟩
    refine l_nil ?_
    refine q_then ?_
    refine c_seq ?_
    refine c_region ?_
    refine o_move rfl rfl ?_
    refine o_fieldAddr (q := ⟨b1, 2, none⟩) rfl rfl Tryz.underlying50 rfl ti33 rfl ?_
    refine o_loadn (vs := [_, _, _, _, _, _, _, _, _, _]) rfl rfl Tryz.underlying33 rfl ti33 (rdn_lit 3 rfl rfl) ?_
    refine l_f1 ?_
    refine l_f1 ?_
    refine o_call rfl cal23 rfl (owrite_ (o := x.ord) (OrdR.c (OrdR.c T_x)) hok.2 wf sm (by (try simp only [List.length_append, List.length_nil]); omega)) ?_
    rintro _ _ ⟨a51, c51, rfl, rfl⟩
    refine l_nil ?_
    refine q_then ?_
    refine c_seq ?_
    refine c_region ?_
    refine o_move rfl rfl ?_
    refine l_f1 ?_
    refine l_f1 ?_
    refine o_call rfl cal24 rfl (penData (by (try simp only [List.length_append, List.length_nil]); omega)) ?_
    rintro _ _ ⟨a53, c53, rfl, rfl⟩
    refine o_assign rfl rfl ?_
    refine o_assign rfl rfl ?_
    refine l_nil ?_
    refine q_then ?_
    refine c_ret ?_
    refine q_conv (fun w S => (S.perm p1).tail) ?_
    refine q_conv (fun w S => (S.perm p1).tail) ?_
    refine q_conv (fun w S => (S.perm p1).tail) ?_
    refine q_conv (fun w S => (S.perm p1).tail) ?_
    exact f_ret (r_two rfl rfl rfl) (⟨itemB x, a53, c53, by rw [wrI, if_pos hok], by rw [show chkI x = 0 from if_pos hok]; rfl, rfl⟩) (fun w S => S)
  · -- h2F
   have h2b := h2
   try simp only [decide_eq_false_iff_not, Int.not_lt, Int.not_le] at h2
   refine o_yes rfl rfl rfl ?_
   refine o_fieldAddr (q := ⟨b1, 0, none⟩) rfl rfl Tryz.underlying50 rfl ti3 rfl ?_
   refine o_yes rfl rfl rfl ?_
   refine o_load1 rfl rfl Tryz.underlying3 rfl (rd_mem 0 rfl rfl) ?_
   refine o_yes rfl rfl rfl ?_
   refine o_bin rfl rfl rfl b_eql ?_
   refine o_yes rfl rfl rfl ?_
   refine o_move rfl rfl ?_
   refine l_split (t := 18) rfl (fun h4 => ?_) (fun h4 => ?_)
   · -- h4T
    have h4b := h4
    try simp only [decide_eq_true_eq] at h4
    refine o_yes rfl rfl rfl ?_
    refine o_fieldAddr (q := ⟨b1, 1, none⟩) rfl rfl Tryz.underlying50 rfl ti3 rfl ?_
    refine o_yes rfl rfl rfl ?_
    refine o_load1 rfl rfl Tryz.underlying3 rfl (rd_mem 0 rfl rfl) ?_
    refine o_yes rfl rfl rfl ?_
    refine o_bin rfl rfl rfl b_geq ?_
    refine o_yes rfl rfl rfl ?_
    refine o_pick_true rfl rfl rfl ?_
    refine o_yes rfl rfl rfl ?_
    refine o_move rfl rfl ?_
    refine l_split (t := 23) rfl (fun h5 => ?_) (fun h5 => ?_)
    · -- h5T
     have h5b := h5
     try simp only [decide_eq_true_eq] at h5
     refine o_yes rfl rfl rfl ?_
     refine o_fieldAddr (q := ⟨b1, 1, none⟩) rfl rfl Tryz.underlying50 rfl ti3 rfl ?_
     refine o_yes rfl rfl rfl ?_
     refine o_load1 rfl rfl Tryz.underlying3 rfl (rd_mem 0 rfl rfl) ?_
     refine o_yes rfl rfl rfl ?_
     refine o_bin rfl rfl rfl b_lss ?_
     refine o_yes rfl rfl rfl ?_
     refine o_pick_true rfl rfl rfl ?_
     refine o_pick_false rfl rfl rfl ?_
     refine o_assign rfl rfl ?_
     refine l_nil ?_
     refine q_then ?_
     refine c_seq ?_
     refine c_seq ?_
     refine c_region ?_
     refine o_move rfl rfl ?_
     refine o_not rfl rfl ?_
     refine o_move rfl rfl ?_
     refine l_split (t := 31) rfl (fun h6 => ?_) (fun h6 => ?_)
     · -- h6T
      have h6b := h6
      try simp only [Bool.not_eq_true', decide_eq_false_iff_not, Int.not_lt, Int.not_le] at h6
      refine o_no rfl rfl rfl rfl ?_
      refine o_no rfl rfl rfl rfl ?_
      refine o_no rfl rfl rfl rfl ?_
      refine o_no rfl rfl rfl rfl ?_
      refine o_pick_true rfl rfl rfl ?_
      refine l_nil ?_
      refine q_then ?_
      refine c_true rfl ?_
      refine c_seq ?_
      have hno : ¬ (ItOk x ∧ OrdOk x.ord 3) := by unfold ItOk; first | (intro h9; omega) | (rintro ⟨h8, h9⟩; first | omega | (exact absurd (chkO_yes h9) (by assumption)) | (rw [chkO_yes h9] at *; simp_all))
      refine c_nilrow e8 ?_
      refine c_region ?_
      refine o_assign rfl rfl ?_
      refine o_assign rfl rfl ?_
      refine l_nil ?_
      refine q_then ?_
      refine c_ret ?_
      refine q_pass_ret ?_
      refine q_conv (fun w S => (S.perm p1).tail) ?_
      exact f_ret (r_two rfl rfl rfl) (⟨[], none, 0, by rw [wrI, if_neg hno], by rw [show chkI x = 1 from if_neg hno]; rfl, rfl⟩) (fun w S => S)
     · -- h6F
      have h6b := h6
      try simp only [Bool.not_eq_false', decide_eq_true_eq] at h6
      refine o_yes rfl rfl rfl ?_
      refine o_fieldAddr (q := ⟨b1, 2, none⟩) rfl rfl Tryz.underlying50 rfl ti33 rfl ?_
      refine o_yes rfl rfl rfl ?_
      refine o_loadn (vs := [_, _, _, _, _, _, _, _, _, _]) rfl rfl Tryz.underlying33 rfl ti33 (rdn_lit 0 rfl rfl) ?_
      refine o_yes rfl rfl rfl ?_
      refine o_call rfl cal22 rfl (ocheck_ (o := x.ord) (g := 3) (OrdR.c T_x) (okb_of sm) (by have := sm.m; omega)) ?_
      rintro _ _ ⟨rfl, rfl⟩
      refine o_yes rfl rfl rfl ?_
      refine o_bin rfl rfl rfl b_neq ?_
      refine o_pick_false rfl rfl rfl ?_
      refine l_nil ?_
      refine q_then ?_
      refine c_cond rfl (fun h7 => ?_) (fun h7 => ?_)
      · -- h7T
       have h7b := h7
       try simp only [Bool.not_eq_true', decide_eq_false_iff_not, Int.not_lt, Int.not_le] at h7
       refine c_seq ?_
       have hno : ¬ (ItOk x ∧ OrdOk x.ord 3) := by unfold ItOk; first | (intro h9; omega) | (rintro ⟨h8, h9⟩; first | omega | (exact absurd (chkO_yes h9) (by assumption)) | (rw [chkO_yes h9] at *; simp_all))
       refine c_nilrow e8 ?_
       refine c_region ?_
       refine o_assign rfl rfl ?_
       refine o_assign rfl rfl ?_
       refine l_nil ?_
       refine q_then ?_
       refine c_ret ?_
       refine q_pass_ret ?_
       refine q_conv (fun w S => (S.perm p1).tail) ?_
       exact f_ret (r_two rfl rfl rfl) (⟨[], none, 0, by rw [wrI, if_neg hno], by rw [show chkI x = 1 from if_neg hno]; rfl, rfl⟩) (fun w S => S)
      · -- h7F
       have h7b := h7
       try simp only [Bool.not_eq_false', decide_eq_true_eq] at h7
       refine c_skip ?_
       refine q_then ?_
       refine c_seq ?_
       have hok : ItOk x ∧ OrdOk x.ord 3 := ⟨by unfold ItOk; omega, chkO_0.1 (by first | assumption | simp_all)⟩
       have hh := it_hd hok.1
       have hbl := ordB_len hok.2 wf sm
       have g1 := hh x.f_Kind (by simp)
       have g2 := hh x.f_Index (by simp)
       have hnl := numsB_len (ns := [x.f_Kind, x.f_Index]) fun y hy => (hh y hy).2
       have l2 : [x.f_Kind, x.f_Index].length = 2 := rfl
       refine c_region ?_
       refine o_build rfl sp68 ti68 rfl rfl ?_
       refine o_box rfl rfl fun b38 => ?_
       refine l_nilrow e8 ?_
       refine l_conv (L' := blk b38 (.cells #[.slice none (([] : List UInt8)).length 0] 68 (0, 0)) :: row e8.T e8.sz none (([] : List UInt8)).length 0 (flat e8 ([] : List UInt8)) :: _) (fun w S => S.perm p1) ?_
       refine o_assign rfl rfl ?_
       refine l_nil ?_
       refine q_then ?_
       refine c_seq ?_
       refine c_region ?_
       refine o_move rfl rfl ?_
       refine o_fieldAddr (q := ⟨b1, 0, none⟩) rfl rfl Tryz.underlying50 rfl ti3 rfl ?_
       refine o_load1 rfl rfl Tryz.underlying3 rfl (rd_mem 2 rfl rfl) ?_
       refine o_int rfl rfl Tryz.underlying3 Tryz.underlying22 (wrap_u64 (by omega) (by omega)) ?_
       refine o_fieldAddr (q := ⟨b1, 1, none⟩) rfl rfl Tryz.underlying50 rfl ti3 rfl ?_
       refine o_load1 rfl rfl Tryz.underlying3 rfl (rd_mem 2 rfl rfl) ?_
       refine o_int rfl rfl Tryz.underlying3 Tryz.underlying22 (wrap_u64 (by omega) (by omega)) ?_
       refine o_lit e_U64_ok rfl Tryz.underlying110 rfl rfl rfl (lit_ok rfl) [x.f_Kind, x.f_Index] rfl rfl fun a46 => ?_
       refine l_f2 ?_
       refine l_f2 ?_
       refine o_call rfl cal33 rfl (nums_ (ns := [x.f_Kind, x.f_Index]) (rds_own e_U64_ok 0 rfl) (it_hd hok.1) (by show _ ≤ 100; exact Nat.le_of_ble_eq_true rfl) (by (try simp only [List.length_append, List.length_nil]); omega)) ?_
       rintro _ _ ⟨a47, c47, rfl, rfl⟩
       refine l_nil ?_
       refine q_then ?_
       refine c_seq ?_
       refine c_region ?_
       refine o_move rfl rfl ?_
       refine o_fieldAddr (q := ⟨b1, 2, none⟩) rfl rfl Tryz.underlying50 rfl ti33 rfl ?_
       refine o_loadn (vs := [_, _, _, _, _, _, _, _, _, _]) rfl rfl Tryz.underlying33 rfl ti33 (rdn_lit 3 rfl rfl) ?_
       refine l_f1 ?_
       refine l_f1 ?_
       refine o_call rfl cal23 rfl (owrite_ (o := x.ord) (OrdR.c (OrdR.c T_x)) hok.2 wf sm (by (try simp only [List.length_append, List.length_nil]); omega)) ?_
       rintro _ _ ⟨a51, c51, rfl, rfl⟩
       refine l_nil ?_
       refine q_then ?_
       refine c_seq ?_
       refine c_region ?_
       refine o_move rfl rfl ?_
       refine l_f1 ?_
       refine l_f1 ?_
       refine o_call rfl cal24 rfl (penData (by (try simp only [List.length_append, List.length_nil]); omega)) ?_
       rintro _ _ ⟨a53, c53, rfl, rfl⟩
       refine o_assign rfl rfl ?_
       refine o_assign rfl rfl ?_
       refine l_nil ?_
       refine q_then ?_
       refine c_ret ?_
       refine q_conv (fun w S => (S.perm p1).tail) ?_
       refine q_conv (fun w S => (S.perm p1).tail) ?_
       refine q_conv (fun w S => (S.perm p1).tail) ?_
       refine q_conv (fun w S => (S.perm p1).tail) ?_
       exact f_ret (r_two rfl rfl rfl) (⟨itemB x, a53, c53, by rw [wrI, if_pos hok], by rw [show chkI x = 0 from if_pos hok]; rfl, rfl⟩) (fun w S => S)
    · -- h5F
     have h5b := h5
     try simp only [decide_eq_false_iff_not, Int.not_lt, Int.not_le] at h5
     refine o_no rfl rfl rfl rfl ?_
     refine o_no rfl rfl rfl rfl ?_
     refine o_no rfl rfl rfl rfl ?_
     refine o_yes rfl rfl rfl ?_
     refine o_pick_false rfl rfl rfl ?_
     refine o_pick_false rfl rfl rfl ?_
     refine o_assign rfl rfl ?_
     refine l_nil ?_
     refine q_then ?_
     refine c_seq ?_
     refine c_seq ?_
     refine c_region ?_
     refine o_move rfl rfl ?_
     refine o_not rfl rfl ?_
     refine o_move rfl rfl ?_
     refine o_no rfl rfl rfl rfl ?_
     refine o_no rfl rfl rfl rfl ?_
     refine o_no rfl rfl rfl rfl ?_
     refine o_no rfl rfl rfl rfl ?_
     refine o_pick_true rfl rfl rfl ?_
     refine l_nil ?_
     refine q_then ?_
     refine c_true rfl ?_
     refine c_seq ?_
     have hno : ¬ (ItOk x ∧ OrdOk x.ord 3) := by unfold ItOk; first | (intro h9; omega) | (rintro ⟨h8, h9⟩; first | omega | (exact absurd (chkO_yes h9) (by assumption)) | (rw [chkO_yes h9] at *; simp_all))
     refine c_nilrow e8 ?_
     refine c_region ?_
     refine o_assign rfl rfl ?_
     refine o_assign rfl rfl ?_
     refine l_nil ?_
     refine q_then ?_
     refine c_ret ?_
     refine q_pass_ret ?_
     refine q_conv (fun w S => (S.perm p1).tail) ?_
     exact f_ret (r_two rfl rfl rfl) (⟨[], none, 0, by rw [wrI, if_neg hno], by rw [show chkI x = 1 from if_neg hno]; rfl, rfl⟩) (fun w S => S)
   · -- h4F
    have h4b := h4
    try simp only [decide_eq_false_iff_not, Int.not_lt, Int.not_le] at h4
    refine o_no rfl rfl rfl rfl ?_
    refine o_no rfl rfl rfl rfl ?_
    refine o_no rfl rfl rfl rfl ?_
    refine o_yes rfl rfl rfl ?_
    refine o_pick_false rfl rfl rfl ?_
    refine o_yes rfl rfl rfl ?_
    refine o_move rfl rfl ?_
    refine o_no rfl rfl rfl rfl ?_
    refine o_no rfl rfl rfl rfl ?_
    refine o_no rfl rfl rfl rfl ?_
    refine o_yes rfl rfl rfl ?_
    refine o_pick_false rfl rfl rfl ?_
    refine o_pick_false rfl rfl rfl ?_
    refine o_assign rfl rfl ?_
    refine l_nil ?_
    refine q_then ?_
    refine c_seq ?_
    refine c_seq ?_
    refine c_region ?_
    refine o_move rfl rfl ?_
    refine o_not rfl rfl ?_
    refine o_move rfl rfl ?_
    refine o_no rfl rfl rfl rfl ?_
    refine o_no rfl rfl rfl rfl ?_
    refine o_no rfl rfl rfl rfl ?_
    refine o_no rfl rfl rfl rfl ?_
    refine o_pick_true rfl rfl rfl ?_
    refine l_nil ?_
    refine q_then ?_
    refine c_true rfl ?_
    refine c_seq ?_
    have hno : ¬ (ItOk x ∧ OrdOk x.ord 3) := by unfold ItOk; first | (intro h9; omega) | (rintro ⟨h8, h9⟩; first | omega | (exact absurd (chkO_yes h9) (by assumption)) | (rw [chkO_yes h9] at *; simp_all))
    refine c_nilrow e8 ?_
    refine c_region ?_
    refine o_assign rfl rfl ?_
    refine o_assign rfl rfl ?_
    refine l_nil ?_
    refine q_then ?_
    refine c_ret ?_
    refine q_pass_ret ?_
    refine q_conv (fun w S => (S.perm p1).tail) ?_
    exact f_ret (r_two rfl rfl rfl) (⟨[], none, 0, by rw [wrI, if_neg hno], by rw [show chkI x = 1 from if_neg hno]; rfl, rfl⟩) (fun w S => S)
 · -- h1F
  have h1b := h1
  try simp only [decide_eq_false_iff_not, Int.not_lt, Int.not_le] at h1
  refine o_no rfl rfl rfl rfl ?_
  refine o_no rfl rfl rfl rfl ?_
  refine o_no rfl rfl rfl rfl ?_
  refine o_pick_false rfl rfl rfl ?_
  refine o_move rfl rfl ?_
  refine o_yes rfl rfl rfl ?_
  refine o_fieldAddr (q := ⟨b1, 0, none⟩) rfl rfl Tryz.underlying50 rfl ti3 rfl ?_
  refine o_yes rfl rfl rfl ?_
  refine o_load1 rfl rfl Tryz.underlying3 rfl (rd_mem 0 rfl rfl) ?_
  refine o_yes rfl rfl rfl ?_
  refine o_bin rfl rfl rfl b_eql ?_
  refine o_yes rfl rfl rfl ?_
  refine o_move rfl rfl ?_
  refine l_split (t := 18) rfl (fun h8 => ?_) (fun h8 => ?_)
  · -- h8T
   have h8b := h8
   try simp only [decide_eq_true_eq] at h8
   refine o_yes rfl rfl rfl ?_
   refine o_fieldAddr (q := ⟨b1, 1, none⟩) rfl rfl Tryz.underlying50 rfl ti3 rfl ?_
   refine o_yes rfl rfl rfl ?_
   refine o_load1 rfl rfl Tryz.underlying3 rfl (rd_mem 0 rfl rfl) ?_
   refine o_yes rfl rfl rfl ?_
   refine o_bin rfl rfl rfl b_geq ?_
   refine o_yes rfl rfl rfl ?_
   refine o_pick_true rfl rfl rfl ?_
   refine o_yes rfl rfl rfl ?_
   refine o_move rfl rfl ?_
   refine l_split (t := 23) rfl (fun h9 => ?_) (fun h9 => ?_)
   · -- h9T
    have h9b := h9
    try simp only [decide_eq_true_eq] at h9
    refine o_yes rfl rfl rfl ?_
    refine o_fieldAddr (q := ⟨b1, 1, none⟩) rfl rfl Tryz.underlying50 rfl ti3 rfl ?_
    refine o_yes rfl rfl rfl ?_
    refine o_load1 rfl rfl Tryz.underlying3 rfl (rd_mem 0 rfl rfl) ?_
    refine o_yes rfl rfl rfl ?_
    refine o_bin rfl rfl rfl b_lss ?_
    refine o_yes rfl rfl rfl ?_
    refine o_pick_true rfl rfl rfl ?_
    refine o_pick_false rfl rfl rfl ?_
    refine o_assign rfl rfl ?_
    refine l_nil ?_
    refine q_then ?_
    refine c_seq ?_
    refine c_seq ?_
    refine c_region ?_
    refine o_move rfl rfl ?_
    refine o_not rfl rfl ?_
    refine o_move rfl rfl ?_
    refine l_split (t := 31) rfl (fun h10 => ?_) (fun h10 => ?_)
    · -- h10T
     have h10b := h10
     try simp only [Bool.not_eq_true', decide_eq_false_iff_not, Int.not_lt, Int.not_le] at h10
     refine o_no rfl rfl rfl rfl ?_
     refine o_no rfl rfl rfl rfl ?_
     refine o_no rfl rfl rfl rfl ?_
     refine o_no rfl rfl rfl rfl ?_
     refine o_pick_true rfl rfl rfl ?_
     refine l_nil ?_
     refine q_then ?_
     refine c_true rfl ?_
     refine c_seq ?_
     have hno : ¬ (ItOk x ∧ OrdOk x.ord 3) := by unfold ItOk; first | (intro h9; omega) | (rintro ⟨h8, h9⟩; first | omega | (exact absurd (chkO_yes h9) (by assumption)) | (rw [chkO_yes h9] at *; simp_all))
     refine c_nilrow e8 ?_
     refine c_region ?_
     refine o_assign rfl rfl ?_
     refine o_assign rfl rfl ?_
     refine l_nil ?_
     refine q_then ?_
     refine c_ret ?_
     refine q_pass_ret ?_
     refine q_conv (fun w S => (S.perm p1).tail) ?_
     exact f_ret (r_two rfl rfl rfl) (⟨[], none, 0, by rw [wrI, if_neg hno], by rw [show chkI x = 1 from if_neg hno]; rfl, rfl⟩) (fun w S => S)
    · -- h10F
     have h10b := h10
     try simp only [Bool.not_eq_false', decide_eq_true_eq] at h10
     refine o_yes rfl rfl rfl ?_
     refine o_fieldAddr (q := ⟨b1, 2, none⟩) rfl rfl Tryz.underlying50 rfl ti33 rfl ?_
     refine o_yes rfl rfl rfl ?_
     refine o_loadn (vs := [_, _, _, _, _, _, _, _, _, _]) rfl rfl Tryz.underlying33 rfl ti33 (rdn_lit 0 rfl rfl) ?_
     refine o_yes rfl rfl rfl ?_
     refine o_call rfl cal22 rfl (ocheck_ (o := x.ord) (g := 3) (OrdR.c T_x) (okb_of sm) (by have := sm.m; omega)) ?_
     rintro _ _ ⟨rfl, rfl⟩
     refine o_yes rfl rfl rfl ?_
     refine o_bin rfl rfl rfl b_neq ?_
     refine o_pick_false rfl rfl rfl ?_
     refine l_nil ?_
     refine q_then ?_
     refine c_cond rfl (fun h11 => ?_) (fun h11 => ?_)
     · -- h11T
      have h11b := h11
      try simp only [Bool.not_eq_true', decide_eq_false_iff_not, Int.not_lt, Int.not_le] at h11
      refine c_seq ?_
      have hno : ¬ (ItOk x ∧ OrdOk x.ord 3) := by unfold ItOk; first | (intro h9; omega) | (rintro ⟨h8, h9⟩; first | omega | (exact absurd (chkO_yes h9) (by assumption)) | (rw [chkO_yes h9] at *; simp_all))
      refine c_nilrow e8 ?_
      refine c_region ?_
      refine o_assign rfl rfl ?_
      refine o_assign rfl rfl ?_
      refine l_nil ?_
      refine q_then ?_
      refine c_ret ?_
      refine q_pass_ret ?_
      refine q_conv (fun w S => (S.perm p1).tail) ?_
      exact f_ret (r_two rfl rfl rfl) (⟨[], none, 0, by rw [wrI, if_neg hno], by rw [show chkI x = 1 from if_neg hno]; rfl, rfl⟩) (fun w S => S)
     · -- h11F
      have h11b := h11
      try simp only [Bool.not_eq_false', decide_eq_true_eq] at h11
      refine c_skip ?_
      refine q_then ?_
      refine c_seq ?_
      have hok : ItOk x ∧ OrdOk x.ord 3 := ⟨by unfold ItOk; omega, chkO_0.1 (by first | assumption | simp_all)⟩
      have hh := it_hd hok.1
      have hbl := ordB_len hok.2 wf sm
      have g1 := hh x.f_Kind (by simp)
      have g2 := hh x.f_Index (by simp)
      have hnl := numsB_len (ns := [x.f_Kind, x.f_Index]) fun y hy => (hh y hy).2
      have l2 : [x.f_Kind, x.f_Index].length = 2 := rfl
      refine c_region ?_
      refine o_build rfl sp68 ti68 rfl rfl ?_
      refine o_box rfl rfl fun b38 => ?_
      refine l_nilrow e8 ?_
      refine l_conv (L' := blk b38 (.cells #[.slice none (([] : List UInt8)).length 0] 68 (0, 0)) :: row e8.T e8.sz none (([] : List UInt8)).length 0 (flat e8 ([] : List UInt8)) :: _) (fun w S => S.perm p1) ?_
      refine o_assign rfl rfl ?_
      refine l_nil ?_
      refine q_then ?_
      refine c_seq ?_
      refine c_region ?_
      refine o_move rfl rfl ?_
      refine o_fieldAddr (q := ⟨b1, 0, none⟩) rfl rfl Tryz.underlying50 rfl ti3 rfl ?_
      refine o_load1 rfl rfl Tryz.underlying3 rfl (rd_mem 2 rfl rfl) ?_
      refine o_int rfl rfl Tryz.underlying3 Tryz.underlying22 (wrap_u64 (by omega) (by omega)) ?_
      refine o_fieldAddr (q := ⟨b1, 1, none⟩) rfl rfl Tryz.underlying50 rfl ti3 rfl ?_
      refine o_load1 rfl rfl Tryz.underlying3 rfl (rd_mem 2 rfl rfl) ?_
      refine o_int rfl rfl Tryz.underlying3 Tryz.underlying22 (wrap_u64 (by omega) (by omega)) ?_
      refine o_lit e_U64_ok rfl Tryz.underlying110 rfl rfl rfl (lit_ok rfl) [x.f_Kind, x.f_Index] rfl rfl fun a46 => ?_
      refine l_f2 ?_
      refine l_f2 ?_
      refine o_call rfl cal33 rfl (nums_ (ns := [x.f_Kind, x.f_Index]) (rds_own e_U64_ok 0 rfl) (it_hd hok.1) (by show _ ≤ 100; exact Nat.le_of_ble_eq_true rfl) (by (try simp only [List.length_append, List.length_nil]); omega)) ?_
      rintro _ _ ⟨a47, c47, rfl, rfl⟩
      refine l_nil ?_
      refine q_then ?_
      refine c_seq ?_
      refine c_region ?_
      refine o_move rfl rfl ?_
      refine o_fieldAddr (q := ⟨b1, 2, none⟩) rfl rfl Tryz.underlying50 rfl ti33 rfl ?_
      refine o_loadn (vs := [_, _, _, _, _, _, _, _, _, _]) rfl rfl Tryz.underlying33 rfl ti33 (rdn_lit 3 rfl rfl) ?_
      refine l_f1 ?_
      refine l_f1 ?_
      refine o_call rfl cal23 rfl (owrite_ (o := x.ord) (OrdR.c (OrdR.c T_x)) hok.2 wf sm (by (try simp only [List.length_append, List.length_nil]); omega)) ?_
      rintro _ _ ⟨a51, c51, rfl, rfl⟩
      refine l_nil ?_
      refine q_then ?_
      refine c_seq ?_
      refine c_region ?_
      refine o_move rfl rfl ?_
      refine l_f1 ?_
      refine l_f1 ?_
      refine o_call rfl cal24 rfl (penData (by (try simp only [List.length_append, List.length_nil]); omega)) ?_
      rintro _ _ ⟨a53, c53, rfl, rfl⟩
      refine o_assign rfl rfl ?_
      refine o_assign rfl rfl ?_
      refine l_nil ?_
      refine q_then ?_
      refine c_ret ?_
      refine q_conv (fun w S => (S.perm p1).tail) ?_
      refine q_conv (fun w S => (S.perm p1).tail) ?_
      refine q_conv (fun w S => (S.perm p1).tail) ?_
      refine q_conv (fun w S => (S.perm p1).tail) ?_
      exact f_ret (r_two rfl rfl rfl) (⟨itemB x, a53, c53, by rw [wrI, if_pos hok], by rw [show chkI x = 0 from if_pos hok]; rfl, rfl⟩) (fun w S => S)
   · -- h9F
    have h9b := h9
    try simp only [decide_eq_false_iff_not, Int.not_lt, Int.not_le] at h9
    refine o_no rfl rfl rfl rfl ?_
    refine o_no rfl rfl rfl rfl ?_
    refine o_no rfl rfl rfl rfl ?_
    refine o_yes rfl rfl rfl ?_
    refine o_pick_false rfl rfl rfl ?_
    refine o_pick_false rfl rfl rfl ?_
    refine o_assign rfl rfl ?_
    refine l_nil ?_
    refine q_then ?_
    refine c_seq ?_
    refine c_seq ?_
    refine c_region ?_
    refine o_move rfl rfl ?_
    refine o_not rfl rfl ?_
    refine o_move rfl rfl ?_
    refine o_no rfl rfl rfl rfl ?_
    refine o_no rfl rfl rfl rfl ?_
    refine o_no rfl rfl rfl rfl ?_
    refine o_no rfl rfl rfl rfl ?_
    refine o_pick_true rfl rfl rfl ?_
    refine l_nil ?_
    refine q_then ?_
    refine c_true rfl ?_
    refine c_seq ?_
    have hno : ¬ (ItOk x ∧ OrdOk x.ord 3) := by unfold ItOk; first | (intro h9; omega) | (rintro ⟨h8, h9⟩; first | omega | (exact absurd (chkO_yes h9) (by assumption)) | (rw [chkO_yes h9] at *; simp_all))
    refine c_nilrow e8 ?_
    refine c_region ?_
    refine o_assign rfl rfl ?_
    refine o_assign rfl rfl ?_
    refine l_nil ?_
    refine q_then ?_
    refine c_ret ?_
    refine q_pass_ret ?_
    refine q_conv (fun w S => (S.perm p1).tail) ?_
    exact f_ret (r_two rfl rfl rfl) (⟨[], none, 0, by rw [wrI, if_neg hno], by rw [show chkI x = 1 from if_neg hno]; rfl, rfl⟩) (fun w S => S)
  · -- h8F
   have h8b := h8
   try simp only [decide_eq_false_iff_not, Int.not_lt, Int.not_le] at h8
   refine o_no rfl rfl rfl rfl ?_
   refine o_no rfl rfl rfl rfl ?_
   refine o_no rfl rfl rfl rfl ?_
   refine o_yes rfl rfl rfl ?_
   refine o_pick_false rfl rfl rfl ?_
   refine o_yes rfl rfl rfl ?_
   refine o_move rfl rfl ?_
   refine o_no rfl rfl rfl rfl ?_
   refine o_no rfl rfl rfl rfl ?_
   refine o_no rfl rfl rfl rfl ?_
   refine o_yes rfl rfl rfl ?_
   refine o_pick_false rfl rfl rfl ?_
   refine o_pick_false rfl rfl rfl ?_
   refine o_assign rfl rfl ?_
   refine l_nil ?_
   refine q_then ?_
   refine c_seq ?_
   refine c_seq ?_
   refine c_region ?_
   refine o_move rfl rfl ?_
   refine o_not rfl rfl ?_
   refine o_move rfl rfl ?_
   refine o_no rfl rfl rfl rfl ?_
   refine o_no rfl rfl rfl rfl ?_
   refine o_no rfl rfl rfl rfl ?_
   refine o_no rfl rfl rfl rfl ?_
   refine o_pick_true rfl rfl rfl ?_
   refine l_nil ?_
   refine q_then ?_
   refine c_true rfl ?_
   refine c_seq ?_
   have hno : ¬ (ItOk x ∧ OrdOk x.ord 3) := by unfold ItOk; first | (intro h9; omega) | (rintro ⟨h8, h9⟩; first | omega | (exact absurd (chkO_yes h9) (by assumption)) | (rw [chkO_yes h9] at *; simp_all))
   refine c_nilrow e8 ?_
   refine c_region ?_
   refine o_assign rfl rfl ?_
   refine o_assign rfl rfl ?_
   refine l_nil ?_
   refine q_then ?_
   refine c_ret ?_
   refine q_pass_ret ?_
   refine q_conv (fun w S => (S.perm p1).tail) ?_
   exact f_ret (r_two rfl rfl rfl) (⟨[], none, 0, by rw [wrI, if_neg hno], by rw [show chkI x = 1 from if_neg hno]; rfl, rfl⟩) (fun w S => S)
end
end
section
set_option linter.unusedVariables false
set_option linter.unusedSimpArgs false
set_option maxRecDepth 10000
open Go.RowKit Classical
theorem n9_ {W : World} {F : List Res} {k i : Nat} {xs ys : List UInt8} {a : Option Addr} {c : Nat} {bd : Bool} (hs : SlR W e8 a xs) (hy : ys = xs.drop i) (hil : i ≤ xs.length) (hsm : xs.length ≤ 70000000000000) (hcc : xs.length ≤ c) : CS Tryz.prog 56 #[.pointer (some ⟨k, 0, none⟩)] W (blk k (.cells #[.slice a (xs).length c, .int .i64 (i : Int), .bool bd] 83 (0, 0)) :: F) (fun r L' => r = .int .u64 ((numR 0 0 ys).1 : Int) ∧ L' = blk k (.cells #[.slice a (xs).length c, .int .i64 ((i + (numR 0 0 ys).2.2 : Nat) : Int), .bool (bd || !decide (((numR 0 0 ys).2.1 : Int) = 0))] 83 (0, 0)) :: F) := by
 refine f_door (l0 := [(0, .pointer (some ⟨k, 0, none⟩))]) Tryz.func56 Tryz.ntmps56 rfl rfl rfl ?_
 refine c_seq ?_
 refine c_region ?_
 refine o_assign rfl rfl ?_
 refine l_nil ?_
 refine q_then ?_
 refine c_seq ?_
 refine c_region ?_
 refine o_move rfl rfl ?_
 refine o_nil rfl rfl ?_
 refine o_fieldAddr (q := ⟨k, 0, none⟩) rfl rfl Tryz.underlying83 rfl ti81 rfl ?_
 refine o_call rfl cal73 rfl (rEyeNum (bd := bd) hs hy hil hsm hcc) ?_
 rintro _ _ ⟨rfl, rfl⟩
 refine o_move rfl rfl ?_
 refine o_extract rfl rfl rfl ?_
 refine o_extract rfl rfl rfl ?_
 refine o_assign rfl rfl ?_
 refine o_assign rfl rfl ?_
 refine l_nil ?_
 refine q_then ?_
 refine c_seq ?_
 refine c_region ?_
 refine o_move rfl rfl ?_
 refine o_move rfl rfl ?_
 refine o_nil rfl rfl ?_
 refine o_fieldAddr (q := ⟨k, 2, none⟩) rfl rfl Tryz.underlying83 rfl ti4 rfl ?_
 refine o_load1 rfl rfl Tryz.underlying4 rfl (rd_mem 0 rfl rfl) ?_
 refine o_move rfl rfl ?_
 refine l_split (t := 17) rfl (fun h1 => ?_) (fun h1 => ?_)
 · -- h1T
  have h1b := h1
  try simp only [decide_eq_true_eq, decide_eq_false_iff_not, Bool.not_eq_eq_eq_not, Bool.not_true, Bool.not_false, Bool.not_eq_true', Bool.not_eq_false', Int.not_lt, Int.not_le, Bool.or_eq_true, Bool.and_eq_true] at h1
  refine o_no rfl rfl rfl rfl ?_
  refine o_no rfl rfl rfl rfl ?_
  refine o_pick_true rfl rfl rfl ?_
  refine o_nil rfl rfl ?_
  refine o_fieldAddr (q := ⟨k, 2, none⟩) rfl rfl Tryz.underlying83 rfl ti4 rfl ?_
  refine o_store1 rfl rfl rfl ti4 rfl rfl ?_
  refine l_nil ?_
  refine q_then ?_
  refine c_seq ?_
  refine c_region ?_
  refine o_move rfl rfl ?_
  refine o_assign rfl rfl ?_
  refine l_nil ?_
  refine q_then ?_
  refine c_ret ?_
  exact f_ret (r_one rfl rfl) (⟨rfl, by rw [h1b]; rfl⟩) (fun w S => S)
 · -- h1F
  have h1b := h1
  try simp only [decide_eq_true_eq, decide_eq_false_iff_not, Bool.not_eq_eq_eq_not, Bool.not_true, Bool.not_false, Bool.not_eq_true', Bool.not_eq_false', Int.not_lt, Int.not_le, Bool.or_eq_true, Bool.and_eq_true] at h1
  refine o_yes rfl rfl rfl ?_
  refine o_move rfl rfl ?_
  refine o_yes rfl rfl rfl ?_
  refine o_bin rfl rfl rfl b_neq ?_
  refine o_pick_false rfl rfl rfl ?_
  refine o_nil rfl rfl ?_
  refine o_fieldAddr (q := ⟨k, 2, none⟩) rfl rfl Tryz.underlying83 rfl ti4 rfl ?_
  refine o_store1 rfl rfl rfl ti4 rfl rfl ?_
  refine l_nil ?_
  refine q_then ?_
  refine c_seq ?_
  refine c_region ?_
  refine o_move rfl rfl ?_
  refine o_assign rfl rfl ?_
  refine l_nil ?_
  refine q_then ?_
  refine c_ret ?_
  exact f_ret (r_one rfl rfl) (⟨rfl, by rw [h1b]; rfl⟩) (fun w S => S)
def fewR (ys : List UInt8) : Int := if 1000 < (numR 0 0 ys).1 then 0 else ((numR 0 0 ys).1 : Int)
def fewB (bd : Bool) (ys : List UInt8) : Bool := (bd || !decide (((numR 0 0 ys).2.1 : Int) = 0)) || decide (1000 < (numR 0 0 ys).1)
theorem few9_ {W : World} {F : List Res} {k i : Nat} {xs ys : List UInt8} {a : Option Addr} {c : Nat} {bd : Bool} (hs : SlR W e8 a xs) (hy : ys = xs.drop i) (hil : i ≤ xs.length) (hsm : xs.length ≤ 70000000000000) (hcc : xs.length ≤ c) : CS Tryz.prog 37 #[.pointer (some ⟨k, 0, none⟩)] W (blk k (.cells #[.slice a (xs).length c, .int .i64 (i : Int), .bool bd] 83 (0, 0)) :: F) (fun r L' => r = .int .i64 (fewR ys) ∧ L' = blk k (.cells #[.slice a (xs).length c, .int .i64 ((i + (numR 0 0 ys).2.2 : Nat) : Int), .bool (fewB bd ys)] 83 (0, 0)) :: F) := by
 refine f_door (l0 := [(0, .pointer (some ⟨k, 0, none⟩))]) Tryz.func37 Tryz.ntmps37 rfl rfl rfl ?_
 refine c_seq ?_
 refine c_region ?_
 refine o_assign rfl rfl ?_
 refine l_nil ?_
 refine q_then ?_
 refine c_seq ?_
 refine c_region ?_
 refine o_move rfl rfl ?_
 refine o_call rfl cal56 rfl (n9_ (bd := bd) hs hy hil hsm hcc) ?_
 rintro _ _ ⟨rfl, rfl⟩
 refine o_assign rfl rfl ?_
 refine l_nil ?_
 refine q_then ?_
 refine c_seq ?_
 refine c_seq ?_
 refine c_region ?_
 refine o_move rfl rfl ?_
 refine o_bin rfl rfl rfl b_gtr ?_
 refine l_nil ?_
 refine q_then ?_
 refine c_cond rfl (fun h1 => ?_) (fun h1 => ?_)
 · -- h1T
  have h1b := h1
  try simp only [decide_eq_true_eq] at h1
  refine c_seq ?_
  refine c_region ?_
  refine o_move rfl rfl ?_
  refine o_nil rfl rfl ?_
  refine o_fieldAddr (q := ⟨k, 2, none⟩) rfl rfl Tryz.underlying83 rfl ti4 rfl ?_
  refine o_store1 rfl rfl rfl ti4 rfl rfl ?_
  refine l_nil ?_
  refine q_then ?_
  refine c_seq ?_
  refine c_region ?_
  refine o_assign rfl rfl ?_
  refine l_nil ?_
  refine q_then ?_
  refine c_ret ?_
  refine q_pass_ret ?_
  exact f_ret (r_one rfl rfl) (⟨by rw [fewR, if_pos (by omega)], by unfold fewB; rw [decide_eq_true (show 1000 < (numR 0 0 ys).1 by omega), Bool.or_true]; rfl⟩) (fun w S => S)
 · -- h1F
  have h1b := h1
  try simp only [decide_eq_false_iff_not, Int.not_lt, Int.not_le] at h1
  refine c_skip ?_
  refine q_then ?_
  refine c_seq ?_
  refine c_region ?_
  refine o_move rfl rfl ?_
  refine o_int rfl rfl Tryz.underlying22 Tryz.underlying3 (wrap_i64 (by omega) (by omega)) ?_
  refine o_assign rfl rfl ?_
  refine l_nil ?_
  refine q_then ?_
  refine c_ret ?_
  exact f_ret (r_one rfl rfl) (⟨by rw [fewR, if_neg (by omega)], by unfold fewB; rw [decide_eq_false (show ¬ 1000 < (numR 0 0 ys).1 by omega), Bool.or_false]⟩) (fun w S => S)
theorem text9_ {W : World} {F : List Res} {k i : Nat} {xs ys : List UInt8} {a : Option Addr} {c : Nat} {bd : Bool} (hs : SlR W e8 a xs) (hy : ys = xs.drop i) (hil : i ≤ xs.length) (hsm : xs.length ≤ 70000000000000) (hcc : xs.length ≤ c) : CS Tryz.prog 57 #[.pointer (some ⟨k, 0, none⟩)] W (blk k (.cells #[.slice a (xs).length c, .int .i64 (i : Int), .bool bd] 83 (0, 0)) :: F) (fun r L' => ∃ (out : List UInt8) (a2 : Option Addr) (c2 : Nat), out = (textR ys).1 ∧ r = .slice a2 out.length c2 ∧ L' = row e8.T e8.sz a2 (out).length c2 (flat e8 out) :: blk k (.cells #[.slice a (xs).length c, .int .i64 ((i + (textR ys).2.2 : Nat) : Int), .bool (bd || !decide (((textR ys).2.1 : Int) = 0))] 83 (0, 0)) :: F) := by
 refine f_door (l0 := [(0, .pointer (some ⟨k, 0, none⟩))]) Tryz.func57 Tryz.ntmps57 rfl rfl rfl ?_
 refine c_seq ?_
 refine c_region ?_
 refine o_assign rfl rfl ?_
 refine l_nil ?_
 refine q_then ?_
 refine c_seq ?_
 refine c_region ?_
 refine o_move rfl rfl ?_
 refine o_nil rfl rfl ?_
 refine o_fieldAddr (q := ⟨k, 0, none⟩) rfl rfl Tryz.underlying83 rfl ti81 rfl ?_
 refine o_call rfl cal74 rfl (rEyeText (bd := bd) hs hy hil hsm hcc) ?_
 rintro _ _ ⟨out9, a9, c9, hout9, rfl, rfl⟩
 refine o_move rfl rfl ?_
 refine o_extract rfl rfl rfl ?_
 refine o_extract rfl rfl rfl ?_
 refine o_assign rfl rfl ?_
 refine o_assign rfl rfl ?_
 refine l_nil ?_
 refine q_then ?_
 refine c_seq ?_
 refine c_region ?_
 refine o_move rfl rfl ?_
 refine o_move rfl rfl ?_
 refine o_nil rfl rfl ?_
 refine o_fieldAddr (q := ⟨k, 2, none⟩) rfl rfl Tryz.underlying83 rfl ti4 rfl ?_
 refine o_load1 rfl rfl Tryz.underlying4 rfl (rd_mem 1 rfl rfl) ?_
 refine o_move rfl rfl ?_
 refine l_split (t := 17) rfl (fun h1 => ?_) (fun h1 => ?_)
 · -- h1T
  have h1b := h1
  try simp only [decide_eq_true_eq, decide_eq_false_iff_not, Bool.not_eq_eq_eq_not, Bool.not_true, Bool.not_false, Bool.not_eq_true', Bool.not_eq_false', Int.not_lt, Int.not_le, Bool.or_eq_true, Bool.and_eq_true] at h1
  refine o_no rfl rfl rfl rfl ?_
  refine o_no rfl rfl rfl rfl ?_
  refine o_pick_true rfl rfl rfl ?_
  refine o_nil rfl rfl ?_
  refine o_fieldAddr (q := ⟨k, 2, none⟩) rfl rfl Tryz.underlying83 rfl ti4 rfl ?_
  refine l_f1 ?_
  refine o_store1 rfl rfl rfl ti4 rfl rfl ?_
  refine l_nil ?_
  refine q_then ?_
  refine c_seq ?_
  refine c_region ?_
  refine o_move rfl rfl ?_
  refine o_assign rfl rfl ?_
  refine l_nil ?_
  refine q_then ?_
  refine c_ret ?_
  refine q_conv (fun w S => S.perm p1) ?_
  exact f_ret (r_one rfl rfl) (⟨out9, _, _, hout9, rfl, by rw [h1b]; rfl⟩) (fun w S => S)
 · -- h1F
  have h1b := h1
  try simp only [decide_eq_true_eq, decide_eq_false_iff_not, Bool.not_eq_eq_eq_not, Bool.not_true, Bool.not_false, Bool.not_eq_true', Bool.not_eq_false', Int.not_lt, Int.not_le, Bool.or_eq_true, Bool.and_eq_true] at h1
  refine o_yes rfl rfl rfl ?_
  refine o_move rfl rfl ?_
  refine o_yes rfl rfl rfl ?_
  refine o_bin rfl rfl rfl b_neq ?_
  refine o_pick_false rfl rfl rfl ?_
  refine o_nil rfl rfl ?_
  refine o_fieldAddr (q := ⟨k, 2, none⟩) rfl rfl Tryz.underlying83 rfl ti4 rfl ?_
  refine l_f1 ?_
  refine o_store1 rfl rfl rfl ti4 rfl rfl ?_
  refine l_nil ?_
  refine q_then ?_
  refine c_seq ?_
  refine c_region ?_
  refine o_move rfl rfl ?_
  refine o_assign rfl rfl ?_
  refine l_nil ?_
  refine q_then ?_
  refine c_ret ?_
  refine q_conv (fun w S => S.perm p1) ?_
  exact f_ret (r_one rfl rfl) (⟨out9, _, _, hout9, rfl, by rw [h1b]; rfl⟩) (fun w S => S)
end
section
set_option linter.unusedVariables false
set_option linter.unusedSimpArgs false
set_option maxRecDepth 10000
open Go.RowKit Classical
def E9 (xs : List UInt8) (i : Nat) (ys : List UInt8) : Prop := ys = xs.drop i ∧ i ≤ xs.length
theorem E9.on {xs ys : List UInt8} {i u : Nat} (h : E9 xs i ys) (hu : u ≤ ys.length) : E9 xs (i + u) (ys.drop u) := by
  obtain ⟨h1, h2⟩ := h
  refine ⟨by rw [h1, List.drop_drop], ?_⟩
  rw [h1, List.length_drop] at hu; omega
theorem textR_used (t : List UInt8) : (textR t).2.2 ≤ t.length := by
  have hu := numR_used t 0 0
  by_cases h1 : (numR 0 0 t).2.1 = 0
  · by_cases h2 : t.length - (numR 0 0 t).2.2 < (numR 0 0 t).1
    · rw [textR_short h1 h2]; exact Nat.zero_le _
    · rw [textR_ok h1 h2]; show (numR 0 0 t).2.2 + (numR 0 0 t).1 ≤ _; omega
  · rw [textR_err h1]; exact Nat.zero_le _
theorem n9_x {W : World} {F : List Res} {k i : Nat} {xs ys : List UInt8} {a : Option Addr} {c : Nat} {bd : Bool} (hs : SlR W e8 a xs) (he : E9 xs i ys) (hsm : xs.length ≤ 70000000000000) (hcc : xs.length ≤ c) : CS Tryz.prog 56 #[.pointer (some ⟨k, 0, none⟩)] W (blk k (.cells #[.slice a (xs).length c, .int .i64 (i : Int), .bool bd] 83 (0, 0)) :: F) (fun r L' => ∃ (ys' : List UInt8) (i' : Nat) (bd' : Bool), E9 xs i' ys' ∧ ys' = ys.drop (numR 0 0 ys).2.2 ∧ bd' = (bd || !decide (((numR 0 0 ys).2.1 : Int) = 0)) ∧ r = .int .u64 ((numR 0 0 ys).1 : Int) ∧ L' = blk k (.cells #[.slice a (xs).length c, .int .i64 (i' : Int), .bool bd'] 83 (0, 0)) :: F) :=
  CS.mono (n9_ hs he.1 he.2 hsm hcc) fun r L' ⟨h1, h2⟩ => ⟨_, _, _, he.on (by have := numR_used ys 0 0; omega), rfl, rfl, h1, h2⟩
theorem few9_x {W : World} {F : List Res} {k i : Nat} {xs ys : List UInt8} {a : Option Addr} {c : Nat} {bd : Bool} (hs : SlR W e8 a xs) (he : E9 xs i ys) (hsm : xs.length ≤ 70000000000000) (hcc : xs.length ≤ c) : CS Tryz.prog 37 #[.pointer (some ⟨k, 0, none⟩)] W (blk k (.cells #[.slice a (xs).length c, .int .i64 (i : Int), .bool bd] 83 (0, 0)) :: F) (fun r L' => ∃ (ys' : List UInt8) (i' : Nat) (bd' : Bool), E9 xs i' ys' ∧ ys' = ys.drop (numR 0 0 ys).2.2 ∧ bd' = (fewB bd ys) ∧ r = .int .i64 (fewR ys) ∧ L' = blk k (.cells #[.slice a (xs).length c, .int .i64 (i' : Int), .bool bd'] 83 (0, 0)) :: F) :=
  CS.mono (few9_ hs he.1 he.2 hsm hcc) fun r L' ⟨h1, h2⟩ => ⟨_, _, _, he.on (by have := numR_used ys 0 0; omega), rfl, rfl, h1, h2⟩
theorem text9_x {W : World} {F : List Res} {k i : Nat} {xs ys : List UInt8} {a : Option Addr} {c : Nat} {bd : Bool} (hs : SlR W e8 a xs) (he : E9 xs i ys) (hsm : xs.length ≤ 70000000000000) (hcc : xs.length ≤ c) : CS Tryz.prog 57 #[.pointer (some ⟨k, 0, none⟩)] W (blk k (.cells #[.slice a (xs).length c, .int .i64 (i : Int), .bool bd] 83 (0, 0)) :: F) (fun r L' => ∃ (out ys' : List UInt8) (i' : Nat) (bd' : Bool) (a2 : Option Addr) (c2 : Nat), out = (textR ys).1 ∧ E9 xs i' ys' ∧ ys' = ys.drop (textR ys).2.2 ∧ bd' = (bd || !decide (((textR ys).2.1 : Int) = 0)) ∧ r = .slice a2 out.length c2 ∧ L' = row e8.T e8.sz a2 (out).length c2 (flat e8 out) :: blk k (.cells #[.slice a (xs).length c, .int .i64 (i' : Int), .bool bd'] 83 (0, 0)) :: F) :=
  CS.mono (text9_ hs he.1 he.2 hsm hcc) fun r L' ⟨o, a2, c2, h0, h1, h2⟩ => ⟨o, _, _, _, a2, c2, h0, he.on (textR_used ys), rfl, rfl, h1, h2⟩
end
section
set_option linter.unusedVariables false
set_option linter.unusedSimpArgs false
open Go.RowKit Classical
def smR (ys : List UInt8) : Int := ((min (numR 0 0 ys).1 2147483647 : Nat) : Int)
theorem numR_lt : ∀ (t : List UInt8) (k n : Nat), k ≤ 9 → n < 128 ^ k → (numR k n t).1 < 18446744073709551616
  | [], k, n, _, _ => by simp [numR]
  | b :: t, k, n, hk, hn => by
    have h9 := numR_next (b := b) hn
    rw [numR]
    split
    · simp
    · rename_i h
      split
      · split
        · simp
        · show n + b.toNat % 128 * 128 ^ k < _
          by_cases hk9 : k = 9
          · subst hk9
            have : 128 ^ 9 = 9223372036854775808 := by decide
            rw [this] at hn ⊢; omega
          · have := pow_le9 (k := k + 1) (by omega); omega
      · exact numR_lt t (k + 1) _ (by omega) h9
theorem numR_of {m : Nat} {s t : List UInt8} (hm : m < 18446744073709551616) (h : t = numB m ++ s) : (numR 0 0 t).1 = m ∧ (numR 0 0 t).2.1 = 0 ∧ t.drop (numR 0 0 t).2.2 = s := by
  have h1 := numR_numB s m 0 0 (by omega) (by omega) (by omega)
  rw [h, h1]
  refine ⟨by simp, rfl, ?_⟩
  show List.drop (0 + (numB m).length) _ = _
  rw [Nat.zero_add, List.drop_left]
theorem nB_of {x : Int} {s t : List UInt8} (h0 : 0 ≤ x) (hx : x < 18446744073709551616) (h : t = nB x ++ s) : ((numR 0 0 t).1 : Int) = x ∧ (numR 0 0 t).2.1 = 0 ∧ t.drop (numR 0 0 t).2.2 = s := by
  obtain ⟨h1, h2, h3⟩ := numR_of (m := x.toNat) (by omega) h
  exact ⟨by omega, h2, h3⟩
theorem bts_data (s : ByteArray) : bts s.data.toList = s := by cases s; simp [bts]
theorem textR_ofL {v s t : List UInt8} (hv : v.length < 18446744073709551616) (h : t = numB v.length ++ v ++ s) : (textR t).1 = v ∧ t.drop (textR t).2.2 = s := by
  rw [List.append_assoc] at h
  have h1 := numR_numB (v ++ s) v.length 0 0 (by omega) (by omega) (by omega)
  have h2 : numR 0 0 t = (v.length, 0, (numB v.length).length) := by rw [h, h1]; simp
  have h3 : ¬ t.length - (numR 0 0 t).2.2 < (numR 0 0 t).1 := by rw [h2, h]; simp
  rw [textR_ok (by rw [h2]) h3, h2]
  have h4 : t.drop (numB v.length).length = v ++ s := by rw [h, List.drop_left]
  refine ⟨?_, ?_⟩
  · show sub t _ _ = v
    rw [← sub_drop, h4, sub_take, List.take_left]
  · show t.drop (_ + _) = s
    rw [← List.drop_drop, h4, List.drop_left]
theorem strR_of {v : ByteArray} {s t : List UInt8} (hv : v.size ≤ 1000000) (h : t = strB v ++ s) : bts (textR t).1 = v ∧ t.drop (textR t).2.2 = s := by
  have hl : v.data.toList.length = v.size := by simp
  obtain ⟨h1, h2⟩ := textR_ofL (v := v.data.toList) (s := s) (t := t) (by omega) (by rw [h]; unfold strB; rfl)
  exact ⟨by rw [h1, bts_data], h2⟩
theorem smR_of {x : Int} {s t : List UInt8} (h0 : 0 ≤ x) (hx : x ≤ 2147483647) (h : t = nB x ++ s) : smR t = x ∧ t.drop (numR 0 0 t).2.2 = s := by
  obtain ⟨h1, _, h3⟩ := nB_of h0 (by omega) h
  exact ⟨by unfold smR; omega, h3⟩
theorem smR_ofN {m : Nat} {s t : List UInt8} (hx : m ≤ 2147483647) (h : t = numB m ++ s) : smR t = (m : Int) ∧ t.drop (numR 0 0 t).2.2 = s := by
  obtain ⟨h1, _, h3⟩ := numR_of (by omega) h
  exact ⟨by unfold smR; omega, h3⟩
theorem smR_0 (t : List UInt8) : 0 ≤ smR t ∧ smR t ≤ 2147483647 := by unfold smR; omega
theorem num_0 (t : List UInt8) : (numR 0 0 t).1 < 18446744073709551616 := numR_lt t 0 0 (by omega) (by omega)
def unzig (n : Int) : Int := if n % 2 = 0 then n / 2 else -(n / 2) - 1
theorem unzig_zig {n : Int} : unzig (zig n) = n := by unfold unzig zig; split <;> split <;> omega
theorem unzig_0 {n : Int} (h : 0 ≤ n ∧ n < 18446744073709551616) : -9223372036854775808 ≤ unzig n ∧ unzig n ≤ 9223372036854775807 := by unfold unzig; split <;> omega
theorem and1 {n : Nat} (h : n < 18446744073709551616) : ibits .and .u64 (n : Int) 1 = ((n % 2 : Nat) : Int) := by
  show IntKind.u64.wrap ((BitVec.ofInt 64 (n : Int) &&& BitVec.ofInt 64 1).toNat : Int) = _
  have h1 := bv_nat (n : Int) (by omega) (by omega)
  rw [BitVec.toNat_and, show (BitVec.ofInt 64 1).toNat = 1 from rfl, Nat.and_one_is_mod, show (BitVec.ofInt 64 (n : Int)).toNat = n by omega, wrap_u64 (by omega) (by omega)]
theorem back_unzig {n : Nat} (h : n < 18446744073709551616) : ibits .xor .i64 ((n / 2 : Nat) : Int) (-((n % 2 : Nat) : Int)) = unzig (n : Int) := by
  show IntKind.i64.wrap ((BitVec.ofInt 64 _ ^^^ BitVec.ofInt 64 _).toNat : Int) = _
  have h1 := bv_nat ((n / 2 : Nat) : Int) (by omega) (by omega)
  by_cases h0 : n % 2 = 0
  · rw [h0]
    rw [show BitVec.ofInt 64 (-((0 : Nat) : Int)) = 0#64 from rfl, BitVec.xor_zero, h1, wrap_i64 (by omega) (by omega)]
    unfold unzig; rw [if_pos (by omega)]; omega
  · rw [show n % 2 = 1 by omega]
    rw [show BitVec.ofInt 64 (-((1 : Nat) : Int)) = BitVec.allOnes 64 from by decide, BitVec.xor_allOnes, BitVec.toNat_not]
    have e : IntKind.i64.wrap ((2 ^ 64 - 1 - (BitVec.ofInt 64 ((n / 2 : Nat) : Int)).toNat : Nat) : Int) = -((n / 2 : Nat) : Int) - 1 := by
      simp [IntKind.wrap, IntKind.signed, IntKind.bits] at h1 ⊢; omega
    rw [e]
    unfold unzig; rw [if_neg (by omega)]; omega
def TxGood (ss : List ByteArray) (rest ys : List UInt8) : Prop := ys = numB ss.length ++ textsB ss ++ rest ∧ ss.length ≤ 8 ∧ ∀ x ∈ ss, x.size ≤ 1000000
structure TxInv (y0 : List UInt8) (n j : Nat) (out : List ByteArray) (ys : List UInt8) : Prop where
  len : out.length = j
  is : ∀ ss rest, TxGood ss rest y0 → n = ss.length ∧ out = ss.take j ∧ ys = textsB (ss.drop j) ++ rest
theorem take_snoc {α : Type} {xs : List α} {i : Nat} (hi : i < xs.length) : xs.take (i + 1) = xs.take i ++ [xs[i]] := List.take_succ_eq_append_getElem hi
theorem TxInv.start {y0 y1 : List UInt8} {n : Nat} (hn : (n : Int) = min (smR y0) 9) (h : y1 = y0.drop (numR 0 0 y0).2.2) : TxInv y0 n 0 [] y1 := ⟨rfl, fun ss rest ⟨g1, g2, g3⟩ => by
  rw [List.append_assoc] at g1
  obtain ⟨e1, e2⟩ := smR_ofN (m := ss.length) (by omega) g1
  exact ⟨by omega, rfl, by rw [h, e2]; rfl⟩⟩
theorem TxInv.on {y0 ys y' : List UInt8} {n j : Nat} {out : List ByteArray} (h : TxInv y0 n j out ys) (hj : j < n) (h' : y' = ys.drop (textR ys).2.2) : TxInv y0 n (j + 1) (out ++ [bts (textR ys).1]) y' := ⟨by rw [List.length_append, h.len]; rfl, fun ss rest g => by
  obtain ⟨e1, e2, e3⟩ := h.is ss rest g
  have hl : j < ss.length := by omega
  rw [List.drop_eq_getElem_cons hl] at e3
  obtain ⟨f1, f2⟩ := strR_of (t := ys) (v := ss[j]) (s := textsB (ss.drop (j + 1)) ++ rest) (g.2.2 _ (List.getElem_mem hl)) (by rw [e3]; unfold textsB; rw [List.flatMap_cons, List.append_assoc])
  exact ⟨e1, by rw [take_snoc hl, e2, f1], by rw [h', f2]⟩⟩
theorem TxInv.fin {y0 ys : List UInt8} {n j : Nat} {out : List ByteArray} (h : TxInv y0 n j out ys) (hj : n ≤ j) : ∀ ss rest, TxGood ss rest y0 → out = ss ∧ ys = rest := fun ss rest g => by
  obtain ⟨e1, e2, e3⟩ := h.is ss rest g
  rw [List.take_of_length_le (by omega)] at e2
  rw [List.drop_of_length_le (by omega)] at e3
  exact ⟨e2, e3⟩
end
section
set_option linter.unusedVariables false
set_option linter.unusedSimpArgs false
open Go.RowKit Classical
def mkT (o : Order) (j : Nat) : List UInt8 := mksB (o.f_Marks.xs.drop j)
def opT (o : Order) (i : Nat) : List UInt8 := opsB (o.f_Txn_Ops.xs.drop i) ++ mkT o 0
def tC (o : Order) : List UInt8 := numB o.f_Txn_Ops.xs.length ++ opT o 0
def tB (o : Order) : List UInt8 := numB o.f_Txn_Writes.xs.length ++ textsB o.f_Txn_Writes.xs ++ tC o
def tA (o : Order) : List UInt8 := numB o.f_Txn_Reads.xs.length ++ textsB o.f_Txn_Reads.xs ++ tB o
def hdT (o : Order) (i : Nat) : List UInt8 := numsB ((headN o).drop i) ++ tA o
theorem ordB_hdT (o : Order) : ordB o = hdT o 0 := by
  unfold ordB ordB1 hdT tA tB tC opT mkT
  simp only [List.drop_zero, List.append_assoc]
/-- The bytes ys are those of the order o. -/
structure GoodO (o : Order) (ys : List UInt8) : Prop where
  ok : OrdOk o 3
  wf : OWf o
  eq : ys = ordB o
theorem keys_16 {xs : List ByteArray} (h : KeysOk xs) : ∀ x ∈ xs, x.size ≤ 16 := fun x hx => by
  obtain ⟨j, hj, rfl⟩ := List.mem_iff_getElem.1 hx
  exact (h.1 j _ hj (List.getElem?_eq_getElem hj)).2
section
variable {o : Order}
theorem ok_txt (h : OrdOk o 3) : (o.f_Txn_Reads.xs.length ≤ 8 ∧ ∀ x ∈ o.f_Txn_Reads.xs, x.size ≤ 16) ∧ o.f_Txn_Writes.xs.length ≤ 8 ∧ ∀ x ∈ o.f_Txn_Writes.xs, x.size ≤ 16 := by
  obtain ⟨⟨_, _, ⟨h1, h2, h3, h4, _⟩, _⟩, _⟩ := h
  have e1 : o.f_Txn_Reads.xs.length ≤ 8 := h1
  have e2 : o.f_Txn_Writes.xs.length + o.f_Txn_Reads.xs.length ≤ 8 := h2
  exact ⟨⟨e1, keys_16 h3⟩, by omega, keys_16 h4⟩
theorem ok_ops (h : OrdOk o 3) : o.f_Txn_Ops.xs.length ≤ 16 ∧ ∀ x ∈ o.f_Txn_Ops.xs, x.f_Key.size ≤ 16 ∧ x.f_Value.xs.length ≤ 32 := by
  have ht := ok_txt h
  obtain ⟨⟨_, _, _, h1⟩, _⟩ := h
  rcases h1 with ⟨_, _, h3, h4⟩ | ⟨_, _, h4, _⟩
  · refine ⟨h3, fun x hx => ?_⟩
    have h5 : StepOk o.txn x := Classical.byContradiction fun h9 => h4 ⟨x, hx, h9⟩
    obtain ⟨v, _, h6⟩ := h5
    refine ⟨?_, v⟩
    have hw : ∀ {k : ByteArray}, k ∈ o.txn.f_Writes.xs → k.size ≤ 16 := fun hk => ht.2.2 _ hk
    have hr : ∀ {k : ByteArray}, k ∈ o.txn.f_Reads.xs → k.size ≤ 16 := fun hk => ht.1.2 _ hk
    rcases h6 with ⟨_, k⟩ | ⟨_, k, _⟩ | ⟨_, k | k⟩ | ⟨_, k | k, _⟩ | ⟨_, k⟩
    · exact hw k
    · exact hw k
    · exact hw k
    · exact hr k
    · exact hw k
    · exact hr k
    · rw [k]; decide
  · have h5 : o.f_Txn_Ops.xs.length = 0 := h4
    refine ⟨by omega, fun x hx => ?_⟩
    rw [List.eq_nil_of_length_eq_zero h5] at hx; cases hx
theorem ok_small (h : OrdOk o 3) : OSmall o := by
  have ht := ok_txt h
  have hp := ok_ops h
  have hk := keysT_len o.txn
  have hm : o.f_Marks.xs.length ≤ 16 := by
    have h2 := h.2.2.1
    have e : (keysT o.txn).length ≤ o.f_Txn_Reads.xs.length + o.f_Txn_Writes.xs.length := hk
    omega
  refine ⟨by omega, by omega, by omega, by omega, fun x hx => by have := ht.1.2 x hx; omega, fun x hx => by have := ht.2.2 x hx; omega, fun m hx => ?_, fun x hx => by have := hp.2 x hx; omega⟩
  obtain ⟨j, hj, rfl⟩ := List.mem_iff_getElem.1 hx
  obtain ⟨k, h1, h2, _⟩ := ok_mk h (List.getElem?_eq_getElem hj)
  rw [h2]
  have h3 := (setOf_mem strlt_sto).1 (List.mem_of_getElem? h1)
  rcases List.mem_append.1 h3 with q | q
  · have := ht.1.2 k q; omega
  · have := ht.2.2 k q; omega
theorem hdT_on {i : Nat} {x : Int} (hx : (headN o)[i]? = some x) : hdT o i = nB x ++ hdT o (i + 1) := by
  obtain ⟨hi, e⟩ := List.getElem?_eq_some_iff.1 hx
  unfold hdT
  rw [List.drop_eq_getElem_cons hi, e]
  unfold numsB
  rw [List.flatMap_cons, List.append_assoc]
theorem rd_hd {i : Nat} {x : Int} {ys y' : List UInt8} (h : OrdOk o 3) (w : OWf o) (hx : (headN o)[i]? = some x) (hy : ys = hdT o i) (h' : y' = ys.drop (numR 0 0 ys).2.2) : ((numR 0 0 ys).1 : Int) = x ∧ y' = hdT o (i + 1) := by
  obtain ⟨h0, h1⟩ := ok_hd h w x (List.mem_of_getElem? hx)
  obtain ⟨e1, _, e2⟩ := nB_of h0 h1 (hy.trans (hdT_on hx))
  exact ⟨e1, by rw [h', e2]⟩
theorem rd_head {ys y8 y10 y12 y14 y27 y29 : List UInt8} (g : GoodO o ys) (d8 : y8 = ys.drop (numR 0 0 ys).2.2) (d10 : y10 = y8.drop (numR 0 0 y8).2.2) (d12 : y12 = y10.drop (numR 0 0 y10).2.2) (d14 : y14 = y12.drop (numR 0 0 y12).2.2) (d27 : y27 = y14.drop (numR 0 0 y14).2.2) (d29 : y29 = y27.drop (numR 0 0 y27).2.2) :
    (smR ys = o.f_Tag_Id_Node ∧ ((numR 0 0 y8).1 : Int) = o.f_Tag_Id_Epoch ∧ ((numR 0 0 y10).1 : Int) = o.f_Tag_Id_Seq ∧ smR y12 = o.f_Tag_Try ∧ smR y14 = o.f_Txn_Kind ∧ smR y27 = o.f_Txn_To) ∧ y29 = tA o := by
  obtain ⟨e0, f0⟩ := rd_hd (i := 0) g.ok g.wf rfl (g.eq.trans (ordB_hdT o)) d8
  obtain ⟨e1, f1⟩ := rd_hd (i := 1) g.ok g.wf rfl f0 d10
  obtain ⟨e2, f2⟩ := rd_hd (i := 2) g.ok g.wf rfl f1 d12
  obtain ⟨e3, f3⟩ := rd_hd (i := 3) g.ok g.wf rfl f2 d14
  obtain ⟨e4, f4⟩ := rd_hd (i := 4) g.ok g.wf rfl f3 d27
  obtain ⟨e5, f5⟩ := rd_hd (i := 5) g.ok g.wf rfl f4 d29
  have hI := g.ok.2.1
  unfold IdOk at hI
  have hK : 0 ≤ o.f_Txn_Kind ∧ o.f_Txn_Kind ≤ 2 ∧ 0 ≤ o.f_Txn_To ∧ o.f_Txn_To ≤ 3 := by
    obtain ⟨⟨_, _, _, h1⟩, _⟩ := g.ok
    rcases h1 with ⟨q1, q2, _⟩ | ⟨q1, _, _, _, q2, q3⟩
    · exact ⟨by show (0 : Int) ≤ o.txn.f_Kind; omega, by show o.txn.f_Kind ≤ 2; omega, by show (0 : Int) ≤ o.txn.f_To; omega, by show o.txn.f_To ≤ 3; omega⟩
    · exact ⟨by show (0 : Int) ≤ o.txn.f_Kind; omega, by show o.txn.f_Kind ≤ 2; omega, by show (0 : Int) ≤ o.txn.f_To; omega, by show o.txn.f_To ≤ 3; omega⟩
  refine ⟨⟨by unfold smR; omega, e1, e2, by unfold smR; omega, by unfold smR; omega, by unfold smR; omega⟩, f5.trans ?_⟩
  unfold hdT headN numsB
  rfl
theorem rd_reads {ys : List UInt8} (h : OrdOk o 3) (hy : ys = tA o) : TxGood o.f_Txn_Reads.xs (tB o) ys := ⟨hy, (ok_txt h).1.1, fun x hx => by have := (ok_txt h).1.2 x hx; omega⟩
theorem rd_writes {ys : List UInt8} (h : OrdOk o 3) (hy : ys = tB o) : TxGood o.f_Txn_Writes.xs (tC o) ys := ⟨hy, (ok_txt h).2.1, fun x hx => by have := (ok_txt h).2.2 x hx; omega⟩
theorem rd_nops {ys y' : List UInt8} {n : Nat} (h : OrdOk o 3) (hy : ys = tC o) (hn : (n : Int) = min (smR ys) 17) (h' : y' = ys.drop (numR 0 0 ys).2.2) : n = o.f_Txn_Ops.xs.length ∧ y' = opT o 0 := by
  have hl := (ok_ops h).1
  obtain ⟨e1, e2⟩ := smR_ofN (m := o.f_Txn_Ops.xs.length) (by omega) hy
  exact ⟨by omega, by rw [h', e2]⟩
structure OpInv (y0 : List UInt8) (n i : Nat) (os : List Op) (ys : List UInt8) : Prop where
  len : os.length = i
  wf : ∀ x ∈ os, (-9223372036854775808 ≤ x.f_N ∧ x.f_N ≤ 9223372036854775807) ∧ x.f_Value.xs.length ≤ 70000000000000
  is : ∀ o, GoodO o y0 → n = o.f_Txn_Ops.xs.length ∧ (∀ (j : Nat) (x y : Op), os[j]? = some x → o.f_Txn_Ops.xs[j]? = some y → SameOp x y) ∧ ys = opT o i
theorem OpInv.on {y0 ys y1 y2 y3 y4 : List UInt8} {n i : Nat} {os : List Op} {a : Option Addr} {c : Nat} (h : OpInv y0 n i os ys) (hi : i < n) (d1 : y1 = ys.drop (numR 0 0 ys).2.2) (d2 : y2 = y1.drop (textR y1).2.2) (d3 : y3 = y2.drop (textR y2).2.2) (d4 : y4 = y3.drop (numR 0 0 y3).2.2) (hv : (textR y2).1.length ≤ 70000000000000) :
    OpInv y0 n (i + 1) (os ++ [⟨smR ys, bts (textR y1).1, ⟨a, (textR y2).1, c⟩, unzig ((numR 0 0 y3).1 : Int)⟩]) y4 := by
  have hz := num_0 y3
  refine ⟨by rw [List.length_append, h.len]; rfl, fun x hx => ?_, fun o g => ?_⟩
  · rcases List.mem_append.1 hx with q | q
    · exact h.wf x q
    · rw [List.mem_singleton.1 q]
      exact ⟨unzig_0 ⟨by omega, by omega⟩, hv⟩
  · obtain ⟨e1, e2, e3⟩ := h.is o g
    have hl : i < o.f_Txn_Ops.xs.length := by omega
    have hm := List.getElem_mem hl
    have hk := ok_op g.ok _ hm
    have hs := (ok_ops g.ok).2 _ hm
    have hw := zig_0 (g.wf.op _ hm)
    have e4 : ys = nB o.f_Txn_Ops.xs[i].f_Kind ++ (strB o.f_Txn_Ops.xs[i].f_Key ++ (numB o.f_Txn_Ops.xs[i].f_Value.xs.length ++ o.f_Txn_Ops.xs[i].f_Value.xs ++ (nB (zig o.f_Txn_Ops.xs[i].f_N) ++ opT o (i + 1)))) := by
      rw [e3]
      unfold opT
      rw [List.drop_eq_getElem_cons hl]
      unfold opsB opB
      simp only [List.flatMap_cons, List.append_assoc]
    obtain ⟨f1, g1⟩ := smR_of (by omega) (by omega) e4
    obtain ⟨f2, g2⟩ := strR_of (by omega) (d1.trans g1)
    obtain ⟨f3, g3⟩ := textR_ofL (by omega) (d2.trans g2)
    obtain ⟨f4, _, g4⟩ := nB_of hw.1 hw.2 (d3.trans g3)
    refine ⟨e1, fun j x y hx hy => ?_, d4.trans g4⟩
    by_cases hj : j < os.length
    · rw [List.getElem?_append_left hj] at hx
      exact e2 j x y hx hy
    · have hj2 := (List.getElem?_eq_some_iff.1 hx).1
      rw [List.length_append] at hj2
      simp only [List.length_cons, List.length_nil] at hj2
      obtain rfl : j = i := by have := h.len; omega
      rw [List.getElem?_append_right (by omega), h.len, Nat.sub_self] at hx
      simp only [List.getElem?_cons_zero, Option.some.injEq] at hx
      rw [List.getElem?_eq_getElem hl] at hy
      cases hy
      subst hx
      exact ⟨f1, f2, by show unzig _ = _; rw [f4, unzig_zig], f3⟩
theorem OpInv.start {y0 ys : List UInt8} {n : Nat} (h : ∀ o, GoodO o y0 → n = o.f_Txn_Ops.xs.length ∧ ys = opT o 0) : OpInv y0 n 0 [] ys := ⟨rfl, fun x hx => (by cases hx), fun o g => ⟨(h o g).1, fun j x y hx => (by cases hx), (h o g).2⟩⟩
structure MkInv (y0 : List UInt8) (ks : List ByteArray) (j : Nat) (ms : List Mark) (ys : List UInt8) : Prop where
  len : ms.length = j
  wf : ∀ m ∈ ms, 0 ≤ m.f_Count ∧ m.f_Count < 18446744073709551616
  is : ∀ o, GoodO o y0 → ms = o.f_Marks.xs.take j ∧ ys = mkT o j
theorem MkInv.on {y0 ys y1 y2 : List UInt8} {ks : List ByteArray} {j : Nat} {ms : List Mark} {k : ByteArray} (h : MkInv y0 ks j ms ys) (hk : ks[((j : Int)).toNat]? = some k) (he : ∀ o, GoodO o y0 → ks = keysT o.txn) (d1 : y1 = ys.drop (numR 0 0 ys).2.2) (d2 : y2 = y1.drop (numR 0 0 y1).2.2) :
    MkInv y0 ks (j + 1) (ms ++ [⟨k, smR ys, ((numR 0 0 y1).1 : Int)⟩]) y2 := by
  have hk' : ks[j]? = some k := hk
  have hz := num_0 y1
  refine ⟨by rw [List.length_append, h.len]; rfl, fun x hx => ?_, fun o g => ?_⟩
  · rcases List.mem_append.1 hx with q | q
    · exact h.wf x q
    · rw [List.mem_singleton.1 q]
      exact ⟨by show (0 : Int) ≤ ((numR 0 0 y1).1 : Int); omega, by show ((numR 0 0 y1).1 : Int) < _; omega⟩
  · obtain ⟨e1, e2⟩ := h.is o g
    have hl : j < o.f_Marks.xs.length := by
      have h1 := g.ok.2.2.1
      rw [← he o g] at h1
      have := (List.getElem?_eq_some_iff.1 hk').1; omega
    obtain ⟨k', q1, q2, q3, q4⟩ := ok_mk g.ok (List.getElem?_eq_getElem hl)
    rw [← he o g, hk'] at q1; cases q1
    have hw := g.wf.mc _ (List.getElem_mem hl)
    have e3 : ys = nB o.f_Marks.xs[j].f_Home ++ (nB o.f_Marks.xs[j].f_Count ++ mkT o (j + 1)) := by
      rw [e2]
      unfold mkT
      rw [List.drop_eq_getElem_cons hl]
      unfold mksB mkB
      simp only [List.flatMap_cons, List.append_assoc]
    obtain ⟨f1, g1⟩ := smR_of q3 (by omega) e3
    obtain ⟨f2, _, g2⟩ := nB_of hw.1 hw.2 (d1.trans g1)
    refine ⟨?_, d2.trans g2⟩
    rw [take_snoc hl, e1, f1, f2, ← q2]
theorem MkInv.start {y0 ys : List UInt8} {ks : List ByteArray} (h : ∀ o, GoodO o y0 → ys = opT o o.f_Txn_Ops.xs.length) : MkInv y0 ks 0 [] ys := ⟨rfl, fun m hm => (by cases hm), fun o g => ⟨rfl, by rw [h o g]; unfold opT opsB; rw [List.drop_of_length_le (Nat.le_refl _)]; rfl⟩⟩
end
end
section
set_option linter.unusedVariables false
set_option linter.unusedSimpArgs false
open Go.RowKit Classical
theorem numR_conv : ∀ (t : List UInt8) (k n : Nat), (numR k n t).2.1 = 0 → ∃ m s, t = numB m ++ s ∧ (numR k n t).1 = n + m * 128 ^ k ∧ (numR k n t).2.2 = k + (numB m).length ∧ (0 < k → 0 < m)
  | [], k, n, h => by simp [numR] at h
  | b :: t, k, n, h => by
    have hb := b.toNat_lt
    rw [numR] at h ⊢
    split at h
    · simp at h
    · rename_i h1
      rw [if_neg h1]
      split at h
      · rename_i h2
        rw [if_pos h2]
        split at h
        · simp at h
        · rename_i h3
          rw [if_neg h3]
          refine ⟨b.toNat, t, ?_, ?_, ?_, by omega⟩
          · rw [numB_lt h2]; simp
          · show n + b.toNat % 128 * 128 ^ k = _; rw [Nat.mod_eq_of_lt h2]
          · rw [numB_lt h2]; rfl
      · rename_i h2
        rw [if_neg h2]
        obtain ⟨m, s, e1, e2, e3, e4⟩ := numR_conv t (k + 1) _ h
        have hm := e4 (by omega)
        have hd : (b.toNat % 128 + 128 * m) / 128 = m := by omega
        have hn : numB (b.toNat % 128 + 128 * m) = b :: numB m := by
          rw [numB_ge (by omega), hd]
          congr 1
          apply UInt8.toNat_inj.1
          rw [or_low]; omega
        refine ⟨b.toNat % 128 + 128 * m, s, ?_, ?_, ?_, fun _ => by omega⟩
        · rw [hn, e1]; rfl
        · rw [e2, pow_split, Nat.add_mul, Nat.add_assoc]
          congr 1
          rw [Nat.mul_comm 128 m, Nat.mul_assoc, Nat.mul_comm 128]
        · rw [e3, hn]; simp; omega
theorem numR_is {t : List UInt8} (h : (numR 0 0 t).2.1 = 0) : t = numB (numR 0 0 t).1 ++ t.drop (numR 0 0 t).2.2 := by
  obtain ⟨m, s, e1, e2, e3, _⟩ := numR_conv t 0 0 h
  have e4 : (numR 0 0 t).1 = m := by rw [e2]; simp
  rw [e4, e3, Nat.zero_add]
  rw [e1, List.drop_left]
theorem textR_is {t : List UInt8} (h : (textR t).2.1 = 0) : t = (numB (textR t).1.length ++ (textR t).1) ++ t.drop (textR t).2.2 := by
  by_cases h1 : (numR 0 0 t).2.1 = 0
  · by_cases h2 : t.length - (numR 0 0 t).2.2 < (numR 0 0 t).1
    · rw [textR_short h1 h2] at h; simp at h
    · rw [textR_ok h1 h2]
      show t = (numB (sub t _ _).length ++ sub t _ _) ++ t.drop _
      have h3 := numR_is h1
      have hu := numR_used t 0 0
      have hl : (sub t (numR 0 0 t).2.2 ((numR 0 0 t).2.2 + (numR 0 0 t).1)).length = (numR 0 0 t).1 := by rw [sub_len (by omega)]; omega
      rw [hl, List.append_assoc]
      have h4 : sub t (numR 0 0 t).2.2 ((numR 0 0 t).2.2 + (numR 0 0 t).1) ++ t.drop ((numR 0 0 t).2.2 + (numR 0 0 t).1) = t.drop (numR 0 0 t).2.2 := by
        rw [← sub_drop, sub_take, ← List.drop_drop]
        exact List.take_append_drop _ _
      rw [h4]
      exact h3
  · rw [textR_err h1] at h; exact absurd h h1
section
variable {ys s : List UInt8} {bd : Bool} {x : Int}
theorem num_back (h : (bd || !decide (((numR 0 0 ys).2.1 : Int) = 0)) = false) : bd = false ∧ ys = nB ((numR 0 0 ys).1 : Int) ++ ys.drop (numR 0 0 ys).2.2 := by
  simp only [Bool.or_eq_false_iff, Bool.not_eq_false', decide_eq_true_eq] at h
  refine ⟨h.1, ?_⟩
  have h1 := numR_is (t := ys) (by omega)
  unfold nB
  rw [Int.toNat_natCast]; exact h1
theorem few_back (h : fewB bd ys = false) : bd = false ∧ ys = nB (fewR ys) ++ ys.drop (numR 0 0 ys).2.2 ∧ 0 ≤ fewR ys ∧ fewR ys ≤ 1000 := by
  unfold fewB at h
  simp only [Bool.or_eq_false_iff, decide_eq_false_iff_not] at h
  have h1 := num_back (bd := bd) (ys := ys) (by simp only [Bool.or_eq_false_iff]; exact h.1)
  have h2 : fewR ys = ((numR 0 0 ys).1 : Int) := by rw [fewR, if_neg h.2]
  rw [h2]
  exact ⟨h1.1, h1.2, by omega, by omega⟩
theorem text_back (h : (bd || !decide (((textR ys).2.1 : Int) = 0)) = false) : bd = false ∧ ys = (numB (textR ys).1.length ++ (textR ys).1) ++ ys.drop (textR ys).2.2 := by
  simp only [Bool.or_eq_false_iff, Bool.not_eq_false', decide_eq_true_eq] at h
  exact ⟨h.1, textR_is (t := ys) (by omega)⟩
theorem num_there (h0 : 0 ≤ x) (hx : x < 18446744073709551616) (h : ys = nB x ++ s) : ((numR 0 0 ys).1 : Int) = x ∧ (bd || !decide (((numR 0 0 ys).2.1 : Int) = 0)) = bd ∧ ys.drop (numR 0 0 ys).2.2 = s := by
  obtain ⟨h1, h2, h3⟩ := nB_of h0 hx h
  exact ⟨h1, by rw [h2]; simp, h3⟩
theorem few_there (h0 : 0 ≤ x) (hx : x ≤ 1000) (h : ys = nB x ++ s) : fewR ys = x ∧ fewB bd ys = bd ∧ ys.drop (numR 0 0 ys).2.2 = s := by
  obtain ⟨h1, h2, h3⟩ := num_there (bd := bd) h0 (by omega) h
  refine ⟨by rw [fewR, if_neg (by omega)]; exact h1, ?_, h3⟩
  unfold fewB
  rw [h2, decide_eq_false (by omega), Bool.or_false]
theorem text_there {v : List UInt8} (hv : v.length ≤ 1000000) (h : ys = numB v.length ++ v ++ s) : (textR ys).1 = v ∧ (bd || !decide (((textR ys).2.1 : Int) = 0)) = bd ∧ ys.drop (textR ys).2.2 = s := by
  obtain ⟨h1, h2⟩ := textR_ofL (s := s) (t := ys) (by omega) h
  refine ⟨h1, ?_, h2⟩
  have h3 : (textR ys).2.1 = 0 := by
    rw [List.append_assoc] at h
    have h5 := numR_numB (v ++ s) v.length 0 0 (by omega) (by omega) (by omega)
    have h6 : numR 0 0 ys = (v.length, 0, (numB v.length).length) := by rw [h, h5]; simp
    have h7 : ¬ ys.length - (numR 0 0 ys).2.2 < (numR 0 0 ys).1 := by rw [h6, h]; simp
    rw [textR_ok (by rw [h6]) h7]
  rw [h3]; simp
end
end
section
set_option linter.unusedVariables false
set_option linter.unusedSimpArgs false
open Go.RowKit Classical
/-- What the loop over m texts has behind j of them: y1 stood ahead of it, ys is left; b0 and bd tell a fault, ahead and now. -/
structure Tx9 (y1 : List UInt8) (m j : Nat) (out : List ByteArray) (b0 bd : Bool) (ys : List UInt8) : Prop where
  len : out.length = j
  back : bd = false → b0 = false ∧ y1 = textsB out ++ ys
  there : ∀ ss rest, y1 = textsB ss ++ rest → ss.length = m → (∀ x ∈ ss, x.size ≤ 1000000) → bd = b0 ∧ out = ss.take j ∧ ys = textsB (ss.drop j) ++ rest
theorem Tx9.start (y1 : List UInt8) (m : Nat) (b0 : Bool) : Tx9 y1 m 0 [] b0 b0 y1 := ⟨rfl, fun h => ⟨h, rfl⟩, fun ss rest h _ _ => ⟨rfl, rfl, h⟩⟩
theorem Tx9.on {y1 ys y' : List UInt8} {m j : Nat} {out : List ByteArray} {b0 bd : Bool} (h : Tx9 y1 m j out b0 bd ys) (hj : j < m) (h' : y' = ys.drop (textR ys).2.2) : Tx9 y1 m (j + 1) (out ++ [bts (textR ys).1]) b0 (bd || !decide (((textR ys).2.1 : Int) = 0)) y' := by
  refine ⟨by rw [List.length_append, h.len]; rfl, fun hb => ?_, fun ss rest h1 h2 h3 => ?_⟩
  · obtain ⟨q1, q2⟩ := text_back hb
    obtain ⟨q3, q4⟩ := h.back q1
    refine ⟨q3, ?_⟩
    rw [h', q4]
    unfold textsB
    rw [List.flatMap_append, List.append_assoc]
    congr 1
    simp only [List.flatMap_cons, List.flatMap_nil, List.append_nil]
    unfold strB
    have e : (bts (textR ys).1).data.toList = (textR ys).1 := by simp [bts]
    rw [e]; exact q2
  · obtain ⟨e1, e2, e3⟩ := h.there ss rest h1 h2 h3
    have hl : j < ss.length := by omega
    rw [List.drop_eq_getElem_cons hl] at e3
    have hz := h3 _ (List.getElem_mem hl)
    have hd : (ss[j]).data.toList.length = (ss[j]).size := by simp
    obtain ⟨f1, f2, f3⟩ := text_there (bd := bd) (v := (ss[j]).data.toList) (s := textsB (ss.drop (j + 1)) ++ rest) (ys := ys) (by omega) (by rw [e3]; unfold textsB; rw [List.flatMap_cons, List.append_assoc]; rfl)
    exact ⟨f2.trans e1, by rw [take_snoc hl, e2, f1, bts_data], by rw [h', f3]⟩
theorem Tx9.fin {y1 ys : List UInt8} {m j : Nat} {out : List ByteArray} {b0 bd : Bool} (h : Tx9 y1 m j out b0 bd ys) (hj : j ≤ m) (he : m ≤ j ∨ bd = true) : (bd = false → b0 = false ∧ out.length = m ∧ y1 = textsB out ++ ys) ∧ (b0 = false → ∀ ss rest, y1 = textsB ss ++ rest → ss.length = m → (∀ x ∈ ss, x.size ≤ 1000000) → bd = false ∧ out = ss ∧ ys = rest) := by
  refine ⟨fun hb => ?_, fun hb0 ss rest h1 h2 h3 => ?_⟩
  · obtain ⟨q1, q2⟩ := h.back hb
    rcases he with he | he
    · exact ⟨q1, by rw [h.len]; omega, q2⟩
    · rw [hb] at he; cases he
  · obtain ⟨e1, e2, e3⟩ := h.there ss rest h1 h2 h3
    have hb : bd = false := e1.trans hb0
    rcases he with he | he
    · rw [List.take_of_length_le (by omega)] at e2
      rw [List.drop_of_length_le (by omega)] at e3
      exact ⟨hb, e2, e3⟩
    · rw [hb] at he; cases he
end
section
set_option linter.unusedVariables false
set_option linter.unusedSimpArgs false
open Go.RowKit Classical
theorem zig_unzig {n : Int} (h : 0 ≤ n) : zig (unzig n) = n := by unfold zig unzig; split <;> split <;> omega
def OpIn (x : Op) : Prop := 1 ≤ x.f_Kind ∧ x.f_Kind ≤ 7 ∧ x.f_Key.size ≤ 1000000 ∧ x.f_Value.xs.length ≤ 1000000 ∧ 0 ≤ zig x.f_N ∧ zig x.f_N < 18446744073709551616
structure Op9 (y1 : List UInt8) (m j : Nat) (out : List Op) (b0 bd : Bool) (ys : List UInt8) : Prop where
  len : out.length = j
  wf : ∀ x ∈ out, -9223372036854775808 ≤ x.f_N ∧ x.f_N ≤ 9223372036854775807
  back : bd = false → b0 = false ∧ y1 = opsB out ++ ys
  there : ∀ xs rest, y1 = opsB xs ++ rest → xs.length = m → (∀ x ∈ xs, OpIn x) → bd = b0 ∧ (∀ (i : Nat) (x y : Op), out[i]? = some x → xs[i]? = some y → SameOp x y) ∧ ys = opsB (xs.drop j) ++ rest
theorem Op9.start (y1 : List UInt8) (m : Nat) (b0 : Bool) : Op9 y1 m 0 [] b0 b0 y1 := ⟨rfl, fun x hx => (by cases hx), fun h => ⟨h, rfl⟩, fun xs rest h _ _ => ⟨rfl, fun i x y hx => (by cases hx), h⟩⟩
theorem Op9.on {y1 ys z1 z2 z3 z4 : List UInt8} {m j : Nat} {out : List Op} {b0 bd c1 c2 c3 c4 : Bool} {a : Option Addr} {c : Nat} (h : Op9 y1 m j out b0 bd ys) (hj : j < m) (d1 : z1 = ys.drop (numR 0 0 ys).2.2) (d2 : z2 = z1.drop (textR z1).2.2) (d3 : z3 = z2.drop (textR z2).2.2) (d4 : z4 = z3.drop (numR 0 0 z3).2.2)
    (e1 : c1 = fewB bd ys) (e2 : c2 = (c1 || !decide (((textR z1).2.1 : Int) = 0))) (e3 : c3 = (c2 || !decide (((textR z2).2.1 : Int) = 0))) (e4 : c4 = (c3 || !decide (((numR 0 0 z3).2.1 : Int) = 0))) :
    Op9 y1 m (j + 1) (out ++ [⟨fewR ys, bts (textR z1).1, ⟨a, (textR z2).1, c⟩, unzig ((numR 0 0 z3).1 : Int)⟩]) b0 c4 z4 := by
  have hz := num_0 z3
  refine ⟨by rw [List.length_append, h.len]; rfl, fun x hx => ?_, fun hb => ?_, fun xs rest h1 h2 h3 => ?_⟩
  · rcases List.mem_append.1 hx with q | q
    · exact h.wf x q
    · rw [List.mem_singleton.1 q]; exact unzig_0 ⟨by omega, by omega⟩
  · obtain ⟨k3, q4⟩ := num_back (e4.symm.trans hb)
    obtain ⟨k2, q3⟩ := text_back (e3.symm.trans k3)
    obtain ⟨k1, q2⟩ := text_back (e2.symm.trans k2)
    obtain ⟨k0, q1, _, _⟩ := few_back (e1.symm.trans k1)
    obtain ⟨r1, r2⟩ := h.back k0
    refine ⟨r1, ?_⟩
    have e : (bts (textR z1).1).data.toList = (textR z1).1 := by simp [bts]
    have ez : nB (zig (unzig ((numR 0 0 z3).1 : Int))) = nB ((numR 0 0 z3).1 : Int) := by rw [zig_unzig (by omega)]
    rw [← d4] at q4; rw [← d3] at q3; rw [← d2] at q2; rw [← d1] at q1
    have q : ys = opB ⟨fewR ys, bts (textR z1).1, ⟨a, (textR z2).1, c⟩, unzig ((numR 0 0 z3).1 : Int)⟩ ++ z4 := by
      show ys = nB (fewR ys) ++ strB (bts (textR z1).1) ++ (numB (textR z2).1.length ++ (textR z2).1) ++ nB (zig (unzig ((numR 0 0 z3).1 : Int))) ++ z4
      rw [ez]
      unfold strB
      rw [e]
      have g3 := q3; rw [q4] at g3
      have g2 := q2; rw [g3] at g2
      have g1 := q1; rw [g2] at g1
      simp only [List.append_assoc] at g1 ⊢
      exact g1
    rw [r2]
    unfold opsB
    rw [List.flatMap_append, List.append_assoc]
    congr 1
    simp only [List.flatMap_cons, List.flatMap_nil, List.append_nil]
    exact q
  · obtain ⟨f1, f2, f3⟩ := h.there xs rest h1 h2 h3
    have hl : j < xs.length := by omega
    obtain ⟨i1, i2, i3, i4, i5, i6⟩ := h3 _ (List.getElem_mem hl)
    have hd : (xs[j].f_Key).data.toList.length = (xs[j].f_Key).size := by simp
    have e0 : ys = nB xs[j].f_Kind ++ (numB (xs[j].f_Key).data.toList.length ++ (xs[j].f_Key).data.toList ++ (numB xs[j].f_Value.xs.length ++ xs[j].f_Value.xs ++ (nB (zig xs[j].f_N) ++ (opsB (xs.drop (j + 1)) ++ rest)))) := by
      rw [f3, List.drop_eq_getElem_cons hl]
      unfold opsB opB strB
      simp only [List.flatMap_cons, List.append_assoc]
    obtain ⟨a1, b1, g1⟩ := few_there (bd := bd) (by omega) (by omega) e0
    obtain ⟨a2, b2, g2⟩ := text_there (bd := c1) (by omega) (d1.trans g1)
    obtain ⟨a3, b3, g3⟩ := text_there (bd := c2) (by omega) (d2.trans g2)
    obtain ⟨a4, b4, g4⟩ := num_there (bd := c3) i5 i6 (d3.trans g3)
    refine ⟨by rw [e4, b4, e3, b3, e2, b2, e1, b1, f1], fun i x y hx hy => ?_, d4.trans g4⟩
    by_cases hji : i < out.length
    · rw [List.getElem?_append_left hji] at hx
      exact f2 i x y hx hy
    · have hj2 := (List.getElem?_eq_some_iff.1 hx).1
      rw [List.length_append] at hj2
      simp only [List.length_cons, List.length_nil] at hj2
      obtain rfl : i = j := by have := h.len; omega
      rw [List.getElem?_append_right (by omega), h.len, Nat.sub_self] at hx
      simp only [List.getElem?_cons_zero, Option.some.injEq] at hx
      rw [List.getElem?_eq_getElem hl] at hy
      cases hy
      subst hx
      exact ⟨a1, by show bts _ = _; rw [a2, bts_data], by show unzig _ = _; rw [a4, unzig_zig], a3⟩
structure Mk9 (y1 : List UInt8) (ks : List ByteArray) (j : Nat) (out : List Mark) (b0 bd : Bool) (ys : List UInt8) : Prop where
  len : out.length = j
  wf : ∀ m ∈ out, 0 ≤ m.f_Count ∧ m.f_Count < 18446744073709551616
  back : bd = false → b0 = false ∧ y1 = mksB out ++ ys
  there : ∀ ms rest, y1 = mksB ms ++ rest → ms.length = ks.length → (∀ (i : Nat) (m : Mark) (k : ByteArray), ms[i]? = some m → ks[i]? = some k → m.f_Key = k) → (∀ m ∈ ms, (0 ≤ m.f_Home ∧ m.f_Home ≤ 1000) ∧ 0 ≤ m.f_Count ∧ m.f_Count < 18446744073709551616) → bd = b0 ∧ out = ms.take j ∧ ys = mksB (ms.drop j) ++ rest
theorem Mk9.start (y1 : List UInt8) (ks : List ByteArray) (b0 : Bool) : Mk9 y1 ks 0 [] b0 b0 y1 := ⟨rfl, fun m hm => (by cases hm), fun h => ⟨h, rfl⟩, fun ms rest h _ _ _ => ⟨rfl, rfl, h⟩⟩
theorem Mk9.on {y1 ys z1 z2 : List UInt8} {ks : List ByteArray} {j : Nat} {out : List Mark} {b0 bd c1 c2 : Bool} {k : ByteArray} (h : Mk9 y1 ks j out b0 bd ys) (hk : ks[j]? = some k) (d1 : z1 = ys.drop (numR 0 0 ys).2.2) (d2 : z2 = z1.drop (numR 0 0 z1).2.2) (e1 : c1 = fewB bd ys) (e2 : c2 = (c1 || !decide (((numR 0 0 z1).2.1 : Int) = 0))) :
    Mk9 y1 ks (j + 1) (out ++ [⟨k, fewR ys, ((numR 0 0 z1).1 : Int)⟩]) b0 c2 z2 := by
  have hz := num_0 z1
  refine ⟨by rw [List.length_append, h.len]; rfl, fun x hx => ?_, fun hb => ?_, fun ms rest h1 h2 h3 h4 => ?_⟩
  · rcases List.mem_append.1 hx with q | q
    · exact h.wf x q
    · rw [List.mem_singleton.1 q]
      exact ⟨by show (0 : Int) ≤ ((numR 0 0 z1).1 : Int); omega, by show ((numR 0 0 z1).1 : Int) < _; omega⟩
  · obtain ⟨k1, q2⟩ := num_back (e2.symm.trans hb)
    obtain ⟨k0, q1, _, _⟩ := few_back (e1.symm.trans k1)
    obtain ⟨r1, r2⟩ := h.back k0
    refine ⟨r1, ?_⟩
    rw [← d2] at q2; rw [← d1] at q1
    have g1 := q1; rw [q2] at g1
    rw [r2]
    unfold mksB
    rw [List.flatMap_append, List.append_assoc]
    congr 1
    simp only [List.flatMap_cons, List.flatMap_nil, List.append_nil]
    unfold mkB
    rw [List.append_assoc]; exact g1
  · obtain ⟨f1, f2, f3⟩ := h.there ms rest h1 h2 h3 h4
    have hl : j < ms.length := by have := (List.getElem?_eq_some_iff.1 hk).1; omega
    obtain ⟨⟨i1, i2⟩, i3, i4⟩ := h4 _ (List.getElem_mem hl)
    have e0 : ys = nB ms[j].f_Home ++ (nB ms[j].f_Count ++ (mksB (ms.drop (j + 1)) ++ rest)) := by
      rw [f3, List.drop_eq_getElem_cons hl]
      unfold mksB mkB
      simp only [List.flatMap_cons, List.append_assoc]
    obtain ⟨a1, b1, g1⟩ := few_there (bd := bd) i1 i2 e0
    obtain ⟨a2, b2, g2⟩ := num_there (bd := c1) i3 i4 (d1.trans g1)
    have hkey := h3 j _ _ (List.getElem?_eq_getElem hl) hk
    exact ⟨by rw [e2, b2, e1, b1, f1], by rw [take_snoc hl, f2, a1, a2, ← hkey], d2.trans g2⟩
end
section
set_option linter.unusedVariables false
set_option linter.unusedSimpArgs false
open Go.RowKit Classical
theorem fewR_le (y : List UInt8) : fewR y ≤ 1000 := by unfold fewR; split <;> omega
theorem fewR_0 (y : List UInt8) : 0 ≤ fewR y := by unfold fewR; split <;> omega
theorem Op9.fin {y1 ys : List UInt8} {m j : Nat} {out : List Op} {b0 bd : Bool} (h : Op9 y1 m j out b0 bd ys) (hj : j ≤ m) (he : m ≤ j ∨ bd = true) : (bd = false → b0 = false ∧ out.length = m ∧ y1 = opsB out ++ ys) ∧ (b0 = false → ∀ xs rest, y1 = opsB xs ++ rest → xs.length = m → (∀ x ∈ xs, OpIn x) → bd = false ∧ out.length = xs.length ∧ (∀ (i : Nat) (x y : Op), out[i]? = some x → xs[i]? = some y → SameOp x y) ∧ ys = rest) := by
  refine ⟨fun hb => ?_, fun hb0 ss rest h1 h2 h3 => ?_⟩
  · obtain ⟨q1, q2⟩ := h.back hb
    rcases he with he | he
    · exact ⟨q1, by rw [h.len]; omega, q2⟩
    · rw [hb] at he; cases he
  · obtain ⟨e1, e2, e3⟩ := h.there ss rest h1 h2 h3
    have hb : bd = false := e1.trans hb0
    rcases he with he | he
    · rw [List.drop_of_length_le (by omega)] at e3
      exact ⟨hb, by rw [h.len]; omega, e2, e3⟩
    · rw [hb] at he; cases he
theorem Mk9.fin {y1 ys : List UInt8} {ks : List ByteArray} {j : Nat} {out : List Mark} {b0 bd : Bool} (h : Mk9 y1 ks j out b0 bd ys) (hj : j ≤ ks.length) (he : ks.length ≤ j ∨ bd = true) : (bd = false → b0 = false ∧ out.length = ks.length ∧ y1 = mksB out ++ ys) ∧ (b0 = false → ∀ ms rest, y1 = mksB ms ++ rest → ms.length = ks.length → (∀ (i : Nat) (m : Mark) (k : ByteArray), ms[i]? = some m → ks[i]? = some k → m.f_Key = k) → (∀ m ∈ ms, (0 ≤ m.f_Home ∧ m.f_Home ≤ 1000) ∧ 0 ≤ m.f_Count ∧ m.f_Count < 18446744073709551616) → bd = false ∧ out = ms ∧ ys = rest) := by
  refine ⟨fun hb => ?_, fun hb0 ss rest h1 h2 h3 h4 => ?_⟩
  · obtain ⟨q1, q2⟩ := h.back hb
    rcases he with he | he
    · exact ⟨q1, by rw [h.len]; omega, q2⟩
    · rw [hb] at he; cases he
  · obtain ⟨e1, e2, e3⟩ := h.there ss rest h1 h2 h3 h4
    have hb : bd = false := e1.trans hb0
    rcases he with he | he
    · rw [List.take_of_length_le (by omega)] at e2
      rw [List.drop_of_length_le (by omega)] at e3
      exact ⟨hb, e2, e3⟩
    · rw [hb] at he; cases he
/-- A count and so many texts: out is what was read of y, ys what is left; b0 and bd tell a fault, ahead and behind. -/
structure SecT (y : List UInt8) (b0 : Bool) (out : List ByteArray) (bd : Bool) (ys : List UInt8) : Prop where
  len : out.length ≤ 1000
  back : bd = false → b0 = false ∧ y = numB out.length ++ textsB out ++ ys
  there : b0 = false → ∀ ss rest, y = numB ss.length ++ textsB ss ++ rest → ss.length ≤ 1000 → (∀ x ∈ ss, x.size ≤ 1000000) → bd = false ∧ out = ss ∧ ys = rest
structure SecO (y : List UInt8) (b0 : Bool) (out : List Op) (bd : Bool) (ys : List UInt8) : Prop where
  len : out.length ≤ 1000
  wf : ∀ x ∈ out, -9223372036854775808 ≤ x.f_N ∧ x.f_N ≤ 9223372036854775807
  back : bd = false → b0 = false ∧ y = numB out.length ++ opsB out ++ ys
  there : b0 = false → ∀ xs rest, y = numB xs.length ++ opsB xs ++ rest → xs.length ≤ 1000 → (∀ x ∈ xs, OpIn x) → bd = false ∧ out.length = xs.length ∧ (∀ (i : Nat) (x y : Op), out[i]? = some x → xs[i]? = some y → SameOp x y) ∧ ys = rest
theorem Tx9.sec {y y1 ys : List UInt8} {m j : Nat} {out : List ByteArray} {b0 b1 bd : Bool} (h : Tx9 y1 m j out b1 bd ys) (hm : (m : Int) = fewR y) (d1 : y1 = y.drop (numR 0 0 y).2.2) (e1 : b1 = fewB b0 y) (hj : j ≤ m) (he : m ≤ j ∨ bd = true) : SecT y b0 out bd ys := by
  obtain ⟨f1, f2⟩ := h.fin hj he
  have hl := fewR_le y
  refine ⟨by rw [h.len]; omega, fun hb => ?_, fun hb0 ss rest h1 h2 h3 => ?_⟩
  · obtain ⟨q1, q2, q3⟩ := f1 hb
    obtain ⟨k0, k1, _, _⟩ := few_back (e1.symm.trans q1)
    exact ⟨k0, k1.trans (by rw [← d1, ← hm, q3, q2, nB, Int.toNat_natCast, List.append_assoc])⟩
  · obtain ⟨g1, g2, g3⟩ := few_there (bd := b0) (x := (ss.length : Int)) (s := textsB ss ++ rest) (ys := y) (by omega) (by omega) (by rw [h1, nB, Int.toNat_natCast, List.append_assoc])
    exact f2 (by rw [e1, g2, hb0]) ss rest (d1.trans g3) (by omega) h3
theorem Op9.sec {y y1 ys : List UInt8} {m j : Nat} {out : List Op} {b0 b1 bd : Bool} (h : Op9 y1 m j out b1 bd ys) (hm : (m : Int) = fewR y) (d1 : y1 = y.drop (numR 0 0 y).2.2) (e1 : b1 = fewB b0 y) (hj : j ≤ m) (he : m ≤ j ∨ bd = true) : SecO y b0 out bd ys := by
  obtain ⟨f1, f2⟩ := h.fin hj he
  have hl := fewR_le y
  refine ⟨by rw [h.len]; omega, h.wf, fun hb => ?_, fun hb0 ss rest h1 h2 h3 => ?_⟩
  · obtain ⟨q1, q2, q3⟩ := f1 hb
    obtain ⟨k0, k1, _, _⟩ := few_back (e1.symm.trans q1)
    exact ⟨k0, k1.trans (by rw [← d1, ← hm, q3, q2, nB, Int.toNat_natCast, List.append_assoc])⟩
  · obtain ⟨g1, g2, g3⟩ := few_there (bd := b0) (x := (ss.length : Int)) (s := opsB ss ++ rest) (ys := y) (by omega) (by omega) (by rw [h1, nB, Int.toNat_natCast, List.append_assoc])
    exact f2 (by rw [e1, g2, hb0]) ss rest (d1.trans g3) (by omega) h3
/-- The six numbers ahead. -/
structure Hd9 (ys : List UInt8) (b0 : Bool) (l : List Int) (bd : Bool) (y6 : List UInt8) : Prop where
  back : bd = false → b0 = false ∧ ys = numsB l ++ y6
  there : b0 = false → ∀ o, GoodO o ys → bd = false ∧ l = headN o ∧ y6 = tA o
theorem hd9 {ys y1 y2 y3 y4 y5 y6 : List UInt8} {b0 b1 b2 b3 b4 b5 b6 : Bool} (d1 : y1 = ys.drop (numR 0 0 ys).2.2) (d2 : y2 = y1.drop (numR 0 0 y1).2.2) (d3 : y3 = y2.drop (numR 0 0 y2).2.2) (d4 : y4 = y3.drop (numR 0 0 y3).2.2) (d5 : y5 = y4.drop (numR 0 0 y4).2.2) (d6 : y6 = y5.drop (numR 0 0 y5).2.2)
    (e1 : b1 = fewB b0 ys) (e2 : b2 = (b1 || !decide (((numR 0 0 y1).2.1 : Int) = 0))) (e3 : b3 = (b2 || !decide (((numR 0 0 y2).2.1 : Int) = 0))) (e4 : b4 = fewB b3 y3) (e5 : b5 = fewB b4 y4) (e6 : b6 = fewB b5 y5) :
    Hd9 ys b0 [fewR ys, ((numR 0 0 y1).1 : Int), ((numR 0 0 y2).1 : Int), fewR y3, fewR y4, fewR y5] b6 y6 := by
  refine ⟨fun hb => ?_, fun hb0 o g => ?_⟩
  · obtain ⟨k5, q6, _, _⟩ := few_back (e6.symm.trans hb)
    obtain ⟨k4, q5, _, _⟩ := few_back (e5.symm.trans k5)
    obtain ⟨k3, q4, _, _⟩ := few_back (e4.symm.trans k4)
    obtain ⟨k2, q3⟩ := num_back (e3.symm.trans k3)
    obtain ⟨k1, q2⟩ := num_back (e2.symm.trans k2)
    obtain ⟨k0, q1, _, _⟩ := few_back (e1.symm.trans k1)
    refine ⟨k0, ?_⟩
    rw [← d6] at q6; rw [← d5] at q5; rw [← d4] at q4; rw [← d3] at q3; rw [← d2] at q2; rw [← d1] at q1
    have r5 := q5.trans (congrArg (nB (fewR y4) ++ ·) q6)
    have r4 := q4.trans (congrArg (nB (fewR y3) ++ ·) r5)
    have r3 := q3.trans (congrArg (nB ((numR 0 0 y2).1 : Int) ++ ·) r4)
    have r2 := q2.trans (congrArg (nB ((numR 0 0 y1).1 : Int) ++ ·) r3)
    have r1 := q1.trans (congrArg (nB (fewR ys) ++ ·) r2)
    refine r1.trans ?_
    unfold numsB
    simp only [List.flatMap_cons, List.flatMap_nil, List.append_nil, List.append_assoc]
  · have hI := g.ok.2.1
    unfold IdOk at hI
    have hK : 0 ≤ o.f_Txn_Kind ∧ o.f_Txn_Kind ≤ 2 ∧ 0 ≤ o.f_Txn_To ∧ o.f_Txn_To ≤ 3 := by
      obtain ⟨⟨_, _, _, h1⟩, _⟩ := g.ok
      rcases h1 with ⟨q1, q2, _⟩ | ⟨q1, _, _, _, q2, q3⟩
      · exact ⟨by show (0 : Int) ≤ o.txn.f_Kind; omega, by show o.txn.f_Kind ≤ 2; omega, by show (0 : Int) ≤ o.txn.f_To; omega, by show o.txn.f_To ≤ 3; omega⟩
      · exact ⟨by show (0 : Int) ≤ o.txn.f_Kind; omega, by show o.txn.f_Kind ≤ 2; omega, by show (0 : Int) ≤ o.txn.f_To; omega, by show o.txn.f_To ≤ 3; omega⟩
    have hh := ok_hd g.ok g.wf
    have h1 := hh o.f_Tag_Id_Epoch (by simp [headN])
    have h2 := hh o.f_Tag_Id_Seq (by simp [headN])
    have f0 := g.eq.trans (ordB_hdT o)
    obtain ⟨a0, c0, f1⟩ := few_there (bd := b0) (x := o.f_Tag_Id_Node) (by omega) (by omega) (f0.trans (hdT_on (i := 0) rfl))
    obtain ⟨a1, c1, f2⟩ := num_there (bd := b1) h1.1 h1.2 ((d1.trans f1).trans (hdT_on (i := 1) rfl))
    obtain ⟨a2, c2, f3⟩ := num_there (bd := b2) h2.1 h2.2 ((d2.trans f2).trans (hdT_on (i := 2) rfl))
    obtain ⟨a3, c3, f4⟩ := few_there (bd := b3) (x := o.f_Tag_Try) (by omega) (by omega) ((d3.trans f3).trans (hdT_on (i := 3) rfl))
    obtain ⟨a4, c4, f5⟩ := few_there (bd := b4) (x := o.f_Txn_Kind) (by omega) (by omega) ((d4.trans f4).trans (hdT_on (i := 4) rfl))
    obtain ⟨a5, c5, f6⟩ := few_there (bd := b5) (x := o.f_Txn_To) (by omega) (by omega) ((d5.trans f5).trans (hdT_on (i := 5) rfl))
    refine ⟨by rw [e6, c5, e5, c4, e4, c3, e3, c2, e2, c1, e1, c0, hb0], by rw [a0, a1, a2, a3, a4, a5]; rfl, (d6.trans f6).trans ?_⟩
    unfold hdT headN numsB
    rfl
/-- What the document's reader says of an order q: ys stood there, ye is left. -/
structure Rd9 (ys : List UInt8) (b0 : Bool) (q : Order) (bd : Bool) (ye : List UInt8) : Prop where
  back : bd = false → b0 = false ∧ ys = ordB q ++ ye
  there : b0 = false → ∀ o, GoodO o ys → bd = false ∧ SameO q o ∧ ye = []
theorem Rd9.mk' {ys y6 yR yW yO ye : List UInt8} {b0 b6 bR bW bO bd : Bool} {q : Order} {j : Nat} (hh : Hd9 ys b0 (headN q) b6 y6) (hr : SecT y6 b6 q.f_Txn_Reads.xs bR yR) (hw : SecT yR bR q.f_Txn_Writes.xs bW yW) (ho : SecO yW bW q.f_Txn_Ops.xs bO yO) (hm : Mk9 yO (keysT q.txn) j q.f_Marks.xs bO bd ye) (hj : j ≤ (keysT q.txn).length) (he : (keysT q.txn).length ≤ j ∨ bd = true) : Rd9 ys b0 q bd ye := by
  obtain ⟨m1, m2⟩ := hm.fin hj he
  refine ⟨fun hb => ?_, fun hb0 o g => ?_⟩
  · obtain ⟨k1, _, q1⟩ := m1 hb
    obtain ⟨k2, q2⟩ := ho.back k1
    obtain ⟨k3, q3⟩ := hw.back k2
    obtain ⟨k4, q4⟩ := hr.back k3
    obtain ⟨k5, q5⟩ := hh.back k4
    refine ⟨k5, ?_⟩
    rw [q5, q4, q3, q2, q1, ordB_hdT]
    unfold hdT tA tB tC opT mkT
    simp only [List.drop_zero, List.append_assoc]
  · obtain ⟨k1, q1, r1⟩ := hh.there hb0 o g
    have ht := ok_txt g.ok
    have hp := ok_ops g.ok
    obtain ⟨k2, q2, r2⟩ := hr.there k1 o.f_Txn_Reads.xs (tB o) r1 (by omega) (fun x hx => by have := ht.1.2 x hx; omega)
    obtain ⟨k3, q3, r3⟩ := hw.there k2 o.f_Txn_Writes.xs (tC o) r2 (by omega) (fun x hx => by have := ht.2.2 x hx; omega)
    obtain ⟨k4, q4, q4', r4⟩ := ho.there k3 o.f_Txn_Ops.xs (mkT o 0) (by rw [r3]; unfold tC opT; rw [List.drop_zero, List.append_assoc]) (by omega) (fun x hx => by
      have h1 := ok_op g.ok x hx
      have h2 := hp.2 x hx
      have h3 := zig_0 (g.wf.op x hx)
      exact ⟨by omega, by omega, by omega, by omega, h3.1, h3.2⟩)
    unfold headN at q1
    simp only [List.cons.injEq, and_true] at q1
    obtain ⟨a0, a1, a2, a3, a4, a5⟩ := q1
    have hs : SameT q.txn o.txn := ⟨a4, a5, q2, q3, q4, fun j x y _ hx hy => q4' j x y hx hy⟩
    have hk := keysT_same hs
    have hl := g.ok.2.2.1
    rw [hk] at m2
    obtain ⟨k5, q5, r5⟩ := m2 k4 o.f_Marks.xs [] (by rw [r4]; unfold mkT; rw [List.drop_zero, List.append_nil]) hl (fun i m k hm hk => by
      obtain ⟨k', h1, h2, _⟩ := ok_mk g.ok hm
      rw [hk] at h1; cases h1
      exact h2) (fun m hm => by
      obtain ⟨i, hi, rfl⟩ := List.mem_iff_getElem.1 hm
      obtain ⟨k', h1, h2, h3, h4⟩ := ok_mk g.ok (List.getElem?_eq_getElem hi)
      exact ⟨⟨h3, by omega⟩, g.wf.mc _ hm⟩)
    exact ⟨k5, ⟨by show (⟨_, _, _, _⟩ : Tag) = ⟨_, _, _, _⟩; rw [a0, a1, a2, a3], hs, q5⟩, r5⟩
end
section
set_option linter.unusedVariables false
set_option linter.unusedSimpArgs false
set_option maxRecDepth 10000
open Go.RowKit Classical
theorem ins_step {α : Type} {lt : α → α → Prop} {out cur : List α} {x x1 y1 : α} {k : Nat} (h0 : 0 < k) (h : InsAt lt out x k cur) (hx : cur[((k : Int)).toNat]? = some x1) (hy : cur[((k : Int) - 1).toNat]? = some y1) (hl : lt x1 y1) : InsAt lt out x (k - 1) ((cur.set ((k : Int)).toNat y1).set ((k : Int) - 1).toNat x1) := by
  obtain ⟨j, rfl⟩ : ∃ j, k = j + 1 := ⟨k - 1, by omega⟩
  rw [show (((j + 1 : Nat) : Int) - 1).toNat = j by omega] at hy ⊢
  exact insAt_on h hx hy hl
set_option maxHeartbeats 1000000 in
theorem rkeys_ {W : World} {F : List Res} {t : Txn} (T_t : TxR W F t) (hb : t.f_Reads.xs.length + t.f_Writes.xs.length ≤ 1000000) : CS Tryz.prog 48 #[.agg #[.int .i64 t.f_Kind, .slice t.f_Reads.a (t.f_Reads.xs).length t.f_Reads.c, .slice t.f_Writes.a (t.f_Writes.xs).length t.f_Writes.c, .slice t.f_Ops.a (t.f_Ops.xs).length t.f_Ops.c, .int .i64 t.f_To]] W (F) (fun r L' => ∃ (a : Option Addr) (c : Nat), r = .slice a (keysT t).length c ∧ L' = row e_S.T e_S.sz a (keysT t).length c (flat e_S (keysT t)) :: F) := by
 refine f_door (l0 := [(0, .agg #[.int .i64 t.f_Kind, .slice t.f_Reads.a (t.f_Reads.xs).length t.f_Reads.c, .slice t.f_Writes.a (t.f_Writes.xs).length t.f_Writes.c, .slice t.f_Ops.a (t.f_Ops.xs).length t.f_Ops.c, .int .i64 t.f_To])]) Tryz.func48 Tryz.ntmps48 rfl rfl rfl ?_
 refine c_seq ?_
 refine c_region ?_
 refine o_box rfl rfl fun b1 => ?_
 refine o_assign rfl rfl ?_
 refine l_nil ?_
 refine q_then ?_
 refine c_seq ?_
 refine c_region ?_
 refine o_lit e_S_ok rfl Tryz.underlying27 rfl rfl rfl (lit_ok rfl) ([] : List ByteArray) rfl rfl fun a8 => ?_
 refine o_assign rfl rfl ?_
 refine l_nil ?_
 refine q_then ?_
 refine c_seq ?_
 refine c_held [row e_S.T e_S.sz a8 (([] : List ByteArray)).length 0 (flat e_S ([] : List ByteArray)), blk b1 (.cells #[.int .i64 t.f_Kind, .slice t.f_Reads.a (t.f_Reads.xs).length t.f_Reads.c, .slice t.f_Writes.a (t.f_Writes.xs).length t.f_Writes.c, .slice t.f_Ops.a (t.f_Ops.xs).length t.f_Ops.c, .int .i64 t.f_To] 30 (0, 0))] (by kernel_rfl) rfl ?_
 refine h_take 1 rfl rfl (by kernel_rfl) (by kernel_rfl) (by kernel_rfl) (fun L0 => v_fieldAddr (q := ⟨b1, 1, none⟩) rfl rfl Tryz.underlying30 rfl ti27 rfl) ?_
 refine h_take 2 rfl rfl (by kernel_rfl) (by kernel_rfl) (by kernel_rfl) (fun L0 => v_load1 rfl rfl Tryz.underlying27 rfl (rd_mem 1 rfl rfl)) ?_
 refine h_take 4 rfl rfl (by kernel_rfl) (by kernel_rfl) (by kernel_rfl) (fun L0 => v_fieldAddr (q := ⟨b1, 2, none⟩) rfl rfl Tryz.underlying30 rfl ti27 rfl) ?_
 refine h_take 5 rfl rfl (by kernel_rfl) (by kernel_rfl) (by kernel_rfl) (fun L0 => v_load1 rfl rfl Tryz.underlying27 rfl (rd_mem 1 rfl rfl)) ?_
 refine h_one 0 rfl (by kernel_rfl) ?_
 refine o_lit e_S_ok rfl Tryz.underlying27 rfl rfl rfl (lit_ok rfl) ([] : List ByteArray) rfl rfl fun a9 => ?_
 refine l_nil ?_
 refine q_conv (fun w S => S.perm p2) ?_
 refine q_conv (fun w S => S.perm p2) ?_
 refine h_next ?_
 refine h_one 3 rfl (by kernel_rfl) ?_
 refine l_f2 ?_
 refine o_append e_S_ok rfl rfl rfl Tryz.underlying27 (TxR.c (TxR.c (TxR.c T_t))).rr (by show (_ + _) * _ ≤ _; simp only [List.length_nil]; omega) (by simp only [List.length_nil]; omega) fun a12 c12 => ?_
 refine l_nil ?_
 refine q_conv (fun w S => S.perm p2) ?_
 refine q_conv (fun w S => S.perm p2) ?_
 refine h_next ?_
 refine h_one 6 rfl (by kernel_rfl) ?_
 refine l_f2 ?_
 refine o_append e_S_ok rfl rfl rfl Tryz.underlying27 (TxR.c (TxR.c (TxR.c T_t))).rw (by show (_ + _) * _ ≤ _; simp only [List.length_nil, List.length_append]; omega) (by simp only [List.length_nil, List.length_append]; omega) fun a15 c15 => ?_
 refine l_eq (t := 15) (v' := .slice a15 ((t.f_Reads.xs ++ t.f_Writes.xs)).length c15) rfl (by rfl) ?_
 refine l_conv (L' := row e_S.T e_S.sz a15 ((t.f_Reads.xs ++ t.f_Writes.xs)).length c15 (flat e_S (t.f_Reads.xs ++ t.f_Writes.xs)) :: _) (fun w S => by exact S) ?_
 refine l_nil ?_
 refine q_conv (fun w S => S.perm p2) ?_
 refine q_conv (fun w S => S.perm p2) ?_
 refine h_next ?_
 refine h_take 7 rfl rfl (by kernel_rfl) (by kernel_rfl) (by kernel_rfl) (fun L0 => v_assign rfl rfl) ?_
 refine h_done (by kernel_rfl) ?_
 refine q_then ?_
 refine c_seq ?_
 refine c_seq ?_
 have hal : (t.f_Reads.xs ++ t.f_Writes.xs).length = t.f_Reads.xs.length + t.f_Writes.xs.length := List.length_append
 refine c_region ?_
 refine o_assign rfl rfl ?_
 refine l_nil ?_
 refine q_then ?_
 refine c_block ?_
 refine c_loop (α := Nat × (List ByteArray) × (Option Addr) × Nat) (fun z => [(3, .slice z.2.2.1 (z.2.1).length z.2.2.2), (4, .slice a15 ((t.f_Reads.xs ++ t.f_Writes.xs)).length c15), (5, .int .i64 (z.1 : Int))]) (fun z => row e_S.T e_S.sz z.2.2.1 (z.2.1).length z.2.2.2 (flat e_S z.2.1) :: blk b1 (.cells #[.int .i64 t.f_Kind, .slice t.f_Reads.a (t.f_Reads.xs).length t.f_Reads.c, .slice t.f_Writes.a (t.f_Writes.xs).length t.f_Writes.c, .slice t.f_Ops.a (t.f_Ops.xs).length t.f_Ops.c, .int .i64 t.f_To] 30 (0, 0)) :: row e_S.T e_S.sz a15 ((t.f_Reads.xs ++ t.f_Writes.xs)).length c15 (flat e_S (t.f_Reads.xs ++ t.f_Writes.xs)) :: F) (fun z => z.1 ≤ (t.f_Reads.xs ++ t.f_Writes.xs).length ∧ z.2.1 = setOf strlt ((t.f_Reads.xs ++ t.f_Writes.xs).take z.1)) (fun z => (t.f_Reads.xs ++ t.f_Writes.xs).length - z.1) (0, [], a8, 0) (by exact ⟨Nat.zero_le _, rfl⟩) ⟨(by first | rfl | exact vint (by omega)), (by first | rfl | exact vint (by omega)), (by first | rfl | exact vint (by omega)), trivial⟩ (fun w S => S) ?_
 rintro ⟨i, out, a3, c3⟩ ⟨hi, ho⟩
 try dsimp only at *
 have hol : out.length ≤ i := by have h9 := setOf_le strlt_sto ((t.f_Reads.xs ++ t.f_Writes.xs).take i); rw [List.length_take] at h9; rw [ho]; omega
 refine c_seq ?_
 refine c_seq ?_
 refine c_region ?_
 refine o_move rfl rfl ?_
 refine o_move rfl rfl ?_
 refine o_len rfl rfl Tryz.underlying27 ?_
 refine o_bin rfl rfl rfl b_lss ?_
 refine l_nil ?_
 refine q_then ?_
 refine c_cond rfl (fun h1 => ?_) (fun h1 => ?_)
 · -- h1T
  have h1b := h1
  try simp only [decide_eq_true_eq] at h1
  refine c_skip ?_
  refine q_then ?_
  refine c_seq ?_
  refine c_block ?_
  refine c_seq ?_
  refine c_seq ?_
  refine c_region ?_
  refine o_move rfl rfl ?_
  refine o_move rfl rfl ?_
  refine o_move rfl rfl ?_
  refine o_index e_S_ok rfl rfl rfl Tryz.underlying27 (by omega) (by omega) (rds_own e_S_ok 2 rfl) fun ad25 ead25 => ?_
  obtain ⟨x25, hx25⟩ : ∃ x, ((t.f_Reads.xs ++ t.f_Writes.xs))[((i : Int)).toNat]? = some x := ⟨_, List.getElem?_eq_getElem (by (try simp only [List.length_set]); omega)⟩
  refine o_load1 rfl rfl Tryz.underlying9 rfl (rd_sl0 e_S_ok ead25 (rds_own e_S_ok 2 rfl) hx25 rfl) ?_
  refine o_call rfl cal70 rfl (in_ (rds_own e_S_ok 0 rfl) (by omega)) ?_
  rintro _ _ ⟨rfl, rfl⟩
  refine l_nil ?_
  refine q_then ?_
  refine c_cond rfl (fun h2 => ?_) (fun h2 => ?_)
  · -- h2T
   have h2b := h2
   try simp only [decide_eq_true_eq] at h2
   refine c_exit ?_
   refine q_pass_exit ?_
   refine q_hit ?_
   refine q_then ?_
   refine c_region ?_
   refine o_move rfl rfl ?_
   refine o_bin rfl rfl rfl (b_add (wrap_i64 (by omega) (by omega))) ?_
   refine o_assign rfl rfl ?_
   refine l_nil ?_
   exact q_round (i + 1, out, a3, c3) (by exact ⟨by omega, by rw [setOf_take_in strlt_sto (x := x25) (by simpa using hx25) (by rw [← ho]; exact h2)]; exact ho⟩) (by (try dsimp only); omega) ⟨(by first | rfl | exact vint (by omega)), (by first | rfl | exact vint (by omega)), (by first | rfl | exact vint (by omega)), trivial⟩ (fun w S => S)
  · -- h2F
   have h2b := h2
   try simp only [decide_eq_false_iff_not, Int.not_lt, Int.not_le] at h2
   refine c_skip ?_
   refine q_then ?_
   refine c_seq ?_
   refine c_region ?_
   refine o_move rfl rfl ?_
   refine o_move rfl rfl ?_
   refine o_move rfl rfl ?_
   refine o_indexK e_S_ok ead25 rfl rfl rfl Tryz.underlying27 (by omega) (by omega) ?_
   obtain ⟨x31, hx31⟩ : ∃ x, ((t.f_Reads.xs ++ t.f_Writes.xs))[((i : Int)).toNat]? = some x := ⟨_, List.getElem?_eq_getElem (by (try simp only [List.length_set]); omega)⟩
   have e31 : x31 = x25 := by rw [hx25] at hx31; exact (Option.some.inj hx31).symm
   refine o_load1 rfl rfl Tryz.underlying9 rfl (rd_sl0 e_S_ok ead25 (rds_own e_S_ok 2 rfl) hx31 rfl) ?_
   refine o_lit e_S_ok rfl Tryz.underlying27 rfl rfl rfl (lit_ok rfl) [x31] rfl rfl fun a33 => ?_
   refine l_f1 ?_
   refine o_append e_S_ok rfl rfl rfl Tryz.underlying27 (rds_own e_S_ok 1 rfl) (by show (_ + _) * 16 ≤ _; (try simp only [List.length_append, List.length_cons, List.length_nil]); omega) (by (try simp only [List.length_append, List.length_cons, List.length_nil]); omega) fun a34 c34 => ?_
   refine l_f1 ?_
   refine l_drop ?_
   refine l_eq (t := 34) (v' := .slice a34 ((out ++ [x25])).length c34) rfl (by rw [e31]) ?_
   refine l_conv (L' := row e_S.T e_S.sz a34 ((out ++ [x25])).length c34 (flat e_S (out ++ [x25])) :: _) (fun w S => by rw [e31] at S; exact S) ?_
   refine o_assign rfl rfl ?_
   refine l_nil ?_
   refine q_then ?_
   refine c_seq ?_
   have hlo : (out ++ [x25]).length = out.length + 1 := by simp
   refine c_region ?_
   refine o_move rfl rfl ?_
   refine o_len rfl rfl Tryz.underlying27 ?_
   refine o_bin rfl rfl rfl (b_sub (wrap_i64 (by omega) (by omega))) ?_
   refine o_assign rfl rfl ?_
   refine l_nil ?_
   refine q_then ?_
   refine c_block ?_
   refine c_loop (α := Nat × (List ByteArray)) (fun z => [(3, .slice a34 (z.2).length c34), (4, .slice a15 ((t.f_Reads.xs ++ t.f_Writes.xs)).length c15), (5, .int .i64 (i : Int)), (6, .int .i64 (z.1 : Int))]) (fun z => row e_S.T e_S.sz a34 (z.2).length c34 (flat e_S z.2) :: blk b1 (.cells #[.int .i64 t.f_Kind, .slice t.f_Reads.a (t.f_Reads.xs).length t.f_Reads.c, .slice t.f_Writes.a (t.f_Writes.xs).length t.f_Writes.c, .slice t.f_Ops.a (t.f_Ops.xs).length t.f_Ops.c, .int .i64 t.f_To] 30 (0, 0)) :: row e_S.T e_S.sz a15 ((t.f_Reads.xs ++ t.f_Writes.xs)).length c15 (flat e_S (t.f_Reads.xs ++ t.f_Writes.xs)) :: F) (fun z => InsAt strlt out x25 z.1 z.2) (fun z => z.1) (out.length, out ++ [x25]) (by exact insAt_0 out x25) ⟨(by first | rfl | exact vint (by omega)), (by first | rfl | exact vint (by omega)), (by first | rfl | exact vint (by omega)), (by first | rfl | exact vint (by omega)), trivial⟩ (fun w S => S) ?_
   rintro ⟨k, cur⟩ hin
   try dsimp only at *
   have hcl := insAt_len hin
   refine c_seq ?_
   refine c_seq ?_
   refine c_fact (p := ∃ ad, a34 = some ad) (rds_some (e := e_S) (xs := cur) (rds_own e_S_ok 0 rfl) (by intro h0; have h00 := congrArg List.length h0; simp only [List.length_nil] at h00; omega)) ?_
   rintro ⟨adx, eadx⟩
   refine c_quiet (by kernel_rfl) (by kernel_rfl) ?_
   refine Qt.o_val rfl (v_move rfl rfl) ?_
   refine Qt.o_val rfl (v_bin rfl rfl rfl b_gtr) ?_
   refine Qt.o_val rfl (v_move rfl rfl) ?_
   refine Qt.l_split (t := 40) rfl (fun h3 => ?_) (fun h3 => ?_)
   · -- h3T
    have h3b := h3
    try simp only [decide_eq_true_eq] at h3
    refine Qt.o_yes rfl rfl rfl ?_
    refine Qt.o_val rfl (v_move rfl rfl) ?_
    refine Qt.o_yes rfl rfl rfl ?_
    refine Qt.o_val rfl (v_move rfl rfl) ?_
    refine Qt.o_yes rfl rfl rfl ?_
    refine Qt.o_val rfl (v_indexK e_S_ok eadx rfl rfl rfl Tryz.underlying27 (by omega) (by omega)) ?_
    obtain ⟨x43, hx43⟩ : ∃ x, (cur)[((k : Int)).toNat]? = some x := ⟨_, List.getElem?_eq_getElem (by (try simp only [List.length_set]); omega)⟩
    refine Qt.o_yes rfl rfl rfl ?_
    refine Qt.o_val rfl (v_load1 rfl rfl Tryz.underlying9 rfl (rd_sl0 e_S_ok eadx (rds_own e_S_ok 0 rfl) hx43 rfl)) ?_
    refine Qt.o_yes rfl rfl rfl ?_
    refine Qt.o_val rfl (v_move rfl rfl) ?_
    refine Qt.o_yes rfl rfl rfl ?_
    refine Qt.o_val rfl (v_move rfl rfl) ?_
    refine Qt.o_yes rfl rfl rfl ?_
    refine Qt.o_val rfl (v_bin rfl rfl rfl (b_sub (wrap_i64 (by omega) (by omega)))) ?_
    refine Qt.o_yes rfl rfl rfl ?_
    refine Qt.o_val rfl (v_indexK e_S_ok eadx rfl rfl rfl Tryz.underlying27 (by omega) (by omega)) ?_
    obtain ⟨x48, hx48⟩ : ∃ x, (cur)[((k : Int) - 1).toNat]? = some x := ⟨_, List.getElem?_eq_getElem (by (try simp only [List.length_set]); omega)⟩
    have hk1 : ((k : Int) - 1).toNat = k - 1 := by omega
    refine Qt.o_yes rfl rfl rfl ?_
    refine Qt.o_val rfl (v_load1 rfl rfl Tryz.underlying9 rfl (rd_sl0 e_S_ok eadx (rds_own e_S_ok 0 rfl) hx48 rfl)) ?_
    refine Qt.o_yes rfl rfl rfl ?_
    refine Qt.o_val rfl (v_bin rfl rfl rfl b_slss) ?_
    refine Qt.o_val rfl (v_pick_true rfl rfl rfl) ?_
    refine Qt.l_nil ?_
    refine q_then ?_
    refine c_cond rfl (fun h4 => ?_) (fun h4 => ?_)
    · -- h4T
     have h4b := h4
     try simp only [decide_eq_true_eq, decide_eq_false_iff_not, Bool.not_eq_eq_eq_not, Bool.not_true, Bool.not_false, Bool.not_eq_true', Bool.not_eq_false', Int.not_lt, Int.not_le, Bool.or_eq_true, Bool.and_eq_true] at h4
     refine c_skip ?_
     refine q_then ?_
     refine c_seq ?_
     refine c_block ?_
     refine c_seq ?_
     refine c_region ?_
     refine o_move rfl rfl ?_
     refine o_move rfl rfl ?_
     refine o_indexK e_S_ok eadx rfl rfl rfl Tryz.underlying27 (by omega) (by omega) ?_
     obtain ⟨x56, hx56⟩ : ∃ x, (cur)[((k : Int)).toNat]? = some x := ⟨_, List.getElem?_eq_getElem (by (try simp only [List.length_set]); omega)⟩
     refine o_load1 rfl rfl Tryz.underlying9 rfl (rd_sl0 e_S_ok eadx (rds_own e_S_ok 0 rfl) hx56 rfl) ?_
     refine o_assign rfl rfl ?_
     refine l_nil ?_
     refine q_then ?_
     refine c_seq ?_
     refine c_region ?_
     refine o_move rfl rfl ?_
     refine o_move rfl rfl ?_
     refine o_move rfl rfl ?_
     refine o_move rfl rfl ?_
     refine o_bin rfl rfl rfl (b_sub (wrap_i64 (by omega) (by omega))) ?_
     refine o_indexK e_S_ok eadx rfl rfl rfl Tryz.underlying27 (by omega) (by omega) ?_
     obtain ⟨x63, hx63⟩ : ∃ x, (cur)[((k : Int) - 1).toNat]? = some x := ⟨_, List.getElem?_eq_getElem (by (try simp only [List.length_set]); omega)⟩
     have hsl : strlt x56 x63 := by rw [show x56 = x43 from by rw [hx43] at hx56; exact (Option.some.inj hx56).symm, show x63 = x48 from by rw [hx48] at hx63; exact (Option.some.inj hx63).symm]; show slt _ _ = true; simpa using h4
     refine o_load1 rfl rfl Tryz.underlying9 rfl (rd_sl0 e_S_ok eadx (rds_own e_S_ok 0 rfl) hx63 rfl) ?_
     refine o_indexK e_S_ok eadx rfl rfl rfl Tryz.underlying27 (by omega) (by omega) ?_
     obtain ⟨x65, hx65⟩ : ∃ x, (cur)[((k : Int)).toNat]? = some x := ⟨_, List.getElem?_eq_getElem (by (try simp only [List.length_set]); omega)⟩
     refine o_storeRow0 (x1 := x63) e_S_ok eadx rfl rfl rfl ti9 hx65 rfl ?_
     refine l_nil ?_
     refine q_then ?_
     have hcs : (cur.set ((k : Int)).toNat x63).length = cur.length := List.length_set
     refine c_region ?_
     refine o_move rfl rfl ?_
     refine o_move rfl rfl ?_
     refine o_bin rfl rfl rfl (b_sub (wrap_i64 (by omega) (by omega))) ?_
     refine o_move rfl rfl ?_
     refine o_indexK e_S_ok eadx rfl rfl rfl Tryz.underlying27 (by omega) (by omega) ?_
     obtain ⟨x70, hx70⟩ : ∃ x, ((cur).set ((k : Int)).toNat x63)[((k : Int) - 1).toNat]? = some x := ⟨_, List.getElem?_eq_getElem (by (try simp only [List.length_set]); omega)⟩
     refine o_storeRow0 (x1 := x56) e_S_ok eadx rfl rfl rfl ti9 hx70 rfl ?_
     refine l_nil ?_
     refine q_block ?_
     refine q_then ?_
     refine c_region ?_
     refine o_move rfl rfl ?_
     refine o_bin rfl rfl rfl (b_sub (wrap_i64 (by omega) (by omega))) ?_
     refine o_assign rfl rfl ?_
     refine l_nil ?_
     exact q_round (k - 1, (cur.set ((k : Int)).toNat x63).set ((k : Int) - 1).toNat x56) (by exact ins_step (by omega) hin hx56 hx63 hsl) (by (try dsimp only); omega) ⟨(by (try dsimp only); rw [List.length_set, List.length_set]; rfl), (by first | rfl | exact vint (by omega)), (by first | rfl | exact vint (by omega)), (by first | rfl | exact vint (by omega)), trivial⟩ (fun w S => S)
    · -- h4F
     have h4b := h4
     try simp only [decide_eq_true_eq, decide_eq_false_iff_not, Bool.not_eq_eq_eq_not, Bool.not_true, Bool.not_false, Bool.not_eq_true', Bool.not_eq_false', Int.not_lt, Int.not_le, Bool.or_eq_true, Bool.and_eq_true] at h4
     refine c_exit ?_
     refine q_pass_exit ?_
     refine q_pass_exit ?_
     refine q_hit ?_
     refine q_block ?_
     refine q_then ?_
     refine c_region ?_
     refine o_move rfl rfl ?_
     refine o_bin rfl rfl rfl (b_add (wrap_i64 (by omega) (by omega))) ?_
     refine o_assign rfl rfl ?_
     refine l_nil ?_
     exact q_round (i + 1, cur, a34, c34) (by exact ⟨by omega, by rw [setOf_take_on strlt_sto (x := x25) (by simpa using hx25), ← ho]; exact insAt_end strlt_sto hin (by rw [ho]; exact setOf_srt strlt_sto _) h2 (.inr ⟨x43, x48, by simpa using hx43, by rw [← hk1]; exact hx48, by show ¬ slt _ _ = true; simpa using h4⟩)⟩) (by (try dsimp only); omega) ⟨(by first | rfl | exact vint (by omega)), (by first | rfl | exact vint (by omega)), (by first | rfl | exact vint (by omega)), trivial⟩ (fun w S => S)
   · -- h3F
    have h3b := h3
    try simp only [decide_eq_false_iff_not, Int.not_lt, Int.not_le] at h3
    refine Qt.o_no rfl rfl rfl rfl ?_
    refine Qt.o_no rfl rfl rfl rfl ?_
    refine Qt.o_no rfl rfl rfl rfl ?_
    refine Qt.o_no rfl rfl rfl rfl ?_
    refine Qt.o_no rfl rfl rfl rfl ?_
    refine Qt.o_no rfl rfl rfl rfl ?_
    refine Qt.o_no rfl rfl rfl rfl ?_
    refine Qt.o_no rfl rfl rfl rfl ?_
    refine Qt.o_no rfl rfl rfl rfl ?_
    refine Qt.o_no rfl rfl rfl rfl ?_
    refine Qt.o_val rfl (v_pick_false rfl rfl rfl) ?_
    refine Qt.l_nil ?_
    refine q_then ?_
    refine c_false rfl ?_
    refine c_exit ?_
    refine q_pass_exit ?_
    refine q_pass_exit ?_
    refine q_hit ?_
    refine q_block ?_
    refine q_then ?_
    refine c_region ?_
    refine o_move rfl rfl ?_
    refine o_bin rfl rfl rfl (b_add (wrap_i64 (by omega) (by omega))) ?_
    refine o_assign rfl rfl ?_
    refine l_nil ?_
    exact q_round (i + 1, cur, a34, c34) (by exact ⟨by omega, by rw [setOf_take_on strlt_sto (x := x25) (by simpa using hx25), ← ho]; exact insAt_end strlt_sto hin (by rw [ho]; exact setOf_srt strlt_sto _) h2 (.inl (by omega))⟩) (by (try dsimp only); omega) ⟨(by first | rfl | exact vint (by omega)), (by first | rfl | exact vint (by omega)), (by first | rfl | exact vint (by omega)), trivial⟩ (fun w S => S)
 · -- h1F
  have h1b := h1
  try simp only [decide_eq_false_iff_not, Int.not_lt, Int.not_le] at h1
  refine c_exit ?_
  refine q_pass_exit ?_
  refine q_pass_exit ?_
  refine q_hit ?_
  refine q_then ?_
  refine c_seq ?_
  have hall : out = keysT t := by rw [ho, List.take_of_length_le (by omega)]; rfl
  refine c_region ?_
  refine o_move rfl rfl ?_
  refine o_assign rfl rfl ?_
  refine l_nil ?_
  refine q_then ?_
  refine c_ret ?_
  refine q_conv (fun w S => (S.perm p1).tail) ?_
  refine q_conv (fun w S => (S.perm p1).tail) ?_
  exact f_ret (r_one rfl rfl) (⟨a3, c3, by rw [hall], by rw [hall]⟩) (fun w S => S)
end
section
set_option linter.unusedVariables false
set_option linter.unusedSimpArgs false
set_option maxRecDepth 10000
open Go.RowKit Classical
theorem ti104 : TI Tryz.prog 104 (.agg #[.slice none 0 0]) 1 24 := by unfold TI; kernel_rfl
theorem ti73 : TI Tryz.prog 73 (.pointer none) 1 8 := by unfold TI; kernel_rfl
theorem ti76 : TI Tryz.prog 76 (.agg #[.pointer none]) 1 8 := by unfold TI; kernel_rfl
theorem sp104 : StructP Tryz.prog 104 #[(0, 1)] := ⟨_, Tryz.underlying104, fun w => by kernel_rfl⟩
theorem sp76 : StructP Tryz.prog 76 #[(0, 1)] := ⟨_, Tryz.underlying76, fun w => by kernel_rfl⟩
end
end Go.Proofs.YtlblipkcbmcfkaaGreat
