/- Printed by eng2.py out of 15/spec.py. -/
import Derived.Test.YteehongibjkjlaaPieces
set_option linter.unusedVariables false
set_option linter.unusedSimpArgs false
set_option maxRecDepth 10000
namespace Go.Proofs.Yteehongibjkjlaa
open Go.RowKit Classical
set_option maxHeartbeats 1000000 in
theorem next_ {W : World} {F : List Res} {g last : Int} {log : List Order} {a : Option Addr} {c : Nat} (hs : SlR W e_Order a log) (ho : ∀ x ∈ log, ∀ L, OrdR W L x) (hc : log.length ≤ c ∧ c ≤ 9223372036854775807) (hl : log.length ≤ 40) (hsm : ∀ x ∈ log, OSmall x) : CS Try.prog 20 #[.slice a log.length c, .int .i64 g, .int .i64 last] W (F) (fun r L' => ∃ (x : Item) (bb : Bool), r = .tuple #[.agg (e_Item.cells x).toArray, .bool bb] ∧ L' = ordM x.ord :: F ∧ OrdLen x.ord ∧ ((bb = true ∧ NextIs g log last x) ∨ (bb = false ∧ x = zItem ∧ NoNext g log last))) := by
 refine f_door (l0 := [(0, .slice a log.length c), (1, .int .i64 g), (2, .int .i64 last)]) Try.func20 Try.ntmps20 rfl rfl rfl ?_
 refine c_seq ?_
 refine c_region ?_
 refine o_box rfl rfl fun b5 => ?_
 refine o_alloc rfl ti42 fun b6 => ?_
 refine o_alloc rfl ti4 fun b7 => ?_
 refine l_nil ?_
 refine q_then ?_
 refine c_seq ?_
 refine c_seq ?_
 refine c_region ?_
 refine o_move rfl rfl ?_
 refine o_move rfl rfl ?_
 refine o_call rfl cal26 rfl (pieces_) ?_
 rintro _ _ ⟨b11, k11, rfl, rfl⟩
 refine l_nil ?_
 refine q_then ?_
 refine c_block ?_
 refine c_conv (fun w S => S.perm p2) ?_
 refine c_conv (fun w S => S.perm p3) ?_
 refine c_conv (fun w S => S.perm p4) ?_
 refine c_conv (fun w S => S.perm p4) ?_
 refine c_conv (fun w S => S.perm p4) ?_
 refine c_rangeM (Li := [blk b11 (.cells #[.slice a (log).length c] 22 (0, 0)), blk k11 (.cells #[.int .i64 g] 3 (0, 0))]) (L0 := blk b5 (.cells #[.int .i64 last] 3 (0, 0)) :: blk b6 (.cells #[.int .i64 0, .int .i64 0, .int .i64 0, .int .u64 0, .int .u64 0, .int .i64 0, .int .i64 0, .slice none 0 0, .slice none 0 0, .slice none 0 0, .int .i64 0, .slice none 0 0] 42 (0, 0)) :: blk b7 (.cells #[.bool false] 4 (0, 0)) :: F) (fun pre L => (∀ y ∈ pre, y.f_Index ≤ last) ∧ L = blk b5 (.cells #[.int .i64 last] 3 (0, 0)) :: blk b6 (.cells #[.int .i64 0, .int .i64 0, .int .i64 0, .int .u64 0, .int .u64 0, .int .i64 0, .int .i64 0, .slice none 0 0, .slice none 0 0, .slice none 0 0, .int .i64 0, .slice none 0 0] 42 (0, 0)) :: blk b7 (.cells #[.bool false] 4 (0, 0)) :: F) (fun c L => (c = .ret ∧ ∃ x' : Item, (NextIs g log last x' ∧ OrdLen x'.ord) ∧ L = blk b5 (.cells #[.int .i64 last] 3 (0, 0)) :: blk b6 (.cells #[.int .i64 x'.f_Kind, .int .i64 x'.f_Index, .int .i64 x'.f_Order_Tag_Id_Node, .int .u64 x'.f_Order_Tag_Id_Epoch, .int .u64 x'.f_Order_Tag_Id_Seq, .int .i64 x'.f_Order_Tag_Try, .int .i64 x'.f_Order_Txn_Kind, .slice x'.f_Order_Txn_Reads.a (x'.f_Order_Txn_Reads.xs).length x'.f_Order_Txn_Reads.c, .slice x'.f_Order_Txn_Writes.a (x'.f_Order_Txn_Writes.xs).length x'.f_Order_Txn_Writes.c, .slice x'.f_Order_Txn_Ops.a (x'.f_Order_Txn_Ops.xs).length x'.f_Order_Txn_Ops.c, .int .i64 x'.f_Order_Txn_To, .slice x'.f_Order_Marks.a (x'.f_Order_Marks.xs).length x'.f_Order_Marks.c] 42 (0, 0)) :: blk b7 (.cells #[.bool true] 4 (0, 0)) :: ordM x'.ord :: F)) rfl rfl cal37 rfl (fun _ => rfl) (pieces_iter hs ho hc hl hsm) (fun w S => S) ⟨(fun y hy => by cases hy), rfl⟩ ?_ ?_ ?_
 · -- round
  rintro Lxg1 kg1 rg1 Dg1 pre x _ hrg1 ⟨hall, rfl⟩ hpre
  try dsimp only at *
  obtain ⟨n, hn, hpn⟩ := hpre.pcs
  have hlx := hpre.len x (by simp)
  refine c_conv (L' := blk kg1 (.loop rg1) :: Dg1 :: ordM x.ord :: blk b5 (.cells #[.int .i64 last] 3 (0, 0)) :: blk b6 (.cells #[.int .i64 0, .int .i64 0, .int .i64 0, .int .u64 0, .int .u64 0, .int .i64 0, .int .i64 0, .slice none 0 0, .slice none 0 0, .slice none 0 0, .int .i64 0, .slice none 0 0] 42 (0, 0)) :: blk b7 (.cells #[.bool false] 4 (0, 0)) :: (Lxg1 ++ F)) (fun w S => S.perm (rgPM Lxg1 [blk b5 (.cells #[.int .i64 last] 3 (0, 0)), blk b6 (.cells #[.int .i64 0, .int .i64 0, .int .i64 0, .int .u64 0, .int .u64 0, .int .i64 0, .int .i64 0, .slice none 0 0, .slice none 0 0, .slice none 0 0, .int .i64 0, .slice none 0 0] 42 (0, 0)), blk b7 (.cells #[.bool false] 4 (0, 0))] F)) ?_
  refine c_region ?_
  refine o_alloc rfl ti42 fun b8 => ?_
  refine o_storen rfl rfl ti42 rfl rfl rfl rfl ?_
  refine l_nil ?_
  refine q_conv (fun w S => S.perm p6) ?_
  refine q_conv (fun w S => S.perm p6) ?_
  refine q_conv (fun w S => S.perm p6) ?_
  refine q_conv (fun w S => S.perm p6) ?_
  refine q_conv (fun w S => S.perm p6) ?_
  refine q_conv (fun w S => S.perm p5) ?_
  refine q_conv (fun w S => S.perm p6) ?_
  refine q_begin rfl hrg1 ?_
  refine c_block ?_
  refine c_seq ?_
  refine c_region ?_
  refine o_fieldAddr (q := ⟨b8, 1, none⟩) rfl rfl Try.underlying42 rfl ti3 rfl ?_
  refine o_load1 rfl rfl Try.underlying3 rfl (rd_mem 1 rfl rfl) ?_
  refine o_load1 rfl rfl Try.underlying3 rfl (rd_mem 4 rfl rfl) ?_
  refine o_bin rfl rfl rfl b_gtr ?_
  refine l_nil ?_
  refine q_then ?_
  refine c_cond rfl (fun h2 => ?_) (fun h2 => ?_)
  · -- h2T
   have h2b := h2
   try simp only [decide_eq_true_eq] at h2
   refine c_seq ?_
   refine c_region ?_
   refine o_loadn (vs := [_, _, _, _, _, _, _, _, _, _, _, _]) rfl rfl Try.underlying42 rfl ti42 (rdn_lit 1 rfl rfl) ?_
   refine l_f5 ?_
   refine o_storen rfl rfl ti42 rfl rfl rfl rfl ?_
   refine l_f6 ?_
   refine o_store1 rfl rfl rfl ti4 rfl rfl ?_
   refine l_nil ?_
   refine q_then ?_
   refine c_ret ?_
   refine q_block_ret ?_
   refine q_conv (fun w S => (S.perm p3).tail) ?_
   refine q_conv (fun w S => S.perm p4) ?_
   refine q_conv (fun w S => S.perm p1) ?_
   refine q_conv (fun w S => S.perm p2) ?_
   refine q_conv (fun w S => S.perm p5) ?_
   refine q_conv (fun w S => S.perm p5) ?_
   refine q_conv (fun w S => S.perm p5) ?_
   exact q_roundRet (.inr ⟨rfl, _, _, ⟨rfl, x, by exact ⟨next_is hn hpn (k := pre.length) (by simp) (fun i y hi hy => hall y (by rw [List.getElem?_append_left hi] at hy; exact List.mem_of_getElem? hy)) (by omega), hlx⟩, rfl⟩, rfl⟩) (fun w S => S.perm (rgP Lxg1 [blk b5 (.cells #[.int .i64 last] 3 (0, 0)), blk b6 (.cells #[.int .i64 x.f_Kind, .int .i64 x.f_Index, .int .i64 x.f_Order_Tag_Id_Node, .int .u64 x.f_Order_Tag_Id_Epoch, .int .u64 x.f_Order_Tag_Id_Seq, .int .i64 x.f_Order_Tag_Try, .int .i64 x.f_Order_Txn_Kind, .slice x.f_Order_Txn_Reads.a (x.f_Order_Txn_Reads.xs).length x.f_Order_Txn_Reads.c, .slice x.f_Order_Txn_Writes.a (x.f_Order_Txn_Writes.xs).length x.f_Order_Txn_Writes.c, .slice x.f_Order_Txn_Ops.a (x.f_Order_Txn_Ops.xs).length x.f_Order_Txn_Ops.c, .int .i64 x.f_Order_Txn_To, .slice x.f_Order_Marks.a (x.f_Order_Marks.xs).length x.f_Order_Marks.c] 42 (0, 0)), blk b7 (.cells #[.bool true] 4 (0, 0)), ordM x.ord] F).symm)
  · -- h2F
   have h2b := h2
   try simp only [decide_eq_false_iff_not, Int.not_lt, Int.not_le] at h2
   refine c_skip ?_
   refine q_block ?_
   refine q_conv (fun w S => (S.perm p1).tail) ?_
   refine q_conv (fun w S => (S.perm p2).tail) ?_
   exact q_roundOn (.inl ⟨rfl, _, ⟨by exact fun y hy => by rcases List.mem_append.1 hy with q | q; exact hall y q; rw [List.mem_singleton.1 q]; omega, rfl⟩, rfl⟩) (fun w S => S.perm (rgP Lxg1 [blk b5 (.cells #[.int .i64 last] 3 (0, 0)), blk b6 (.cells #[.int .i64 0, .int .i64 0, .int .i64 0, .int .u64 0, .int .u64 0, .int .i64 0, .int .i64 0, .slice none 0 0, .slice none 0 0, .slice none 0 0, .int .i64 0, .slice none 0 0] 42 (0, 0)), blk b7 (.cells #[.bool false] 4 (0, 0))] F).symm)
 · -- all have come
  rintro dg1 xsg1 _ hdng1 ⟨hall, rfl⟩
  try dsimp only at *
  refine q_block ?_
  refine q_then ?_
  refine c_seq ?_
  refine c_region ?_
  refine o_build rfl sp42 ti42 rfl rfl ?_
  refine l_f4 ?_
  refine o_storen rfl rfl ti42 rfl rfl rfl rfl ?_
  refine l_f5 ?_
  refine o_store1 rfl rfl rfl ti4 rfl rfl ?_
  refine l_nil ?_
  refine q_then ?_
  refine c_ret ?_
  refine q_conv (fun w S => S.perm p5) ?_
  refine q_conv (fun w S => S.perm p5) ?_
  refine q_conv (fun w S => S.perm p5) ?_
  refine q_conv (fun w S => S.perm p4) ?_
  refine q_conv (fun w S => S.perm p4) ?_
  refine q_conv (fun w S => S.perm p5) ?_
  refine f_retMq [dg1] (.inl rfl) rfl (fun w S => S) (rs_2 rfl (rs_celln (vs := [.int .i64 0, .int .i64 0, .int .i64 0, .int .u64 0, .int .u64 0, .int .i64 0, .int .i64 0, .slice none 0 0, .slice none 0 0, .slice none 0 0, .int .i64 0, .slice none 0 0]) rfl Try.underlying42 rfl ti42 (rdn_lit 1 rfl rfl)) (rs_cell rfl Try.underlying4 rfl (rd_mem 0 rfl rfl))) (fun w S => ?_)
  replace S := S.tail
  replace S := S.tail
  replace S := S.tail
  replace S := S.tail
  replace S := S.tail
  exact ⟨_, ⟨zItem, false, rfl, rfl, zItem_len, .inr ⟨rfl, rfl, no_next hdng1.1 (fun y hy => hall y hy)⟩⟩, (fun w S => ordM_zero S) w S⟩
 · -- a round has left
  rintro dg1 cg1 _ (⟨rfl, x', hj, rfl⟩)
  · -- ret
   try dsimp only at *
   refine c_ret ?_
   refine q_block_ret ?_
   refine q_pass_ret ?_
   refine f_retMq [dg1] (.inl rfl) rfl (fun w S => S) (rs_2 rfl (rs_celln (vs := [.int .i64 x'.f_Kind, .int .i64 x'.f_Index, .int .i64 x'.f_Order_Tag_Id_Node, .int .u64 x'.f_Order_Tag_Id_Epoch, .int .u64 x'.f_Order_Tag_Id_Seq, .int .i64 x'.f_Order_Tag_Try, .int .i64 x'.f_Order_Txn_Kind, .slice x'.f_Order_Txn_Reads.a (x'.f_Order_Txn_Reads.xs).length x'.f_Order_Txn_Reads.c, .slice x'.f_Order_Txn_Writes.a (x'.f_Order_Txn_Writes.xs).length x'.f_Order_Txn_Writes.c, .slice x'.f_Order_Txn_Ops.a (x'.f_Order_Txn_Ops.xs).length x'.f_Order_Txn_Ops.c, .int .i64 x'.f_Order_Txn_To, .slice x'.f_Order_Marks.a (x'.f_Order_Marks.xs).length x'.f_Order_Marks.c]) rfl Try.underlying42 rfl ti42 (rdn_lit 3 rfl rfl)) (rs_cell rfl Try.underlying4 rfl (rd_mem 4 rfl rfl))) (fun w S => ?_)
   replace S := S.tail
   replace S := S.tail
   replace S := S.tail
   replace S := S.tail
   replace S := S.tail
   exact ⟨_, ⟨x', true, rfl, rfl, hj.2, .inl ⟨rfl, hj.1⟩⟩, (fun w S => S) w S⟩

end Go.Proofs.Yteehongibjkjlaa
