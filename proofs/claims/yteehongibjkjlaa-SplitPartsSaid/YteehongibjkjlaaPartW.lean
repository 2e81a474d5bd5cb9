/- Printed by eng2.py out of 15/spec.py. -/
import Derived.Test.YteehongibjkjlaaPartp
import Derived.Test.YteehongibjkjlaaIntsC
import Derived.Test.YteehongibjkjlaaHomes
set_option linter.unusedVariables false
set_option linter.unusedSimpArgs false
set_option maxRecDepth 10000
namespace Go.Proofs.Yteehongibjkjlaa
open Go.RowKit Classical
theorem part_ {W : World} {F : List Res} {o : Order} (T_o : OrdR W F o) {g : Int} (hm : o.f_Marks.xs.length ≤ 1000000) : CS Try.prog 15 #[.agg #[.int .i64 o.f_Tag_Id_Node, .int .u64 o.f_Tag_Id_Epoch, .int .u64 o.f_Tag_Id_Seq, .int .i64 o.f_Tag_Try, .int .i64 o.f_Txn_Kind, .slice o.f_Txn_Reads.a (o.f_Txn_Reads.xs).length o.f_Txn_Reads.c, .slice o.f_Txn_Writes.a (o.f_Txn_Writes.xs).length o.f_Txn_Writes.c, .slice o.f_Txn_Ops.a (o.f_Txn_Ops.xs).length o.f_Txn_Ops.c, .int .i64 o.f_Txn_To, .slice o.f_Marks.a (o.f_Marks.xs).length o.f_Marks.c], .int .i64 g] W (F) (fun r L' => ∃ (a : Option Addr) (c : Nat), r = .slice a (partOf g o.f_Marks.xs).length c ∧ L' = row e_Mark.T e_Mark.sz a (partOf g o.f_Marks.xs).length c (flat e_Mark (partOf g o.f_Marks.xs)) :: F) := by
 refine f_door (l0 := [(0, .agg #[.int .i64 o.f_Tag_Id_Node, .int .u64 o.f_Tag_Id_Epoch, .int .u64 o.f_Tag_Id_Seq, .int .i64 o.f_Tag_Try, .int .i64 o.f_Txn_Kind, .slice o.f_Txn_Reads.a (o.f_Txn_Reads.xs).length o.f_Txn_Reads.c, .slice o.f_Txn_Writes.a (o.f_Txn_Writes.xs).length o.f_Txn_Writes.c, .slice o.f_Txn_Ops.a (o.f_Txn_Ops.xs).length o.f_Txn_Ops.c, .int .i64 o.f_Txn_To, .slice o.f_Marks.a (o.f_Marks.xs).length o.f_Marks.c]), (1, .int .i64 g)]) Try.func15 Try.ntmps15 rfl rfl rfl ?_
 refine c_seq ?_
 refine c_region ?_
 refine o_box rfl rfl fun b2 => ?_
 refine o_assign rfl rfl ?_
 refine l_nil ?_
 refine q_then ?_
 refine c_seq ?_
 refine c_seq ?_
 refine c_nilrow e_Mark ?_
 refine c_region ?_
 refine o_fieldAddr (q := ⟨b2, 9, none⟩) rfl rfl Try.underlying40 rfl ti38 rfl ?_
 refine o_load1 rfl rfl Try.underlying38 rfl (rd_mem 1 rfl rfl) ?_
 refine o_len rfl rfl Try.underlying38 ?_
 refine o_move rfl rfl ?_
 refine l_nil ?_
 refine q_then ?_
 refine c_block ?_
 refine c_loop (α := Nat × (List Mark) × (Option Addr) × Nat) (fun z => [(1, .int .i64 g), (4, .slice z.2.2.1 (z.2.1).length z.2.2.2), (8, .slice o.f_Marks.a (o.f_Marks.xs).length o.f_Marks.c), (9, .int .i64 ((o.f_Marks.xs).length : Int)), (10, .int .i64 (z.1 : Int))]) (fun z => row e_Mark.T e_Mark.sz z.2.2.1 (z.2.1).length z.2.2.2 (flat e_Mark z.2.1) :: blk b2 (.cells #[.int .i64 o.f_Tag_Id_Node, .int .u64 o.f_Tag_Id_Epoch, .int .u64 o.f_Tag_Id_Seq, .int .i64 o.f_Tag_Try, .int .i64 o.f_Txn_Kind, .slice o.f_Txn_Reads.a (o.f_Txn_Reads.xs).length o.f_Txn_Reads.c, .slice o.f_Txn_Writes.a (o.f_Txn_Writes.xs).length o.f_Txn_Writes.c, .slice o.f_Txn_Ops.a (o.f_Txn_Ops.xs).length o.f_Txn_Ops.c, .int .i64 o.f_Txn_To, .slice o.f_Marks.a (o.f_Marks.xs).length o.f_Marks.c] 40 (0, 0)) :: F) (fun z => z.1 ≤ o.f_Marks.xs.length ∧ z.2.1 = partOf g (o.f_Marks.xs.take z.1)) (fun z => o.f_Marks.xs.length - z.1) (0, [], none, 0) (by exact ⟨Nat.zero_le _, rfl⟩) ⟨(by first | rfl | exact vint (by omega)), (by first | rfl | exact vint (by omega)), (by first | rfl | exact vint (by omega)), (by first | rfl | exact vint (by omega)), (by first | rfl | exact vint (by omega)), trivial⟩ (fun w S => S) ?_
 rintro ⟨i, ps, a4, c4⟩ ⟨hi, hps⟩
 try dsimp only at *
 have hpl : ps.length ≤ i := by rw [hps]; have := part_le g (o.f_Marks.xs.take i); rw [List.length_take] at this; omega
 refine c_seq ?_
 refine c_region ?_
 refine o_bin rfl rfl rfl b_lss ?_
 refine l_nil ?_
 refine q_then ?_
 refine c_seq ?_
 refine c_cond rfl (fun h1 => ?_) (fun h1 => ?_)
 · -- h1T
  have h1b := h1
  try simp only [decide_eq_true_eq] at h1
  refine c_skip ?_
  refine q_then ?_
  refine c_seq ?_
  refine c_block ?_
  refine c_seq ?_
  refine c_region ?_
  refine o_index e_Mark_ok rfl rfl rfl Try.underlying38 (by omega) (by omega) (OrdR.c (OrdR.c T_o)).rm fun ad12 ead12 => ?_
  obtain ⟨x12, hx12⟩ : ∃ x, (o.f_Marks.xs)[((i : Int)).toNat]? = some x := ⟨_, List.getElem?_eq_getElem (by omega)⟩
  refine o_loadn (vs := e_Mark.cells x12) rfl rfl Try.underlying49 rfl ti49 (rdn_sl e_Mark_ok ead12 (OrdR.c (OrdR.c T_o)).rm hx12) ?_
  refine o_alloc rfl ti49 fun b6 => ?_
  refine o_storen rfl rfl ti49 rfl rfl rfl rfl ?_
  refine l_nil ?_
  refine q_then ?_
  refine c_seq ?_
  refine c_region ?_
  refine o_fieldAddr (q := ⟨b6, 1, none⟩) rfl rfl Try.underlying49 rfl ti3 rfl ?_
  refine o_load1 rfl rfl Try.underlying3 rfl (rd_mem 0 rfl rfl) ?_
  refine o_move rfl rfl ?_
  refine o_bin rfl rfl rfl b_eql ?_
  refine l_nil ?_
  refine q_then ?_
  refine c_cond rfl (fun h2 => ?_) (fun h2 => ?_)
  · -- h2T
   have h2b := h2
   try simp only [decide_eq_true_eq] at h2
   refine c_region ?_
   refine o_move rfl rfl ?_
   refine o_loadn (vs := [_, _, _]) rfl rfl Try.underlying49 rfl ti49 (rdn_lit 0 rfl rfl) ?_
   refine o_lit e_Mark_ok rfl Try.underlying38 rfl rfl rfl (lit_ok rfl) [x12] rfl rfl fun a20 => ?_
   refine l_f2 ?_
   refine o_append e_Mark_ok rfl rfl rfl Try.underlying38 (rds_own e_Mark_ok 1 rfl) (by show (_ + _) * 32 ≤ _; (try simp only [List.length_append, List.length_cons, List.length_nil]); omega) (by (try simp only [List.length_append, List.length_cons, List.length_nil]); omega) fun a21 c21 => ?_
   refine l_f1 ?_
   refine l_drop ?_
   refine o_assign rfl rfl ?_
   refine l_nil ?_
   refine q_block ?_
   refine q_then ?_
   refine c_region ?_
   refine o_bin rfl rfl rfl (b_add (wrap_i64 (by omega) (by omega))) ?_
   refine o_move rfl rfl ?_
   refine l_nil ?_
   refine q_conv (fun w S => (S.perm p1).tail) ?_
   exact q_round (i + 1, ps ++ [x12], a21, c21) (by exact ⟨by omega, part_in hps hx12 (by assumption)⟩) (by (try dsimp only); omega) ⟨(by first | rfl | exact vint (by omega)), (by first | rfl | exact vint (by omega)), (by first | rfl | exact vint (by omega)), (by first | rfl | exact vint (by omega)), (by first | rfl | exact vint (by omega)), trivial⟩ (fun w S => S)
  · -- h2F
   have h2b := h2
   try simp only [decide_eq_false_iff_not, Int.not_lt, Int.not_le] at h2
   refine c_skip ?_
   refine q_block ?_
   refine q_then ?_
   refine c_region ?_
   refine o_bin rfl rfl rfl (b_add (wrap_i64 (by omega) (by omega))) ?_
   refine o_move rfl rfl ?_
   refine l_nil ?_
   refine q_conv (fun w S => S.tail) ?_
   exact q_round (i + 1, ps, a4, c4) (by exact ⟨by omega, part_out hps hx12 (by assumption)⟩) (by (try dsimp only); omega) ⟨(by first | rfl | exact vint (by omega)), (by first | rfl | exact vint (by omega)), (by first | rfl | exact vint (by omega)), (by first | rfl | exact vint (by omega)), (by first | rfl | exact vint (by omega)), trivial⟩ (fun w S => S)
 · -- h1F
  have h1b := h1
  try simp only [decide_eq_false_iff_not, Int.not_lt, Int.not_le] at h1
  refine c_exit ?_
  refine q_pass_exit ?_
  refine q_pass_exit ?_
  refine q_hit ?_
  refine q_then ?_
  refine c_seq ?_
  have hall : ps = partOf g o.f_Marks.xs := by rw [hps, List.take_of_length_le (by omega)]
  refine c_region ?_
  refine o_move rfl rfl ?_
  refine o_assign rfl rfl ?_
  refine l_nil ?_
  refine q_then ?_
  refine c_ret ?_
  refine q_conv (fun w S => (S.perm p1).tail) ?_
  exact f_ret (r_one rfl rfl) (⟨a4, c4, by rw [hall], by rw [hall]⟩) (fun w S => S)

theorem rpart_ {W : World} {F : List Res} {o : Order} (T_o : OrdR W F o) {g : Int} (hm : o.f_Marks.xs.length ≤ 1000000) : CS Try.prog 17 #[.agg #[.int .i64 o.f_Tag_Id_Node, .int .u64 o.f_Tag_Id_Epoch, .int .u64 o.f_Tag_Id_Seq, .int .i64 o.f_Tag_Try, .int .i64 o.f_Txn_Kind, .slice o.f_Txn_Reads.a (o.f_Txn_Reads.xs).length o.f_Txn_Reads.c, .slice o.f_Txn_Writes.a (o.f_Txn_Writes.xs).length o.f_Txn_Writes.c, .slice o.f_Txn_Ops.a (o.f_Txn_Ops.xs).length o.f_Txn_Ops.c, .int .i64 o.f_Txn_To, .slice o.f_Marks.a (o.f_Marks.xs).length o.f_Marks.c], .int .i64 g] W (F) (fun r L' => ∃ (a : Option Addr) (c : Nat), r = .slice a (partOf g o.f_Marks.xs).length c ∧ L' = row e_Mark.T e_Mark.sz a (partOf g o.f_Marks.xs).length c (flat e_Mark (partOf g o.f_Marks.xs)) :: F) := by
 refine f_door (l0 := [(0, .agg #[.int .i64 o.f_Tag_Id_Node, .int .u64 o.f_Tag_Id_Epoch, .int .u64 o.f_Tag_Id_Seq, .int .i64 o.f_Tag_Try, .int .i64 o.f_Txn_Kind, .slice o.f_Txn_Reads.a (o.f_Txn_Reads.xs).length o.f_Txn_Reads.c, .slice o.f_Txn_Writes.a (o.f_Txn_Writes.xs).length o.f_Txn_Writes.c, .slice o.f_Txn_Ops.a (o.f_Txn_Ops.xs).length o.f_Txn_Ops.c, .int .i64 o.f_Txn_To, .slice o.f_Marks.a (o.f_Marks.xs).length o.f_Marks.c]), (1, .int .i64 g)]) Try.func17 Try.ntmps17 rfl rfl rfl ?_
 refine c_seq ?_
 refine c_region ?_
 refine o_box rfl rfl fun b2 => ?_
 refine o_assign rfl rfl ?_
 refine l_nil ?_
 refine q_then ?_
 refine c_seq ?_
 refine c_region ?_
 refine o_lit e_Mark_ok rfl Try.underlying38 rfl rfl rfl (lit_ok rfl) ([] : List Mark) rfl rfl fun a7 => ?_
 refine o_assign rfl rfl ?_
 refine l_nil ?_
 refine q_then ?_
 refine c_seq ?_
 refine c_seq ?_
 refine c_region ?_
 refine o_assign rfl rfl ?_
 refine l_nil ?_
 refine q_then ?_
 refine c_block ?_
 refine c_loop (α := Nat × (List Mark) × (Option Addr) × Nat) (fun z => [(1, .int .i64 g), (2, .pointer (some ⟨b2, 0, none⟩)), (5, .slice z.2.2.1 (z.2.1).length z.2.2.2), (6, .int .i64 (z.1 : Int))]) (fun z => row e_Mark.T e_Mark.sz z.2.2.1 (z.2.1).length z.2.2.2 (flat e_Mark z.2.1) :: blk b2 (.cells #[.int .i64 o.f_Tag_Id_Node, .int .u64 o.f_Tag_Id_Epoch, .int .u64 o.f_Tag_Id_Seq, .int .i64 o.f_Tag_Try, .int .i64 o.f_Txn_Kind, .slice o.f_Txn_Reads.a (o.f_Txn_Reads.xs).length o.f_Txn_Reads.c, .slice o.f_Txn_Writes.a (o.f_Txn_Writes.xs).length o.f_Txn_Writes.c, .slice o.f_Txn_Ops.a (o.f_Txn_Ops.xs).length o.f_Txn_Ops.c, .int .i64 o.f_Txn_To, .slice o.f_Marks.a (o.f_Marks.xs).length o.f_Marks.c] 40 (0, 0)) :: F) (fun z => z.1 ≤ o.f_Marks.xs.length ∧ z.2.1 = partOf g (o.f_Marks.xs.take z.1)) (fun z => o.f_Marks.xs.length - z.1) (0, [], a7, 0) (by exact ⟨Nat.zero_le _, rfl⟩) ⟨(by first | rfl | exact vint (by omega)), (by first | rfl | exact vint (by omega)), (by first | rfl | exact vint (by omega)), (by first | rfl | exact vint (by omega)), trivial⟩ (fun w S => S) ?_
 rintro ⟨i, ps, a4, c4⟩ ⟨hi, hps⟩
 try dsimp only at *
 have hpl : ps.length ≤ i := by rw [hps]; have := part_le g (o.f_Marks.xs.take i); rw [List.length_take] at this; omega
 refine c_seq ?_
 refine c_seq ?_
 refine c_region ?_
 refine o_move rfl rfl ?_
 refine o_fieldAddr (q := ⟨b2, 9, none⟩) rfl rfl Try.underlying40 rfl ti38 rfl ?_
 refine o_load1 rfl rfl Try.underlying38 rfl (rd_mem 1 rfl rfl) ?_
 refine o_len rfl rfl Try.underlying38 ?_
 refine o_bin rfl rfl rfl b_lss ?_
 refine l_nil ?_
 refine q_then ?_
 refine c_cond rfl (fun h1 => ?_) (fun h1 => ?_)
 · -- h1T
  have h1b := h1
  try simp only [decide_eq_true_eq] at h1
  refine c_skip ?_
  refine q_then ?_
  refine c_seq ?_
  refine c_block ?_
  refine c_seq ?_
  refine c_region ?_
  refine o_fieldAddr (q := ⟨b2, 9, none⟩) rfl rfl Try.underlying40 rfl ti38 rfl ?_
  refine o_load1 rfl rfl Try.underlying38 rfl (rd_mem 1 rfl rfl) ?_
  refine o_move rfl rfl ?_
  refine o_index e_Mark_ok rfl rfl rfl Try.underlying38 (by omega) (by omega) (OrdR.c (OrdR.c T_o)).rm fun ad18 ead18 => ?_
  obtain ⟨x18, hx18⟩ : ∃ x, (o.f_Marks.xs)[((i : Int)).toNat]? = some x := ⟨_, List.getElem?_eq_getElem (by omega)⟩
  refine o_fieldAddr rfl rfl Try.underlying49 rfl ti3 (Addr.add_add' _ _ _) ?_
  refine o_load1 rfl rfl Try.underlying3 rfl (rd_sl e_Mark_ok ead18 (OrdR.c (OrdR.c T_o)).rm hx18 rfl) ?_
  refine o_move rfl rfl ?_
  refine o_bin rfl rfl rfl b_eql ?_
  refine l_nil ?_
  refine q_then ?_
  refine c_cond rfl (fun h2 => ?_) (fun h2 => ?_)
  · -- h2T
   have h2b := h2
   try simp only [decide_eq_true_eq] at h2
   refine c_region ?_
   refine o_move rfl rfl ?_
   refine o_fieldAddr (q := ⟨b2, 9, none⟩) rfl rfl Try.underlying40 rfl ti38 rfl ?_
   refine o_load1 rfl rfl Try.underlying38 rfl (rd_mem 1 rfl rfl) ?_
   refine o_move rfl rfl ?_
   refine o_indexK e_Mark_ok ead18 rfl rfl rfl Try.underlying38 (by omega) (by omega) ?_
   obtain ⟨x27, hx27⟩ : ∃ x, (o.f_Marks.xs)[((i : Int)).toNat]? = some x := ⟨_, List.getElem?_eq_getElem (by omega)⟩
   have e27 : x27 = x18 := by rw [hx18] at hx27; exact (Option.some.inj hx27).symm
   refine o_loadn (vs := e_Mark.cells x27) rfl rfl Try.underlying49 rfl ti49 (rdn_sl e_Mark_ok ead18 (OrdR.c (OrdR.c T_o)).rm hx27) ?_
   refine o_lit e_Mark_ok rfl Try.underlying38 rfl rfl rfl (lit_ok rfl) [x27] rfl rfl fun a29 => ?_
   refine l_f1 ?_
   refine o_append e_Mark_ok rfl rfl rfl Try.underlying38 (rds_own e_Mark_ok 1 rfl) (by show (_ + _) * 32 ≤ _; (try simp only [List.length_append, List.length_cons, List.length_nil]); omega) (by (try simp only [List.length_append, List.length_cons, List.length_nil]); omega) fun a30 c30 => ?_
   refine l_f1 ?_
   refine l_drop ?_
   refine l_eq (t := 30) (v' := .slice a30 (ps ++ [x18]).length c30) rfl (by rw [e27]) ?_
   refine l_conv (L' := row e_Mark.T e_Mark.sz a30 (ps ++ [x18]).length c30 (flat e_Mark (ps ++ [x18])) :: _) (fun w S => by rw [e27] at S; exact S) ?_
   refine o_assign rfl rfl ?_
   refine l_nil ?_
   refine q_block ?_
   refine q_then ?_
   refine c_region ?_
   refine o_move rfl rfl ?_
   refine o_bin rfl rfl rfl (b_add (wrap_i64 (by omega) (by omega))) ?_
   refine o_assign rfl rfl ?_
   refine l_nil ?_
   exact q_round (i + 1, ps ++ [x18], a30, c30) (by exact ⟨by omega, part_in hps hx18 (by assumption)⟩) (by (try dsimp only); omega) ⟨(by first | rfl | exact vint (by omega)), (by first | rfl | exact vint (by omega)), (by first | rfl | exact vint (by omega)), (by first | rfl | exact vint (by omega)), trivial⟩ (fun w S => S)
  · -- h2F
   have h2b := h2
   try simp only [decide_eq_false_iff_not, Int.not_lt, Int.not_le] at h2
   refine c_skip ?_
   refine q_block ?_
   refine q_then ?_
   refine c_region ?_
   refine o_move rfl rfl ?_
   refine o_bin rfl rfl rfl (b_add (wrap_i64 (by omega) (by omega))) ?_
   refine o_assign rfl rfl ?_
   refine l_nil ?_
   exact q_round (i + 1, ps, a4, c4) (by exact ⟨by omega, part_out hps hx18 (by assumption)⟩) (by (try dsimp only); omega) ⟨(by first | rfl | exact vint (by omega)), (by first | rfl | exact vint (by omega)), (by first | rfl | exact vint (by omega)), (by first | rfl | exact vint (by omega)), trivial⟩ (fun w S => S)
 · -- h1F
  have h1b := h1
  try simp only [decide_eq_false_iff_not, Int.not_lt, Int.not_le] at h1
  refine c_exit ?_
  refine q_pass_exit ?_
  refine q_pass_exit ?_
  refine q_hit ?_
  refine q_then ?_
  refine c_seq ?_
  have hall : ps = partOf g o.f_Marks.xs := by rw [hps, List.take_of_length_le (by omega)]
  refine c_region ?_
  refine o_move rfl rfl ?_
  refine o_assign rfl rfl ?_
  refine l_nil ?_
  refine q_then ?_
  refine c_ret ?_
  refine q_conv (fun w S => (S.perm p1).tail) ?_
  exact f_ret (r_one rfl rfl) (⟨a4, c4, by rw [hall], by rw [hall]⟩) (fun w S => S)

theorem same10_ {W : World} {F : List Res} {xs ys : List Mark} {a b : Option Addr} {c d : Nat} (hx : RdS W F e_Mark a xs) (hy : RdS W F e_Mark b ys) (hn : xs.length ≤ 1000000) : CS Try.prog 16 #[.slice a xs.length c, .slice b ys.length d] W (F) (fun r L' => r = .bool (decide (xs = ys)) ∧ F = L') := by
 refine f_door (l0 := [(0, .slice a xs.length c), (1, .slice b ys.length d)]) Try.func16 Try.ntmps16 rfl rfl rfl ?_
 refine c_seq ?_
 refine c_region ?_
 refine o_assign rfl rfl ?_
 refine l_nil ?_
 refine q_then ?_
 refine c_seq ?_
 refine c_seq ?_
 refine c_region ?_
 refine o_move rfl rfl ?_
 refine o_len rfl rfl Try.underlying38 ?_
 refine o_move rfl rfl ?_
 refine o_len rfl rfl Try.underlying38 ?_
 refine o_bin rfl rfl rfl b_neq ?_
 refine l_nil ?_
 refine q_then ?_
 refine c_cond rfl (fun h1 => ?_) (fun h1 => ?_)
 · -- h1T
  have h1b := h1
  try simp only [Bool.not_eq_true', decide_eq_false_iff_not, Int.not_lt, Int.not_le] at h1
  refine c_seq ?_
  refine c_region ?_
  refine o_assign rfl rfl ?_
  refine l_nil ?_
  refine q_then ?_
  refine c_ret ?_
  refine q_pass_ret ?_
  exact f_ret (r_one rfl rfl) (⟨vfalse' (fun h9 => h1 (by rw [h9])), rfl⟩) (fun w S => S)
 · -- h1F
  have h1b := h1
  try simp only [Bool.not_eq_false', decide_eq_true_eq] at h1
  refine c_skip ?_
  refine q_then ?_
  refine c_seq ?_
  refine c_seq ?_
  refine c_region ?_
  refine o_assign rfl rfl ?_
  refine l_nil ?_
  refine q_then ?_
  refine c_block ?_
  refine c_loop (α := Nat) (fun z => [(0, .slice a (xs).length c), (1, .slice b (ys).length d), (5, .int .i64 (z : Int))]) (fun z => F) (fun z => z ≤ xs.length ∧ ∀ j, j < z → xs[j]? = ys[j]?) (fun z => xs.length - z) (0) (by exact ⟨Nat.zero_le _, fun j h => absurd h (by omega)⟩) ⟨(by first | rfl | exact vint (by omega)), (by first | rfl | exact vint (by omega)), (by first | rfl | exact vint (by omega)), trivial⟩ (fun w S => S) ?_
  rintro i ⟨hi, heq⟩
  try dsimp only at *
  refine c_seq ?_
  refine c_seq ?_
  refine c_region ?_
  refine o_move rfl rfl ?_
  refine o_move rfl rfl ?_
  refine o_len rfl rfl Try.underlying38 ?_
  refine o_bin rfl rfl rfl b_lss ?_
  refine l_nil ?_
  refine q_then ?_
  refine c_cond rfl (fun h2 => ?_) (fun h2 => ?_)
  · -- h2T
   have h2b := h2
   try simp only [decide_eq_true_eq] at h2
   refine c_skip ?_
   refine q_then ?_
   refine c_seq ?_
   refine c_block ?_
   refine c_seq ?_
   refine c_fact (p := ∃ ad, a = some ad) (rds_some (e := e_Mark) (xs := xs) hx (by intro h0; have h00 := congrArg List.length h0; simp only [List.length_nil] at h00; omega)) ?_
   rintro ⟨adx, eadx⟩
   refine c_fact (p := ∃ ad, b = some ad) (rds_some (e := e_Mark) (xs := ys) hy (by intro h0; have h00 := congrArg List.length h0; simp only [List.length_nil] at h00; omega)) ?_
   rintro ⟨ady, eady⟩
   refine c_quiet (by kernel_rfl) (by kernel_rfl) ?_
   refine Qt.o_val rfl (v_move rfl rfl) ?_
   refine Qt.o_val rfl (v_move rfl rfl) ?_
   refine Qt.o_val rfl (v_indexK e_Mark_ok eadx rfl rfl rfl Try.underlying38 (by omega) (by omega)) ?_
   obtain ⟨x19, hx19⟩ : ∃ x, (xs)[((i : Int)).toNat]? = some x := ⟨_, List.getElem?_eq_getElem (by omega)⟩
   refine Qt.o_val rfl (v_loadn (vs := e_Mark.cells x19) rfl rfl Try.underlying49 rfl ti49 (rdn_sl e_Mark_ok eadx hx hx19)) ?_
   refine Qt.o_val rfl (v_move rfl rfl) ?_
   refine Qt.o_val rfl (v_move rfl rfl) ?_
   refine Qt.o_val rfl (v_indexK e_Mark_ok eady rfl rfl rfl Try.underlying38 (by omega) (by omega)) ?_
   obtain ⟨x23, hx23⟩ : ∃ x, (ys)[((i : Int)).toNat]? = some x := ⟨_, List.getElem?_eq_getElem (by omega)⟩
   refine Qt.o_val rfl (v_loadn (vs := e_Mark.cells x23) rfl rfl Try.underlying49 rfl ti49 (rdn_sl e_Mark_ok eady hy hx23)) ?_
   refine Qt.o_val rfl (v_bin rfl rfl rfl (b_neqS49 x19 x23)) ?_
   refine Qt.l_nil ?_
   refine q_then ?_
   refine c_cond rfl (fun h3 => ?_) (fun h3 => ?_)
   · -- h3T
    have h3b := h3
    try simp only [Bool.not_eq_true', decide_eq_false_iff_not, Int.not_lt, Int.not_le] at h3
    refine c_seq ?_
    refine c_region ?_
    refine o_assign rfl rfl ?_
    refine l_nil ?_
    refine q_then ?_
    refine c_ret ?_
    refine q_block_ret ?_
    refine q_pass_ret ?_
    refine q_pass_ret ?_
    refine q_block_ret ?_
    refine q_pass_ret ?_
    exact f_ret (r_one rfl rfl) (⟨vfalse' (eqAt_not hx19 hx23 (by simpa using h3b)), rfl⟩) (fun w S => S)
   · -- h3F
    have h3b := h3
    try simp only [Bool.not_eq_false', decide_eq_true_eq] at h3
    refine c_skip ?_
    refine q_block ?_
    refine q_then ?_
    refine c_region ?_
    refine o_move rfl rfl ?_
    refine o_bin rfl rfl rfl (b_add (wrap_i64 (by omega) (by omega))) ?_
    refine o_assign rfl rfl ?_
    refine l_nil ?_
    exact q_round (i + 1) (by exact ⟨by omega, eqAt_on heq hx19 hx23 (by simpa using h3b)⟩) (by (try dsimp only); omega) ⟨(by first | rfl | exact vint (by omega)), (by first | rfl | exact vint (by omega)), (by first | rfl | exact vint (by omega)), trivial⟩ (fun w S => S)
  · -- h2F
   have h2b := h2
   try simp only [decide_eq_false_iff_not, Int.not_lt, Int.not_le] at h2
   refine c_exit ?_
   refine q_pass_exit ?_
   refine q_pass_exit ?_
   refine q_hit ?_
   refine q_then ?_
   refine c_seq ?_
   refine c_region ?_
   refine o_assign rfl rfl ?_
   refine l_nil ?_
   refine q_then ?_
   refine c_ret ?_
   exact f_ret (r_one rfl rfl) (⟨vtrue' (eqAt_all heq (by omega) (by omega)), rfl⟩) (fun w S => S)

end Go.Proofs.Yteehongibjkjlaa
