/- Printed by eng2.py out of 09a/spec.py. -/
import Derived.Test.YtlblipkcbmcfkaaOrdp
import Derived.Test.YtlblipkcbmcfkaaShelf
import Derived.Test.YtlblipkcbmcfkaaIntsC
set_option linter.unusedVariables false
set_option linter.unusedSimpArgs false
set_option maxRecDepth 10000
namespace Go.Proofs.Ytlblipkcbmcfkaa
open Go.RowKit Classical
theorem homes_ {W : World} {F : List Res} {o : Order} (T_o : OrdR W F o) (hm : o.f_Marks.xs.length ≤ 1000000) : CS Try.prog 10 #[.agg #[.int .i64 o.f_Tag_Id_Node, .int .u64 o.f_Tag_Id_Epoch, .int .u64 o.f_Tag_Id_Seq, .int .i64 o.f_Tag_Try, .int .i64 o.f_Txn_Kind, .slice o.f_Txn_Reads.a (o.f_Txn_Reads.xs).length o.f_Txn_Reads.c, .slice o.f_Txn_Writes.a (o.f_Txn_Writes.xs).length o.f_Txn_Writes.c, .slice o.f_Txn_Ops.a (o.f_Txn_Ops.xs).length o.f_Txn_Ops.c, .int .i64 o.f_Txn_To, .slice o.f_Marks.a (o.f_Marks.xs).length o.f_Marks.c]] W (F) (fun r L' => ∃ (a : Option Addr) (c : Nat), r = .slice a (homes o).length c ∧ L' = row e_I.T e_I.sz a (homes o).length c (flat e_I (homes o)) :: F) := by
 refine f_door (l0 := [(0, .agg #[.int .i64 o.f_Tag_Id_Node, .int .u64 o.f_Tag_Id_Epoch, .int .u64 o.f_Tag_Id_Seq, .int .i64 o.f_Tag_Try, .int .i64 o.f_Txn_Kind, .slice o.f_Txn_Reads.a (o.f_Txn_Reads.xs).length o.f_Txn_Reads.c, .slice o.f_Txn_Writes.a (o.f_Txn_Writes.xs).length o.f_Txn_Writes.c, .slice o.f_Txn_Ops.a (o.f_Txn_Ops.xs).length o.f_Txn_Ops.c, .int .i64 o.f_Txn_To, .slice o.f_Marks.a (o.f_Marks.xs).length o.f_Marks.c])]) Try.func10 Try.ntmps10 rfl rfl rfl ?_
 refine c_seq ?_
 refine c_region ?_
 refine o_box rfl rfl fun b1 => ?_
 refine o_assign rfl rfl ?_
 refine l_nil ?_
 refine q_then ?_
 refine c_seq ?_
 refine c_seq ?_
 refine c_nilrow e_I ?_
 refine c_region ?_
 refine o_fieldAddr (q := ⟨b1, 9, none⟩) rfl rfl Try.underlying33 rfl ti31 rfl ?_
 refine o_load1 rfl rfl Try.underlying31 rfl (rd_mem 1 rfl rfl) ?_
 refine o_len rfl rfl Try.underlying31 ?_
 refine o_move rfl rfl ?_
 refine l_nil ?_
 refine q_then ?_
 refine c_block ?_
 refine c_loop (α := Nat × (List Int) × (Option Addr) × Nat) (fun z => [(2, .slice z.2.2.1 (z.2.1).length z.2.2.2), (6, .slice o.f_Marks.a (o.f_Marks.xs).length o.f_Marks.c), (7, .int .i64 ((o.f_Marks.xs).length : Int)), (8, .int .i64 (z.1 : Int))]) (fun z => row e_I.T e_I.sz z.2.2.1 (z.2.1).length z.2.2.2 (flat e_I z.2.1) :: blk b1 (.cells #[.int .i64 o.f_Tag_Id_Node, .int .u64 o.f_Tag_Id_Epoch, .int .u64 o.f_Tag_Id_Seq, .int .i64 o.f_Tag_Try, .int .i64 o.f_Txn_Kind, .slice o.f_Txn_Reads.a (o.f_Txn_Reads.xs).length o.f_Txn_Reads.c, .slice o.f_Txn_Writes.a (o.f_Txn_Writes.xs).length o.f_Txn_Writes.c, .slice o.f_Txn_Ops.a (o.f_Txn_Ops.xs).length o.f_Txn_Ops.c, .int .i64 o.f_Txn_To, .slice o.f_Marks.a (o.f_Marks.xs).length o.f_Marks.c] 33 (0, 0)) :: F) (fun z => z.1 ≤ o.f_Marks.xs.length ∧ z.2.1 = (o.f_Marks.xs.take z.1).map Mark.f_Home) (fun z => o.f_Marks.xs.length - z.1) (0, [], none, 0) (by exact ⟨Nat.zero_le _, rfl⟩) ⟨(by first | rfl | exact vint (by omega)), (by first | rfl | exact vint (by omega)), (by first | rfl | exact vint (by omega)), (by first | rfl | exact vint (by omega)), trivial⟩ (fun w S => S) ?_
 rintro ⟨i, hs, a2, c2⟩ ⟨hi, hh⟩
 try dsimp only at *
 have hhl : hs.length = i := by rw [hh, List.length_map, List.length_take]; omega
 refine c_seq ?_
 refine c_region ?_
 refine o_bin rfl rfl rfl b_lss ?_
 refine l_nil ?_
 refine q_then ?_
 refine c_seq ?_
 refine c_cond rfl (fun h1 => ?_) (fun h1 => ?_)
 · -- h1T
  have h1b := h1
  try simp only [decide_eq_true_eq] at h1
  refine c_skip ?_
  refine q_then ?_
  refine c_seq ?_
  refine c_block ?_
  refine c_seq ?_
  refine c_region ?_
  refine o_index e_Mark_ok rfl rfl rfl Try.underlying31 (by omega) (by omega) (OrdR.c (OrdR.c T_o)).rm fun ad10 ead10 => ?_
  obtain ⟨x10, hx10⟩ : ∃ x, (o.f_Marks.xs)[((i : Int)).toNat]? = some x := ⟨_, List.getElem?_eq_getElem (by omega)⟩
  refine o_loadn (vs := e_Mark.cells x10) rfl rfl Try.underlying51 rfl ti51 (rdn_sl e_Mark_ok ead10 (OrdR.c (OrdR.c T_o)).rm hx10) ?_
  refine o_alloc rfl ti51 fun b4 => ?_
  refine o_storen rfl rfl ti51 rfl rfl rfl rfl ?_
  refine l_nil ?_
  refine q_then ?_
  refine c_region ?_
  refine o_move rfl rfl ?_
  refine o_fieldAddr (q := ⟨b4, 1, none⟩) rfl rfl Try.underlying51 rfl ti3 rfl ?_
  refine o_load1 rfl rfl Try.underlying3 rfl (rd_mem 0 rfl rfl) ?_
  refine o_lit e_I_ok rfl Try.underlying37 rfl rfl rfl (lit_ok rfl) [x10.f_Home] rfl rfl fun a15 => ?_
  refine l_f2 ?_
  refine o_append e_I_ok rfl rfl rfl Try.underlying37 (rds_own e_I_ok 1 rfl) (by show (_ + _) * 8 ≤ _; (try simp only [List.length_append, List.length_cons, List.length_nil]); omega) (by (try simp only [List.length_append, List.length_cons, List.length_nil]); omega) fun a16 c16 => ?_
  refine l_f1 ?_
  refine l_drop ?_
  refine o_assign rfl rfl ?_
  refine l_nil ?_
  refine q_block ?_
  refine q_then ?_
  refine c_region ?_
  refine o_bin rfl rfl rfl (b_add (wrap_i64 (by omega) (by omega))) ?_
  refine o_move rfl rfl ?_
  refine l_nil ?_
  refine q_conv (fun w S => (S.perm p1).tail) ?_
  exact q_round (i + 1, hs ++ [x10.f_Home], a16, c16) (by exact ⟨by omega, map_take_on hh hx10⟩) (by (try dsimp only); omega) ⟨(by first | rfl | exact vint (by omega)), (by first | rfl | exact vint (by omega)), (by first | rfl | exact vint (by omega)), (by first | rfl | exact vint (by omega)), trivial⟩ (fun w S => S)
 · -- h1F
  have h1b := h1
  try simp only [decide_eq_false_iff_not, Int.not_lt, Int.not_le] at h1
  refine c_exit ?_
  refine q_pass_exit ?_
  refine q_pass_exit ?_
  refine q_hit ?_
  refine q_then ?_
  refine c_seq ?_
  refine c_seq ?_
  refine c_region ?_
  refine o_move rfl rfl ?_
  refine o_len rfl rfl Try.underlying37 ?_
  refine o_bin rfl rfl rfl b_eql ?_
  refine l_nil ?_
  refine q_then ?_
  refine c_cond rfl (fun h2 => ?_) (fun h2 => ?_)
  · -- h2T
   have h2b := h2
   try simp only [decide_eq_true_eq] at h2
   have hnil : o.f_Marks.xs = [] := List.eq_nil_of_length_eq_zero (by omega)
   refine c_region ?_
   refine o_lit e_I_ok rfl Try.underlying37 rfl rfl rfl (lit_ok rfl) [0] rfl rfl fun a21 => ?_
   refine o_assign rfl rfl ?_
   refine l_nil ?_
   refine q_then ?_
   refine c_seq ?_
   refine c_region ?_
   refine o_move rfl rfl ?_
   refine o_call rfl cal24 rfl (sortI (e := e_I) (a := a21) (c := 1) (xs := [0]) rfl rfl (by first | omega | (simp only [List.length_cons, List.length_nil]; omega))) ?_
   rintro _ _ ⟨ys23, hp23, hs23, rfl, rfl⟩
   have hl23 := hp23.length_eq
   refine l_eq (t := 2) (v' := .slice a21 (ys23).length 1) rfl (by rw [hl23]) ?_
   refine l_eq (t := 21) (v' := .slice a21 (ys23).length 1) rfl (by rw [hl23]) ?_
   refine l_eq (t := 22) (v' := .slice a21 (ys23).length 1) rfl (by rw [hl23]) ?_
   refine l_nil ?_
   refine q_then ?_
   refine c_seq ?_
   refine c_region ?_
   refine o_move rfl rfl ?_
   refine o_call rfl cal25 rfl (compactI (e := e_I) (a := a21) (c := 1) (xs := ys23) rfl rfl hs23 (by first | omega | (rw [hl23]; simp only [List.length_cons, List.length_nil]; omega))) ?_
   rintro _ _ ⟨rfl, rfl⟩
   refine o_assign rfl rfl ?_
   refine l_nil ?_
   refine q_then ?_
   refine c_ret ?_
   refine q_conv (fun w S => (S.perm p1).tail) ?_
   refine q_conv (fun w S => (S.perm p1).tail) ?_
   exact f_ret (r_one rfl rfl) (⟨a21, 1, by rw [setOf_perm ilt_sto hp23, ← homes_nil hnil], by rw [setOf_perm ilt_sto hp23, ← homes_nil hnil]⟩) (fun w S => S)
  · -- h2F
   have h2b := h2
   try simp only [decide_eq_false_iff_not, Int.not_lt, Int.not_le] at h2
   have hhome : homes o = setOf ilt hs := by rw [homes_ne (fun h9 => by have h8 := congrArg List.length h9; simp only [List.length_nil] at h8; omega), hh, List.take_of_length_le (by omega)]
   refine c_skip ?_
   refine q_then ?_
   refine c_seq ?_
   refine c_region ?_
   refine o_move rfl rfl ?_
   refine o_call rfl cal24 rfl (sortI (e := e_I) (a := a2) (c := c2) (xs := hs) rfl rfl (by first | omega | (simp only [List.length_cons, List.length_nil]; omega))) ?_
   rintro _ _ ⟨ys23, hp23, hs23, rfl, rfl⟩
   have hl23 := hp23.length_eq
   refine l_eq (t := 2) (v' := .slice a2 (ys23).length c2) rfl (by rw [hl23]) ?_
   refine l_eq (t := 18) (v' := .slice a2 (ys23).length c2) rfl (by rw [hl23]) ?_
   refine l_eq (t := 22) (v' := .slice a2 (ys23).length c2) rfl (by rw [hl23]) ?_
   refine l_nil ?_
   refine q_then ?_
   refine c_seq ?_
   refine c_region ?_
   refine o_move rfl rfl ?_
   refine o_call rfl cal25 rfl (compactI (e := e_I) (a := a2) (c := c2) (xs := ys23) rfl rfl hs23 (by first | omega | (rw [hl23]; simp only [List.length_cons, List.length_nil]; omega))) ?_
   rintro _ _ ⟨rfl, rfl⟩
   refine o_assign rfl rfl ?_
   refine l_nil ?_
   refine q_then ?_
   refine c_ret ?_
   refine q_conv (fun w S => (S.perm p1).tail) ?_
   exact f_ret (r_one rfl rfl) (⟨a2, c2, by rw [setOf_perm ilt_sto hp23, ← hhome], by rw [setOf_perm ilt_sto hp23, ← hhome]⟩) (fun w S => S)

theorem single_ {W : World} {F : List Res} {o : Order} (T_o : OrdR W F o) (hm : o.f_Marks.xs.length ≤ 1000000) : CS Try.prog 14 #[.agg #[.int .i64 o.f_Tag_Id_Node, .int .u64 o.f_Tag_Id_Epoch, .int .u64 o.f_Tag_Id_Seq, .int .i64 o.f_Tag_Try, .int .i64 o.f_Txn_Kind, .slice o.f_Txn_Reads.a (o.f_Txn_Reads.xs).length o.f_Txn_Reads.c, .slice o.f_Txn_Writes.a (o.f_Txn_Writes.xs).length o.f_Txn_Writes.c, .slice o.f_Txn_Ops.a (o.f_Txn_Ops.xs).length o.f_Txn_Ops.c, .int .i64 o.f_Txn_To, .slice o.f_Marks.a (o.f_Marks.xs).length o.f_Marks.c]] W (F) (fun r L' => r = .bool (decide (single o)) ∧ F = L') := by
 refine f_door (l0 := [(0, .agg #[.int .i64 o.f_Tag_Id_Node, .int .u64 o.f_Tag_Id_Epoch, .int .u64 o.f_Tag_Id_Seq, .int .i64 o.f_Tag_Try, .int .i64 o.f_Txn_Kind, .slice o.f_Txn_Reads.a (o.f_Txn_Reads.xs).length o.f_Txn_Reads.c, .slice o.f_Txn_Writes.a (o.f_Txn_Writes.xs).length o.f_Txn_Writes.c, .slice o.f_Txn_Ops.a (o.f_Txn_Ops.xs).length o.f_Txn_Ops.c, .int .i64 o.f_Txn_To, .slice o.f_Marks.a (o.f_Marks.xs).length o.f_Marks.c])]) Try.func14 Try.ntmps14 rfl rfl rfl ?_
 refine c_seq ?_
 refine c_region ?_
 refine o_box rfl rfl fun b1 => ?_
 refine o_assign rfl rfl ?_
 refine l_nil ?_
 refine q_then ?_
 refine c_seq ?_
 refine c_region ?_
 refine o_fieldAddr (q := ⟨b1, 4, none⟩) rfl rfl Try.underlying33 rfl ti30 rfl ?_
 refine o_fieldAddr (q := ⟨b1, 4, none⟩) rfl rfl Try.underlying30 rfl ti3 rfl ?_
 refine o_load1 rfl rfl Try.underlying3 rfl (rd_mem 0 rfl rfl) ?_
 refine o_bin rfl rfl rfl b_eql ?_
 refine o_move rfl rfl ?_
 refine l_split (t := 7) rfl (fun h1 => ?_) (fun h1 => ?_)
 · -- h1T
  have h1b := h1
  try simp only [decide_eq_true_eq] at h1
  refine o_yes rfl rfl rfl ?_
  refine o_loadn (vs := [_, _, _, _, _, _, _, _, _, _]) rfl rfl Try.underlying33 rfl ti33 (rdn_lit 0 rfl rfl) ?_
  refine o_yes rfl rfl rfl ?_
  refine o_call rfl cal10 rfl (homes_ (o := o) (OrdR.c T_o) (by omega)) ?_
  rintro _ _ ⟨a9, c9, rfl, rfl⟩
  have hhl9 := homes_len o
  refine o_yes rfl rfl rfl ?_
  refine o_len rfl rfl Try.underlying37 ?_
  refine o_yes rfl rfl rfl ?_
  refine o_bin rfl rfl rfl b_eql ?_
  refine o_pick_true rfl rfl rfl ?_
  refine o_assign rfl rfl ?_
  refine l_nil ?_
  refine q_then ?_
  refine c_ret ?_
  refine q_conv (fun w S => S.tail) ?_
  refine q_conv (fun w S => S.tail) ?_
  exact f_ret (r_one rfl rfl) (⟨by first | exact vtrue' (by unfold single; grind) | exact vfalse' (by unfold single; grind) | exact bdec' (by unfold single; grind), rfl⟩) (fun w S => S)
 · -- h1F
  have h1b := h1
  try simp only [decide_eq_false_iff_not, Int.not_lt, Int.not_le] at h1
  refine o_no rfl rfl rfl rfl ?_
  refine o_no rfl rfl rfl rfl ?_
  refine o_no rfl rfl rfl rfl ?_
  refine o_no rfl rfl rfl rfl ?_
  refine o_pick_false rfl rfl rfl ?_
  refine o_assign rfl rfl ?_
  refine l_nil ?_
  refine q_then ?_
  refine c_ret ?_
  refine q_conv (fun w S => S.tail) ?_
  exact f_ret (r_one rfl rfl) (⟨by first | exact vtrue' (by unfold single; grind) | exact vfalse' (by unfold single; grind) | exact bdec' (by unfold single; grind), rfl⟩) (fun w S => S)

end Go.Proofs.Ytlblipkcbmcfkaa
