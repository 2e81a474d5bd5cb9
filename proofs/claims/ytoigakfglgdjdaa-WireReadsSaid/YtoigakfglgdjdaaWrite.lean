/- Printed by eng2.py out of 18/spec.py. -/
import Derived.Test.YtoigakfglgdjdaaWire
import Derived.Test.YtoigakfglgdjdaaPen
import Derived.Test.YtoigakfglgdjdaaSum
set_option linter.unusedVariables false
set_option linter.unusedSimpArgs false
set_option maxRecDepth 10000
namespace Go.Proofs.Ytoigakfglgdjdaa
open Go.RowKit Classical
set_option maxHeartbeats 2000000 in
theorem write_ {W : World} {F : List Res} {m : Msg} (T_m : RdS W F e_Vote m.f_Votes.a m.f_Votes.xs) (hn_m : m.f_Votes.xs.length ≤ 9223372036854775807) (wf : Wf m) : CS Try.prog 10 #[.agg #[.int .i64 m.f_Kind, .int .i64 m.f_From, .int .i64 m.f_To, .int .i64 m.f_Group, .int .i64 m.f_Slot, .int .u64 m.f_Ballot, .string m.f_Value, .slice m.f_Votes.a (m.f_Votes.xs).length m.f_Votes.c]] W (F) (fun r L' => ∃ (out : List UInt8) (a2 : Option Addr) (c2 : Nat), out = wrB m ∧ r = .tuple #[.slice a2 out.length c2, .int .i64 (msgN m)] ∧ L' = row e8.T e8.sz a2 (out).length c2 (flat e8 out) :: F) := by
 refine f_door (l0 := [(0, .agg #[.int .i64 m.f_Kind, .int .i64 m.f_From, .int .i64 m.f_To, .int .i64 m.f_Group, .int .i64 m.f_Slot, .int .u64 m.f_Ballot, .string m.f_Value, .slice m.f_Votes.a (m.f_Votes.xs).length m.f_Votes.c])]) Try.func10 Try.ntmps10 rfl rfl rfl ?_
 refine c_seq ?_
 refine c_region ?_
 refine o_box rfl rfl fun b1 => ?_
 refine o_assign rfl rfl ?_
 refine o_assign rfl rfl ?_
 refine l_nil ?_
 refine q_then ?_
 refine c_seq ?_
 refine c_seq ?_
 refine c_region ?_
 refine o_loadn (vs := [_, _, _, _, _, _, _, _]) rfl rfl Try.underlying26 rfl ti26 (rdn_lit 0 rfl rfl) ?_
 refine o_call rfl cal14 rfl (check_ (m := m) (rds_c T_m) (by (try simp only [List.length_append]); omega)) ?_
 rintro _ _ ⟨rfl, rfl⟩
 refine o_assign rfl rfl ?_
 refine l_nil ?_
 refine q_then ?_
 refine c_seq ?_
 refine c_region ?_
 refine o_move rfl rfl ?_
 refine o_bin rfl rfl rfl b_neq ?_
 refine l_nil ?_
 refine q_then ?_
 refine c_cond rfl (fun h1 => ?_) (fun h1 => ?_)
 · -- h1T
  have h1b := h1
  try simp only [Bool.not_eq_true', decide_eq_false_iff_not, Int.not_lt, Int.not_le] at h1
  have hno : ¬ MsgOk m := fun h9 => by rw [show msgN m = 0 from if_pos h9] at h1; simp at h1
  refine c_seq ?_
  refine c_nilrow e8 ?_
  refine c_region ?_
  refine o_move rfl rfl ?_
  refine o_assign rfl rfl ?_
  refine o_assign rfl rfl ?_
  refine l_nil ?_
  refine q_then ?_
  refine c_ret ?_
  refine q_pass_ret ?_
  refine q_conv (fun w S => (S.perm p1).tail) ?_
  exact f_ret (r_two rfl rfl rfl) (⟨[], none, 0, by rw [wrB, if_neg hno], rfl, rfl⟩) (fun w S => S)
 · -- h1F
  have h1b := h1
  try simp only [Bool.not_eq_false', decide_eq_true_eq] at h1
  have hok : MsgOk m := Classical.byContradiction fun h9 => by rw [show msgN m = 1 from if_neg h9] at h1; simp at h1
  have hok' := hok
  unfold MsgOk at hok'
  have hvl := votes_len hok'.2.2.2.2.2.2.2.2.2
  have hbl := bodyB_len hok wf
  have hhl := headB18_len hok wf
  have hb := wf.b
  have hsl := numB_len_le 10 (sumB (bodyB m)).toNat (by have := (sumB (bodyB m)).isLt; omega) (by omega)
  refine c_skip ?_
  refine q_then ?_
  refine c_seq ?_
  refine c_region ?_
  refine o_build rfl sp51 ti51 rfl rfl ?_
  refine o_box rfl rfl fun b16 => ?_
  refine l_nilrow e8 ?_
  refine l_conv (L' := blk b16 (.cells #[.slice none (([] : List UInt8)).length 0] 51 (0, 0)) :: row e8.T e8.sz none (([] : List UInt8)).length 0 (flat e8 ([] : List UInt8)) :: _) (fun w S => S.perm p1) ?_
  refine o_assign rfl rfl ?_
  refine l_nil ?_
  refine q_then ?_
  refine c_seq ?_
  refine c_seq ?_
  refine c_region ?_
  refine o_fieldAddr (q := ⟨b1, 0, none⟩) rfl rfl Try.underlying26 rfl ti3 rfl ?_
  refine o_load1 rfl rfl Try.underlying3 rfl (rd_mem 2 rfl rfl) ?_
  refine o_fieldAddr (q := ⟨b1, 1, none⟩) rfl rfl Try.underlying26 rfl ti3 rfl ?_
  refine o_load1 rfl rfl Try.underlying3 rfl (rd_mem 2 rfl rfl) ?_
  refine o_fieldAddr (q := ⟨b1, 2, none⟩) rfl rfl Try.underlying26 rfl ti3 rfl ?_
  refine o_load1 rfl rfl Try.underlying3 rfl (rd_mem 2 rfl rfl) ?_
  refine o_fieldAddr (q := ⟨b1, 3, none⟩) rfl rfl Try.underlying26 rfl ti3 rfl ?_
  refine o_load1 rfl rfl Try.underlying3 rfl (rd_mem 2 rfl rfl) ?_
  refine o_fieldAddr (q := ⟨b1, 4, none⟩) rfl rfl Try.underlying26 rfl ti3 rfl ?_
  refine o_load1 rfl rfl Try.underlying3 rfl (rd_mem 2 rfl rfl) ?_
  refine o_buildArr rfl Try.underlying52 ti52 ti3 rfl ((fill_cons (cells' := [.int .i64 m.f_Kind, .int .i64 0, .int .i64 0, .int .i64 0, .int .i64 0]) rfl rfl rfl rfl (fill_cons (cells' := [.int .i64 m.f_Kind, .int .i64 m.f_From, .int .i64 0, .int .i64 0, .int .i64 0]) rfl rfl rfl rfl (fill_cons (cells' := [.int .i64 m.f_Kind, .int .i64 m.f_From, .int .i64 m.f_To, .int .i64 0, .int .i64 0]) rfl rfl rfl rfl (fill_cons (cells' := [.int .i64 m.f_Kind, .int .i64 m.f_From, .int .i64 m.f_To, .int .i64 m.f_Group, .int .i64 0]) rfl rfl rfl rfl (fill_cons (cells' := [.int .i64 m.f_Kind, .int .i64 m.f_From, .int .i64 m.f_To, .int .i64 m.f_Group, .int .i64 m.f_Slot]) rfl rfl rfl rfl fill_nil)))))) ?_
  refine o_move rfl rfl ?_
  refine l_nil ?_
  refine q_then ?_
  refine c_block ?_
  refine c_loop (α := Nat × (Option Addr) × Nat) (fun z => [(1, .pointer (some ⟨b1, 0, none⟩)), (5, .pointer (some ⟨b16, 0, none⟩)), (27, .agg #[.int .i64 m.f_Kind, .int .i64 m.f_From, .int .i64 m.f_To, .int .i64 m.f_Group, .int .i64 m.f_Slot]), (28, .int .i64 (z.1 : Int))]) (fun z => blk b16 (.cells #[.slice z.2.1 (hdB m z.1).length z.2.2] 51 (0, 0)) :: row e8.T e8.sz z.2.1 (hdB m z.1).length z.2.2 (flat e8 (hdB m z.1)) :: blk b1 (.cells #[.int .i64 m.f_Kind, .int .i64 m.f_From, .int .i64 m.f_To, .int .i64 m.f_Group, .int .i64 m.f_Slot, .int .u64 m.f_Ballot, .string m.f_Value, .slice m.f_Votes.a (m.f_Votes.xs).length m.f_Votes.c] 26 (0, 0)) :: F) (fun z => z.1 ≤ 5) (fun z => 5 - z.1) (0, none, 0) (by exact Nat.zero_le _) ⟨(by first | rfl | exact vint (by omega)), (by first | rfl | exact vint (by omega)), (by first | rfl | exact vint (by omega)), (by first | rfl | exact vint (by omega)), trivial⟩ (fun w S => S) ?_
  rintro ⟨i, a9, c9⟩ hi
  try dsimp only at *
  refine c_seq ?_
  refine c_region ?_
  refine o_bin rfl rfl rfl b_lss ?_
  refine l_nil ?_
  refine q_then ?_
  refine c_seq ?_
  refine c_cond rfl (fun h2 => ?_) (fun h2 => ?_)
  · -- h2T
   have h2b := h2
   try simp only [decide_eq_true_eq] at h2
   refine c_skip ?_
   refine q_then ?_
   refine c_seq ?_
   refine c_block ?_
   refine c_seq ?_
   refine c_region ?_
   obtain ⟨x30, hx30⟩ : ∃ x, ([m.f_Kind, m.f_From, m.f_To, m.f_Group, m.f_Slot] : List Int)[((i : Int)).toNat]? = some x := ⟨_, List.getElem?_eq_getElem (by simp only [List.length_cons, List.length_nil]; omega)⟩
   refine o_arrIndex (f := fun x => .int .i64 x) (xs := ([m.f_Kind, m.f_From, m.f_To, m.f_Group, m.f_Slot] : List Int)) rfl rfl rfl Try.underlying52 Try.underlying3 rfl ti3 (by omega) (by omega) hx30 ?_
   have hx30' : (hd5 m)[i]? = some x30 := hx30
   have hr30 := hd5_ok hok hx30'
   have hil := hdB_len hok i hi
   have hnl := nB_len (x := x30) (by omega)
   refine o_assign rfl rfl ?_
   refine l_nil ?_
   refine q_then ?_
   refine c_region ?_
   refine o_move rfl rfl ?_
   refine o_move rfl rfl ?_
   refine o_int rfl rfl Try.underlying3 Try.underlying23 (wu64 (by omega) (by omega)) ?_
   refine l_f1 ?_
   refine l_f1 ?_
   refine o_call rfl cal17 rfl (penNum (v := x30.toNat) (by omega) (by (try simp only [List.length_append]); omega)) ?_
   rintro _ _ ⟨a34, c34, rfl, rfl⟩
   refine l_nil ?_
   refine q_block ?_
   refine q_then ?_
   refine c_region ?_
   refine o_bin rfl rfl rfl (b_add (wrap_i64 (by omega) (by omega))) ?_
   refine o_move rfl rfl ?_
   refine l_nil ?_
   refine q_conv (L' := blk b16 (.cells #[.slice a34 (hdB m (i + 1)).length c34] 51 (0, 0)) :: row e8.T e8.sz a34 (hdB m (i + 1)).length c34 (flat e8 (hdB m (i + 1))) :: _) (fun w S => by rw [show hdB m i ++ numB x30.toNat = hdB m (i + 1) from (hdB_on hx30').symm] at S; exact S) ?_
   exact q_round (i + 1, a34, c34) (by (try dsimp only); omega) (by (try dsimp only); omega) ⟨(by first | rfl | exact vint (by omega)), (by first | rfl | exact vint (by omega)), (by first | rfl | exact vint (by omega)), (by first | rfl | exact vint (by omega)), trivial⟩ (fun w S => S)
  · -- h2F
   have h2b := h2
   try simp only [decide_eq_false_iff_not, Int.not_lt, Int.not_le] at h2
   obtain rfl : i = 5 := by omega
   have htl := textB_len (s := m.f_Value) (by omega)
   have hnl := numB_len_le 10 m.f_Ballot.toNat (by omega) (by omega)
   have hil := hdB_len hok 5 (by omega)
   refine c_exit ?_
   refine q_pass_exit ?_
   refine q_pass_exit ?_
   refine q_hit ?_
   refine q_then ?_
   refine c_seq ?_
   refine c_region ?_
   refine o_move rfl rfl ?_
   refine o_fieldAddr (q := ⟨b1, 5, none⟩) rfl rfl Try.underlying26 rfl ti23 rfl ?_
   refine o_load1 rfl rfl Try.underlying23 rfl (rd_mem 2 rfl rfl) ?_
   refine l_eq (t := 38) (v' := .int .u64 (m.f_Ballot.toNat : Int)) rfl (by exact congrArg (Value.int .u64) (Int.toNat_of_nonneg hb.1).symm) ?_
   refine l_f1 ?_
   refine l_f1 ?_
   refine o_call rfl cal17 rfl (penNum (v := m.f_Ballot.toNat) (by omega) (by (try simp only [List.length_append]); omega)) ?_
   rintro _ _ ⟨a39, c39, rfl, rfl⟩
   refine l_nil ?_
   refine q_then ?_
   refine c_seq ?_
   refine c_region ?_
   refine o_move rfl rfl ?_
   refine o_fieldAddr (q := ⟨b1, 6, none⟩) rfl rfl Try.underlying26 rfl ti9 rfl ?_
   refine o_load1 rfl rfl Try.underlying9 rfl (rd_mem 2 rfl rfl) ?_
   refine o_strBytes (e := e8) rfl rfl rfl rfl Try.underlying9 Try.underlying28 Try.underlying5 fun a43 c43 hc43 => ?_
   have htd : m.f_Value.data.toList.length ≤ 4096 := by simp; omega
   have hnd := numB_len_le 10 m.f_Value.data.toList.length (by omega) (by omega)
   refine l_f2 ?_
   refine l_f2 ?_
   refine l_f1 ?_
   refine l_f1 ?_
   refine o_call rfl cal18 rfl (penText (rds_mrow e8_ok 0 rfl) (by (try simp only [List.length_append]); omega) (by (try simp only [List.length_append]); omega)) ?_
   rintro _ _ ⟨a44, c44, rfl, rfl⟩
   refine l_nil ?_
   refine q_then ?_
   refine c_seq ?_
   refine c_region ?_
   refine o_move rfl rfl ?_
   refine o_fieldAddr (q := ⟨b1, 7, none⟩) rfl rfl Try.underlying26 rfl ti24 rfl ?_
   refine o_load1 rfl rfl Try.underlying24 rfl (rd_mem 3 rfl rfl) ?_
   refine o_len rfl rfl Try.underlying24 ?_
   refine o_int rfl rfl Try.underlying3 Try.underlying23 (wrap_u64 (by omega) (by omega)) ?_
   refine l_f1 ?_
   refine l_f1 ?_
   refine o_call rfl cal17 rfl (penNum (v := m.f_Votes.xs.length) (by omega) (by (try simp only [List.length_append]); omega)) ?_
   rintro _ _ ⟨a50, c50, rfl, rfl⟩
   refine l_nil ?_
   refine q_then ?_
   refine c_seq ?_
   refine c_seq ?_
   refine c_conv (L' := blk b16 (.cells #[.slice a50 (headB18 m ++ votesB (m.f_Votes.xs.take 0)).length c50] 51 (0, 0)) :: row e8.T e8.sz a50 (headB18 m ++ votesB (m.f_Votes.xs.take 0)).length c50 (flat e8 (headB18 m ++ votesB (m.f_Votes.xs.take 0))) :: _) (fun w S => by rw [show hdB m 5 ++ numB m.f_Ballot.toNat ++ numB m.f_Value.data.toList.length ++ m.f_Value.data.toList ++ numB m.f_Votes.xs.length = headB18 m ++ votesB (m.f_Votes.xs.take 0) from by simp [headB18, textB, nB, votesB]] at S; exact S) ?_
   refine c_region ?_
   refine o_fieldAddr (q := ⟨b1, 7, none⟩) rfl rfl Try.underlying26 rfl ti24 rfl ?_
   refine o_load1 rfl rfl Try.underlying24 rfl (rd_mem 3 rfl rfl) ?_
   refine o_len rfl rfl Try.underlying24 ?_
   refine o_move rfl rfl ?_
   refine l_nil ?_
   refine q_then ?_
   refine c_block ?_
   refine c_loop (α := Nat × (Option Addr) × Nat) (fun z => [(5, .pointer (some ⟨b16, 0, none⟩)), (52, .slice m.f_Votes.a (m.f_Votes.xs).length m.f_Votes.c), (53, .int .i64 ((m.f_Votes.xs).length : Int)), (54, .int .i64 (z.1 : Int))]) (fun z => blk b16 (.cells #[.slice z.2.1 (headB18 m ++ votesB (m.f_Votes.xs.take z.1)).length z.2.2] 51 (0, 0)) :: row e8.T e8.sz z.2.1 (headB18 m ++ votesB (m.f_Votes.xs.take z.1)).length z.2.2 (flat e8 (headB18 m ++ votesB (m.f_Votes.xs.take z.1))) :: mrow e8.T e8.sz a43 (m.f_Value.data.toList).length c43 (flat e8 m.f_Value.data.toList) :: blk b1 (.cells #[.int .i64 m.f_Kind, .int .i64 m.f_From, .int .i64 m.f_To, .int .i64 m.f_Group, .int .i64 m.f_Slot, .int .u64 m.f_Ballot, .string m.f_Value, .slice m.f_Votes.a (m.f_Votes.xs).length m.f_Votes.c] 26 (0, 0)) :: F) (fun z => z.1 ≤ m.f_Votes.xs.length) (fun z => m.f_Votes.xs.length - z.1) (0, a50, c50) (by exact Nat.zero_le _) ⟨(by first | rfl | exact vint (by omega)), (by first | rfl | exact vint (by omega)), (by first | rfl | exact vint (by omega)), (by first | rfl | exact vint (by omega)), trivial⟩ (fun w S => S) ?_
   rintro ⟨j, a8, c8⟩ hj
   try dsimp only at *
   refine c_seq ?_
   refine c_region ?_
   refine o_bin rfl rfl rfl b_lss ?_
   refine l_nil ?_
   refine q_then ?_
   refine c_seq ?_
   refine c_cond rfl (fun h3 => ?_) (fun h3 => ?_)
   · -- h3T
    have h3b := h3
    try simp only [decide_eq_true_eq] at h3
    refine c_skip ?_
    refine q_then ?_
    refine c_seq ?_
    refine c_block ?_
    refine c_seq ?_
    refine c_region ?_
    refine o_index e_Vote_ok rfl rfl rfl Try.underlying24 (by omega) (by omega) (rds_c (rds_c (rds_c (rds_c T_m)))) fun ad56 ead56 => ?_
    obtain ⟨x56, hx56⟩ : ∃ x, (m.f_Votes.xs)[((j : Int)).toNat]? = some x := ⟨_, List.getElem?_eq_getElem (by omega)⟩
    refine o_loadn (vs := e_Vote.cells x56) rfl rfl Try.underlying48 rfl ti48 (rdn_sl e_Vote_ok ead56 (rds_c (rds_c (rds_c (rds_c T_m)))) hx56) ?_
    have hx56' : m.f_Votes.xs[j]? = some x56 := hx56
    have hvs := hok'.2.2.2.2.2.2.2.2.2.1 j x56 (by omega) hx56'
    have hvb := wf.v x56 (List.mem_of_getElem? hx56')
    have hjl := votesB_len hok wf j hj
    have hn1 := numB_len_le 10 x56.f_Slot.toNat (by omega) (by omega)
    have hn2 := numB_len_le 10 x56.f_Ballot.toNat (by omega) (by omega)
    refine o_alloc rfl ti48 fun b9 => ?_
    refine o_storen rfl rfl ti48 rfl rfl rfl rfl ?_
    refine l_nil ?_
    refine q_then ?_
    refine c_seq ?_
    refine c_region ?_
    refine o_move rfl rfl ?_
    refine o_fieldAddr (q := ⟨b9, 0, none⟩) rfl rfl Try.underlying48 rfl ti3 rfl ?_
    refine o_load1 rfl rfl Try.underlying3 rfl (rd_mem 0 rfl rfl) ?_
    refine o_int rfl rfl Try.underlying3 Try.underlying23 (wu64 (by omega) (by omega)) ?_
    refine l_f2 ?_
    refine l_f2 ?_
    refine o_call rfl cal17 rfl (penNum (v := x56.f_Slot.toNat) (by omega) (by (try simp only [List.length_append]); omega)) ?_
    rintro _ _ ⟨a62, c62, rfl, rfl⟩
    refine l_nil ?_
    refine q_then ?_
    refine c_seq ?_
    refine c_region ?_
    refine o_move rfl rfl ?_
    refine o_fieldAddr (q := ⟨b9, 1, none⟩) rfl rfl Try.underlying48 rfl ti23 rfl ?_
    refine o_load1 rfl rfl Try.underlying23 rfl (rd_mem 2 rfl rfl) ?_
    refine l_eq (t := 65) (v' := .int .u64 (x56.f_Ballot.toNat : Int)) rfl (by exact congrArg (Value.int .u64) (Int.toNat_of_nonneg hvb.1).symm) ?_
    refine l_f1 ?_
    refine l_f1 ?_
    refine o_call rfl cal17 rfl (penNum (v := x56.f_Ballot.toNat) (by omega) (by (try simp only [List.length_append]); omega)) ?_
    rintro _ _ ⟨a66, c66, rfl, rfl⟩
    refine l_nil ?_
    refine q_then ?_
    refine c_region ?_
    refine o_move rfl rfl ?_
    refine o_fieldAddr (q := ⟨b9, 2, none⟩) rfl rfl Try.underlying48 rfl ti9 rfl ?_
    refine o_load1 rfl rfl Try.underlying9 rfl (rd_mem 2 rfl rfl) ?_
    refine o_strBytes (e := e8) rfl rfl rfl rfl Try.underlying9 Try.underlying28 Try.underlying5 fun a70 c70 hc70 => ?_
    have htd : x56.f_Value.data.toList.length ≤ 4096 := by simp; omega
    have hnd := numB_len_le 10 x56.f_Value.data.toList.length (by omega) (by omega)
    refine l_f2 ?_
    refine l_f2 ?_
    refine l_f1 ?_
    refine l_f1 ?_
    refine o_call rfl cal18 rfl (penText (rds_mrow e8_ok 0 rfl) (by (try simp only [List.length_append]); omega) (by (try simp only [List.length_append]); omega)) ?_
    rintro _ _ ⟨a71, c71, rfl, rfl⟩
    refine l_nil ?_
    refine q_block ?_
    refine q_then ?_
    refine c_region ?_
    refine o_bin rfl rfl rfl (b_add (wrap_i64 (by omega) (by omega))) ?_
    refine o_move rfl rfl ?_
    refine l_nil ?_
    refine q_conv (L' := blk b16 (.cells #[.slice a71 (headB18 m ++ votesB (m.f_Votes.xs.take (j + 1))).length c71] 51 (0, 0)) :: row e8.T e8.sz a71 (headB18 m ++ votesB (m.f_Votes.xs.take (j + 1))).length c71 (flat e8 (headB18 m ++ votesB (m.f_Votes.xs.take (j + 1)))) :: _) (fun w S => by rw [show headB18 m ++ votesB (m.f_Votes.xs.take j) ++ numB x56.f_Slot.toNat ++ numB x56.f_Ballot.toNat ++ numB x56.f_Value.data.toList.length ++ x56.f_Value.data.toList = headB18 m ++ votesB (m.f_Votes.xs.take (j + 1)) from by rw [votesB_on hx56']; simp [voteB, textB, nB]] at S; exact S) ?_
    refine q_conv (fun w S => (S.perm p2).tail) ?_
    refine q_conv (fun w S => (S.perm p2).tail) ?_
    exact q_round (j + 1, a71, c71) (by (try dsimp only); omega) (by (try dsimp only); omega) ⟨(by first | rfl | exact vint (by omega)), (by first | rfl | exact vint (by omega)), (by first | rfl | exact vint (by omega)), (by first | rfl | exact vint (by omega)), trivial⟩ (fun w S => S)
   · -- h3F
    have h3b := h3
    try simp only [decide_eq_false_iff_not, Int.not_lt, Int.not_le] at h3
    obtain rfl : j = m.f_Votes.xs.length := by omega
    refine c_exit ?_
    refine q_pass_exit ?_
    refine q_pass_exit ?_
    refine q_hit ?_
    refine q_then ?_
    refine c_seq ?_
    refine c_conv (L' := blk b16 (.cells #[.slice a8 (bodyB m).length c8] 51 (0, 0)) :: row e8.T e8.sz a8 (bodyB m).length c8 (flat e8 (bodyB m)) :: _) (fun w S => by rw [List.take_length] at S; exact S) ?_
    refine c_region ?_
    refine o_move rfl rfl ?_
    refine o_move rfl rfl ?_
    refine l_f1 ?_
    refine l_f1 ?_
    refine o_call rfl cal20 rfl (penData (by (try simp only [List.length_append]); omega)) ?_
    rintro _ _ ⟨a75, c75, rfl, rfl⟩
    refine o_call rfl cal19 rfl (sum8 (rds_own e8_ok 0 rfl) (by (try simp only [List.length_append]); omega)) ?_
    rintro _ _ ⟨rfl, rfl⟩
    refine o_int rfl rfl Try.underlying55 Try.underlying23 (v32_u64 _) ?_
    refine l_f2 ?_
    refine l_f2 ?_
    refine o_call rfl cal17 rfl (penNum (v := (sumB (bodyB m)).toNat) (by omega) (by (try simp only [List.length_append]); omega)) ?_
    rintro _ _ ⟨a78, c78, rfl, rfl⟩
    refine l_nil ?_
    refine q_then ?_
    refine c_seq ?_
    refine c_region ?_
    refine o_move rfl rfl ?_
    refine l_f1 ?_
    refine l_f1 ?_
    refine o_call rfl cal20 rfl (penData (by (try simp only [List.length_append]); omega)) ?_
    rintro _ _ ⟨a80, c80, rfl, rfl⟩
    refine o_assign rfl rfl ?_
    refine o_assign rfl rfl ?_
    refine l_nil ?_
    refine q_then ?_
    refine c_ret ?_
    refine q_conv (fun w S => (S.perm p1).tail) ?_
    refine q_conv (fun w S => (S.perm p1).tail) ?_
    refine q_conv (fun w S => (S.perm p1).tail) ?_
    refine q_conv (fun w S => (S.perm p1).tail) ?_
    refine q_conv (fun w S => (S.perm p1).tail) ?_
    exact f_ret (r_two rfl rfl rfl) (⟨wireB m, a80, c80, by rw [wrB, if_pos hok], by rw [show msgN m = 0 from if_pos hok]; rfl, rfl⟩) (fun w S => S)

end Go.Proofs.Ytoigakfglgdjdaa
