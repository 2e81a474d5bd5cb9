/- Texts of the proof: Snap6, Rest6, Great6, RestL. -/
import Derived.Test.YtnfbjidpiglabaaRQF
namespace Go.Proofs.Ytnfbjidpiglabaa
section
set_option linter.unusedVariables false
set_option linter.unusedSimpArgs false
set_option maxRecDepth 10000
open Go.RowKit Classical
set_option maxHeartbeats 4000000 in
theorem snap_ {W : World} {F : List Res} {k : Nat} {s : SS} (hz : Sized s) : CS Try.prog 25 #[.pointer (some ⟨k, 0, none⟩)] W (StR k s :: F) (fun r L' => ∃ (a' : Option Addr) (c' : Nat), r = .slice a' (snapB s.n s.M).length c' ∧ L' = row e8.T e8.sz a' ((snapB s.n s.M)).length c' (flat e8 (snapB s.n s.M)) :: StR k s :: F) := by
 refine f_door (l0 := [(0, .pointer (some ⟨k, 0, none⟩))]) Try.func25 Try.ntmps25 rfl rfl rfl ?_
 refine c_seq (c_region (o_assign rfl rfl (l_nil (q_then (c_seq ?_)))))
 have hn1 := hz.ok.n1
 have hn3 := hz.ok.n3
 have hlz := hz.len
 have nn1 := nl10 (n := s.n.toNat) (by omega)
 have nn2 := nl10 (n := s.xs.length) (by omega)
 refine c_region ?_
 refine o_build rfl sp76 ti76 rfl rfl ?_
 refine o_box rfl rfl fun b8 => ?_
 refine l_nilrow e8 ?_
 refine l_conv (L' := blk b8 (.cells #[.slice none (([] : List UInt8)).length 0] 76 (0, 0)) :: row e8.T e8.sz none (([] : List UInt8)).length 0 (flat e8 ([] : List UInt8)) :: _) (fun w S => S.perm p1) ?_
 refine o_assign rfl rfl (l_nil (q_then (c_seq (cP p2 ?_))))
 refine c_obj ?_
 rintro t_1 ok_1
 refine c_conv (L' := blk k (.cells #[.int .i64 s.n, .pointer (some ⟨t_1, 0, none⟩)] 65 (0, 0)) :: treeR e_ItA eN99 103 105 ItA.f_key strlt t_1 s.xs :: vals s.xs :: _) (fun w S => S) ?_
 refine c_region (o_move rfl rfl (o_move rfl rfl (o_nil rfl rfl ?_)))
 refine o_fieldAddr (q := ⟨k, 0, none⟩) rfl rfl Try.underlying65 rfl ti3 rfl ?_
 refine o_load1 rfl rfl Try.underlying3 rfl (rd_mem 0 rfl rfl) ?_
 refine o_int rfl rfl Try.underlying3 Try.underlying34 (wrap_u64 (by omega) (by omega)) ?_
 refine l_eq (t := 14) (v' := .int .u64 (s.n.toNat : Int)) rfl (by exact congrArg (Value.int .u64) (Int.toNat_of_nonneg (by omega)).symm) ?_
 refine l_f4 (l_f4 ?_)
 refine o_call rfl cal39 rfl (penNum (v := s.n.toNat) (by omega) (by (try simp only [List.length_append, List.length_cons, List.length_nil]); omega)) ?_
 rintro _ _ ⟨a15, c15, rfl, rfl⟩
 refine l_nil (q_then (c_seq (c_region (o_move rfl rfl (o_move rfl rfl (o_nil rfl rfl ?_))))))
 refine o_fieldAddr (q := ⟨k, 1, none⟩) rfl rfl Try.underlying65 rfl ti62 rfl ?_
 refine o_load1 rfl rfl Try.underlying62 rfl (rd_mem 2 rfl rfl) ?_
 refine l_f3 ?_
 refine o_call rfl cal40 rfl (tlen_A) ?_
 rintro _ _ ⟨rfl, rfl⟩
 refine o_int rfl rfl Try.underlying3 Try.underlying34 (wrap_u64 (by omega) (by omega)) ?_
 refine l_f2 (l_f2 ?_)
 refine o_call rfl cal39 rfl (penNum (v := s.xs.length) (by omega) (by (try simp only [List.length_append, List.length_cons, List.length_nil]); omega)) ?_
 rintro _ _ ⟨a23, c23, rfl, rfl⟩
 refine l_nil (q_then (c_seq (c_seq (c_region (o_move rfl rfl ?_)))))
 refine l_conv (fun w S => S.perm p1) ?_
 refine l_conv (fun w S => S.perm p1) ?_
 refine l_conv (fun w S => S.perm p4) ?_
 refine l_conv (fun w S => S.perm p3) ?_
 refine l_conv (fun w S => S.perm p4) ?_
 refine l_conv (L' := StR k s :: _) (fun w S => Sat.obj_mk t_1 ok_1 S) ?_
 refine o_call rfl cal22 rfl (rows6_ (by have h9 := hz.len; omega)) ?_
 rintro _ _ ⟨ys25, a25, c25, hys25, rfl, rfl⟩
 have hyl : ys25.length = s.xs.length := by have h9 := rows_len hys25; rw [M_len] at h9; exact h9
 have nn3 := nl10 (n := ys25.length) (by omega)
 have hps := fun i => hz.part hys25 i
 refine o_len rfl rfl Try.underlying43 ?_
 refine o_move rfl rfl (l_nil (q_then (c_block (cP p2 (cP p2 (cP p2 (cP p4 (cP p4 ?_))))))))
 refine c_conv (L' := blk b8 (.cells #[.slice a23 (numB s.n.toNat ++ numB ys25.length ++ rowsB ((ys25.take 0).map proj)).length c23] 76 (0, 0)) :: row e8.T e8.sz a23 (numB s.n.toNat ++ numB ys25.length ++ rowsB ((ys25.take 0).map proj)).length c23 (flat e8 (numB s.n.toNat ++ numB ys25.length ++ rowsB ((ys25.take 0).map proj))) :: _) (fun w S => by rw [show (([] : List UInt8) ++ numB s.n.toNat) ++ numB s.xs.length = numB s.n.toNat ++ numB ys25.length ++ rowsB ((ys25.take 0).map proj) from by rw [hyl]; simp [rowsB]] at S; exact S) ?_
 refine c_loop (α := Nat × (Option Addr) × Nat) (fun z => [(3, .pointer (some ⟨b8, 0, none⟩)), (25, .slice a25 (ys25).length c25), (26, .int .i64 ((ys25).length : Int)), (27, .int .i64 (z.1 : Int))]) (fun z => blk b8 (.cells #[.slice z.2.1 (numB s.n.toNat ++ numB ys25.length ++ rowsB ((ys25.take z.1).map proj)).length z.2.2] 76 (0, 0)) :: row e8.T e8.sz z.2.1 (numB s.n.toNat ++ numB ys25.length ++ rowsB ((ys25.take z.1).map proj)).length z.2.2 (flat e8 (numB s.n.toNat ++ numB ys25.length ++ rowsB ((ys25.take z.1).map proj))) :: row e_Row.T e_Row.sz a25 (ys25).length c25 (flat e_Row ys25) :: vals ys25 :: StR k s :: F) (fun z => z.1 ≤ ys25.length) (fun z => ys25.length - z.1) (0, a23, c23) (by exact Nat.zero_le _) ⟨vr, vr, vr, vr, trivial⟩ (fun w S => S) ?_
 rintro ⟨i, a9, c9⟩ hi
 try dsimp only at *
 refine c_seq (c_region ?_)
 refine o_bin rfl rfl rfl b_lss ?_
 refine l_nil (q_then (c_seq ?_))
 refine c_cond rfl (fun h1 => ?_) (fun h1 => ?_)
 · -- h1T
  have h1b := h1
  try simp only [decide_eq_true_eq] at h1
  refine c_skip (q_then (c_seq (c_block (c_seq (c_region ?_)))))
  refine o_index e_Row_ok rfl rfl rfl Try.underlying43 (by omega) (by omega) (rds_own e_Row_ok 2 rfl) fun ad29 ead29 => ?_
  obtain ⟨x29, hx29⟩ : ∃ x, (ys25)[((i : Int)).toNat]? = some x := ⟨_, List.getElem?_eq_getElem (by omega)⟩
  have hpi := hps i
  have hrw := hz.row hys25 (show ys25[i]? = some x29 from hx29)
  obtain ⟨z1, z2, z3, z4, z5, z6⟩ := hrw
  have n1 := nl10 (n := x29.f_key.data.toList.length) (by omega)
  have n2 := nl10 (n := x29.f_value.f_Value.xs.length) (by omega)
  have n3 := nl10 (n := x29.f_value.f_Home.toNat) (by omega)
  have n4 := nl10 (n := x29.f_value.f_Count.toNat) (by omega)
  refine o_loadn (vs := e_Row.cells x29) rfl rfl Try.underlying49 rfl ti49 (rdn_sl e_Row_ok ead29 (rds_own e_Row_ok 2 rfl) hx29) ?_
  refine o_alloc rfl ti49 fun b5 => ?_
  refine o_storen rfl rfl ti49 rfl rfl rfl rfl ?_
  refine l_nil (q_then (c_seq (c_region (o_move rfl rfl ?_))))
  refine o_fieldAddr (q := ⟨b5, 0, none⟩) rfl rfl Try.underlying49 rfl ti9 rfl ?_
  refine o_load1 rfl rfl Try.underlying9 rfl (rd_mem 0 rfl rfl) ?_
  refine o_strBytes (e := e8) rfl rfl rfl rfl Try.underlying9 Try.underlying23 Try.underlying5 fun a34 c34 hc34 => ?_
  refine l_f3 (l_f3 (l_f1 (l_f1 ?_)))
  refine o_call rfl cal41 rfl (penText (rds_mrow e8_ok 0 rfl) (by (try simp only [List.length_append, List.length_cons, List.length_nil]); omega) (by (try simp only [List.length_append, List.length_cons, List.length_nil]); omega)) ?_
  rintro _ _ ⟨a35, c35, rfl, rfl⟩
  refine l_nil (q_then (c_seq (c_region (o_assign rfl rfl (l_nil (q_then (c_seq (c_seq (c_region ?_)))))))))
  refine o_fieldAddr (q := ⟨b5, 1, none⟩) rfl rfl Try.underlying49 rfl ti36 rfl ?_
  refine o_fieldAddr (q := ⟨b5, 1, none⟩) rfl rfl Try.underlying36 rfl ti4 rfl ?_
  refine o_load1 rfl rfl Try.underlying4 rfl (rd_mem 3 rfl rfl) ?_
  refine l_nil (q_then ?_)
  refine c_cond rfl (fun h2 => ?_) (fun h2 => ?_)
  · -- h2T
   have h2b := h2
   try simp only [decide_eq_true_eq, decide_eq_false_iff_not, Bool.not_eq_eq_eq_not, Bool.not_true, Bool.not_false, Bool.not_eq_true', Bool.not_eq_false', Int.not_lt, Int.not_le, Bool.or_eq_true, Bool.and_eq_true] at h2
   refine c_region (o_assign rfl rfl (l_nil (q_then (c_seq (c_region (o_move rfl rfl (o_move rfl rfl ?_)))))))
   refine l_eq (t := 40) (v' := .int .u8 ((hasB x29.f_value.f_Has).toNat : Int)) rfl (by rw [show x29.f_value.f_Has = true by assumption]; rfl) ?_
   refine l_f1 (l_f1 ?_)
   refine o_call rfl cal42 rfl (penByte (v := hasB x29.f_value.f_Has) (by (try simp only [List.length_append, List.length_cons, List.length_nil]); omega)) ?_
   rintro _ _ ⟨a41, c41, rfl, rfl⟩
   refine l_nil (q_then (c_seq (c_region (o_move rfl rfl ?_))))
   refine o_fieldAddr (q := ⟨b5, 1, none⟩) rfl rfl Try.underlying49 rfl ti36 rfl ?_
   refine o_fieldAddr (q := ⟨b5, 2, none⟩) rfl rfl Try.underlying36 rfl ti23 rfl ?_
   refine o_load1 rfl rfl Try.underlying23 rfl (rd_mem 3 rfl rfl) ?_
   refine l_f1 (l_f1 (l_f1 (l_f1 ?_)))
   refine o_call rfl cal41 rfl (penText ((fun x hx => rds_vals 3 rfl hx) x29 (List.mem_of_getElem? hx29)) (by (try simp only [List.length_append, List.length_cons, List.length_nil]); omega) (by (try simp only [List.length_append, List.length_cons, List.length_nil]); omega)) ?_
   rintro _ _ ⟨a46, c46, rfl, rfl⟩
   refine l_nil (q_then (c_seq (c_region (o_move rfl rfl ?_))))
   refine o_fieldAddr (q := ⟨b5, 1, none⟩) rfl rfl Try.underlying49 rfl ti36 rfl ?_
   refine o_fieldAddr (q := ⟨b5, 3, none⟩) rfl rfl Try.underlying36 rfl ti3 rfl ?_
   refine o_load1 rfl rfl Try.underlying3 rfl (rd_mem 3 rfl rfl) ?_
   refine o_int rfl rfl Try.underlying3 Try.underlying34 (wrap_u64 (by omega) (by omega)) ?_
   refine l_eq (t := 51) (v' := .int .u64 (x29.f_value.f_Home.toNat : Int)) rfl (by exact congrArg (Value.int .u64) (Int.toNat_of_nonneg z3).symm) ?_
   refine l_f1 (l_f1 ?_)
   refine o_call rfl cal39 rfl (penNum (v := x29.f_value.f_Home.toNat) (by omega) (by (try simp only [List.length_append, List.length_cons, List.length_nil]); omega)) ?_
   rintro _ _ ⟨a52, c52, rfl, rfl⟩
   refine l_nil (q_then (c_region (o_move rfl rfl ?_)))
   refine o_fieldAddr (q := ⟨b5, 1, none⟩) rfl rfl Try.underlying49 rfl ti36 rfl ?_
   refine o_fieldAddr (q := ⟨b5, 4, none⟩) rfl rfl Try.underlying36 rfl ti34 rfl ?_
   refine o_load1 rfl rfl Try.underlying34 rfl (rd_mem 3 rfl rfl) ?_
   refine l_eq (t := 56) (v' := .int .u64 (x29.f_value.f_Count.toNat : Int)) rfl (by exact congrArg (Value.int .u64) (Int.toNat_of_nonneg z5).symm) ?_
   refine l_f1 (l_f1 ?_)
   refine o_call rfl cal39 rfl (penNum (v := x29.f_value.f_Count.toNat) (by omega) (by (try simp only [List.length_append, List.length_cons, List.length_nil]); omega)) ?_
   rintro _ _ ⟨a57, c57, rfl, rfl⟩
   refine l_nil (q_block (q_then (c_region ?_)))
   refine o_bin rfl rfl rfl (b_add (wrap_i64 (by omega) (by omega))) ?_
   refine o_move rfl rfl (l_nil ?_)
   refine q_conv (L' := blk b8 (.cells #[.slice a57 (numB s.n.toNat ++ numB ys25.length ++ rowsB ((ys25.take (i + 1)).map proj)).length c57] 76 (0, 0)) :: row e8.T e8.sz a57 (numB s.n.toNat ++ numB ys25.length ++ rowsB ((ys25.take (i + 1)).map proj)).length c57 (flat e8 (numB s.n.toNat ++ numB ys25.length ++ rowsB ((ys25.take (i + 1)).map proj))) :: _) (fun w S => by rw [show numB s.n.toNat ++ numB ys25.length ++ rowsB ((ys25.take i).map proj) ++ numB x29.f_key.data.toList.length ++ x29.f_key.data.toList ++ [hasB x29.f_value.f_Has] ++ numB x29.f_value.f_Value.xs.length ++ x29.f_value.f_Value.xs ++ numB x29.f_value.f_Home.toNat ++ numB x29.f_value.f_Count.toNat = numB s.n.toNat ++ numB ys25.length ++ rowsB ((ys25.take (i + 1)).map proj) from by rw [rowsB_on (show ys25[i]? = some x29 from hx29), rowB_x]; simp only [List.append_assoc]] at S; exact S) ?_
   refine qP p2 (qT (qP p2 (qT ?_)))
   exact q_round (i + 1, a57, c57) (by (try dsimp only); omega) (by (try dsimp only); omega) ⟨vr, vr, vr, vr, trivial⟩ (fun w S => S)
  · -- h2F
   have h2b := h2
   try simp only [decide_eq_true_eq, decide_eq_false_iff_not, Bool.not_eq_eq_eq_not, Bool.not_true, Bool.not_false, Bool.not_eq_true', Bool.not_eq_false', Int.not_lt, Int.not_le, Bool.or_eq_true, Bool.and_eq_true] at h2
   refine c_skip (q_then (c_seq (c_region (o_move rfl rfl (o_move rfl rfl ?_)))))
   refine l_eq (t := 40) (v' := .int .u8 ((hasB x29.f_value.f_Has).toNat : Int)) rfl (by rw [show x29.f_value.f_Has = false by assumption]; rfl) ?_
   refine l_f1 (l_f1 ?_)
   refine o_call rfl cal42 rfl (penByte (v := hasB x29.f_value.f_Has) (by (try simp only [List.length_append, List.length_cons, List.length_nil]); omega)) ?_
   rintro _ _ ⟨a41, c41, rfl, rfl⟩
   refine l_nil (q_then (c_seq (c_region (o_move rfl rfl ?_))))
   refine o_fieldAddr (q := ⟨b5, 1, none⟩) rfl rfl Try.underlying49 rfl ti36 rfl ?_
   refine o_fieldAddr (q := ⟨b5, 2, none⟩) rfl rfl Try.underlying36 rfl ti23 rfl ?_
   refine o_load1 rfl rfl Try.underlying23 rfl (rd_mem 3 rfl rfl) ?_
   refine l_f1 (l_f1 (l_f1 (l_f1 ?_)))
   refine o_call rfl cal41 rfl (penText ((fun x hx => rds_vals 3 rfl hx) x29 (List.mem_of_getElem? hx29)) (by (try simp only [List.length_append, List.length_cons, List.length_nil]); omega) (by (try simp only [List.length_append, List.length_cons, List.length_nil]); omega)) ?_
   rintro _ _ ⟨a46, c46, rfl, rfl⟩
   refine l_nil (q_then (c_seq (c_region (o_move rfl rfl ?_))))
   refine o_fieldAddr (q := ⟨b5, 1, none⟩) rfl rfl Try.underlying49 rfl ti36 rfl ?_
   refine o_fieldAddr (q := ⟨b5, 3, none⟩) rfl rfl Try.underlying36 rfl ti3 rfl ?_
   refine o_load1 rfl rfl Try.underlying3 rfl (rd_mem 3 rfl rfl) ?_
   refine o_int rfl rfl Try.underlying3 Try.underlying34 (wrap_u64 (by omega) (by omega)) ?_
   refine l_eq (t := 51) (v' := .int .u64 (x29.f_value.f_Home.toNat : Int)) rfl (by exact congrArg (Value.int .u64) (Int.toNat_of_nonneg z3).symm) ?_
   refine l_f1 (l_f1 ?_)
   refine o_call rfl cal39 rfl (penNum (v := x29.f_value.f_Home.toNat) (by omega) (by (try simp only [List.length_append, List.length_cons, List.length_nil]); omega)) ?_
   rintro _ _ ⟨a52, c52, rfl, rfl⟩
   refine l_nil (q_then (c_region (o_move rfl rfl ?_)))
   refine o_fieldAddr (q := ⟨b5, 1, none⟩) rfl rfl Try.underlying49 rfl ti36 rfl ?_
   refine o_fieldAddr (q := ⟨b5, 4, none⟩) rfl rfl Try.underlying36 rfl ti34 rfl ?_
   refine o_load1 rfl rfl Try.underlying34 rfl (rd_mem 3 rfl rfl) ?_
   refine l_eq (t := 56) (v' := .int .u64 (x29.f_value.f_Count.toNat : Int)) rfl (by exact congrArg (Value.int .u64) (Int.toNat_of_nonneg z5).symm) ?_
   refine l_f1 (l_f1 ?_)
   refine o_call rfl cal39 rfl (penNum (v := x29.f_value.f_Count.toNat) (by omega) (by (try simp only [List.length_append, List.length_cons, List.length_nil]); omega)) ?_
   rintro _ _ ⟨a57, c57, rfl, rfl⟩
   refine l_nil (q_block (q_then (c_region ?_)))
   refine o_bin rfl rfl rfl (b_add (wrap_i64 (by omega) (by omega))) ?_
   refine o_move rfl rfl (l_nil ?_)
   refine q_conv (L' := blk b8 (.cells #[.slice a57 (numB s.n.toNat ++ numB ys25.length ++ rowsB ((ys25.take (i + 1)).map proj)).length c57] 76 (0, 0)) :: row e8.T e8.sz a57 (numB s.n.toNat ++ numB ys25.length ++ rowsB ((ys25.take (i + 1)).map proj)).length c57 (flat e8 (numB s.n.toNat ++ numB ys25.length ++ rowsB ((ys25.take (i + 1)).map proj))) :: _) (fun w S => by rw [show numB s.n.toNat ++ numB ys25.length ++ rowsB ((ys25.take i).map proj) ++ numB x29.f_key.data.toList.length ++ x29.f_key.data.toList ++ [hasB x29.f_value.f_Has] ++ numB x29.f_value.f_Value.xs.length ++ x29.f_value.f_Value.xs ++ numB x29.f_value.f_Home.toNat ++ numB x29.f_value.f_Count.toNat = numB s.n.toNat ++ numB ys25.length ++ rowsB ((ys25.take (i + 1)).map proj) from by rw [rowsB_on (show ys25[i]? = some x29 from hx29), rowB_x]; simp only [List.append_assoc]] at S; exact S) ?_
   refine qP p2 (qT (qP p2 (qT ?_)))
   exact q_round (i + 1, a57, c57) (by (try dsimp only); omega) (by (try dsimp only); omega) ⟨vr, vr, vr, vr, trivial⟩ (fun w S => S)
 · -- h1F
  have h1b := h1
  try simp only [decide_eq_false_iff_not, Int.not_lt, Int.not_le] at h1
  refine c_exit (q_pass_exit (q_pass_exit (q_hit (q_then (c_seq ?_)))))
  have hfin : numB s.n.toNat ++ numB ys25.length ++ rowsB ((ys25.take i).map proj) = (snapB s.n s.M) := by rw [List.take_of_length_le (by omega), hys25]; unfold snapB; rw [M_len, hyl]
  have hpi := hps i
  refine c_region (o_move rfl rfl (l_f1 (l_f1 ?_)))
  refine o_call rfl cal43 rfl (penData (by (try simp only [List.length_append, List.length_cons, List.length_nil]); omega)) ?_
  rintro _ _ ⟨a60, c60, rfl, rfl⟩
  refine o_assign rfl rfl (l_nil (q_then (c_ret (qP p1 (qT (qP p1 (qT (qP p1 (qT ?_)))))))))
  refine qP p1 (qT ?_)
  exact f_ret (r_one rfl rfl) (⟨a60, c60, (by rw [hfin]), rfl⟩) (fun w S => by rw [hfin] at S; exact S)
end
section
set_option linter.unusedVariables false
set_option linter.unusedSimpArgs false
set_option maxRecDepth 10000
open Go.RowKit Classical
theorem equal8_ {W : World} {F : List Res} {xs ys : List UInt8} {a b : Option Addr} {c d : Nat} (h1 : RdS W F e8 a xs) (h2 : RdS W F e8 b ys) : CS Try.prog 49 #[.slice a (xs).length c, .slice b (ys).length d] W (F) (fun r L' => r = .bool (decide (xs = ys)) ∧ F = L') := by
 refine f_door (l0 := [(0, .slice a (xs).length c), (1, .slice b (ys).length d)]) Try.func49 Try.ntmps49 rfl rfl rfl ?_
 refine c_seq (c_region (o_assign rfl rfl (l_nil (q_then (c_seq (c_region (o_move rfl rfl ?_)))))))
 refine o_bytesStr (e := e8) rfl rfl rfl Try.underlying23 Try.underlying5 Try.underlying9 h1 ?_
 refine o_move rfl rfl ?_
 refine o_bytesStr (e := e8) rfl rfl rfl Try.underlying23 Try.underlying5 Try.underlying9 h2 ?_
 refine o_bin rfl rfl rfl b_seql ?_
 refine o_assign rfl rfl (l_nil (q_then (c_ret ?_)))
 exact f_ret (r_one rfl rfl) (⟨(by congr 1; exact decide_eq_decide.2 bts_eq), rfl⟩) (fun w S => S)
theorem rest_lo {W : World} {F : List Res} {n : Int} {bs : List UInt8} {a : Option Addr} {c : Nat} (hs : RdS W F e8 a bs) (hl : bs.length ≤ 3000) (h1n : n < 1) : CS Try.prog 27 #[.slice a (bs).length c, .int .i64 n] W (F) (fun r L' => r = .tuple #[.pointer none, .int .i64 31] ∧ F = L') := by
 refine f_door (l0 := [(0, .slice a (bs).length c), (1, .int .i64 n)]) Try.func27 Try.ntmps27 rfl rfl rfl ?_
 refine c_seq (c_region (o_assign rfl rfl (o_assign rfl rfl (l_nil (q_then (c_seq (c_region (o_move rfl rfl ?_))))))))
 refine o_call rfl cal10 rfl (newlo_ h1n) ?_
 rintro _ _ ⟨rfl, rfl⟩
 refine o_move rfl rfl (o_extract rfl rfl rfl (o_extract rfl rfl rfl (o_assign rfl rfl (o_assign rfl rfl (l_nil (q_then (c_seq (c_seq (c_region ?_)))))))))
 refine o_move rfl rfl ?_
 refine o_bin rfl rfl rfl b_neq ?_
 refine l_nil (q_then (c_true rfl (c_seq (c_region (o_assign rfl rfl (o_assign rfl rfl (l_nil (q_then (c_ret ?_)))))))))
 refine q_pass_ret ?_
 exact f_ret (r_two rfl rfl rfl) (⟨rfl, rfl⟩) (fun w S => S)
theorem rest_hi {W : World} {F : List Res} {n : Int} {bs : List UInt8} {a : Option Addr} {c : Nat} (hs : RdS W F e8 a bs) (hl : bs.length ≤ 3000) (h1n : 3 < n) : CS Try.prog 27 #[.slice a (bs).length c, .int .i64 n] W (F) (fun r L' => r = .tuple #[.pointer none, .int .i64 31] ∧ F = L') := by
 refine f_door (l0 := [(0, .slice a (bs).length c), (1, .int .i64 n)]) Try.func27 Try.ntmps27 rfl rfl rfl ?_
 refine c_seq (c_region (o_assign rfl rfl (o_assign rfl rfl (l_nil (q_then (c_seq (c_region (o_move rfl rfl ?_))))))))
 refine o_call rfl cal10 rfl (newhi_ h1n) ?_
 rintro _ _ ⟨rfl, rfl⟩
 refine o_move rfl rfl (o_extract rfl rfl rfl (o_extract rfl rfl rfl (o_assign rfl rfl (o_assign rfl rfl (l_nil (q_then (c_seq (c_seq (c_region ?_)))))))))
 refine o_move rfl rfl ?_
 refine o_bin rfl rfl rfl b_neq ?_
 refine l_nil (q_then (c_true rfl (c_seq (c_region (o_assign rfl rfl (o_assign rfl rfl (l_nil (q_then (c_ret ?_)))))))))
 refine q_pass_ret ?_
 exact f_ret (r_two rfl rfl rfl) (⟨rfl, rfl⟩) (fun w S => S)
set_option maxHeartbeats 4000000 in
theorem rest_no {W : World} {F : List Res} {n : Int} {bs : List UInt8} {a : Option Addr} {c : Nat} (hs : RdS W F e8 a bs) (hl : bs.length ≤ 3000) (h1n : 1 ≤ n) (hn3 : n ≤ 3) (hN : NotSnap n bs) : CS Try.prog 27 #[.slice a (bs).length c, .int .i64 n] W (F) (fun r L' => r = .tuple #[.pointer none, .int .i64 31] ∧ F = L') := by
 refine f_door (l0 := [(0, .slice a (bs).length c), (1, .int .i64 n)]) Try.func27 Try.ntmps27 rfl rfl rfl ?_
 refine c_seq (c_region (o_assign rfl rfl (o_assign rfl rfl (l_nil (q_then (c_seq (c_region (o_move rfl rfl ?_))))))))
 refine o_call rfl cal10 rfl (new_ (n := n) (by omega) (by omega)) ?_
 rintro _ _ ⟨k14, rfl, rfl⟩
 refine o_move rfl rfl (o_extract rfl rfl rfl (o_extract rfl rfl rfl (o_assign rfl rfl (o_assign rfl rfl (l_nil (q_then (c_seq (c_seq (c_region ?_)))))))))
 refine o_move rfl rfl ?_
 refine o_bin rfl rfl rfl b_neq ?_
 refine l_nil (q_then (c_false rfl (c_skip (q_then (c_seq (c_region (o_move rfl rfl ?_)))))))
 refine o_call rfl cal46 rfl (newEye (rds_c hs) (by omega)) ?_
 rintro _ _ ⟨k20, a20, c20, hc20, rfl, rfl⟩
 have ok20 := eyeOk_start (W := W) (a := a20) hc20 (show (bs).length ≤ 70000000000000 by omega)
 refine o_build rfl sp86 ti86 rfl ((fill_cons (cells' := [.pointer (some ⟨k20, 0, none⟩), .bool false]) rfl rfl rfl rfl fill_nil)) ?_
 refine o_box rfl rfl fun q => ?_
 refine o_assign rfl rfl (l_nil (q_then (c_seq (c_region (o_move rfl rfl (l_f2 (l_f2 (l_f2 ?_))))))))
 refine o_call rfl cal47 rfl (rdnum_ ok20) ?_
 rintro _ _ ⟨b24, ys24, ay24, cy24, hb24, ok24, rfl, rfl⟩
 have dr24 : ys24 = bs.drop (numR 0 0 bs).2.2 := EyeOk.next ok20 ok24
 refine l_nil (q_then (c_seq (c_seq (c_region (o_move rfl rfl (l_f2 (l_f2 (l_f2 ?_))))))))
 refine o_call rfl cal47 rfl (rdnum_ ok24) ?_
 rintro _ _ ⟨b26, ys26, ay26, cy26, hb26, ok26, rfl, rfl⟩
 have dr26 : ys26 = ys24.drop (numR 0 0 ys24).2.2 := EyeOk.next ok24 ok26
 refine o_assign rfl rfl (l_nil (q_then (c_block ?_)))
 refine c_loop (α := Nat × Bool × Nat × (List UInt8) × (Option Addr) × Nat × SS) (fun z => [(0, .slice a (bs).length c), (1, .int .i64 n), (6, .pointer (some ⟨k14, 0, none⟩)), (8, .pointer (some ⟨q, 0, none⟩)), (9, .int .u64 (z.1 : Int))]) (fun z => blk q (.cells #[.pointer (some ⟨k20, 0, none⟩), .bool z.2.1] 86 (0, 0)) :: blk k20 (.cells #[.slice z.2.2.2.2.1 (z.2.2.2.1).length z.2.2.2.2.2.1] 116 (0, 0)) :: row e8.T e8.sz a20 (bs).length c20 (flat e8 bs) :: StR k14 z.2.2.2.2.2.2 :: F) (fun z => z.1 < 18446744073709551616 ∧ EyeOk W a20 bs z.2.2.1 z.2.2.2.1 z.2.2.2.2.1 z.2.2.2.2.2.1 ∧ PRI n bs z.1 z.2.1 z.2.2.1 z.2.2.2.1 z.2.2.2.2.2.2) (fun z => z.1) ((numR 0 0 ys24).1, b26, 0 + (numR 0 0 bs).2.2 + (numR 0 0 ys24).2.2, ys26, ay26, cy26, (⟨n, []⟩ : SS)) (by exact ⟨num_0 _, ok26, PRI.start h1n hn3 hl hb24 hb26 dr24 dr26⟩) ⟨vr, vr, vr, vr, vr, trivial⟩ (fun w S => S) ?_
 rintro ⟨m, bd, i, ye, ay, cy, sl⟩ ⟨hm64, oke, hpri⟩
 try dsimp only at *
 refine c_seq (c_seq (c_region (o_move rfl rfl ?_)))
 refine o_bin rfl rfl rfl b_gtr ?_
 refine o_move rfl rfl ?_
 refine l_split (t := 29) rfl (fun h1 => ?_) (fun h1 => ?_)
 · -- h1T
  have h1b := h1
  try simp only [decide_eq_true_eq] at h1
  refine o_yes rfl rfl rfl (o_move rfl rfl (o_yes rfl rfl rfl (o_nil rfl rfl (o_yes rfl rfl rfl ?_))))
  refine o_fieldAddr (q := ⟨q, 1, none⟩) rfl rfl Try.underlying86 rfl ti4 rfl ?_
  refine o_yes rfl rfl rfl ?_
  refine o_load1 rfl rfl Try.underlying4 rfl (rd_mem 0 rfl rfl) ?_
  refine o_yes rfl rfl rfl ?_
  refine o_not rfl rfl ?_
  refine o_pick_true rfl rfl rfl (l_nil (q_then ?_))
  refine c_cond rfl (fun h2 => ?_) (fun h2 => ?_)
  · -- h2T
   have h2b := h2
   try simp only [decide_eq_true_eq, decide_eq_false_iff_not, Bool.not_eq_eq_eq_not, Bool.not_true, Bool.not_false, Bool.not_eq_true', Bool.not_eq_false', Int.not_lt, Int.not_le, Bool.or_eq_true, Bool.and_eq_true] at h2
   refine c_skip (q_then (c_seq (c_block (c_seq ?_))))
   have hbd : bd = false := by simp_all
   have hyl : ye.length ≤ 3000 := by have h9 := oke.len; omega
   refine c_region (o_move rfl rfl (l_f2 (l_f2 (l_f2 ?_))))
   refine o_call rfl cal48 rfl (rdrow_ oke) ?_
   rintro _ _ ⟨x39, b39, i39, ys39, ay39, cy39, hxr39, hbr39, hir39, hlr39, hyr39, ok39, rfl, rfl⟩
   have hokr := PRI.okr hxr39 hyl
   refine o_alloc rfl ti49 fun b10 => ?_
   refine o_storen rfl rfl ti49 rfl rfl rfl rfl ?_
   refine l_nil (q_then (c_seq (c_region ?_)))
   refine o_fieldAddr (q := ⟨b10, 1, none⟩) rfl rfl Try.underlying49 rfl ti36 rfl ?_
   refine o_loadn (vs := [_, _, _, _]) rfl rfl Try.underlying36 rfl ti36 (rdn_lit 0 rfl rfl) ?_
   refine o_alloc rfl ti36 fun b11 => ?_
   refine o_storen rfl rfl ti36 rfl rfl rfl rfl ?_
   refine l_nil (q_then (c_seq (cP p3 (cP p6 (cP p6 (cP p6 (cP p6 (cP p6 (cP p6 ?_)))))))))
   refine cP p5 (cP p5 (cP p5 (cP p5 (cP p5 (cP p5 (cP p6 ?_))))))
   refine c_heldF [blk q (.cells #[.pointer (some ⟨k20, 0, none⟩), .bool b39] 86 (0, 0))] (blk b11 (.cells #[.bool x39.f_value.f_Has, .slice x39.f_value.f_Value.a (x39.f_value.f_Value.xs).length x39.f_value.f_Value.c, .int .i64 x39.f_value.f_Home, .int .u64 x39.f_value.f_Count] 36 (0, 0)) :: blk b10 (.cells #[.string x39.f_key, .bool x39.f_value.f_Has, .slice x39.f_value.f_Value.a (x39.f_value.f_Value.xs).length x39.f_value.f_Value.c, .int .i64 x39.f_value.f_Home, .int .u64 x39.f_value.f_Count] 49 (0, 0)) :: row e8.T e8.sz x39.f_value.f_Value.a (x39.f_value.f_Value.xs).length x39.f_value.f_Value.c (flat e8 x39.f_value.f_Value.xs) :: blk k20 (.cells #[.slice ay39 (ys39).length cy39] 116 (0, 0)) :: row e8.T e8.sz a20 (bs).length c20 (flat e8 bs) :: StR k14 sl :: F) (by kernel_rfl) ?_
   refine h_take 0 rfl rfl (by kernel_rfl) (by kernel_rfl) (by kernel_rfl) (fun L0 => v_move rfl rfl) ?_
   refine h_take 1 rfl rfl (by kernel_rfl) (by kernel_rfl) (by kernel_rfl) (fun L0 => v_move rfl rfl) ?_
   refine h_take 2 rfl rfl (by kernel_rfl) (by kernel_rfl) (by kernel_rfl) (fun L0 => v_nil rfl rfl) ?_
   refine h_take 3 rfl rfl (by kernel_rfl) (by kernel_rfl) (by kernel_rfl) (fun L0 => v_fieldAddr (q := ⟨q, 1, none⟩) rfl rfl Try.underlying86 rfl ti4 rfl) ?_
   refine h_one 4 rfl (by kernel_rfl) ?_
   refine l_in1 ?_
   refine o_load1 rfl rfl Try.underlying4 rfl (rd_mem 0 rfl rfl) ?_
   refine l_nil (q_out1 (h_next ?_))
   refine h_take 5 rfl rfl (by kernel_rfl) (by kernel_rfl) (by kernel_rfl) (fun L0 => v_move rfl rfl) ?_
   refine h_split (t := 47) rfl (fun h3 => ?_) (fun h3 => ?_)
   · -- h3T
    have h3b := h3
    try simp only [decide_eq_true_eq, decide_eq_false_iff_not, Bool.not_eq_eq_eq_not, Bool.not_true, Bool.not_false, Bool.not_eq_true', Bool.not_eq_false', Int.not_lt, Int.not_le, Bool.or_eq_true, Bool.and_eq_true] at h3
    refine h_take_no 6 rfl rfl rfl rfl rfl (by kernel_rfl) (by kernel_rfl) (by kernel_rfl) ?_
    refine h_take_no 7 rfl rfl rfl rfl rfl (by kernel_rfl) (by kernel_rfl) (by kernel_rfl) ?_
    refine h_take_no 8 rfl rfl rfl rfl rfl (by kernel_rfl) (by kernel_rfl) (by kernel_rfl) ?_
    refine h_take_no 9 rfl rfl rfl rfl rfl (by kernel_rfl) (by kernel_rfl) (by kernel_rfl) ?_
    refine h_take 10 rfl rfl (by kernel_rfl) (by kernel_rfl) (by kernel_rfl) (fun L0 => v_pick_true rfl rfl rfl) ?_
    refine h_take 11 rfl rfl (by kernel_rfl) (by kernel_rfl) (by kernel_rfl) (fun L0 => v_move rfl rfl) ?_
    refine h_take_no 12 rfl rfl rfl rfl rfl (by kernel_rfl) (by kernel_rfl) (by kernel_rfl) ?_
    refine h_take_no 13 rfl rfl rfl rfl rfl (by kernel_rfl) (by kernel_rfl) (by kernel_rfl) ?_
    refine h_take_no 14 rfl rfl rfl rfl rfl (by kernel_rfl) (by kernel_rfl) (by kernel_rfl) ?_
    refine h_take_no 15 rfl rfl rfl rfl rfl (by kernel_rfl) (by kernel_rfl) (by kernel_rfl) ?_
    refine h_take_no 16 rfl rfl rfl rfl rfl (by kernel_rfl) (by kernel_rfl) (by kernel_rfl) ?_
    refine h_take_no 17 rfl rfl rfl rfl rfl (by kernel_rfl) (by kernel_rfl) (by kernel_rfl) ?_
    refine h_take_no 18 rfl rfl rfl rfl rfl (by kernel_rfl) (by kernel_rfl) (by kernel_rfl) ?_
    refine h_take_no 19 rfl rfl rfl rfl rfl (by kernel_rfl) (by kernel_rfl) (by kernel_rfl) ?_
    refine h_take_no 20 rfl rfl rfl rfl rfl (by kernel_rfl) (by kernel_rfl) (by kernel_rfl) ?_
    refine h_take_no 21 rfl rfl rfl rfl rfl (by kernel_rfl) (by kernel_rfl) (by kernel_rfl) ?_
    refine h_take_no 22 rfl rfl rfl rfl rfl (by kernel_rfl) (by kernel_rfl) (by kernel_rfl) ?_
    refine h_take_no 23 rfl rfl rfl rfl rfl (by kernel_rfl) (by kernel_rfl) (by kernel_rfl) ?_
    refine h_take 24 rfl rfl (by kernel_rfl) (by kernel_rfl) (by kernel_rfl) (fun L0 => v_pick_true rfl rfl rfl) ?_
    refine h_take 25 rfl rfl (by kernel_rfl) (by kernel_rfl) (by kernel_rfl) (fun L0 => v_move rfl rfl) ?_
    refine h_take_no 26 rfl rfl rfl rfl rfl (by kernel_rfl) (by kernel_rfl) (by kernel_rfl) ?_
    refine h_take_no 27 rfl rfl rfl rfl rfl (by kernel_rfl) (by kernel_rfl) (by kernel_rfl) ?_
    refine h_take_no 28 rfl rfl rfl rfl rfl (by kernel_rfl) (by kernel_rfl) (by kernel_rfl) ?_
    refine h_take_no 29 rfl rfl rfl rfl rfl (by kernel_rfl) (by kernel_rfl) (by kernel_rfl) ?_
    refine h_take_no 30 rfl rfl rfl rfl rfl (by kernel_rfl) (by kernel_rfl) (by kernel_rfl) ?_
    refine h_take_no 31 rfl rfl rfl rfl rfl (by kernel_rfl) (by kernel_rfl) (by kernel_rfl) ?_
    refine h_take_no 32 rfl rfl rfl rfl rfl (by kernel_rfl) (by kernel_rfl) (by kernel_rfl) ?_
    refine h_take_no 33 rfl rfl rfl rfl rfl (by kernel_rfl) (by kernel_rfl) (by kernel_rfl) ?_
    refine h_take_no 34 rfl rfl rfl rfl rfl (by kernel_rfl) (by kernel_rfl) (by kernel_rfl) ?_
    refine h_take 35 rfl rfl (by kernel_rfl) (by kernel_rfl) (by kernel_rfl) (fun L0 => v_pick_true rfl rfl rfl) ?_
    refine h_take 36 rfl rfl (by kernel_rfl) (by kernel_rfl) (by kernel_rfl) (fun L0 => v_nil rfl rfl) ?_
    refine h_take 37 rfl rfl (by kernel_rfl) (by kernel_rfl) (by kernel_rfl) (fun L0 => v_fieldAddr (q := ⟨q, 1, none⟩) rfl rfl Try.underlying86 rfl ti4 rfl) ?_
    refine h_one 38 rfl (by kernel_rfl) ?_
    refine l_in1 ?_
    refine o_store1 rfl rfl rfl ti4 rfl rfl ?_
    refine l_nil (q_out1 (h_next ?_))
    refine h_done (by kernel_rfl) ?_
    refine q_in1 (q_then ?_)
    have hck : true = false ↔ b39 = false ∧ ChkP n x39 := by clear hpri hbr39 hlr39; unfold ChkP; constructor <;> intro h99 <;> (try simp_all) <;> (try omega)
    refine c_region (o_move rfl rfl ?_)
    refine o_fieldAddr (q := ⟨b10, 0, none⟩) rfl rfl Try.underlying49 rfl ti9 rfl ?_
    refine o_load1 rfl rfl Try.underlying9 rfl (rd_mem 2 rfl rfl) ?_
    refine o_loadn (vs := [_, _, _, _]) rfl rfl Try.underlying36 rfl ti36 (rdn_lit 1 rfl rfl) ?_
    refine l_f6 (l_f4 ?_)
    refine o_call rfl cal31 rfl (set_ (k' := x39.f_key) (r := x39.f_value) hokr.1 (by have h9 := hpri.len; have h8 := oke.le; omega)) ?_
    rintro _ _ ⟨s2, hsn, hsM, rfl⟩
    refine l_nil (q_block (q_then (c_region (o_move rfl rfl ?_))))
    refine o_bin rfl rfl rfl (b_sub (show IntKind.u64.wrap ((m : Int) - 1) = ((m - 1 : Nat) : Int) from by rw [wrap_u64 (by omega) (by omega)]; omega)) ?_
    refine o_assign rfl rfl (l_nil (qP p2 (qT (qP p2 (qT (qP p3 (qP p3 (qP p3 ?_))))))))
    exact q_round (m - 1, true, i39, ys39, ay39, cy39, s2) (by exact ⟨by dsimp only; omega, ok39, hpri.on hbd (by omega) hn3 hyl hxr39 hbr39 hir39 hlr39 hyr39 hck hsn hsM⟩) (by (try dsimp only); omega) ⟨vr, vr, vr, vr, vr, trivial⟩ (fun w S => S)
   · -- h3F
    have h3b := h3
    try simp only [decide_eq_true_eq, decide_eq_false_iff_not, Bool.not_eq_eq_eq_not, Bool.not_true, Bool.not_false, Bool.not_eq_true', Bool.not_eq_false', Int.not_lt, Int.not_le, Bool.or_eq_true, Bool.and_eq_true] at h3
    refine h_take_yes 6 rfl rfl rfl rfl rfl (by kernel_rfl) (by kernel_rfl) (by kernel_rfl) (fun L0 => v_fieldAddr (q := ⟨b11, 2, none⟩) rfl rfl Try.underlying36 rfl ti3 rfl) ?_
    refine h_take_yes 7 rfl rfl rfl rfl rfl (by kernel_rfl) (by kernel_rfl) (by kernel_rfl) (fun L0 => v_load1 rfl rfl Try.underlying3 rfl (rd_mem 0 rfl rfl)) ?_
    refine h_take_yes 8 rfl rfl rfl rfl rfl (by kernel_rfl) (by kernel_rfl) (by kernel_rfl) (fun L0 => v_move rfl rfl) ?_
    refine h_take_yes 9 rfl rfl rfl rfl rfl (by kernel_rfl) (by kernel_rfl) (by kernel_rfl) (fun L0 => v_bin rfl rfl rfl b_geq) ?_
    refine h_take 10 rfl rfl (by kernel_rfl) (by kernel_rfl) (by kernel_rfl) (fun L0 => v_pick_false rfl rfl rfl) ?_
    refine h_take 11 rfl rfl (by kernel_rfl) (by kernel_rfl) (by kernel_rfl) (fun L0 => v_move rfl rfl) ?_
    refine h_split (t := 53) rfl (fun h4 => ?_) (fun h4 => ?_)
    · -- h4T
     have h4b := h4
     try simp only [decide_eq_true_eq] at h4
     refine h_take_no 12 rfl rfl rfl rfl rfl (by kernel_rfl) (by kernel_rfl) (by kernel_rfl) ?_
     refine h_take_no 13 rfl rfl rfl rfl rfl (by kernel_rfl) (by kernel_rfl) (by kernel_rfl) ?_
     refine h_take_no 14 rfl rfl rfl rfl rfl (by kernel_rfl) (by kernel_rfl) (by kernel_rfl) ?_
     refine h_take_no 15 rfl rfl rfl rfl rfl (by kernel_rfl) (by kernel_rfl) (by kernel_rfl) ?_
     refine h_take_no 16 rfl rfl rfl rfl rfl (by kernel_rfl) (by kernel_rfl) (by kernel_rfl) ?_
     refine h_take_no 17 rfl rfl rfl rfl rfl (by kernel_rfl) (by kernel_rfl) (by kernel_rfl) ?_
     refine h_take_no 18 rfl rfl rfl rfl rfl (by kernel_rfl) (by kernel_rfl) (by kernel_rfl) ?_
     refine h_take_no 19 rfl rfl rfl rfl rfl (by kernel_rfl) (by kernel_rfl) (by kernel_rfl) ?_
     refine h_take_no 20 rfl rfl rfl rfl rfl (by kernel_rfl) (by kernel_rfl) (by kernel_rfl) ?_
     refine h_take_no 21 rfl rfl rfl rfl rfl (by kernel_rfl) (by kernel_rfl) (by kernel_rfl) ?_
     refine h_take_no 22 rfl rfl rfl rfl rfl (by kernel_rfl) (by kernel_rfl) (by kernel_rfl) ?_
     refine h_take_no 23 rfl rfl rfl rfl rfl (by kernel_rfl) (by kernel_rfl) (by kernel_rfl) ?_
     refine h_take 24 rfl rfl (by kernel_rfl) (by kernel_rfl) (by kernel_rfl) (fun L0 => v_pick_true rfl rfl rfl) ?_
     refine h_take 25 rfl rfl (by kernel_rfl) (by kernel_rfl) (by kernel_rfl) (fun L0 => v_move rfl rfl) ?_
     refine h_take_no 26 rfl rfl rfl rfl rfl (by kernel_rfl) (by kernel_rfl) (by kernel_rfl) ?_
     refine h_take_no 27 rfl rfl rfl rfl rfl (by kernel_rfl) (by kernel_rfl) (by kernel_rfl) ?_
     refine h_take_no 28 rfl rfl rfl rfl rfl (by kernel_rfl) (by kernel_rfl) (by kernel_rfl) ?_
     refine h_take_no 29 rfl rfl rfl rfl rfl (by kernel_rfl) (by kernel_rfl) (by kernel_rfl) ?_
     refine h_take_no 30 rfl rfl rfl rfl rfl (by kernel_rfl) (by kernel_rfl) (by kernel_rfl) ?_
     refine h_take_no 31 rfl rfl rfl rfl rfl (by kernel_rfl) (by kernel_rfl) (by kernel_rfl) ?_
     refine h_take_no 32 rfl rfl rfl rfl rfl (by kernel_rfl) (by kernel_rfl) (by kernel_rfl) ?_
     refine h_take_no 33 rfl rfl rfl rfl rfl (by kernel_rfl) (by kernel_rfl) (by kernel_rfl) ?_
     refine h_take_no 34 rfl rfl rfl rfl rfl (by kernel_rfl) (by kernel_rfl) (by kernel_rfl) ?_
     refine h_take 35 rfl rfl (by kernel_rfl) (by kernel_rfl) (by kernel_rfl) (fun L0 => v_pick_true rfl rfl rfl) ?_
     refine h_take 36 rfl rfl (by kernel_rfl) (by kernel_rfl) (by kernel_rfl) (fun L0 => v_nil rfl rfl) ?_
     refine h_take 37 rfl rfl (by kernel_rfl) (by kernel_rfl) (by kernel_rfl) (fun L0 => v_fieldAddr (q := ⟨q, 1, none⟩) rfl rfl Try.underlying86 rfl ti4 rfl) ?_
     refine h_one 38 rfl (by kernel_rfl) ?_
     refine l_in1 ?_
     refine o_store1 rfl rfl rfl ti4 rfl rfl ?_
     refine l_nil (q_out1 (h_next ?_))
     refine h_done (by kernel_rfl) ?_
     refine q_in1 (q_then ?_)
     have hck : true = false ↔ b39 = false ∧ ChkP n x39 := by clear hpri hbr39 hlr39; unfold ChkP; constructor <;> intro h99 <;> (try simp_all) <;> (try omega)
     refine c_region (o_move rfl rfl ?_)
     refine o_fieldAddr (q := ⟨b10, 0, none⟩) rfl rfl Try.underlying49 rfl ti9 rfl ?_
     refine o_load1 rfl rfl Try.underlying9 rfl (rd_mem 2 rfl rfl) ?_
     refine o_loadn (vs := [_, _, _, _]) rfl rfl Try.underlying36 rfl ti36 (rdn_lit 1 rfl rfl) ?_
     refine l_f6 (l_f4 ?_)
     refine o_call rfl cal31 rfl (set_ (k' := x39.f_key) (r := x39.f_value) hokr.1 (by have h9 := hpri.len; have h8 := oke.le; omega)) ?_
     rintro _ _ ⟨s2, hsn, hsM, rfl⟩
     refine l_nil (q_block (q_then (c_region (o_move rfl rfl ?_))))
     refine o_bin rfl rfl rfl (b_sub (show IntKind.u64.wrap ((m : Int) - 1) = ((m - 1 : Nat) : Int) from by rw [wrap_u64 (by omega) (by omega)]; omega)) ?_
     refine o_assign rfl rfl (l_nil (qP p2 (qT (qP p2 (qT (qP p3 (qP p3 (qP p3 ?_))))))))
     exact q_round (m - 1, true, i39, ys39, ay39, cy39, s2) (by exact ⟨by dsimp only; omega, ok39, hpri.on hbd (by omega) hn3 hyl hxr39 hbr39 hir39 hlr39 hyr39 hck hsn hsM⟩) (by (try dsimp only); omega) ⟨vr, vr, vr, vr, vr, trivial⟩ (fun w S => S)
    · -- h4F
     have h4b := h4
     try simp only [decide_eq_false_iff_not, Int.not_lt, Int.not_le] at h4
     refine h_take_yes 12 rfl rfl rfl rfl rfl (by kernel_rfl) (by kernel_rfl) (by kernel_rfl) (fun L0 => v_fieldAddr (q := ⟨b11, 3, none⟩) rfl rfl Try.underlying36 rfl ti34 rfl) ?_
     refine h_take_yes 13 rfl rfl rfl rfl rfl (by kernel_rfl) (by kernel_rfl) (by kernel_rfl) (fun L0 => v_load1 rfl rfl Try.underlying34 rfl (rd_mem 0 rfl rfl)) ?_
     refine h_take_yes 14 rfl rfl rfl rfl rfl (by kernel_rfl) (by kernel_rfl) (by kernel_rfl) (fun L0 => v_bin rfl rfl rfl b_eql) ?_
     refine h_take_yes 15 rfl rfl rfl rfl rfl (by kernel_rfl) (by kernel_rfl) (by kernel_rfl) (fun L0 => v_move rfl rfl) ?_
     refine h_split (t := 57) rfl (fun h5 => ?_) (fun h5 => ?_)
     · -- h5T
      have h5b := h5
      try simp only [decide_eq_true_eq] at h5
      refine h_take_yes 16 rfl rfl rfl rfl rfl (by kernel_rfl) (by kernel_rfl) (by kernel_rfl) (fun L0 => v_fieldAddr (q := ⟨b11, 2, none⟩) rfl rfl Try.underlying36 rfl ti3 rfl) ?_
      refine h_take_yes 17 rfl rfl rfl rfl rfl (by kernel_rfl) (by kernel_rfl) (by kernel_rfl) (fun L0 => v_load1 rfl rfl Try.underlying3 rfl (rd_mem 0 rfl rfl)) ?_
      refine h_take_yes 18 rfl rfl rfl rfl rfl (by kernel_rfl) (by kernel_rfl) (by kernel_rfl) (fun L0 => v_fieldAddr (q := ⟨b10, 0, none⟩) rfl rfl Try.underlying49 rfl ti9 rfl) ?_
      refine h_take_yes 19 rfl rfl rfl rfl rfl (by kernel_rfl) (by kernel_rfl) (by kernel_rfl) (fun L0 => v_load1 rfl rfl Try.underlying9 rfl (rd_mem 1 rfl rfl)) ?_
      refine h_take_yes 20 rfl rfl rfl rfl rfl (by kernel_rfl) (by kernel_rfl) (by kernel_rfl) (fun L0 => v_move rfl rfl) ?_
      refine h_one 21 rfl (by kernel_rfl) ?_
      refine l_in1 (o_yes rfl rfl rfl ?_)
      refine o_call rfl cal14 rfl (default_ (k := x39.f_key) (n := n) (by have h9 := hokr.2; omega)) ?_
      rintro _ _ ⟨rfl, rfl⟩
      refine l_nil (q_out1 (h_next ?_))
      refine h_take_yes 22 rfl rfl rfl rfl rfl (by kernel_rfl) (by kernel_rfl) (by kernel_rfl) (fun L0 => v_bin rfl rfl rfl b_neq) ?_
      refine h_take_yes 23 rfl rfl rfl rfl rfl (by kernel_rfl) (by kernel_rfl) (by kernel_rfl) (fun L0 => v_pick_true rfl rfl rfl) ?_
      refine h_take 24 rfl rfl (by kernel_rfl) (by kernel_rfl) (by kernel_rfl) (fun L0 => v_pick_false rfl rfl rfl) ?_
      refine h_take 25 rfl rfl (by kernel_rfl) (by kernel_rfl) (by kernel_rfl) (fun L0 => v_move rfl rfl) ?_
      refine h_split (t := 67) rfl (fun h6 => ?_) (fun h6 => ?_)
      · -- h6T
       have h6b := h6
       try simp only [Bool.not_eq_true', decide_eq_false_iff_not, Int.not_lt, Int.not_le] at h6
       refine h_take_no 26 rfl rfl rfl rfl rfl (by kernel_rfl) (by kernel_rfl) (by kernel_rfl) ?_
       refine h_take_no 27 rfl rfl rfl rfl rfl (by kernel_rfl) (by kernel_rfl) (by kernel_rfl) ?_
       refine h_take_no 28 rfl rfl rfl rfl rfl (by kernel_rfl) (by kernel_rfl) (by kernel_rfl) ?_
       refine h_take_no 29 rfl rfl rfl rfl rfl (by kernel_rfl) (by kernel_rfl) (by kernel_rfl) ?_
       refine h_take_no 30 rfl rfl rfl rfl rfl (by kernel_rfl) (by kernel_rfl) (by kernel_rfl) ?_
       refine h_take_no 31 rfl rfl rfl rfl rfl (by kernel_rfl) (by kernel_rfl) (by kernel_rfl) ?_
       refine h_take_no 32 rfl rfl rfl rfl rfl (by kernel_rfl) (by kernel_rfl) (by kernel_rfl) ?_
       refine h_take_no 33 rfl rfl rfl rfl rfl (by kernel_rfl) (by kernel_rfl) (by kernel_rfl) ?_
       refine h_take_no 34 rfl rfl rfl rfl rfl (by kernel_rfl) (by kernel_rfl) (by kernel_rfl) ?_
       refine h_take 35 rfl rfl (by kernel_rfl) (by kernel_rfl) (by kernel_rfl) (fun L0 => v_pick_true rfl rfl rfl) ?_
       refine h_take 36 rfl rfl (by kernel_rfl) (by kernel_rfl) (by kernel_rfl) (fun L0 => v_nil rfl rfl) ?_
       refine h_take 37 rfl rfl (by kernel_rfl) (by kernel_rfl) (by kernel_rfl) (fun L0 => v_fieldAddr (q := ⟨q, 1, none⟩) rfl rfl Try.underlying86 rfl ti4 rfl) ?_
       refine h_one 38 rfl (by kernel_rfl) ?_
       refine l_in1 ?_
       refine o_store1 rfl rfl rfl ti4 rfl rfl ?_
       refine l_nil (q_out1 (h_next ?_))
       refine h_done (by kernel_rfl) ?_
       refine q_in1 (q_then ?_)
       have hck : true = false ↔ b39 = false ∧ ChkP n x39 := by clear hpri hbr39 hlr39; unfold ChkP; constructor <;> intro h99 <;> (try simp_all) <;> (try omega)
       refine c_region (o_move rfl rfl ?_)
       refine o_fieldAddr (q := ⟨b10, 0, none⟩) rfl rfl Try.underlying49 rfl ti9 rfl ?_
       refine o_load1 rfl rfl Try.underlying9 rfl (rd_mem 2 rfl rfl) ?_
       refine o_loadn (vs := [_, _, _, _]) rfl rfl Try.underlying36 rfl ti36 (rdn_lit 1 rfl rfl) ?_
       refine l_f6 (l_f4 ?_)
       refine o_call rfl cal31 rfl (set_ (k' := x39.f_key) (r := x39.f_value) hokr.1 (by have h9 := hpri.len; have h8 := oke.le; omega)) ?_
       rintro _ _ ⟨s2, hsn, hsM, rfl⟩
       refine l_nil (q_block (q_then (c_region (o_move rfl rfl ?_))))
       refine o_bin rfl rfl rfl (b_sub (show IntKind.u64.wrap ((m : Int) - 1) = ((m - 1 : Nat) : Int) from by rw [wrap_u64 (by omega) (by omega)]; omega)) ?_
       refine o_assign rfl rfl (l_nil (qP p2 (qT (qP p2 (qT (qP p3 (qP p3 (qP p3 ?_))))))))
       exact q_round (m - 1, true, i39, ys39, ay39, cy39, s2) (by exact ⟨by dsimp only; omega, ok39, hpri.on hbd (by omega) hn3 hyl hxr39 hbr39 hir39 hlr39 hyr39 hck hsn hsM⟩) (by (try dsimp only); omega) ⟨vr, vr, vr, vr, vr, trivial⟩ (fun w S => S)
      · -- h6F
       have h6b := h6
       try simp only [Bool.not_eq_false', decide_eq_true_eq] at h6
       refine h_take_yes 26 rfl rfl rfl rfl rfl (by kernel_rfl) (by kernel_rfl) (by kernel_rfl) (fun L0 => v_fieldAddr (q := ⟨b11, 0, none⟩) rfl rfl Try.underlying36 rfl ti4 rfl) ?_
       refine h_take_yes 27 rfl rfl rfl rfl rfl (by kernel_rfl) (by kernel_rfl) (by kernel_rfl) (fun L0 => v_load1 rfl rfl Try.underlying4 rfl (rd_mem 0 rfl rfl)) ?_
       refine h_take_yes 28 rfl rfl rfl rfl rfl (by kernel_rfl) (by kernel_rfl) (by kernel_rfl) (fun L0 => v_not rfl rfl) ?_
       refine h_take_yes 29 rfl rfl rfl rfl rfl (by kernel_rfl) (by kernel_rfl) (by kernel_rfl) (fun L0 => v_move rfl rfl) ?_
       refine h_split (t := 71) rfl (fun h7 => ?_) (fun h7 => ?_)
       · -- h7T
        have h7b := h7
        try simp only [decide_eq_true_eq, decide_eq_false_iff_not, Bool.not_eq_eq_eq_not, Bool.not_true, Bool.not_false, Bool.not_eq_true', Bool.not_eq_false', Int.not_lt, Int.not_le, Bool.or_eq_true, Bool.and_eq_true] at h7
        refine h_take_yes 30 rfl rfl rfl rfl rfl (by kernel_rfl) (by kernel_rfl) (by kernel_rfl) (fun L0 => v_fieldAddr (q := ⟨b11, 1, none⟩) rfl rfl Try.underlying36 rfl ti23 rfl) ?_
        refine h_take_yes 31 rfl rfl rfl rfl rfl (by kernel_rfl) (by kernel_rfl) (by kernel_rfl) (fun L0 => v_load1 rfl rfl Try.underlying23 rfl (rd_mem 0 rfl rfl)) ?_
        refine h_take_yes 32 rfl rfl rfl rfl rfl (by kernel_rfl) (by kernel_rfl) (by kernel_rfl) (fun L0 => v_len rfl rfl Try.underlying23) ?_
        refine h_take_yes 33 rfl rfl rfl rfl rfl (by kernel_rfl) (by kernel_rfl) (by kernel_rfl) (fun L0 => v_bin rfl rfl rfl b_gtr) ?_
        refine h_take_yes 34 rfl rfl rfl rfl rfl (by kernel_rfl) (by kernel_rfl) (by kernel_rfl) (fun L0 => v_pick_true rfl rfl rfl) ?_
        refine h_take 35 rfl rfl (by kernel_rfl) (by kernel_rfl) (by kernel_rfl) (fun L0 => v_pick_false rfl rfl rfl) ?_
        refine h_take 36 rfl rfl (by kernel_rfl) (by kernel_rfl) (by kernel_rfl) (fun L0 => v_nil rfl rfl) ?_
        refine h_take 37 rfl rfl (by kernel_rfl) (by kernel_rfl) (by kernel_rfl) (fun L0 => v_fieldAddr (q := ⟨q, 1, none⟩) rfl rfl Try.underlying86 rfl ti4 rfl) ?_
        refine h_one 38 rfl (by kernel_rfl) ?_
        refine l_in1 ?_
        refine o_store1 rfl rfl rfl ti4 rfl rfl ?_
        refine l_nil (q_out1 (h_next ?_))
        refine h_done (by kernel_rfl) ?_
        refine q_in1 (q_then ?_)
        have hck : decide (0 < ((x39.f_value.f_Value.xs).length : Int)) = false ↔ b39 = false ∧ ChkP n x39 := by clear hpri hbr39 hlr39; unfold ChkP; constructor <;> intro h99 <;> (try simp_all) <;> (try omega)
        refine c_region (o_move rfl rfl ?_)
        refine o_fieldAddr (q := ⟨b10, 0, none⟩) rfl rfl Try.underlying49 rfl ti9 rfl ?_
        refine o_load1 rfl rfl Try.underlying9 rfl (rd_mem 2 rfl rfl) ?_
        refine o_loadn (vs := [_, _, _, _]) rfl rfl Try.underlying36 rfl ti36 (rdn_lit 1 rfl rfl) ?_
        refine l_f6 (l_f4 ?_)
        refine o_call rfl cal31 rfl (set_ (k' := x39.f_key) (r := x39.f_value) hokr.1 (by have h9 := hpri.len; have h8 := oke.le; omega)) ?_
        rintro _ _ ⟨s2, hsn, hsM, rfl⟩
        refine l_nil (q_block (q_then (c_region (o_move rfl rfl ?_))))
        refine o_bin rfl rfl rfl (b_sub (show IntKind.u64.wrap ((m : Int) - 1) = ((m - 1 : Nat) : Int) from by rw [wrap_u64 (by omega) (by omega)]; omega)) ?_
        refine o_assign rfl rfl (l_nil (qP p2 (qT (qP p2 (qT (qP p3 (qP p3 (qP p3 ?_))))))))
        exact q_round (m - 1, decide (0 < ((x39.f_value.f_Value.xs).length : Int)), i39, ys39, ay39, cy39, s2) (by exact ⟨by dsimp only; omega, ok39, hpri.on hbd (by omega) hn3 hyl hxr39 hbr39 hir39 hlr39 hyr39 hck hsn hsM⟩) (by (try dsimp only); omega) ⟨vr, vr, vr, vr, vr, trivial⟩ (fun w S => S)
       · -- h7F
        have h7b := h7
        try simp only [decide_eq_true_eq, decide_eq_false_iff_not, Bool.not_eq_eq_eq_not, Bool.not_true, Bool.not_false, Bool.not_eq_true', Bool.not_eq_false', Int.not_lt, Int.not_le, Bool.or_eq_true, Bool.and_eq_true] at h7
        refine h_take_no 30 rfl rfl rfl rfl rfl (by kernel_rfl) (by kernel_rfl) (by kernel_rfl) ?_
        refine h_take_no 31 rfl rfl rfl rfl rfl (by kernel_rfl) (by kernel_rfl) (by kernel_rfl) ?_
        refine h_take_no 32 rfl rfl rfl rfl rfl (by kernel_rfl) (by kernel_rfl) (by kernel_rfl) ?_
        refine h_take_no 33 rfl rfl rfl rfl rfl (by kernel_rfl) (by kernel_rfl) (by kernel_rfl) ?_
        refine h_take_yes 34 rfl rfl rfl rfl rfl (by kernel_rfl) (by kernel_rfl) (by kernel_rfl) (fun L0 => v_pick_false rfl rfl rfl) ?_
        refine h_take 35 rfl rfl (by kernel_rfl) (by kernel_rfl) (by kernel_rfl) (fun L0 => v_pick_false rfl rfl rfl) ?_
        refine h_take 36 rfl rfl (by kernel_rfl) (by kernel_rfl) (by kernel_rfl) (fun L0 => v_nil rfl rfl) ?_
        refine h_take 37 rfl rfl (by kernel_rfl) (by kernel_rfl) (by kernel_rfl) (fun L0 => v_fieldAddr (q := ⟨q, 1, none⟩) rfl rfl Try.underlying86 rfl ti4 rfl) ?_
        refine h_one 38 rfl (by kernel_rfl) ?_
        refine l_in1 ?_
        refine o_store1 rfl rfl rfl ti4 rfl rfl ?_
        refine l_nil (q_out1 (h_next ?_))
        refine h_done (by kernel_rfl) ?_
        refine q_in1 (q_then ?_)
        have hck : false = false ↔ b39 = false ∧ ChkP n x39 := by clear hpri hbr39 hlr39; unfold ChkP; constructor <;> intro h99 <;> (try simp_all) <;> (try omega)
        refine c_region (o_move rfl rfl ?_)
        refine o_fieldAddr (q := ⟨b10, 0, none⟩) rfl rfl Try.underlying49 rfl ti9 rfl ?_
        refine o_load1 rfl rfl Try.underlying9 rfl (rd_mem 2 rfl rfl) ?_
        refine o_loadn (vs := [_, _, _, _]) rfl rfl Try.underlying36 rfl ti36 (rdn_lit 1 rfl rfl) ?_
        refine l_f6 (l_f4 ?_)
        refine o_call rfl cal31 rfl (set_ (k' := x39.f_key) (r := x39.f_value) hokr.1 (by have h9 := hpri.len; have h8 := oke.le; omega)) ?_
        rintro _ _ ⟨s2, hsn, hsM, rfl⟩
        refine l_nil (q_block (q_then (c_region (o_move rfl rfl ?_))))
        refine o_bin rfl rfl rfl (b_sub (show IntKind.u64.wrap ((m : Int) - 1) = ((m - 1 : Nat) : Int) from by rw [wrap_u64 (by omega) (by omega)]; omega)) ?_
        refine o_assign rfl rfl (l_nil (qP p2 (qT (qP p2 (qT (qP p3 (qP p3 (qP p3 ?_))))))))
        exact q_round (m - 1, false, i39, ys39, ay39, cy39, s2) (by exact ⟨by dsimp only; omega, ok39, hpri.on hbd (by omega) hn3 hyl hxr39 hbr39 hir39 hlr39 hyr39 hck hsn hsM⟩) (by (try dsimp only); omega) ⟨vr, vr, vr, vr, vr, trivial⟩ (fun w S => S)
     · -- h5F
      have h5b := h5
      try simp only [decide_eq_false_iff_not, Int.not_lt, Int.not_le] at h5
      refine h_take_no 16 rfl rfl rfl rfl rfl (by kernel_rfl) (by kernel_rfl) (by kernel_rfl) ?_
      refine h_take_no 17 rfl rfl rfl rfl rfl (by kernel_rfl) (by kernel_rfl) (by kernel_rfl) ?_
      refine h_take_no 18 rfl rfl rfl rfl rfl (by kernel_rfl) (by kernel_rfl) (by kernel_rfl) ?_
      refine h_take_no 19 rfl rfl rfl rfl rfl (by kernel_rfl) (by kernel_rfl) (by kernel_rfl) ?_
      refine h_take_no 20 rfl rfl rfl rfl rfl (by kernel_rfl) (by kernel_rfl) (by kernel_rfl) ?_
      refine h_take_no 21 rfl rfl rfl rfl rfl (by kernel_rfl) (by kernel_rfl) (by kernel_rfl) ?_
      refine h_take_no 22 rfl rfl rfl rfl rfl (by kernel_rfl) (by kernel_rfl) (by kernel_rfl) ?_
      refine h_take_yes 23 rfl rfl rfl rfl rfl (by kernel_rfl) (by kernel_rfl) (by kernel_rfl) (fun L0 => v_pick_false rfl rfl rfl) ?_
      refine h_take 24 rfl rfl (by kernel_rfl) (by kernel_rfl) (by kernel_rfl) (fun L0 => v_pick_false rfl rfl rfl) ?_
      refine h_take 25 rfl rfl (by kernel_rfl) (by kernel_rfl) (by kernel_rfl) (fun L0 => v_move rfl rfl) ?_
      refine h_take_yes 26 rfl rfl rfl rfl rfl (by kernel_rfl) (by kernel_rfl) (by kernel_rfl) (fun L0 => v_fieldAddr (q := ⟨b11, 0, none⟩) rfl rfl Try.underlying36 rfl ti4 rfl) ?_
      refine h_take_yes 27 rfl rfl rfl rfl rfl (by kernel_rfl) (by kernel_rfl) (by kernel_rfl) (fun L0 => v_load1 rfl rfl Try.underlying4 rfl (rd_mem 0 rfl rfl)) ?_
      refine h_take_yes 28 rfl rfl rfl rfl rfl (by kernel_rfl) (by kernel_rfl) (by kernel_rfl) (fun L0 => v_not rfl rfl) ?_
      refine h_take_yes 29 rfl rfl rfl rfl rfl (by kernel_rfl) (by kernel_rfl) (by kernel_rfl) (fun L0 => v_move rfl rfl) ?_
      refine h_split (t := 71) rfl (fun h8 => ?_) (fun h8 => ?_)
      · -- h8T
       have h8b := h8
       try simp only [decide_eq_true_eq, decide_eq_false_iff_not, Bool.not_eq_eq_eq_not, Bool.not_true, Bool.not_false, Bool.not_eq_true', Bool.not_eq_false', Int.not_lt, Int.not_le, Bool.or_eq_true, Bool.and_eq_true] at h8
       refine h_take_yes 30 rfl rfl rfl rfl rfl (by kernel_rfl) (by kernel_rfl) (by kernel_rfl) (fun L0 => v_fieldAddr (q := ⟨b11, 1, none⟩) rfl rfl Try.underlying36 rfl ti23 rfl) ?_
       refine h_take_yes 31 rfl rfl rfl rfl rfl (by kernel_rfl) (by kernel_rfl) (by kernel_rfl) (fun L0 => v_load1 rfl rfl Try.underlying23 rfl (rd_mem 0 rfl rfl)) ?_
       refine h_take_yes 32 rfl rfl rfl rfl rfl (by kernel_rfl) (by kernel_rfl) (by kernel_rfl) (fun L0 => v_len rfl rfl Try.underlying23) ?_
       refine h_take_yes 33 rfl rfl rfl rfl rfl (by kernel_rfl) (by kernel_rfl) (by kernel_rfl) (fun L0 => v_bin rfl rfl rfl b_gtr) ?_
       refine h_take_yes 34 rfl rfl rfl rfl rfl (by kernel_rfl) (by kernel_rfl) (by kernel_rfl) (fun L0 => v_pick_true rfl rfl rfl) ?_
       refine h_take 35 rfl rfl (by kernel_rfl) (by kernel_rfl) (by kernel_rfl) (fun L0 => v_pick_false rfl rfl rfl) ?_
       refine h_take 36 rfl rfl (by kernel_rfl) (by kernel_rfl) (by kernel_rfl) (fun L0 => v_nil rfl rfl) ?_
       refine h_take 37 rfl rfl (by kernel_rfl) (by kernel_rfl) (by kernel_rfl) (fun L0 => v_fieldAddr (q := ⟨q, 1, none⟩) rfl rfl Try.underlying86 rfl ti4 rfl) ?_
       refine h_one 38 rfl (by kernel_rfl) ?_
       refine l_in1 ?_
       refine o_store1 rfl rfl rfl ti4 rfl rfl ?_
       refine l_nil (q_out1 (h_next ?_))
       refine h_done (by kernel_rfl) ?_
       refine q_in1 (q_then ?_)
       have hck : decide (0 < ((x39.f_value.f_Value.xs).length : Int)) = false ↔ b39 = false ∧ ChkP n x39 := by clear hpri hbr39 hlr39; unfold ChkP; constructor <;> intro h99 <;> (try simp_all) <;> (try omega)
       refine c_region (o_move rfl rfl ?_)
       refine o_fieldAddr (q := ⟨b10, 0, none⟩) rfl rfl Try.underlying49 rfl ti9 rfl ?_
       refine o_load1 rfl rfl Try.underlying9 rfl (rd_mem 2 rfl rfl) ?_
       refine o_loadn (vs := [_, _, _, _]) rfl rfl Try.underlying36 rfl ti36 (rdn_lit 1 rfl rfl) ?_
       refine l_f6 (l_f4 ?_)
       refine o_call rfl cal31 rfl (set_ (k' := x39.f_key) (r := x39.f_value) hokr.1 (by have h9 := hpri.len; have h8 := oke.le; omega)) ?_
       rintro _ _ ⟨s2, hsn, hsM, rfl⟩
       refine l_nil (q_block (q_then (c_region (o_move rfl rfl ?_))))
       refine o_bin rfl rfl rfl (b_sub (show IntKind.u64.wrap ((m : Int) - 1) = ((m - 1 : Nat) : Int) from by rw [wrap_u64 (by omega) (by omega)]; omega)) ?_
       refine o_assign rfl rfl (l_nil (qP p2 (qT (qP p2 (qT (qP p3 (qP p3 (qP p3 ?_))))))))
       exact q_round (m - 1, decide (0 < ((x39.f_value.f_Value.xs).length : Int)), i39, ys39, ay39, cy39, s2) (by exact ⟨by dsimp only; omega, ok39, hpri.on hbd (by omega) hn3 hyl hxr39 hbr39 hir39 hlr39 hyr39 hck hsn hsM⟩) (by (try dsimp only); omega) ⟨vr, vr, vr, vr, vr, trivial⟩ (fun w S => S)
      · -- h8F
       have h8b := h8
       try simp only [decide_eq_true_eq, decide_eq_false_iff_not, Bool.not_eq_eq_eq_not, Bool.not_true, Bool.not_false, Bool.not_eq_true', Bool.not_eq_false', Int.not_lt, Int.not_le, Bool.or_eq_true, Bool.and_eq_true] at h8
       refine h_take_no 30 rfl rfl rfl rfl rfl (by kernel_rfl) (by kernel_rfl) (by kernel_rfl) ?_
       refine h_take_no 31 rfl rfl rfl rfl rfl (by kernel_rfl) (by kernel_rfl) (by kernel_rfl) ?_
       refine h_take_no 32 rfl rfl rfl rfl rfl (by kernel_rfl) (by kernel_rfl) (by kernel_rfl) ?_
       refine h_take_no 33 rfl rfl rfl rfl rfl (by kernel_rfl) (by kernel_rfl) (by kernel_rfl) ?_
       refine h_take_yes 34 rfl rfl rfl rfl rfl (by kernel_rfl) (by kernel_rfl) (by kernel_rfl) (fun L0 => v_pick_false rfl rfl rfl) ?_
       refine h_take 35 rfl rfl (by kernel_rfl) (by kernel_rfl) (by kernel_rfl) (fun L0 => v_pick_false rfl rfl rfl) ?_
       refine h_take 36 rfl rfl (by kernel_rfl) (by kernel_rfl) (by kernel_rfl) (fun L0 => v_nil rfl rfl) ?_
       refine h_take 37 rfl rfl (by kernel_rfl) (by kernel_rfl) (by kernel_rfl) (fun L0 => v_fieldAddr (q := ⟨q, 1, none⟩) rfl rfl Try.underlying86 rfl ti4 rfl) ?_
       refine h_one 38 rfl (by kernel_rfl) ?_
       refine l_in1 ?_
       refine o_store1 rfl rfl rfl ti4 rfl rfl ?_
       refine l_nil (q_out1 (h_next ?_))
       refine h_done (by kernel_rfl) ?_
       refine q_in1 (q_then ?_)
       have hck : false = false ↔ b39 = false ∧ ChkP n x39 := by clear hpri hbr39 hlr39; unfold ChkP; constructor <;> intro h99 <;> (try simp_all) <;> (try omega)
       refine c_region (o_move rfl rfl ?_)
       refine o_fieldAddr (q := ⟨b10, 0, none⟩) rfl rfl Try.underlying49 rfl ti9 rfl ?_
       refine o_load1 rfl rfl Try.underlying9 rfl (rd_mem 2 rfl rfl) ?_
       refine o_loadn (vs := [_, _, _, _]) rfl rfl Try.underlying36 rfl ti36 (rdn_lit 1 rfl rfl) ?_
       refine l_f6 (l_f4 ?_)
       refine o_call rfl cal31 rfl (set_ (k' := x39.f_key) (r := x39.f_value) hokr.1 (by have h9 := hpri.len; have h8 := oke.le; omega)) ?_
       rintro _ _ ⟨s2, hsn, hsM, rfl⟩
       refine l_nil (q_block (q_then (c_region (o_move rfl rfl ?_))))
       refine o_bin rfl rfl rfl (b_sub (show IntKind.u64.wrap ((m : Int) - 1) = ((m - 1 : Nat) : Int) from by rw [wrap_u64 (by omega) (by omega)]; omega)) ?_
       refine o_assign rfl rfl (l_nil (qP p2 (qT (qP p2 (qT (qP p3 (qP p3 (qP p3 ?_))))))))
       exact q_round (m - 1, false, i39, ys39, ay39, cy39, s2) (by exact ⟨by dsimp only; omega, ok39, hpri.on hbd (by omega) hn3 hyl hxr39 hbr39 hir39 hlr39 hyr39 hck hsn hsM⟩) (by (try dsimp only); omega) ⟨vr, vr, vr, vr, vr, trivial⟩ (fun w S => S)
  · -- h2F
   have h2b := h2
   try simp only [decide_eq_true_eq, decide_eq_false_iff_not, Bool.not_eq_eq_eq_not, Bool.not_true, Bool.not_false, Bool.not_eq_true', Bool.not_eq_false', Int.not_lt, Int.not_le, Bool.or_eq_true, Bool.and_eq_true] at h2
   refine c_exit (q_pass_exit (q_pass_exit (q_hit (q_then (c_seq (c_seq ?_))))))
   have hex : m = 0 ∨ bd = true := by first | exact .inl (by omega) | exact .inr (by simp_all)
   refine cP p3 ?_
   refine c_fact (p := OkS sl) (fun w S => StR_ok S) fun hsz => ?_
   refine c_region (o_move rfl rfl (o_nil rfl rfl ?_))
   refine o_fieldAddr (q := ⟨q, 1, none⟩) rfl rfl Try.underlying86 rfl ti4 rfl ?_
   refine o_load1 rfl rfl Try.underlying4 rfl (rd_mem 1 rfl rfl) ?_
   refine o_move rfl rfl ?_
   refine l_split (t := 89) rfl (fun h9 => ?_) (fun h9 => ?_)
   · -- h9T
    have h9b := h9
    try simp only [decide_eq_true_eq, decide_eq_false_iff_not, Bool.not_eq_eq_eq_not, Bool.not_true, Bool.not_false, Bool.not_eq_true', Bool.not_eq_false', Int.not_lt, Int.not_le, Bool.or_eq_true, Bool.and_eq_true] at h9
    refine o_no rfl rfl rfl rfl (o_no rfl rfl rfl rfl (o_no rfl rfl rfl rfl (o_no rfl rfl rfl rfl (o_no rfl rfl rfl rfl (o_pick_true rfl rfl rfl (l_nil (q_then (c_true rfl (c_seq ?_)))))))))
    refine c_region (o_assign rfl rfl (o_assign rfl rfl (l_nil (q_then (c_ret (q_pass_ret (qT (qT (qT ?_)))))))))
    refine qT ?_
    exact f_ret (r_two rfl rfl rfl) (⟨rfl, rfl⟩) (fun w S => S)
   · -- h9F
    have h9b := h9
    try simp only [decide_eq_true_eq, decide_eq_false_iff_not, Bool.not_eq_eq_eq_not, Bool.not_true, Bool.not_false, Bool.not_eq_true', Bool.not_eq_false', Int.not_lt, Int.not_le, Bool.or_eq_true, Bool.and_eq_true] at h9
    refine o_yes rfl rfl rfl (o_move rfl rfl (o_yes rfl rfl rfl ?_))
    refine o_call rfl cal25 rfl (snap_ ⟨hsz, fun z hz => Nat.le_trans (hpri.key z hz) (by decide), by have h9 := hpri.len; have h8 := oke.le; omega⟩) ?_
    rintro _ _ ⟨a91, c91, rfl, rfl⟩
    refine o_yes rfl rfl rfl (o_move rfl rfl (o_yes rfl rfl rfl ?_))
    refine o_call rfl cal49 rfl (equal8_ (xs := (snapB sl.n sl.M)) (ys := bs) (c := c91) (d := c) (rds_own e8_ok 0 rfl) (rds_c (rds_c (rds_c (rds_c (rds_c hs)))))) ?_
    rintro _ _ ⟨rfl, rfl⟩
    refine l_eq (t := 93) (v' := .bool false) rfl (show _ = Value.bool false from by rw [decide_eq_false (hpri.not (by assumption) hN)]) ?_
    refine o_yes rfl rfl rfl ?_
    refine o_not rfl rfl ?_
    refine o_pick_false rfl rfl rfl (l_nil (q_then (c_true rfl (c_seq (c_region (o_assign rfl rfl (o_assign rfl rfl (l_nil (q_then ?_)))))))))
    refine c_ret (q_pass_ret (qT (qT (qT (qT (qT ?_))))))
    exact f_ret (r_two rfl rfl rfl) (⟨rfl, rfl⟩) (fun w S => S)
 · -- h1F
  have h1b := h1
  try simp only [decide_eq_false_iff_not, Int.not_lt, Int.not_le] at h1
  refine o_no rfl rfl rfl rfl (o_no rfl rfl rfl rfl (o_no rfl rfl rfl rfl (o_no rfl rfl rfl rfl (o_no rfl rfl rfl rfl (o_pick_false rfl rfl rfl (l_nil (q_then (c_false rfl (c_exit ?_)))))))))
  refine q_pass_exit (q_pass_exit (q_hit (q_then (c_seq (c_seq ?_)))))
  have hex : m = 0 ∨ bd = true := by first | exact .inl (by omega) | exact .inr (by simp_all)
  refine cP p3 ?_
  refine c_fact (p := OkS sl) (fun w S => StR_ok S) fun hsz => ?_
  refine c_region (o_move rfl rfl (o_nil rfl rfl ?_))
  refine o_fieldAddr (q := ⟨q, 1, none⟩) rfl rfl Try.underlying86 rfl ti4 rfl ?_
  refine o_load1 rfl rfl Try.underlying4 rfl (rd_mem 1 rfl rfl) ?_
  refine o_move rfl rfl ?_
  refine l_split (t := 89) rfl (fun h10 => ?_) (fun h10 => ?_)
  · -- h10T
   have h10b := h10
   try simp only [decide_eq_true_eq, decide_eq_false_iff_not, Bool.not_eq_eq_eq_not, Bool.not_true, Bool.not_false, Bool.not_eq_true', Bool.not_eq_false', Int.not_lt, Int.not_le, Bool.or_eq_true, Bool.and_eq_true] at h10
   refine o_no rfl rfl rfl rfl (o_no rfl rfl rfl rfl (o_no rfl rfl rfl rfl (o_no rfl rfl rfl rfl (o_no rfl rfl rfl rfl (o_pick_true rfl rfl rfl (l_nil (q_then (c_true rfl (c_seq ?_)))))))))
   refine c_region (o_assign rfl rfl (o_assign rfl rfl (l_nil (q_then (c_ret (q_pass_ret (qT (qT (qT ?_)))))))))
   refine qT ?_
   exact f_ret (r_two rfl rfl rfl) (⟨rfl, rfl⟩) (fun w S => S)
  · -- h10F
   have h10b := h10
   try simp only [decide_eq_true_eq, decide_eq_false_iff_not, Bool.not_eq_eq_eq_not, Bool.not_true, Bool.not_false, Bool.not_eq_true', Bool.not_eq_false', Int.not_lt, Int.not_le, Bool.or_eq_true, Bool.and_eq_true] at h10
   refine o_yes rfl rfl rfl (o_move rfl rfl (o_yes rfl rfl rfl ?_))
   refine o_call rfl cal25 rfl (snap_ ⟨hsz, fun z hz => Nat.le_trans (hpri.key z hz) (by decide), by have h9 := hpri.len; have h8 := oke.le; omega⟩) ?_
   rintro _ _ ⟨a91, c91, rfl, rfl⟩
   refine o_yes rfl rfl rfl (o_move rfl rfl (o_yes rfl rfl rfl ?_))
   refine o_call rfl cal49 rfl (equal8_ (xs := (snapB sl.n sl.M)) (ys := bs) (c := c91) (d := c) (rds_own e8_ok 0 rfl) (rds_c (rds_c (rds_c (rds_c (rds_c hs)))))) ?_
   rintro _ _ ⟨rfl, rfl⟩
   refine l_eq (t := 93) (v' := .bool false) rfl (show _ = Value.bool false from by rw [decide_eq_false (hpri.not (by assumption) hN)]) ?_
   refine o_yes rfl rfl rfl ?_
   refine o_not rfl rfl ?_
   refine o_pick_false rfl rfl rfl (l_nil (q_then (c_true rfl (c_seq (c_region (o_assign rfl rfl (o_assign rfl rfl (l_nil (q_then ?_)))))))))
   refine c_ret (q_pass_ret (qT (qT (qT (qT (qT ?_))))))
   exact f_ret (r_two rfl rfl rfl) (⟨rfl, rfl⟩) (fun w S => S)
set_option maxHeartbeats 4000000 in
theorem rest_is {W : World} {F : List Res} {n : Int} {bs : List UInt8} {a : Option Addr} {c : Nat} (hs : RdS W F e8 a bs) (hl : bs.length ≤ 3000) (h1n : 1 ≤ n) (hn3 : n ≤ 3) {M : Rows} (hM : ValidM n M) (hb : bs = snapB n M) : CS Try.prog 27 #[.slice a (bs).length c, .int .i64 n] W (F) (fun r L' => ∃ (k : Nat) (s : SS), s.n = n ∧ s.M = M ∧ r = .tuple #[.pointer (some ⟨k, 0, none⟩), .int .i64 0] ∧ L' = StR k s :: F) := by
 refine f_door (l0 := [(0, .slice a (bs).length c), (1, .int .i64 n)]) Try.func27 Try.ntmps27 rfl rfl rfl ?_
 refine c_seq (c_region (o_assign rfl rfl (o_assign rfl rfl (l_nil (q_then (c_seq (c_region (o_move rfl rfl ?_))))))))
 refine o_call rfl cal10 rfl (new_ (n := n) (by omega) (by omega)) ?_
 rintro _ _ ⟨k14, rfl, rfl⟩
 refine o_move rfl rfl (o_extract rfl rfl rfl (o_extract rfl rfl rfl (o_assign rfl rfl (o_assign rfl rfl (l_nil (q_then (c_seq (c_seq (c_region ?_)))))))))
 refine o_move rfl rfl ?_
 refine o_bin rfl rfl rfl b_neq ?_
 refine l_nil (q_then (c_false rfl (c_skip (q_then (c_seq (c_region (o_move rfl rfl ?_)))))))
 refine o_call rfl cal46 rfl (newEye (rds_c hs) (by omega)) ?_
 rintro _ _ ⟨k20, a20, c20, hc20, rfl, rfl⟩
 have ok20 := eyeOk_start (W := W) (a := a20) hc20 (show (bs).length ≤ 70000000000000 by omega)
 refine o_build rfl sp86 ti86 rfl ((fill_cons (cells' := [.pointer (some ⟨k20, 0, none⟩), .bool false]) rfl rfl rfl rfl fill_nil)) ?_
 refine o_box rfl rfl fun q => ?_
 refine o_assign rfl rfl (l_nil (q_then (c_seq (c_region (o_move rfl rfl (l_f2 (l_f2 (l_f2 ?_))))))))
 refine o_call rfl cal47 rfl (rdnum_ ok20) ?_
 rintro _ _ ⟨b24, ys24, ay24, cy24, hb24, ok24, rfl, rfl⟩
 have dr24 : ys24 = bs.drop (numR 0 0 bs).2.2 := EyeOk.next ok20 ok24
 refine l_nil (q_then (c_seq (c_seq (c_region (o_move rfl rfl (l_f2 (l_f2 (l_f2 ?_))))))))
 refine o_call rfl cal47 rfl (rdnum_ ok24) ?_
 rintro _ _ ⟨b26, ys26, ay26, cy26, hb26, ok26, rfl, rfl⟩
 have dr26 : ys26 = ys24.drop (numR 0 0 ys24).2.2 := EyeOk.next ok24 ok26
 refine o_assign rfl rfl (l_nil (q_then (c_block ?_)))
 refine c_loop (α := Nat × Bool × Nat × (List UInt8) × (Option Addr) × Nat × SS) (fun z => [(0, .slice a (bs).length c), (1, .int .i64 n), (6, .pointer (some ⟨k14, 0, none⟩)), (8, .pointer (some ⟨q, 0, none⟩)), (9, .int .u64 (z.1 : Int))]) (fun z => blk q (.cells #[.pointer (some ⟨k20, 0, none⟩), .bool z.2.1] 86 (0, 0)) :: blk k20 (.cells #[.slice z.2.2.2.2.1 (z.2.2.2.1).length z.2.2.2.2.2.1] 116 (0, 0)) :: row e8.T e8.sz a20 (bs).length c20 (flat e8 bs) :: StR k14 z.2.2.2.2.2.2 :: F) (fun z => z.1 < 18446744073709551616 ∧ EyeOk W a20 bs z.2.2.1 z.2.2.2.1 z.2.2.2.2.1 z.2.2.2.2.2.1 ∧ PRI n bs z.1 z.2.1 z.2.2.1 z.2.2.2.1 z.2.2.2.2.2.2) (fun z => z.1) ((numR 0 0 ys24).1, b26, 0 + (numR 0 0 bs).2.2 + (numR 0 0 ys24).2.2, ys26, ay26, cy26, (⟨n, []⟩ : SS)) (by exact ⟨num_0 _, ok26, PRI.start h1n hn3 hl hb24 hb26 dr24 dr26⟩) ⟨vr, vr, vr, vr, vr, trivial⟩ (fun w S => S) ?_
 rintro ⟨m, bd, i, ye, ay, cy, sl⟩ ⟨hm64, oke, hpri⟩
 try dsimp only at *
 refine c_seq (c_seq (c_region (o_move rfl rfl ?_)))
 refine o_bin rfl rfl rfl b_gtr ?_
 refine o_move rfl rfl ?_
 refine l_split (t := 29) rfl (fun h1 => ?_) (fun h1 => ?_)
 · -- h1T
  have h1b := h1
  try simp only [decide_eq_true_eq] at h1
  refine o_yes rfl rfl rfl (o_move rfl rfl (o_yes rfl rfl rfl (o_nil rfl rfl (o_yes rfl rfl rfl ?_))))
  refine o_fieldAddr (q := ⟨q, 1, none⟩) rfl rfl Try.underlying86 rfl ti4 rfl ?_
  refine o_yes rfl rfl rfl ?_
  refine o_load1 rfl rfl Try.underlying4 rfl (rd_mem 0 rfl rfl) ?_
  refine o_yes rfl rfl rfl ?_
  refine o_not rfl rfl ?_
  refine o_pick_true rfl rfl rfl (l_nil (q_then ?_))
  refine c_cond rfl (fun h2 => ?_) (fun h2 => ?_)
  · -- h2T
   have h2b := h2
   try simp only [decide_eq_true_eq, decide_eq_false_iff_not, Bool.not_eq_eq_eq_not, Bool.not_true, Bool.not_false, Bool.not_eq_true', Bool.not_eq_false', Int.not_lt, Int.not_le, Bool.or_eq_true, Bool.and_eq_true] at h2
   refine c_skip (q_then (c_seq (c_block (c_seq ?_))))
   have hbd : bd = false := by simp_all
   have hyl : ye.length ≤ 3000 := by have h9 := oke.len; omega
   refine c_region (o_move rfl rfl (l_f2 (l_f2 (l_f2 ?_))))
   refine o_call rfl cal48 rfl (rdrow_ oke) ?_
   rintro _ _ ⟨x39, b39, i39, ys39, ay39, cy39, hxr39, hbr39, hir39, hlr39, hyr39, ok39, rfl, rfl⟩
   have hokr := PRI.okr hxr39 hyl
   refine o_alloc rfl ti49 fun b10 => ?_
   refine o_storen rfl rfl ti49 rfl rfl rfl rfl ?_
   refine l_nil (q_then (c_seq (c_region ?_)))
   refine o_fieldAddr (q := ⟨b10, 1, none⟩) rfl rfl Try.underlying49 rfl ti36 rfl ?_
   refine o_loadn (vs := [_, _, _, _]) rfl rfl Try.underlying36 rfl ti36 (rdn_lit 0 rfl rfl) ?_
   refine o_alloc rfl ti36 fun b11 => ?_
   refine o_storen rfl rfl ti36 rfl rfl rfl rfl ?_
   refine l_nil (q_then (c_seq (cP p3 (cP p6 (cP p6 (cP p6 (cP p6 (cP p6 (cP p6 ?_)))))))))
   refine cP p5 (cP p5 (cP p5 (cP p5 (cP p5 (cP p5 (cP p6 ?_))))))
   refine c_heldF [blk q (.cells #[.pointer (some ⟨k20, 0, none⟩), .bool b39] 86 (0, 0))] (blk b11 (.cells #[.bool x39.f_value.f_Has, .slice x39.f_value.f_Value.a (x39.f_value.f_Value.xs).length x39.f_value.f_Value.c, .int .i64 x39.f_value.f_Home, .int .u64 x39.f_value.f_Count] 36 (0, 0)) :: blk b10 (.cells #[.string x39.f_key, .bool x39.f_value.f_Has, .slice x39.f_value.f_Value.a (x39.f_value.f_Value.xs).length x39.f_value.f_Value.c, .int .i64 x39.f_value.f_Home, .int .u64 x39.f_value.f_Count] 49 (0, 0)) :: row e8.T e8.sz x39.f_value.f_Value.a (x39.f_value.f_Value.xs).length x39.f_value.f_Value.c (flat e8 x39.f_value.f_Value.xs) :: blk k20 (.cells #[.slice ay39 (ys39).length cy39] 116 (0, 0)) :: row e8.T e8.sz a20 (bs).length c20 (flat e8 bs) :: StR k14 sl :: F) (by kernel_rfl) ?_
   refine h_take 0 rfl rfl (by kernel_rfl) (by kernel_rfl) (by kernel_rfl) (fun L0 => v_move rfl rfl) ?_
   refine h_take 1 rfl rfl (by kernel_rfl) (by kernel_rfl) (by kernel_rfl) (fun L0 => v_move rfl rfl) ?_
   refine h_take 2 rfl rfl (by kernel_rfl) (by kernel_rfl) (by kernel_rfl) (fun L0 => v_nil rfl rfl) ?_
   refine h_take 3 rfl rfl (by kernel_rfl) (by kernel_rfl) (by kernel_rfl) (fun L0 => v_fieldAddr (q := ⟨q, 1, none⟩) rfl rfl Try.underlying86 rfl ti4 rfl) ?_
   refine h_one 4 rfl (by kernel_rfl) ?_
   refine l_in1 ?_
   refine o_load1 rfl rfl Try.underlying4 rfl (rd_mem 0 rfl rfl) ?_
   refine l_nil (q_out1 (h_next ?_))
   refine h_take 5 rfl rfl (by kernel_rfl) (by kernel_rfl) (by kernel_rfl) (fun L0 => v_move rfl rfl) ?_
   refine h_split (t := 47) rfl (fun h3 => ?_) (fun h3 => ?_)
   · -- h3T
    have h3b := h3
    try simp only [decide_eq_true_eq, decide_eq_false_iff_not, Bool.not_eq_eq_eq_not, Bool.not_true, Bool.not_false, Bool.not_eq_true', Bool.not_eq_false', Int.not_lt, Int.not_le, Bool.or_eq_true, Bool.and_eq_true] at h3
    refine h_take_no 6 rfl rfl rfl rfl rfl (by kernel_rfl) (by kernel_rfl) (by kernel_rfl) ?_
    refine h_take_no 7 rfl rfl rfl rfl rfl (by kernel_rfl) (by kernel_rfl) (by kernel_rfl) ?_
    refine h_take_no 8 rfl rfl rfl rfl rfl (by kernel_rfl) (by kernel_rfl) (by kernel_rfl) ?_
    refine h_take_no 9 rfl rfl rfl rfl rfl (by kernel_rfl) (by kernel_rfl) (by kernel_rfl) ?_
    refine h_take 10 rfl rfl (by kernel_rfl) (by kernel_rfl) (by kernel_rfl) (fun L0 => v_pick_true rfl rfl rfl) ?_
    refine h_take 11 rfl rfl (by kernel_rfl) (by kernel_rfl) (by kernel_rfl) (fun L0 => v_move rfl rfl) ?_
    refine h_take_no 12 rfl rfl rfl rfl rfl (by kernel_rfl) (by kernel_rfl) (by kernel_rfl) ?_
    refine h_take_no 13 rfl rfl rfl rfl rfl (by kernel_rfl) (by kernel_rfl) (by kernel_rfl) ?_
    refine h_take_no 14 rfl rfl rfl rfl rfl (by kernel_rfl) (by kernel_rfl) (by kernel_rfl) ?_
    refine h_take_no 15 rfl rfl rfl rfl rfl (by kernel_rfl) (by kernel_rfl) (by kernel_rfl) ?_
    refine h_take_no 16 rfl rfl rfl rfl rfl (by kernel_rfl) (by kernel_rfl) (by kernel_rfl) ?_
    refine h_take_no 17 rfl rfl rfl rfl rfl (by kernel_rfl) (by kernel_rfl) (by kernel_rfl) ?_
    refine h_take_no 18 rfl rfl rfl rfl rfl (by kernel_rfl) (by kernel_rfl) (by kernel_rfl) ?_
    refine h_take_no 19 rfl rfl rfl rfl rfl (by kernel_rfl) (by kernel_rfl) (by kernel_rfl) ?_
    refine h_take_no 20 rfl rfl rfl rfl rfl (by kernel_rfl) (by kernel_rfl) (by kernel_rfl) ?_
    refine h_take_no 21 rfl rfl rfl rfl rfl (by kernel_rfl) (by kernel_rfl) (by kernel_rfl) ?_
    refine h_take_no 22 rfl rfl rfl rfl rfl (by kernel_rfl) (by kernel_rfl) (by kernel_rfl) ?_
    refine h_take_no 23 rfl rfl rfl rfl rfl (by kernel_rfl) (by kernel_rfl) (by kernel_rfl) ?_
    refine h_take 24 rfl rfl (by kernel_rfl) (by kernel_rfl) (by kernel_rfl) (fun L0 => v_pick_true rfl rfl rfl) ?_
    refine h_take 25 rfl rfl (by kernel_rfl) (by kernel_rfl) (by kernel_rfl) (fun L0 => v_move rfl rfl) ?_
    refine h_take_no 26 rfl rfl rfl rfl rfl (by kernel_rfl) (by kernel_rfl) (by kernel_rfl) ?_
    refine h_take_no 27 rfl rfl rfl rfl rfl (by kernel_rfl) (by kernel_rfl) (by kernel_rfl) ?_
    refine h_take_no 28 rfl rfl rfl rfl rfl (by kernel_rfl) (by kernel_rfl) (by kernel_rfl) ?_
    refine h_take_no 29 rfl rfl rfl rfl rfl (by kernel_rfl) (by kernel_rfl) (by kernel_rfl) ?_
    refine h_take_no 30 rfl rfl rfl rfl rfl (by kernel_rfl) (by kernel_rfl) (by kernel_rfl) ?_
    refine h_take_no 31 rfl rfl rfl rfl rfl (by kernel_rfl) (by kernel_rfl) (by kernel_rfl) ?_
    refine h_take_no 32 rfl rfl rfl rfl rfl (by kernel_rfl) (by kernel_rfl) (by kernel_rfl) ?_
    refine h_take_no 33 rfl rfl rfl rfl rfl (by kernel_rfl) (by kernel_rfl) (by kernel_rfl) ?_
    refine h_take_no 34 rfl rfl rfl rfl rfl (by kernel_rfl) (by kernel_rfl) (by kernel_rfl) ?_
    refine h_take 35 rfl rfl (by kernel_rfl) (by kernel_rfl) (by kernel_rfl) (fun L0 => v_pick_true rfl rfl rfl) ?_
    refine h_take 36 rfl rfl (by kernel_rfl) (by kernel_rfl) (by kernel_rfl) (fun L0 => v_nil rfl rfl) ?_
    refine h_take 37 rfl rfl (by kernel_rfl) (by kernel_rfl) (by kernel_rfl) (fun L0 => v_fieldAddr (q := ⟨q, 1, none⟩) rfl rfl Try.underlying86 rfl ti4 rfl) ?_
    refine h_one 38 rfl (by kernel_rfl) ?_
    refine l_in1 ?_
    refine o_store1 rfl rfl rfl ti4 rfl rfl ?_
    refine l_nil (q_out1 (h_next ?_))
    refine h_done (by kernel_rfl) ?_
    refine q_in1 (q_then ?_)
    have hck : true = false ↔ b39 = false ∧ ChkP n x39 := by clear hpri hbr39 hlr39; unfold ChkP; constructor <;> intro h99 <;> (try simp_all) <;> (try omega)
    refine c_region (o_move rfl rfl ?_)
    refine o_fieldAddr (q := ⟨b10, 0, none⟩) rfl rfl Try.underlying49 rfl ti9 rfl ?_
    refine o_load1 rfl rfl Try.underlying9 rfl (rd_mem 2 rfl rfl) ?_
    refine o_loadn (vs := [_, _, _, _]) rfl rfl Try.underlying36 rfl ti36 (rdn_lit 1 rfl rfl) ?_
    refine l_f6 (l_f4 ?_)
    refine o_call rfl cal31 rfl (set_ (k' := x39.f_key) (r := x39.f_value) hokr.1 (by have h9 := hpri.len; have h8 := oke.le; omega)) ?_
    rintro _ _ ⟨s2, hsn, hsM, rfl⟩
    refine l_nil (q_block (q_then (c_region (o_move rfl rfl ?_))))
    refine o_bin rfl rfl rfl (b_sub (show IntKind.u64.wrap ((m : Int) - 1) = ((m - 1 : Nat) : Int) from by rw [wrap_u64 (by omega) (by omega)]; omega)) ?_
    refine o_assign rfl rfl (l_nil (qP p2 (qT (qP p2 (qT (qP p3 (qP p3 (qP p3 ?_))))))))
    exact q_round (m - 1, true, i39, ys39, ay39, cy39, s2) (by exact ⟨by dsimp only; omega, ok39, hpri.on hbd (by omega) hn3 hyl hxr39 hbr39 hir39 hlr39 hyr39 hck hsn hsM⟩) (by (try dsimp only); omega) ⟨vr, vr, vr, vr, vr, trivial⟩ (fun w S => S)
   · -- h3F
    have h3b := h3
    try simp only [decide_eq_true_eq, decide_eq_false_iff_not, Bool.not_eq_eq_eq_not, Bool.not_true, Bool.not_false, Bool.not_eq_true', Bool.not_eq_false', Int.not_lt, Int.not_le, Bool.or_eq_true, Bool.and_eq_true] at h3
    refine h_take_yes 6 rfl rfl rfl rfl rfl (by kernel_rfl) (by kernel_rfl) (by kernel_rfl) (fun L0 => v_fieldAddr (q := ⟨b11, 2, none⟩) rfl rfl Try.underlying36 rfl ti3 rfl) ?_
    refine h_take_yes 7 rfl rfl rfl rfl rfl (by kernel_rfl) (by kernel_rfl) (by kernel_rfl) (fun L0 => v_load1 rfl rfl Try.underlying3 rfl (rd_mem 0 rfl rfl)) ?_
    refine h_take_yes 8 rfl rfl rfl rfl rfl (by kernel_rfl) (by kernel_rfl) (by kernel_rfl) (fun L0 => v_move rfl rfl) ?_
    refine h_take_yes 9 rfl rfl rfl rfl rfl (by kernel_rfl) (by kernel_rfl) (by kernel_rfl) (fun L0 => v_bin rfl rfl rfl b_geq) ?_
    refine h_take 10 rfl rfl (by kernel_rfl) (by kernel_rfl) (by kernel_rfl) (fun L0 => v_pick_false rfl rfl rfl) ?_
    refine h_take 11 rfl rfl (by kernel_rfl) (by kernel_rfl) (by kernel_rfl) (fun L0 => v_move rfl rfl) ?_
    refine h_split (t := 53) rfl (fun h4 => ?_) (fun h4 => ?_)
    · -- h4T
     have h4b := h4
     try simp only [decide_eq_true_eq] at h4
     refine h_take_no 12 rfl rfl rfl rfl rfl (by kernel_rfl) (by kernel_rfl) (by kernel_rfl) ?_
     refine h_take_no 13 rfl rfl rfl rfl rfl (by kernel_rfl) (by kernel_rfl) (by kernel_rfl) ?_
     refine h_take_no 14 rfl rfl rfl rfl rfl (by kernel_rfl) (by kernel_rfl) (by kernel_rfl) ?_
     refine h_take_no 15 rfl rfl rfl rfl rfl (by kernel_rfl) (by kernel_rfl) (by kernel_rfl) ?_
     refine h_take_no 16 rfl rfl rfl rfl rfl (by kernel_rfl) (by kernel_rfl) (by kernel_rfl) ?_
     refine h_take_no 17 rfl rfl rfl rfl rfl (by kernel_rfl) (by kernel_rfl) (by kernel_rfl) ?_
     refine h_take_no 18 rfl rfl rfl rfl rfl (by kernel_rfl) (by kernel_rfl) (by kernel_rfl) ?_
     refine h_take_no 19 rfl rfl rfl rfl rfl (by kernel_rfl) (by kernel_rfl) (by kernel_rfl) ?_
     refine h_take_no 20 rfl rfl rfl rfl rfl (by kernel_rfl) (by kernel_rfl) (by kernel_rfl) ?_
     refine h_take_no 21 rfl rfl rfl rfl rfl (by kernel_rfl) (by kernel_rfl) (by kernel_rfl) ?_
     refine h_take_no 22 rfl rfl rfl rfl rfl (by kernel_rfl) (by kernel_rfl) (by kernel_rfl) ?_
     refine h_take_no 23 rfl rfl rfl rfl rfl (by kernel_rfl) (by kernel_rfl) (by kernel_rfl) ?_
     refine h_take 24 rfl rfl (by kernel_rfl) (by kernel_rfl) (by kernel_rfl) (fun L0 => v_pick_true rfl rfl rfl) ?_
     refine h_take 25 rfl rfl (by kernel_rfl) (by kernel_rfl) (by kernel_rfl) (fun L0 => v_move rfl rfl) ?_
     refine h_take_no 26 rfl rfl rfl rfl rfl (by kernel_rfl) (by kernel_rfl) (by kernel_rfl) ?_
     refine h_take_no 27 rfl rfl rfl rfl rfl (by kernel_rfl) (by kernel_rfl) (by kernel_rfl) ?_
     refine h_take_no 28 rfl rfl rfl rfl rfl (by kernel_rfl) (by kernel_rfl) (by kernel_rfl) ?_
     refine h_take_no 29 rfl rfl rfl rfl rfl (by kernel_rfl) (by kernel_rfl) (by kernel_rfl) ?_
     refine h_take_no 30 rfl rfl rfl rfl rfl (by kernel_rfl) (by kernel_rfl) (by kernel_rfl) ?_
     refine h_take_no 31 rfl rfl rfl rfl rfl (by kernel_rfl) (by kernel_rfl) (by kernel_rfl) ?_
     refine h_take_no 32 rfl rfl rfl rfl rfl (by kernel_rfl) (by kernel_rfl) (by kernel_rfl) ?_
     refine h_take_no 33 rfl rfl rfl rfl rfl (by kernel_rfl) (by kernel_rfl) (by kernel_rfl) ?_
     refine h_take_no 34 rfl rfl rfl rfl rfl (by kernel_rfl) (by kernel_rfl) (by kernel_rfl) ?_
     refine h_take 35 rfl rfl (by kernel_rfl) (by kernel_rfl) (by kernel_rfl) (fun L0 => v_pick_true rfl rfl rfl) ?_
     refine h_take 36 rfl rfl (by kernel_rfl) (by kernel_rfl) (by kernel_rfl) (fun L0 => v_nil rfl rfl) ?_
     refine h_take 37 rfl rfl (by kernel_rfl) (by kernel_rfl) (by kernel_rfl) (fun L0 => v_fieldAddr (q := ⟨q, 1, none⟩) rfl rfl Try.underlying86 rfl ti4 rfl) ?_
     refine h_one 38 rfl (by kernel_rfl) ?_
     refine l_in1 ?_
     refine o_store1 rfl rfl rfl ti4 rfl rfl ?_
     refine l_nil (q_out1 (h_next ?_))
     refine h_done (by kernel_rfl) ?_
     refine q_in1 (q_then ?_)
     have hck : true = false ↔ b39 = false ∧ ChkP n x39 := by clear hpri hbr39 hlr39; unfold ChkP; constructor <;> intro h99 <;> (try simp_all) <;> (try omega)
     refine c_region (o_move rfl rfl ?_)
     refine o_fieldAddr (q := ⟨b10, 0, none⟩) rfl rfl Try.underlying49 rfl ti9 rfl ?_
     refine o_load1 rfl rfl Try.underlying9 rfl (rd_mem 2 rfl rfl) ?_
     refine o_loadn (vs := [_, _, _, _]) rfl rfl Try.underlying36 rfl ti36 (rdn_lit 1 rfl rfl) ?_
     refine l_f6 (l_f4 ?_)
     refine o_call rfl cal31 rfl (set_ (k' := x39.f_key) (r := x39.f_value) hokr.1 (by have h9 := hpri.len; have h8 := oke.le; omega)) ?_
     rintro _ _ ⟨s2, hsn, hsM, rfl⟩
     refine l_nil (q_block (q_then (c_region (o_move rfl rfl ?_))))
     refine o_bin rfl rfl rfl (b_sub (show IntKind.u64.wrap ((m : Int) - 1) = ((m - 1 : Nat) : Int) from by rw [wrap_u64 (by omega) (by omega)]; omega)) ?_
     refine o_assign rfl rfl (l_nil (qP p2 (qT (qP p2 (qT (qP p3 (qP p3 (qP p3 ?_))))))))
     exact q_round (m - 1, true, i39, ys39, ay39, cy39, s2) (by exact ⟨by dsimp only; omega, ok39, hpri.on hbd (by omega) hn3 hyl hxr39 hbr39 hir39 hlr39 hyr39 hck hsn hsM⟩) (by (try dsimp only); omega) ⟨vr, vr, vr, vr, vr, trivial⟩ (fun w S => S)
    · -- h4F
     have h4b := h4
     try simp only [decide_eq_false_iff_not, Int.not_lt, Int.not_le] at h4
     refine h_take_yes 12 rfl rfl rfl rfl rfl (by kernel_rfl) (by kernel_rfl) (by kernel_rfl) (fun L0 => v_fieldAddr (q := ⟨b11, 3, none⟩) rfl rfl Try.underlying36 rfl ti34 rfl) ?_
     refine h_take_yes 13 rfl rfl rfl rfl rfl (by kernel_rfl) (by kernel_rfl) (by kernel_rfl) (fun L0 => v_load1 rfl rfl Try.underlying34 rfl (rd_mem 0 rfl rfl)) ?_
     refine h_take_yes 14 rfl rfl rfl rfl rfl (by kernel_rfl) (by kernel_rfl) (by kernel_rfl) (fun L0 => v_bin rfl rfl rfl b_eql) ?_
     refine h_take_yes 15 rfl rfl rfl rfl rfl (by kernel_rfl) (by kernel_rfl) (by kernel_rfl) (fun L0 => v_move rfl rfl) ?_
     refine h_split (t := 57) rfl (fun h5 => ?_) (fun h5 => ?_)
     · -- h5T
      have h5b := h5
      try simp only [decide_eq_true_eq] at h5
      refine h_take_yes 16 rfl rfl rfl rfl rfl (by kernel_rfl) (by kernel_rfl) (by kernel_rfl) (fun L0 => v_fieldAddr (q := ⟨b11, 2, none⟩) rfl rfl Try.underlying36 rfl ti3 rfl) ?_
      refine h_take_yes 17 rfl rfl rfl rfl rfl (by kernel_rfl) (by kernel_rfl) (by kernel_rfl) (fun L0 => v_load1 rfl rfl Try.underlying3 rfl (rd_mem 0 rfl rfl)) ?_
      refine h_take_yes 18 rfl rfl rfl rfl rfl (by kernel_rfl) (by kernel_rfl) (by kernel_rfl) (fun L0 => v_fieldAddr (q := ⟨b10, 0, none⟩) rfl rfl Try.underlying49 rfl ti9 rfl) ?_
      refine h_take_yes 19 rfl rfl rfl rfl rfl (by kernel_rfl) (by kernel_rfl) (by kernel_rfl) (fun L0 => v_load1 rfl rfl Try.underlying9 rfl (rd_mem 1 rfl rfl)) ?_
      refine h_take_yes 20 rfl rfl rfl rfl rfl (by kernel_rfl) (by kernel_rfl) (by kernel_rfl) (fun L0 => v_move rfl rfl) ?_
      refine h_one 21 rfl (by kernel_rfl) ?_
      refine l_in1 (o_yes rfl rfl rfl ?_)
      refine o_call rfl cal14 rfl (default_ (k := x39.f_key) (n := n) (by have h9 := hokr.2; omega)) ?_
      rintro _ _ ⟨rfl, rfl⟩
      refine l_nil (q_out1 (h_next ?_))
      refine h_take_yes 22 rfl rfl rfl rfl rfl (by kernel_rfl) (by kernel_rfl) (by kernel_rfl) (fun L0 => v_bin rfl rfl rfl b_neq) ?_
      refine h_take_yes 23 rfl rfl rfl rfl rfl (by kernel_rfl) (by kernel_rfl) (by kernel_rfl) (fun L0 => v_pick_true rfl rfl rfl) ?_
      refine h_take 24 rfl rfl (by kernel_rfl) (by kernel_rfl) (by kernel_rfl) (fun L0 => v_pick_false rfl rfl rfl) ?_
      refine h_take 25 rfl rfl (by kernel_rfl) (by kernel_rfl) (by kernel_rfl) (fun L0 => v_move rfl rfl) ?_
      refine h_split (t := 67) rfl (fun h6 => ?_) (fun h6 => ?_)
      · -- h6T
       have h6b := h6
       try simp only [Bool.not_eq_true', decide_eq_false_iff_not, Int.not_lt, Int.not_le] at h6
       refine h_take_no 26 rfl rfl rfl rfl rfl (by kernel_rfl) (by kernel_rfl) (by kernel_rfl) ?_
       refine h_take_no 27 rfl rfl rfl rfl rfl (by kernel_rfl) (by kernel_rfl) (by kernel_rfl) ?_
       refine h_take_no 28 rfl rfl rfl rfl rfl (by kernel_rfl) (by kernel_rfl) (by kernel_rfl) ?_
       refine h_take_no 29 rfl rfl rfl rfl rfl (by kernel_rfl) (by kernel_rfl) (by kernel_rfl) ?_
       refine h_take_no 30 rfl rfl rfl rfl rfl (by kernel_rfl) (by kernel_rfl) (by kernel_rfl) ?_
       refine h_take_no 31 rfl rfl rfl rfl rfl (by kernel_rfl) (by kernel_rfl) (by kernel_rfl) ?_
       refine h_take_no 32 rfl rfl rfl rfl rfl (by kernel_rfl) (by kernel_rfl) (by kernel_rfl) ?_
       refine h_take_no 33 rfl rfl rfl rfl rfl (by kernel_rfl) (by kernel_rfl) (by kernel_rfl) ?_
       refine h_take_no 34 rfl rfl rfl rfl rfl (by kernel_rfl) (by kernel_rfl) (by kernel_rfl) ?_
       refine h_take 35 rfl rfl (by kernel_rfl) (by kernel_rfl) (by kernel_rfl) (fun L0 => v_pick_true rfl rfl rfl) ?_
       refine h_take 36 rfl rfl (by kernel_rfl) (by kernel_rfl) (by kernel_rfl) (fun L0 => v_nil rfl rfl) ?_
       refine h_take 37 rfl rfl (by kernel_rfl) (by kernel_rfl) (by kernel_rfl) (fun L0 => v_fieldAddr (q := ⟨q, 1, none⟩) rfl rfl Try.underlying86 rfl ti4 rfl) ?_
       refine h_one 38 rfl (by kernel_rfl) ?_
       refine l_in1 ?_
       refine o_store1 rfl rfl rfl ti4 rfl rfl ?_
       refine l_nil (q_out1 (h_next ?_))
       refine h_done (by kernel_rfl) ?_
       refine q_in1 (q_then ?_)
       have hck : true = false ↔ b39 = false ∧ ChkP n x39 := by clear hpri hbr39 hlr39; unfold ChkP; constructor <;> intro h99 <;> (try simp_all) <;> (try omega)
       refine c_region (o_move rfl rfl ?_)
       refine o_fieldAddr (q := ⟨b10, 0, none⟩) rfl rfl Try.underlying49 rfl ti9 rfl ?_
       refine o_load1 rfl rfl Try.underlying9 rfl (rd_mem 2 rfl rfl) ?_
       refine o_loadn (vs := [_, _, _, _]) rfl rfl Try.underlying36 rfl ti36 (rdn_lit 1 rfl rfl) ?_
       refine l_f6 (l_f4 ?_)
       refine o_call rfl cal31 rfl (set_ (k' := x39.f_key) (r := x39.f_value) hokr.1 (by have h9 := hpri.len; have h8 := oke.le; omega)) ?_
       rintro _ _ ⟨s2, hsn, hsM, rfl⟩
       refine l_nil (q_block (q_then (c_region (o_move rfl rfl ?_))))
       refine o_bin rfl rfl rfl (b_sub (show IntKind.u64.wrap ((m : Int) - 1) = ((m - 1 : Nat) : Int) from by rw [wrap_u64 (by omega) (by omega)]; omega)) ?_
       refine o_assign rfl rfl (l_nil (qP p2 (qT (qP p2 (qT (qP p3 (qP p3 (qP p3 ?_))))))))
       exact q_round (m - 1, true, i39, ys39, ay39, cy39, s2) (by exact ⟨by dsimp only; omega, ok39, hpri.on hbd (by omega) hn3 hyl hxr39 hbr39 hir39 hlr39 hyr39 hck hsn hsM⟩) (by (try dsimp only); omega) ⟨vr, vr, vr, vr, vr, trivial⟩ (fun w S => S)
      · -- h6F
       have h6b := h6
       try simp only [Bool.not_eq_false', decide_eq_true_eq] at h6
       refine h_take_yes 26 rfl rfl rfl rfl rfl (by kernel_rfl) (by kernel_rfl) (by kernel_rfl) (fun L0 => v_fieldAddr (q := ⟨b11, 0, none⟩) rfl rfl Try.underlying36 rfl ti4 rfl) ?_
       refine h_take_yes 27 rfl rfl rfl rfl rfl (by kernel_rfl) (by kernel_rfl) (by kernel_rfl) (fun L0 => v_load1 rfl rfl Try.underlying4 rfl (rd_mem 0 rfl rfl)) ?_
       refine h_take_yes 28 rfl rfl rfl rfl rfl (by kernel_rfl) (by kernel_rfl) (by kernel_rfl) (fun L0 => v_not rfl rfl) ?_
       refine h_take_yes 29 rfl rfl rfl rfl rfl (by kernel_rfl) (by kernel_rfl) (by kernel_rfl) (fun L0 => v_move rfl rfl) ?_
       refine h_split (t := 71) rfl (fun h7 => ?_) (fun h7 => ?_)
       · -- h7T
        have h7b := h7
        try simp only [decide_eq_true_eq, decide_eq_false_iff_not, Bool.not_eq_eq_eq_not, Bool.not_true, Bool.not_false, Bool.not_eq_true', Bool.not_eq_false', Int.not_lt, Int.not_le, Bool.or_eq_true, Bool.and_eq_true] at h7
        refine h_take_yes 30 rfl rfl rfl rfl rfl (by kernel_rfl) (by kernel_rfl) (by kernel_rfl) (fun L0 => v_fieldAddr (q := ⟨b11, 1, none⟩) rfl rfl Try.underlying36 rfl ti23 rfl) ?_
        refine h_take_yes 31 rfl rfl rfl rfl rfl (by kernel_rfl) (by kernel_rfl) (by kernel_rfl) (fun L0 => v_load1 rfl rfl Try.underlying23 rfl (rd_mem 0 rfl rfl)) ?_
        refine h_take_yes 32 rfl rfl rfl rfl rfl (by kernel_rfl) (by kernel_rfl) (by kernel_rfl) (fun L0 => v_len rfl rfl Try.underlying23) ?_
        refine h_take_yes 33 rfl rfl rfl rfl rfl (by kernel_rfl) (by kernel_rfl) (by kernel_rfl) (fun L0 => v_bin rfl rfl rfl b_gtr) ?_
        refine h_take_yes 34 rfl rfl rfl rfl rfl (by kernel_rfl) (by kernel_rfl) (by kernel_rfl) (fun L0 => v_pick_true rfl rfl rfl) ?_
        refine h_take 35 rfl rfl (by kernel_rfl) (by kernel_rfl) (by kernel_rfl) (fun L0 => v_pick_false rfl rfl rfl) ?_
        refine h_take 36 rfl rfl (by kernel_rfl) (by kernel_rfl) (by kernel_rfl) (fun L0 => v_nil rfl rfl) ?_
        refine h_take 37 rfl rfl (by kernel_rfl) (by kernel_rfl) (by kernel_rfl) (fun L0 => v_fieldAddr (q := ⟨q, 1, none⟩) rfl rfl Try.underlying86 rfl ti4 rfl) ?_
        refine h_one 38 rfl (by kernel_rfl) ?_
        refine l_in1 ?_
        refine o_store1 rfl rfl rfl ti4 rfl rfl ?_
        refine l_nil (q_out1 (h_next ?_))
        refine h_done (by kernel_rfl) ?_
        refine q_in1 (q_then ?_)
        have hck : decide (0 < ((x39.f_value.f_Value.xs).length : Int)) = false ↔ b39 = false ∧ ChkP n x39 := by clear hpri hbr39 hlr39; unfold ChkP; constructor <;> intro h99 <;> (try simp_all) <;> (try omega)
        refine c_region (o_move rfl rfl ?_)
        refine o_fieldAddr (q := ⟨b10, 0, none⟩) rfl rfl Try.underlying49 rfl ti9 rfl ?_
        refine o_load1 rfl rfl Try.underlying9 rfl (rd_mem 2 rfl rfl) ?_
        refine o_loadn (vs := [_, _, _, _]) rfl rfl Try.underlying36 rfl ti36 (rdn_lit 1 rfl rfl) ?_
        refine l_f6 (l_f4 ?_)
        refine o_call rfl cal31 rfl (set_ (k' := x39.f_key) (r := x39.f_value) hokr.1 (by have h9 := hpri.len; have h8 := oke.le; omega)) ?_
        rintro _ _ ⟨s2, hsn, hsM, rfl⟩
        refine l_nil (q_block (q_then (c_region (o_move rfl rfl ?_))))
        refine o_bin rfl rfl rfl (b_sub (show IntKind.u64.wrap ((m : Int) - 1) = ((m - 1 : Nat) : Int) from by rw [wrap_u64 (by omega) (by omega)]; omega)) ?_
        refine o_assign rfl rfl (l_nil (qP p2 (qT (qP p2 (qT (qP p3 (qP p3 (qP p3 ?_))))))))
        exact q_round (m - 1, decide (0 < ((x39.f_value.f_Value.xs).length : Int)), i39, ys39, ay39, cy39, s2) (by exact ⟨by dsimp only; omega, ok39, hpri.on hbd (by omega) hn3 hyl hxr39 hbr39 hir39 hlr39 hyr39 hck hsn hsM⟩) (by (try dsimp only); omega) ⟨vr, vr, vr, vr, vr, trivial⟩ (fun w S => S)
       · -- h7F
        have h7b := h7
        try simp only [decide_eq_true_eq, decide_eq_false_iff_not, Bool.not_eq_eq_eq_not, Bool.not_true, Bool.not_false, Bool.not_eq_true', Bool.not_eq_false', Int.not_lt, Int.not_le, Bool.or_eq_true, Bool.and_eq_true] at h7
        refine h_take_no 30 rfl rfl rfl rfl rfl (by kernel_rfl) (by kernel_rfl) (by kernel_rfl) ?_
        refine h_take_no 31 rfl rfl rfl rfl rfl (by kernel_rfl) (by kernel_rfl) (by kernel_rfl) ?_
        refine h_take_no 32 rfl rfl rfl rfl rfl (by kernel_rfl) (by kernel_rfl) (by kernel_rfl) ?_
        refine h_take_no 33 rfl rfl rfl rfl rfl (by kernel_rfl) (by kernel_rfl) (by kernel_rfl) ?_
        refine h_take_yes 34 rfl rfl rfl rfl rfl (by kernel_rfl) (by kernel_rfl) (by kernel_rfl) (fun L0 => v_pick_false rfl rfl rfl) ?_
        refine h_take 35 rfl rfl (by kernel_rfl) (by kernel_rfl) (by kernel_rfl) (fun L0 => v_pick_false rfl rfl rfl) ?_
        refine h_take 36 rfl rfl (by kernel_rfl) (by kernel_rfl) (by kernel_rfl) (fun L0 => v_nil rfl rfl) ?_
        refine h_take 37 rfl rfl (by kernel_rfl) (by kernel_rfl) (by kernel_rfl) (fun L0 => v_fieldAddr (q := ⟨q, 1, none⟩) rfl rfl Try.underlying86 rfl ti4 rfl) ?_
        refine h_one 38 rfl (by kernel_rfl) ?_
        refine l_in1 ?_
        refine o_store1 rfl rfl rfl ti4 rfl rfl ?_
        refine l_nil (q_out1 (h_next ?_))
        refine h_done (by kernel_rfl) ?_
        refine q_in1 (q_then ?_)
        have hck : false = false ↔ b39 = false ∧ ChkP n x39 := by clear hpri hbr39 hlr39; unfold ChkP; constructor <;> intro h99 <;> (try simp_all) <;> (try omega)
        refine c_region (o_move rfl rfl ?_)
        refine o_fieldAddr (q := ⟨b10, 0, none⟩) rfl rfl Try.underlying49 rfl ti9 rfl ?_
        refine o_load1 rfl rfl Try.underlying9 rfl (rd_mem 2 rfl rfl) ?_
        refine o_loadn (vs := [_, _, _, _]) rfl rfl Try.underlying36 rfl ti36 (rdn_lit 1 rfl rfl) ?_
        refine l_f6 (l_f4 ?_)
        refine o_call rfl cal31 rfl (set_ (k' := x39.f_key) (r := x39.f_value) hokr.1 (by have h9 := hpri.len; have h8 := oke.le; omega)) ?_
        rintro _ _ ⟨s2, hsn, hsM, rfl⟩
        refine l_nil (q_block (q_then (c_region (o_move rfl rfl ?_))))
        refine o_bin rfl rfl rfl (b_sub (show IntKind.u64.wrap ((m : Int) - 1) = ((m - 1 : Nat) : Int) from by rw [wrap_u64 (by omega) (by omega)]; omega)) ?_
        refine o_assign rfl rfl (l_nil (qP p2 (qT (qP p2 (qT (qP p3 (qP p3 (qP p3 ?_))))))))
        exact q_round (m - 1, false, i39, ys39, ay39, cy39, s2) (by exact ⟨by dsimp only; omega, ok39, hpri.on hbd (by omega) hn3 hyl hxr39 hbr39 hir39 hlr39 hyr39 hck hsn hsM⟩) (by (try dsimp only); omega) ⟨vr, vr, vr, vr, vr, trivial⟩ (fun w S => S)
     · -- h5F
      have h5b := h5
      try simp only [decide_eq_false_iff_not, Int.not_lt, Int.not_le] at h5
      refine h_take_no 16 rfl rfl rfl rfl rfl (by kernel_rfl) (by kernel_rfl) (by kernel_rfl) ?_
      refine h_take_no 17 rfl rfl rfl rfl rfl (by kernel_rfl) (by kernel_rfl) (by kernel_rfl) ?_
      refine h_take_no 18 rfl rfl rfl rfl rfl (by kernel_rfl) (by kernel_rfl) (by kernel_rfl) ?_
      refine h_take_no 19 rfl rfl rfl rfl rfl (by kernel_rfl) (by kernel_rfl) (by kernel_rfl) ?_
      refine h_take_no 20 rfl rfl rfl rfl rfl (by kernel_rfl) (by kernel_rfl) (by kernel_rfl) ?_
      refine h_take_no 21 rfl rfl rfl rfl rfl (by kernel_rfl) (by kernel_rfl) (by kernel_rfl) ?_
      refine h_take_no 22 rfl rfl rfl rfl rfl (by kernel_rfl) (by kernel_rfl) (by kernel_rfl) ?_
      refine h_take_yes 23 rfl rfl rfl rfl rfl (by kernel_rfl) (by kernel_rfl) (by kernel_rfl) (fun L0 => v_pick_false rfl rfl rfl) ?_
      refine h_take 24 rfl rfl (by kernel_rfl) (by kernel_rfl) (by kernel_rfl) (fun L0 => v_pick_false rfl rfl rfl) ?_
      refine h_take 25 rfl rfl (by kernel_rfl) (by kernel_rfl) (by kernel_rfl) (fun L0 => v_move rfl rfl) ?_
      refine h_take_yes 26 rfl rfl rfl rfl rfl (by kernel_rfl) (by kernel_rfl) (by kernel_rfl) (fun L0 => v_fieldAddr (q := ⟨b11, 0, none⟩) rfl rfl Try.underlying36 rfl ti4 rfl) ?_
      refine h_take_yes 27 rfl rfl rfl rfl rfl (by kernel_rfl) (by kernel_rfl) (by kernel_rfl) (fun L0 => v_load1 rfl rfl Try.underlying4 rfl (rd_mem 0 rfl rfl)) ?_
      refine h_take_yes 28 rfl rfl rfl rfl rfl (by kernel_rfl) (by kernel_rfl) (by kernel_rfl) (fun L0 => v_not rfl rfl) ?_
      refine h_take_yes 29 rfl rfl rfl rfl rfl (by kernel_rfl) (by kernel_rfl) (by kernel_rfl) (fun L0 => v_move rfl rfl) ?_
      refine h_split (t := 71) rfl (fun h8 => ?_) (fun h8 => ?_)
      · -- h8T
       have h8b := h8
       try simp only [decide_eq_true_eq, decide_eq_false_iff_not, Bool.not_eq_eq_eq_not, Bool.not_true, Bool.not_false, Bool.not_eq_true', Bool.not_eq_false', Int.not_lt, Int.not_le, Bool.or_eq_true, Bool.and_eq_true] at h8
       refine h_take_yes 30 rfl rfl rfl rfl rfl (by kernel_rfl) (by kernel_rfl) (by kernel_rfl) (fun L0 => v_fieldAddr (q := ⟨b11, 1, none⟩) rfl rfl Try.underlying36 rfl ti23 rfl) ?_
       refine h_take_yes 31 rfl rfl rfl rfl rfl (by kernel_rfl) (by kernel_rfl) (by kernel_rfl) (fun L0 => v_load1 rfl rfl Try.underlying23 rfl (rd_mem 0 rfl rfl)) ?_
       refine h_take_yes 32 rfl rfl rfl rfl rfl (by kernel_rfl) (by kernel_rfl) (by kernel_rfl) (fun L0 => v_len rfl rfl Try.underlying23) ?_
       refine h_take_yes 33 rfl rfl rfl rfl rfl (by kernel_rfl) (by kernel_rfl) (by kernel_rfl) (fun L0 => v_bin rfl rfl rfl b_gtr) ?_
       refine h_take_yes 34 rfl rfl rfl rfl rfl (by kernel_rfl) (by kernel_rfl) (by kernel_rfl) (fun L0 => v_pick_true rfl rfl rfl) ?_
       refine h_take 35 rfl rfl (by kernel_rfl) (by kernel_rfl) (by kernel_rfl) (fun L0 => v_pick_false rfl rfl rfl) ?_
       refine h_take 36 rfl rfl (by kernel_rfl) (by kernel_rfl) (by kernel_rfl) (fun L0 => v_nil rfl rfl) ?_
       refine h_take 37 rfl rfl (by kernel_rfl) (by kernel_rfl) (by kernel_rfl) (fun L0 => v_fieldAddr (q := ⟨q, 1, none⟩) rfl rfl Try.underlying86 rfl ti4 rfl) ?_
       refine h_one 38 rfl (by kernel_rfl) ?_
       refine l_in1 ?_
       refine o_store1 rfl rfl rfl ti4 rfl rfl ?_
       refine l_nil (q_out1 (h_next ?_))
       refine h_done (by kernel_rfl) ?_
       refine q_in1 (q_then ?_)
       have hck : decide (0 < ((x39.f_value.f_Value.xs).length : Int)) = false ↔ b39 = false ∧ ChkP n x39 := by clear hpri hbr39 hlr39; unfold ChkP; constructor <;> intro h99 <;> (try simp_all) <;> (try omega)
       refine c_region (o_move rfl rfl ?_)
       refine o_fieldAddr (q := ⟨b10, 0, none⟩) rfl rfl Try.underlying49 rfl ti9 rfl ?_
       refine o_load1 rfl rfl Try.underlying9 rfl (rd_mem 2 rfl rfl) ?_
       refine o_loadn (vs := [_, _, _, _]) rfl rfl Try.underlying36 rfl ti36 (rdn_lit 1 rfl rfl) ?_
       refine l_f6 (l_f4 ?_)
       refine o_call rfl cal31 rfl (set_ (k' := x39.f_key) (r := x39.f_value) hokr.1 (by have h9 := hpri.len; have h8 := oke.le; omega)) ?_
       rintro _ _ ⟨s2, hsn, hsM, rfl⟩
       refine l_nil (q_block (q_then (c_region (o_move rfl rfl ?_))))
       refine o_bin rfl rfl rfl (b_sub (show IntKind.u64.wrap ((m : Int) - 1) = ((m - 1 : Nat) : Int) from by rw [wrap_u64 (by omega) (by omega)]; omega)) ?_
       refine o_assign rfl rfl (l_nil (qP p2 (qT (qP p2 (qT (qP p3 (qP p3 (qP p3 ?_))))))))
       exact q_round (m - 1, decide (0 < ((x39.f_value.f_Value.xs).length : Int)), i39, ys39, ay39, cy39, s2) (by exact ⟨by dsimp only; omega, ok39, hpri.on hbd (by omega) hn3 hyl hxr39 hbr39 hir39 hlr39 hyr39 hck hsn hsM⟩) (by (try dsimp only); omega) ⟨vr, vr, vr, vr, vr, trivial⟩ (fun w S => S)
      · -- h8F
       have h8b := h8
       try simp only [decide_eq_true_eq, decide_eq_false_iff_not, Bool.not_eq_eq_eq_not, Bool.not_true, Bool.not_false, Bool.not_eq_true', Bool.not_eq_false', Int.not_lt, Int.not_le, Bool.or_eq_true, Bool.and_eq_true] at h8
       refine h_take_no 30 rfl rfl rfl rfl rfl (by kernel_rfl) (by kernel_rfl) (by kernel_rfl) ?_
       refine h_take_no 31 rfl rfl rfl rfl rfl (by kernel_rfl) (by kernel_rfl) (by kernel_rfl) ?_
       refine h_take_no 32 rfl rfl rfl rfl rfl (by kernel_rfl) (by kernel_rfl) (by kernel_rfl) ?_
       refine h_take_no 33 rfl rfl rfl rfl rfl (by kernel_rfl) (by kernel_rfl) (by kernel_rfl) ?_
       refine h_take_yes 34 rfl rfl rfl rfl rfl (by kernel_rfl) (by kernel_rfl) (by kernel_rfl) (fun L0 => v_pick_false rfl rfl rfl) ?_
       refine h_take 35 rfl rfl (by kernel_rfl) (by kernel_rfl) (by kernel_rfl) (fun L0 => v_pick_false rfl rfl rfl) ?_
       refine h_take 36 rfl rfl (by kernel_rfl) (by kernel_rfl) (by kernel_rfl) (fun L0 => v_nil rfl rfl) ?_
       refine h_take 37 rfl rfl (by kernel_rfl) (by kernel_rfl) (by kernel_rfl) (fun L0 => v_fieldAddr (q := ⟨q, 1, none⟩) rfl rfl Try.underlying86 rfl ti4 rfl) ?_
       refine h_one 38 rfl (by kernel_rfl) ?_
       refine l_in1 ?_
       refine o_store1 rfl rfl rfl ti4 rfl rfl ?_
       refine l_nil (q_out1 (h_next ?_))
       refine h_done (by kernel_rfl) ?_
       refine q_in1 (q_then ?_)
       have hck : false = false ↔ b39 = false ∧ ChkP n x39 := by clear hpri hbr39 hlr39; unfold ChkP; constructor <;> intro h99 <;> (try simp_all) <;> (try omega)
       refine c_region (o_move rfl rfl ?_)
       refine o_fieldAddr (q := ⟨b10, 0, none⟩) rfl rfl Try.underlying49 rfl ti9 rfl ?_
       refine o_load1 rfl rfl Try.underlying9 rfl (rd_mem 2 rfl rfl) ?_
       refine o_loadn (vs := [_, _, _, _]) rfl rfl Try.underlying36 rfl ti36 (rdn_lit 1 rfl rfl) ?_
       refine l_f6 (l_f4 ?_)
       refine o_call rfl cal31 rfl (set_ (k' := x39.f_key) (r := x39.f_value) hokr.1 (by have h9 := hpri.len; have h8 := oke.le; omega)) ?_
       rintro _ _ ⟨s2, hsn, hsM, rfl⟩
       refine l_nil (q_block (q_then (c_region (o_move rfl rfl ?_))))
       refine o_bin rfl rfl rfl (b_sub (show IntKind.u64.wrap ((m : Int) - 1) = ((m - 1 : Nat) : Int) from by rw [wrap_u64 (by omega) (by omega)]; omega)) ?_
       refine o_assign rfl rfl (l_nil (qP p2 (qT (qP p2 (qT (qP p3 (qP p3 (qP p3 ?_))))))))
       exact q_round (m - 1, false, i39, ys39, ay39, cy39, s2) (by exact ⟨by dsimp only; omega, ok39, hpri.on hbd (by omega) hn3 hyl hxr39 hbr39 hir39 hlr39 hyr39 hck hsn hsM⟩) (by (try dsimp only); omega) ⟨vr, vr, vr, vr, vr, trivial⟩ (fun w S => S)
  · -- h2F
   have h2b := h2
   try simp only [decide_eq_true_eq, decide_eq_false_iff_not, Bool.not_eq_eq_eq_not, Bool.not_true, Bool.not_false, Bool.not_eq_true', Bool.not_eq_false', Int.not_lt, Int.not_le, Bool.or_eq_true, Bool.and_eq_true] at h2
   refine c_exit (q_pass_exit (q_pass_exit (q_hit (q_then (c_seq (c_seq ?_))))))
   have hex : m = 0 ∨ bd = true := by first | exact .inl (by omega) | exact .inr (by simp_all)
   refine cP p3 ?_
   refine c_fact (p := OkS sl) (fun w S => StR_ok S) fun hsz => ?_
   refine c_region (o_move rfl rfl (o_nil rfl rfl ?_))
   refine o_fieldAddr (q := ⟨q, 1, none⟩) rfl rfl Try.underlying86 rfl ti4 rfl ?_
   refine o_load1 rfl rfl Try.underlying4 rfl (rd_mem 1 rfl rfl) ?_
   refine l_eq (t := 88) (v' := .bool false) rfl (show _ = Value.bool false from by have h9 := (hpri.is hM hb hex).1; subst h9; rfl) ?_
   refine o_move rfl rfl (o_yes rfl rfl rfl (o_move rfl rfl (o_yes rfl rfl rfl ?_)))
   refine o_call rfl cal25 rfl (snap_ ⟨hsz, fun z hz => Nat.le_trans (hpri.key z hz) (by decide), by have h9 := hpri.len; have h8 := oke.le; omega⟩) ?_
   rintro _ _ ⟨a91, c91, rfl, rfl⟩
   refine o_yes rfl rfl rfl (o_move rfl rfl (o_yes rfl rfl rfl ?_))
   refine o_call rfl cal49 rfl (equal8_ (xs := (snapB sl.n sl.M)) (ys := bs) (c := c91) (d := c) (rds_own e8_ok 0 rfl) (rds_c (rds_c (rds_c (rds_c (rds_c hs)))))) ?_
   rintro _ _ ⟨rfl, rfl⟩
   refine l_eq (t := 93) (v' := .bool true) rfl (show _ = Value.bool true from by rw [decide_eq_true (hpri.is hM hb hex).2.2]) ?_
   refine o_yes rfl rfl rfl ?_
   refine o_not rfl rfl ?_
   refine o_pick_false rfl rfl rfl (l_nil (q_then (c_false rfl (c_skip (q_then (c_seq (c_region (o_move rfl rfl (o_assign rfl rfl ?_)))))))))
   refine o_assign rfl rfl (l_nil (q_then (c_ret (qT (qP p1 (qT (qP p1 (qT (qP p1 ?_)))))))))
   refine qT ?_
   exact f_ret (r_two rfl rfl rfl) (⟨k14, sl, hpri.hn, (hpri.is hM hb hex).2.1, rfl, rfl⟩) (fun w S => S)
 · -- h1F
  have h1b := h1
  try simp only [decide_eq_false_iff_not, Int.not_lt, Int.not_le] at h1
  refine o_no rfl rfl rfl rfl (o_no rfl rfl rfl rfl (o_no rfl rfl rfl rfl (o_no rfl rfl rfl rfl (o_no rfl rfl rfl rfl (o_pick_false rfl rfl rfl (l_nil (q_then (c_false rfl (c_exit ?_)))))))))
  refine q_pass_exit (q_pass_exit (q_hit (q_then (c_seq (c_seq ?_)))))
  have hex : m = 0 ∨ bd = true := by first | exact .inl (by omega) | exact .inr (by simp_all)
  refine cP p3 ?_
  refine c_fact (p := OkS sl) (fun w S => StR_ok S) fun hsz => ?_
  refine c_region (o_move rfl rfl (o_nil rfl rfl ?_))
  refine o_fieldAddr (q := ⟨q, 1, none⟩) rfl rfl Try.underlying86 rfl ti4 rfl ?_
  refine o_load1 rfl rfl Try.underlying4 rfl (rd_mem 1 rfl rfl) ?_
  refine l_eq (t := 88) (v' := .bool false) rfl (show _ = Value.bool false from by have h9 := (hpri.is hM hb hex).1; subst h9; rfl) ?_
  refine o_move rfl rfl (o_yes rfl rfl rfl (o_move rfl rfl (o_yes rfl rfl rfl ?_)))
  refine o_call rfl cal25 rfl (snap_ ⟨hsz, fun z hz => Nat.le_trans (hpri.key z hz) (by decide), by have h9 := hpri.len; have h8 := oke.le; omega⟩) ?_
  rintro _ _ ⟨a91, c91, rfl, rfl⟩
  refine o_yes rfl rfl rfl (o_move rfl rfl (o_yes rfl rfl rfl ?_))
  refine o_call rfl cal49 rfl (equal8_ (xs := (snapB sl.n sl.M)) (ys := bs) (c := c91) (d := c) (rds_own e8_ok 0 rfl) (rds_c (rds_c (rds_c (rds_c (rds_c hs)))))) ?_
  rintro _ _ ⟨rfl, rfl⟩
  refine l_eq (t := 93) (v' := .bool true) rfl (show _ = Value.bool true from by rw [decide_eq_true (hpri.is hM hb hex).2.2]) ?_
  refine o_yes rfl rfl rfl ?_
  refine o_not rfl rfl ?_
  refine o_pick_false rfl rfl rfl (l_nil (q_then (c_false rfl (c_skip (q_then (c_seq (c_region (o_move rfl rfl (o_assign rfl rfl ?_)))))))))
  refine o_assign rfl rfl (l_nil (q_then (c_ret (qT (qP p1 (qT (qP p1 (qT (qP p1 ?_)))))))))
  refine qT ?_
  exact f_ret (r_two rfl rfl rfl) (⟨k14, sl, hpri.hn, (hpri.is hM hb hex).2.1, rfl, rfl⟩) (fun w S => S)
end
section
set_option linter.unusedVariables false
set_option linter.unusedSimpArgs false
set_option maxRecDepth 10000
open Go.RowKit Classical
theorem speaks_ {W : World} {F : List Res}  : CS Try.prog 8 #[] W (F) (fun r L' => r = .bool true ∧ F = L') := by
 refine f_door (l0 := []) Try.func8 Try.ntmps8 rfl rfl rfl ?_
 refine c_seq (c_region (o_assign rfl rfl (l_nil (q_then (c_seq (c_region ?_))))))
 refine o_call rfl cal10 rfl (new_ (n := 3) (by decide) (by decide)) ?_
 rintro _ _ ⟨k6, rfl, rfl⟩
 refine o_move rfl rfl (o_extract rfl rfl rfl (o_extract rfl rfl rfl (o_assign rfl rfl (o_assign rfl rfl (l_nil (q_then (c_seq (c_seq (c_region ?_)))))))))
 refine o_move rfl rfl ?_
 refine o_bin rfl rfl rfl (b_peq Try.underlying26 _) ?_
 refine o_move rfl rfl (o_yes rfl rfl rfl (o_move rfl rfl (o_yes rfl rfl rfl ?_)))
 refine o_bin rfl rfl rfl b_neq ?_
 refine o_pick_false rfl rfl rfl (l_nil (q_then (c_false rfl (c_skip (q_then (c_seq (c_region (o_move rfl rfl ?_))))))))
 refine o_call rfl cal18 rfl (move6_ (k' := ⟨#[97]⟩) (h := 2) (show s97.size ≤ 1000000 by decide) (by decide)) ?_
 rintro _ _ ⟨s16, e16, hsn16, hsM16, rfl, rfl⟩
 obtain ⟨he16, hm16⟩ := spMove rfl hsM16
 refine o_assign rfl rfl (l_nil (q_then (c_seq (c_region (o_move rfl rfl ?_)))))
 refine o_call rfl cal13 rfl (get_ (k' := ⟨#[97]⟩) (show s97.size ≤ 1000000 by decide)) ?_
 rintro _ _ ⟨v18, hv18, rfl, rfl⟩
 rw [show s16.n = 3 from hsn16] at hv18
 have hv18b := hv18.trans hm16
 have hq1 : v18.f_Has = false := congrArg RecM.has hv18b
 have hq2 : v18.f_Home = 2 := congrArg RecM.home hv18b
 have hq3 : v18.f_Count = 1 := congrArg RecM.count hv18b
 refine o_alloc rfl ti36 fun b4 => ?_
 refine o_storen rfl rfl ti36 rfl rfl rfl rfl ?_
 refine l_nil (q_then (c_seq (c_region ?_)))
 refine o_call rfl cal14 rfl (default_ (k := ⟨#[97]⟩) (n := 3) (show s97.size ≤ 1000000 by decide)) ?_
 rintro _ _ ⟨rfl, rfl⟩
 refine o_bin rfl rfl rfl b_eql ?_
 refine l_eq (t := 20) (v' := .bool true) rfl (show _ = Value.bool true from by rw [show dflt ⟨#[97]⟩ 3 = 1 from d97]; first | done | rfl) ?_
 refine o_move rfl rfl (o_yes rfl rfl rfl (o_move rfl rfl (o_yes rfl rfl rfl ?_)))
 refine o_bin rfl rfl rfl b_eql ?_
 refine l_eq (t := 23) (v' := .bool true) rfl (show _ = Value.bool true from by rw [he16]; first | done | rfl) ?_
 refine o_pick_true rfl rfl rfl (o_move rfl rfl (o_yes rfl rfl rfl ?_))
 refine o_fieldAddr (q := ⟨b4, 2, none⟩) rfl rfl Try.underlying36 rfl ti3 rfl ?_
 refine o_yes rfl rfl rfl ?_
 refine o_load1 rfl rfl Try.underlying3 rfl (rd_mem 0 rfl rfl) ?_
 refine o_yes rfl rfl rfl ?_
 refine o_bin rfl rfl rfl b_eql ?_
 refine l_eq (t := 28) (v' := .bool true) rfl (show _ = Value.bool true from by rw [hq2]; first | done | rfl) ?_
 refine o_pick_true rfl rfl rfl (o_move rfl rfl (o_yes rfl rfl rfl ?_))
 refine o_fieldAddr (q := ⟨b4, 3, none⟩) rfl rfl Try.underlying36 rfl ti34 rfl ?_
 refine o_yes rfl rfl rfl ?_
 refine o_load1 rfl rfl Try.underlying34 rfl (rd_mem 0 rfl rfl) ?_
 refine o_yes rfl rfl rfl ?_
 refine o_bin rfl rfl rfl b_eql ?_
 refine l_eq (t := 33) (v' := .bool true) rfl (show _ = Value.bool true from by rw [hq3]; first | done | rfl) ?_
 refine o_pick_true rfl rfl rfl (o_move rfl rfl (o_yes rfl rfl rfl ?_))
 refine o_fieldAddr (q := ⟨b4, 0, none⟩) rfl rfl Try.underlying36 rfl ti4 rfl ?_
 refine o_yes rfl rfl rfl ?_
 refine o_load1 rfl rfl Try.underlying4 rfl (rd_mem 0 rfl rfl) ?_
 refine o_yes rfl rfl rfl ?_
 refine o_not rfl rfl ?_
 refine l_eq (t := 38) (v' := .bool true) rfl (show _ = Value.bool true from by rw [hq1]; first | done | rfl) ?_
 refine o_pick_true rfl rfl rfl (o_assign rfl rfl (l_nil (q_then (c_ret (qT (qT (qT ?_)))))))
 exact f_ret (r_one rfl rfl) (⟨rfl, rfl⟩) (fun w S => S)
end
section
set_option linter.unusedVariables false
set_option linter.unusedSimpArgs false
set_option maxRecDepth 10000
open Go.RowKit Classical
theorem snap_le {n : Int} {M : Rows} : M.length ≤ (snapB n M).length ∧ ∀ z ∈ M, z.1.size ≤ (snapB n M).length := by
  have h8 := rowsB_ge (M := M)
  unfold snapB
  simp only [List.length_append]
  refine ⟨by omega, fun z hz => ?_⟩
  have h9 : z.1.size ≤ (rowsB M).length := by
    clear h8
    induction M with
    | nil => simp at hz
    | cons y ys ih =>
      rw [rowsB_cons, List.length_append]
      rcases List.mem_cons.1 hz with rfl | h
      · have h7 : z.1.size = z.1.data.toList.length := by rw [Array.length_toList]; rfl
        have h6 : z.1.data.toList.length ≤ (rowB z).length := by unfold rowB; simp only [List.length_append]; omega
        omega
      · have := ih h; omega
  omega
set_option maxHeartbeats 2000000 in
theorem restores_lo {W : World} {F : List Res} {n : Int} {bs : List UInt8} {a : Option Addr} {c : Nat} (hs : SlR W e8 a bs) (hcc : bs.length ≤ c) (h1n : n < 1) : CS Try.prog 7 #[.slice a (bs).length c, .int .i64 n] W (F) (fun r L' => r = .bool true ∧ F = L') := by
 refine f_door (l0 := [(0, .slice a (bs).length c), (1, .int .i64 n)]) Try.func7 Try.ntmps7 rfl rfl rfl ?_
 refine c_seq (c_region (o_assign rfl rfl (l_nil (q_then (c_seq (c_seq (c_region ?_)))))))
 refine o_call rfl cal8 rfl (speaks_) ?_
 rintro _ _ ⟨rfl, rfl⟩
 refine o_not rfl rfl ?_
 refine l_nil (q_then (c_false rfl (c_skip (q_then (c_seq (c_seq (c_region (o_move rfl rfl ?_))))))))
 refine o_len rfl rfl Try.underlying23 ?_
 refine o_bin rfl rfl rfl b_gtr ?_
 refine l_nil (q_then ?_)
 refine c_cond rfl (fun h1 => ?_) (fun h1 => ?_)
 · -- h1T
  have h1b := h1
  try simp only [decide_eq_true_eq] at h1
  refine c_seq (c_region (o_assign rfl rfl (l_nil (q_then (c_ret (q_pass_ret ?_))))))
  exact f_ret (r_one rfl rfl) (⟨rfl, rfl⟩) (fun w S => S)
 · -- h1F
  have h1b := h1
  try simp only [decide_eq_false_iff_not, Int.not_lt, Int.not_le] at h1
  refine c_skip (q_then (c_seq (c_region ?_)))
  refine o_lit e8_ok rfl Try.underlying23 rfl rfl rfl (lit_ok rfl) ([] : List UInt8) rfl rfl fun a15 => ?_
  refine o_move rfl rfl ?_
  refine o_append e8_ok rfl rfl rfl Try.underlying23 (rds_old hs) (by show (_ + _) * 1 ≤ _; (try simp only [List.length_append, List.length_cons, List.length_nil]); omega) (by (try simp only [List.length_append, List.length_cons, List.length_nil]); omega) fun a17 c17 => ?_
  refine o_assign rfl rfl (l_nil (q_then (c_seq (c_region (o_move rfl rfl (o_move rfl rfl ?_))))))
  refine o_call rfl cal27 rfl (rest_lo (bs := (([] : List UInt8) ++ bs)) (a := a17) (c := c17) (rds_own e8_ok 0 rfl) (by simp only [List.nil_append]; omega) h1n) ?_
  rintro _ _ ⟨rfl, rfl⟩
  refine o_move rfl rfl (o_extract rfl rfl rfl (o_extract rfl rfl rfl (o_assign rfl rfl (o_assign rfl rfl (l_nil (q_then (c_seq (c_region (o_move rfl rfl ?_)))))))))
  refine o_move rfl rfl ?_
  refine o_call rfl cal28 rfl (rrest_lo hs (by omega) hcc h1n) ?_
  rintro _ _ ⟨rfl, rfl⟩
  refine o_move rfl rfl (o_extract rfl rfl rfl (o_extract rfl rfl rfl (o_assign rfl rfl (o_assign rfl rfl (l_nil (q_then (c_seq (c_seq (c_region ?_)))))))))
  refine o_move rfl rfl (o_move rfl rfl ?_)
  refine o_bin rfl rfl rfl b_neq ?_
  refine o_move rfl rfl (o_yes rfl rfl rfl (o_move rfl rfl (o_yes rfl rfl rfl ?_)))
  refine o_bin rfl rfl rfl (b_peq Try.underlying26 _) ?_
  refine o_yes rfl rfl rfl (o_move rfl rfl (o_yes rfl rfl rfl ?_))
  refine o_bin rfl rfl rfl (b_peq Try.underlying40 _) ?_
  refine o_yes rfl rfl rfl ?_
  refine o_bin rfl rfl rfl (b_bne Try.underlying4 _ _) ?_
  refine o_pick_false rfl rfl rfl (o_move rfl rfl (o_yes rfl rfl rfl (o_move rfl rfl (o_yes rfl rfl rfl ?_))))
  refine o_bytesStr (e := e8) rfl rfl rfl Try.underlying23 Try.underlying5 Try.underlying9 (rds_own e8_ok 0 rfl) ?_
  refine o_yes rfl rfl rfl (o_move rfl rfl (o_yes rfl rfl rfl ?_))
  refine o_bytesStr (e := e8) rfl rfl rfl Try.underlying23 Try.underlying5 Try.underlying9 (rds_old hs) ?_
  refine o_yes rfl rfl rfl ?_
  refine o_bin rfl rfl rfl b_sneq ?_
  refine l_eq (t := 45) (v' := .bool false) rfl (show _ = Value.bool false from by simp) ?_
  refine o_pick_false rfl rfl rfl (l_nil (q_then (c_false rfl (c_skip (q_then (c_seq ?_))))))
  refine c_heldF [] (row e8.T e8.sz a17 (([] : List UInt8) ++ bs).length c17 (flat e8 (([] : List UInt8) ++ bs)) :: F) (by kernel_rfl) ?_
  refine h_take 0 rfl rfl (by kernel_rfl) (by kernel_rfl) (by kernel_rfl) (fun L0 => v_move rfl rfl) ?_
  refine h_take 1 rfl rfl (by kernel_rfl) (by kernel_rfl) (by kernel_rfl) (fun L0 => v_bin rfl rfl rfl (b_peq Try.underlying26 _)) ?_
  refine h_take 2 rfl rfl (by kernel_rfl) (by kernel_rfl) (by kernel_rfl) (fun L0 => v_move rfl rfl) ?_
  refine h_take_no 3 rfl rfl rfl rfl rfl (by kernel_rfl) (by kernel_rfl) (by kernel_rfl) ?_
  refine h_take_no 4 rfl rfl rfl rfl rfl (by kernel_rfl) (by kernel_rfl) (by kernel_rfl) ?_
  refine h_take_no 5 rfl rfl rfl rfl rfl (by kernel_rfl) (by kernel_rfl) (by kernel_rfl) ?_
  refine h_take_no 6 rfl rfl rfl rfl rfl (by kernel_rfl) (by kernel_rfl) (by kernel_rfl) ?_
  refine h_take_no 7 rfl rfl rfl rfl rfl (by kernel_rfl) (by kernel_rfl) (by kernel_rfl) ?_
  refine h_take_no 8 rfl rfl rfl rfl rfl (by kernel_rfl) (by kernel_rfl) (by kernel_rfl) ?_
  refine h_take_no 9 rfl rfl rfl rfl rfl (by kernel_rfl) (by kernel_rfl) (by kernel_rfl) ?_
  refine h_take_no 10 rfl rfl rfl rfl rfl (by kernel_rfl) (by kernel_rfl) (by kernel_rfl) ?_
  refine h_take_no 11 rfl rfl rfl rfl rfl (by kernel_rfl) (by kernel_rfl) (by kernel_rfl) ?_
  refine h_take_no 12 rfl rfl rfl rfl rfl (by kernel_rfl) (by kernel_rfl) (by kernel_rfl) ?_
  refine h_take_no 13 rfl rfl rfl rfl rfl (by kernel_rfl) (by kernel_rfl) (by kernel_rfl) ?_
  refine h_take_no 14 rfl rfl rfl rfl rfl (by kernel_rfl) (by kernel_rfl) (by kernel_rfl) ?_
  refine h_take_no 15 rfl rfl rfl rfl rfl (by kernel_rfl) (by kernel_rfl) (by kernel_rfl) ?_
  refine h_take_no 16 rfl rfl rfl rfl rfl (by kernel_rfl) (by kernel_rfl) (by kernel_rfl) ?_
  refine h_take_no 17 rfl rfl rfl rfl rfl (by kernel_rfl) (by kernel_rfl) (by kernel_rfl) ?_
  refine h_take 18 rfl rfl (by kernel_rfl) (by kernel_rfl) (by kernel_rfl) (fun L0 => v_pick_true rfl rfl rfl) ?_
  refine h_take 19 rfl rfl (by kernel_rfl) (by kernel_rfl) (by kernel_rfl) (fun L0 => v_assign rfl rfl) ?_
  refine h_done (by kernel_rfl) ?_
  refine q_conv (L' := row e8.T e8.sz a17 (([] : List UInt8) ++ bs).length c17 (flat e8 (([] : List UInt8) ++ bs)) :: F) (fun w S => S.perm List.perm_append_comm) ?_
  refine q_then (c_ret (qT ?_))
  exact f_ret (r_one rfl rfl) (⟨rfl, rfl⟩) (fun w S => S)
set_option maxHeartbeats 2000000 in
theorem restores_hi {W : World} {F : List Res} {n : Int} {bs : List UInt8} {a : Option Addr} {c : Nat} (hs : SlR W e8 a bs) (hcc : bs.length ≤ c) (h1n : 3 < n) : CS Try.prog 7 #[.slice a (bs).length c, .int .i64 n] W (F) (fun r L' => r = .bool true ∧ F = L') := by
 refine f_door (l0 := [(0, .slice a (bs).length c), (1, .int .i64 n)]) Try.func7 Try.ntmps7 rfl rfl rfl ?_
 refine c_seq (c_region (o_assign rfl rfl (l_nil (q_then (c_seq (c_seq (c_region ?_)))))))
 refine o_call rfl cal8 rfl (speaks_) ?_
 rintro _ _ ⟨rfl, rfl⟩
 refine o_not rfl rfl ?_
 refine l_nil (q_then (c_false rfl (c_skip (q_then (c_seq (c_seq (c_region (o_move rfl rfl ?_))))))))
 refine o_len rfl rfl Try.underlying23 ?_
 refine o_bin rfl rfl rfl b_gtr ?_
 refine l_nil (q_then ?_)
 refine c_cond rfl (fun h1 => ?_) (fun h1 => ?_)
 · -- h1T
  have h1b := h1
  try simp only [decide_eq_true_eq] at h1
  refine c_seq (c_region (o_assign rfl rfl (l_nil (q_then (c_ret (q_pass_ret ?_))))))
  exact f_ret (r_one rfl rfl) (⟨rfl, rfl⟩) (fun w S => S)
 · -- h1F
  have h1b := h1
  try simp only [decide_eq_false_iff_not, Int.not_lt, Int.not_le] at h1
  refine c_skip (q_then (c_seq (c_region ?_)))
  refine o_lit e8_ok rfl Try.underlying23 rfl rfl rfl (lit_ok rfl) ([] : List UInt8) rfl rfl fun a15 => ?_
  refine o_move rfl rfl ?_
  refine o_append e8_ok rfl rfl rfl Try.underlying23 (rds_old hs) (by show (_ + _) * 1 ≤ _; (try simp only [List.length_append, List.length_cons, List.length_nil]); omega) (by (try simp only [List.length_append, List.length_cons, List.length_nil]); omega) fun a17 c17 => ?_
  refine o_assign rfl rfl (l_nil (q_then (c_seq (c_region (o_move rfl rfl (o_move rfl rfl ?_))))))
  refine o_call rfl cal27 rfl (rest_hi (bs := (([] : List UInt8) ++ bs)) (a := a17) (c := c17) (rds_own e8_ok 0 rfl) (by simp only [List.nil_append]; omega) h1n) ?_
  rintro _ _ ⟨rfl, rfl⟩
  refine o_move rfl rfl (o_extract rfl rfl rfl (o_extract rfl rfl rfl (o_assign rfl rfl (o_assign rfl rfl (l_nil (q_then (c_seq (c_region (o_move rfl rfl ?_)))))))))
  refine o_move rfl rfl ?_
  refine o_call rfl cal28 rfl (rrest_hi hs (by omega) hcc h1n) ?_
  rintro _ _ ⟨rfl, rfl⟩
  refine o_move rfl rfl (o_extract rfl rfl rfl (o_extract rfl rfl rfl (o_assign rfl rfl (o_assign rfl rfl (l_nil (q_then (c_seq (c_seq (c_region ?_)))))))))
  refine o_move rfl rfl (o_move rfl rfl ?_)
  refine o_bin rfl rfl rfl b_neq ?_
  refine o_move rfl rfl (o_yes rfl rfl rfl (o_move rfl rfl (o_yes rfl rfl rfl ?_)))
  refine o_bin rfl rfl rfl (b_peq Try.underlying26 _) ?_
  refine o_yes rfl rfl rfl (o_move rfl rfl (o_yes rfl rfl rfl ?_))
  refine o_bin rfl rfl rfl (b_peq Try.underlying40 _) ?_
  refine o_yes rfl rfl rfl ?_
  refine o_bin rfl rfl rfl (b_bne Try.underlying4 _ _) ?_
  refine o_pick_false rfl rfl rfl (o_move rfl rfl (o_yes rfl rfl rfl (o_move rfl rfl (o_yes rfl rfl rfl ?_))))
  refine o_bytesStr (e := e8) rfl rfl rfl Try.underlying23 Try.underlying5 Try.underlying9 (rds_own e8_ok 0 rfl) ?_
  refine o_yes rfl rfl rfl (o_move rfl rfl (o_yes rfl rfl rfl ?_))
  refine o_bytesStr (e := e8) rfl rfl rfl Try.underlying23 Try.underlying5 Try.underlying9 (rds_old hs) ?_
  refine o_yes rfl rfl rfl ?_
  refine o_bin rfl rfl rfl b_sneq ?_
  refine l_eq (t := 45) (v' := .bool false) rfl (show _ = Value.bool false from by simp) ?_
  refine o_pick_false rfl rfl rfl (l_nil (q_then (c_false rfl (c_skip (q_then (c_seq ?_))))))
  refine c_heldF [] (row e8.T e8.sz a17 (([] : List UInt8) ++ bs).length c17 (flat e8 (([] : List UInt8) ++ bs)) :: F) (by kernel_rfl) ?_
  refine h_take 0 rfl rfl (by kernel_rfl) (by kernel_rfl) (by kernel_rfl) (fun L0 => v_move rfl rfl) ?_
  refine h_take 1 rfl rfl (by kernel_rfl) (by kernel_rfl) (by kernel_rfl) (fun L0 => v_bin rfl rfl rfl (b_peq Try.underlying26 _)) ?_
  refine h_take 2 rfl rfl (by kernel_rfl) (by kernel_rfl) (by kernel_rfl) (fun L0 => v_move rfl rfl) ?_
  refine h_take_no 3 rfl rfl rfl rfl rfl (by kernel_rfl) (by kernel_rfl) (by kernel_rfl) ?_
  refine h_take_no 4 rfl rfl rfl rfl rfl (by kernel_rfl) (by kernel_rfl) (by kernel_rfl) ?_
  refine h_take_no 5 rfl rfl rfl rfl rfl (by kernel_rfl) (by kernel_rfl) (by kernel_rfl) ?_
  refine h_take_no 6 rfl rfl rfl rfl rfl (by kernel_rfl) (by kernel_rfl) (by kernel_rfl) ?_
  refine h_take_no 7 rfl rfl rfl rfl rfl (by kernel_rfl) (by kernel_rfl) (by kernel_rfl) ?_
  refine h_take_no 8 rfl rfl rfl rfl rfl (by kernel_rfl) (by kernel_rfl) (by kernel_rfl) ?_
  refine h_take_no 9 rfl rfl rfl rfl rfl (by kernel_rfl) (by kernel_rfl) (by kernel_rfl) ?_
  refine h_take_no 10 rfl rfl rfl rfl rfl (by kernel_rfl) (by kernel_rfl) (by kernel_rfl) ?_
  refine h_take_no 11 rfl rfl rfl rfl rfl (by kernel_rfl) (by kernel_rfl) (by kernel_rfl) ?_
  refine h_take_no 12 rfl rfl rfl rfl rfl (by kernel_rfl) (by kernel_rfl) (by kernel_rfl) ?_
  refine h_take_no 13 rfl rfl rfl rfl rfl (by kernel_rfl) (by kernel_rfl) (by kernel_rfl) ?_
  refine h_take_no 14 rfl rfl rfl rfl rfl (by kernel_rfl) (by kernel_rfl) (by kernel_rfl) ?_
  refine h_take_no 15 rfl rfl rfl rfl rfl (by kernel_rfl) (by kernel_rfl) (by kernel_rfl) ?_
  refine h_take_no 16 rfl rfl rfl rfl rfl (by kernel_rfl) (by kernel_rfl) (by kernel_rfl) ?_
  refine h_take_no 17 rfl rfl rfl rfl rfl (by kernel_rfl) (by kernel_rfl) (by kernel_rfl) ?_
  refine h_take 18 rfl rfl (by kernel_rfl) (by kernel_rfl) (by kernel_rfl) (fun L0 => v_pick_true rfl rfl rfl) ?_
  refine h_take 19 rfl rfl (by kernel_rfl) (by kernel_rfl) (by kernel_rfl) (fun L0 => v_assign rfl rfl) ?_
  refine h_done (by kernel_rfl) ?_
  refine q_conv (L' := row e8.T e8.sz a17 (([] : List UInt8) ++ bs).length c17 (flat e8 (([] : List UInt8) ++ bs)) :: F) (fun w S => S.perm List.perm_append_comm) ?_
  refine q_then (c_ret (qT ?_))
  exact f_ret (r_one rfl rfl) (⟨rfl, rfl⟩) (fun w S => S)
set_option maxHeartbeats 2000000 in
theorem restores_no {W : World} {F : List Res} {n : Int} {bs : List UInt8} {a : Option Addr} {c : Nat} (hs : SlR W e8 a bs) (hcc : bs.length ≤ c) (h1n : 1 ≤ n) (hn3 : n ≤ 3) (hN : NotSnap n bs) : CS Try.prog 7 #[.slice a (bs).length c, .int .i64 n] W (F) (fun r L' => r = .bool true ∧ F = L') := by
 refine f_door (l0 := [(0, .slice a (bs).length c), (1, .int .i64 n)]) Try.func7 Try.ntmps7 rfl rfl rfl ?_
 refine c_seq (c_region (o_assign rfl rfl (l_nil (q_then (c_seq (c_seq (c_region ?_)))))))
 refine o_call rfl cal8 rfl (speaks_) ?_
 rintro _ _ ⟨rfl, rfl⟩
 refine o_not rfl rfl ?_
 refine l_nil (q_then (c_false rfl (c_skip (q_then (c_seq (c_seq (c_region (o_move rfl rfl ?_))))))))
 refine o_len rfl rfl Try.underlying23 ?_
 refine o_bin rfl rfl rfl b_gtr ?_
 refine l_nil (q_then ?_)
 refine c_cond rfl (fun h1 => ?_) (fun h1 => ?_)
 · -- h1T
  have h1b := h1
  try simp only [decide_eq_true_eq] at h1
  refine c_seq (c_region (o_assign rfl rfl (l_nil (q_then (c_ret (q_pass_ret ?_))))))
  exact f_ret (r_one rfl rfl) (⟨rfl, rfl⟩) (fun w S => S)
 · -- h1F
  have h1b := h1
  try simp only [decide_eq_false_iff_not, Int.not_lt, Int.not_le] at h1
  refine c_skip (q_then (c_seq (c_region ?_)))
  refine o_lit e8_ok rfl Try.underlying23 rfl rfl rfl (lit_ok rfl) ([] : List UInt8) rfl rfl fun a15 => ?_
  refine o_move rfl rfl ?_
  refine o_append e8_ok rfl rfl rfl Try.underlying23 (rds_old hs) (by show (_ + _) * 1 ≤ _; (try simp only [List.length_append, List.length_cons, List.length_nil]); omega) (by (try simp only [List.length_append, List.length_cons, List.length_nil]); omega) fun a17 c17 => ?_
  refine o_assign rfl rfl (l_nil (q_then (c_seq (c_region (o_move rfl rfl (o_move rfl rfl ?_))))))
  refine o_call rfl cal27 rfl (rest_no (bs := (([] : List UInt8) ++ bs)) (a := a17) (c := c17) (rds_own e8_ok 0 rfl) (by simp only [List.nil_append]; omega) h1n hn3 hN) ?_
  rintro _ _ ⟨rfl, rfl⟩
  refine o_move rfl rfl (o_extract rfl rfl rfl (o_extract rfl rfl rfl (o_assign rfl rfl (o_assign rfl rfl (l_nil (q_then (c_seq (c_region (o_move rfl rfl ?_)))))))))
  refine o_move rfl rfl ?_
  refine o_call rfl cal28 rfl (rrest_no hs (by omega) hcc h1n hn3 hN) ?_
  rintro _ _ ⟨rfl, rfl⟩
  refine o_move rfl rfl (o_extract rfl rfl rfl (o_extract rfl rfl rfl (o_assign rfl rfl (o_assign rfl rfl (l_nil (q_then (c_seq (c_seq (c_region ?_)))))))))
  refine o_move rfl rfl (o_move rfl rfl ?_)
  refine o_bin rfl rfl rfl b_neq ?_
  refine o_move rfl rfl (o_yes rfl rfl rfl (o_move rfl rfl (o_yes rfl rfl rfl ?_)))
  refine o_bin rfl rfl rfl (b_peq Try.underlying26 _) ?_
  refine o_yes rfl rfl rfl (o_move rfl rfl (o_yes rfl rfl rfl ?_))
  refine o_bin rfl rfl rfl (b_peq Try.underlying40 _) ?_
  refine o_yes rfl rfl rfl ?_
  refine o_bin rfl rfl rfl (b_bne Try.underlying4 _ _) ?_
  refine o_pick_false rfl rfl rfl (o_move rfl rfl (o_yes rfl rfl rfl (o_move rfl rfl (o_yes rfl rfl rfl ?_))))
  refine o_bytesStr (e := e8) rfl rfl rfl Try.underlying23 Try.underlying5 Try.underlying9 (rds_own e8_ok 0 rfl) ?_
  refine o_yes rfl rfl rfl (o_move rfl rfl (o_yes rfl rfl rfl ?_))
  refine o_bytesStr (e := e8) rfl rfl rfl Try.underlying23 Try.underlying5 Try.underlying9 (rds_old hs) ?_
  refine o_yes rfl rfl rfl ?_
  refine o_bin rfl rfl rfl b_sneq ?_
  refine l_eq (t := 45) (v' := .bool false) rfl (show _ = Value.bool false from by simp) ?_
  refine o_pick_false rfl rfl rfl (l_nil (q_then (c_false rfl (c_skip (q_then (c_seq ?_))))))
  refine c_heldF [] (row e8.T e8.sz a17 (([] : List UInt8) ++ bs).length c17 (flat e8 (([] : List UInt8) ++ bs)) :: F) (by kernel_rfl) ?_
  refine h_take 0 rfl rfl (by kernel_rfl) (by kernel_rfl) (by kernel_rfl) (fun L0 => v_move rfl rfl) ?_
  refine h_take 1 rfl rfl (by kernel_rfl) (by kernel_rfl) (by kernel_rfl) (fun L0 => v_bin rfl rfl rfl (b_peq Try.underlying26 _)) ?_
  refine h_take 2 rfl rfl (by kernel_rfl) (by kernel_rfl) (by kernel_rfl) (fun L0 => v_move rfl rfl) ?_
  refine h_take_no 3 rfl rfl rfl rfl rfl (by kernel_rfl) (by kernel_rfl) (by kernel_rfl) ?_
  refine h_take_no 4 rfl rfl rfl rfl rfl (by kernel_rfl) (by kernel_rfl) (by kernel_rfl) ?_
  refine h_take_no 5 rfl rfl rfl rfl rfl (by kernel_rfl) (by kernel_rfl) (by kernel_rfl) ?_
  refine h_take_no 6 rfl rfl rfl rfl rfl (by kernel_rfl) (by kernel_rfl) (by kernel_rfl) ?_
  refine h_take_no 7 rfl rfl rfl rfl rfl (by kernel_rfl) (by kernel_rfl) (by kernel_rfl) ?_
  refine h_take_no 8 rfl rfl rfl rfl rfl (by kernel_rfl) (by kernel_rfl) (by kernel_rfl) ?_
  refine h_take_no 9 rfl rfl rfl rfl rfl (by kernel_rfl) (by kernel_rfl) (by kernel_rfl) ?_
  refine h_take_no 10 rfl rfl rfl rfl rfl (by kernel_rfl) (by kernel_rfl) (by kernel_rfl) ?_
  refine h_take_no 11 rfl rfl rfl rfl rfl (by kernel_rfl) (by kernel_rfl) (by kernel_rfl) ?_
  refine h_take_no 12 rfl rfl rfl rfl rfl (by kernel_rfl) (by kernel_rfl) (by kernel_rfl) ?_
  refine h_take_no 13 rfl rfl rfl rfl rfl (by kernel_rfl) (by kernel_rfl) (by kernel_rfl) ?_
  refine h_take_no 14 rfl rfl rfl rfl rfl (by kernel_rfl) (by kernel_rfl) (by kernel_rfl) ?_
  refine h_take_no 15 rfl rfl rfl rfl rfl (by kernel_rfl) (by kernel_rfl) (by kernel_rfl) ?_
  refine h_take_no 16 rfl rfl rfl rfl rfl (by kernel_rfl) (by kernel_rfl) (by kernel_rfl) ?_
  refine h_take_no 17 rfl rfl rfl rfl rfl (by kernel_rfl) (by kernel_rfl) (by kernel_rfl) ?_
  refine h_take 18 rfl rfl (by kernel_rfl) (by kernel_rfl) (by kernel_rfl) (fun L0 => v_pick_true rfl rfl rfl) ?_
  refine h_take 19 rfl rfl (by kernel_rfl) (by kernel_rfl) (by kernel_rfl) (fun L0 => v_assign rfl rfl) ?_
  refine h_done (by kernel_rfl) ?_
  refine q_conv (L' := row e8.T e8.sz a17 (([] : List UInt8) ++ bs).length c17 (flat e8 (([] : List UInt8) ++ bs)) :: F) (fun w S => S.perm List.perm_append_comm) ?_
  refine q_then (c_ret (qT ?_))
  exact f_ret (r_one rfl rfl) (⟨rfl, rfl⟩) (fun w S => S)
set_option maxHeartbeats 2000000 in
theorem restores_is {W : World} {F : List Res} {n : Int} {bs : List UInt8} {a : Option Addr} {c : Nat} (hs : SlR W e8 a bs) (hcc : bs.length ≤ c) (h1n : 1 ≤ n) (hn3 : n ≤ 3) {M : Rows} (hM : ValidM n M) (hb : bs = snapB n M) : CS Try.prog 7 #[.slice a (bs).length c, .int .i64 n] W (F) (fun r L' => r = .bool true ∧ F = L') := by
 refine f_door (l0 := [(0, .slice a (bs).length c), (1, .int .i64 n)]) Try.func7 Try.ntmps7 rfl rfl rfl ?_
 refine c_seq (c_region (o_assign rfl rfl (l_nil (q_then (c_seq (c_seq (c_region ?_)))))))
 refine o_call rfl cal8 rfl (speaks_) ?_
 rintro _ _ ⟨rfl, rfl⟩
 refine o_not rfl rfl ?_
 refine l_nil (q_then (c_false rfl (c_skip (q_then (c_seq (c_seq (c_region (o_move rfl rfl ?_))))))))
 refine o_len rfl rfl Try.underlying23 ?_
 refine o_bin rfl rfl rfl b_gtr ?_
 refine l_nil (q_then ?_)
 refine c_cond rfl (fun h1 => ?_) (fun h1 => ?_)
 · -- h1T
  have h1b := h1
  try simp only [decide_eq_true_eq] at h1
  refine c_seq (c_region (o_assign rfl rfl (l_nil (q_then (c_ret (q_pass_ret ?_))))))
  exact f_ret (r_one rfl rfl) (⟨rfl, rfl⟩) (fun w S => S)
 · -- h1F
  have h1b := h1
  try simp only [decide_eq_false_iff_not, Int.not_lt, Int.not_le] at h1
  refine c_skip (q_then (c_seq (c_region ?_)))
  refine o_lit e8_ok rfl Try.underlying23 rfl rfl rfl (lit_ok rfl) ([] : List UInt8) rfl rfl fun a15 => ?_
  refine o_move rfl rfl ?_
  refine o_append e8_ok rfl rfl rfl Try.underlying23 (rds_old hs) (by show (_ + _) * 1 ≤ _; (try simp only [List.length_append, List.length_cons, List.length_nil]); omega) (by (try simp only [List.length_append, List.length_cons, List.length_nil]); omega) fun a17 c17 => ?_
  refine o_assign rfl rfl (l_nil (q_then (c_seq (c_region (o_move rfl rfl (o_move rfl rfl ?_))))))
  refine o_call rfl cal27 rfl (rest_is (bs := (([] : List UInt8) ++ bs)) (a := a17) (c := c17) (rds_own e8_ok 0 rfl) (by simp only [List.nil_append]; omega) h1n hn3 hM hb) ?_
  rintro _ _ ⟨k21, s21, hsn21, hsM21, rfl, rfl⟩
  refine o_move rfl rfl (o_extract rfl rfl rfl (o_extract rfl rfl rfl (o_assign rfl rfl (o_assign rfl rfl (l_nil (q_then (c_seq (c_region (o_move rfl rfl ?_)))))))))
  refine o_move rfl rfl ?_
  refine o_call rfl cal28 rfl (rrest_is hs (by omega) hcc h1n hn3 hM hb) ?_
  rintro _ _ ⟨m27, t27, htn27, htM27, rfl, rfl⟩
  refine o_move rfl rfl (o_extract rfl rfl rfl (o_extract rfl rfl rfl (o_assign rfl rfl (o_assign rfl rfl (l_nil (q_then (c_seq (c_seq (c_region ?_)))))))))
  refine o_move rfl rfl (o_move rfl rfl ?_)
  refine o_bin rfl rfl rfl b_neq ?_
  refine o_move rfl rfl (o_yes rfl rfl rfl (o_move rfl rfl (o_yes rfl rfl rfl ?_)))
  refine o_bin rfl rfl rfl (b_peq Try.underlying26 _) ?_
  refine o_yes rfl rfl rfl (o_move rfl rfl (o_yes rfl rfl rfl ?_))
  refine o_bin rfl rfl rfl (b_peq Try.underlying40 _) ?_
  refine o_yes rfl rfl rfl ?_
  refine o_bin rfl rfl rfl (b_bne Try.underlying4 _ _) ?_
  refine o_pick_false rfl rfl rfl (o_move rfl rfl (o_yes rfl rfl rfl (o_move rfl rfl (o_yes rfl rfl rfl ?_))))
  refine o_bytesStr (e := e8) rfl rfl rfl Try.underlying23 Try.underlying5 Try.underlying9 (rds_own e8_ok 2 rfl) ?_
  refine o_yes rfl rfl rfl (o_move rfl rfl (o_yes rfl rfl rfl ?_))
  refine o_bytesStr (e := e8) rfl rfl rfl Try.underlying23 Try.underlying5 Try.underlying9 (rds_old hs) ?_
  refine o_yes rfl rfl rfl ?_
  refine o_bin rfl rfl rfl b_sneq ?_
  refine l_eq (t := 45) (v' := .bool false) rfl (show _ = Value.bool false from by simp) ?_
  refine o_pick_false rfl rfl rfl (l_nil (q_then (c_false rfl (c_skip (q_then (c_seq (cP p1 ?_)))))))
  refine c_obj ?_
  rintro t_1 ok_1
  refine c_conv (L' := blk k21 (.cells #[.int .i64 s21.n, .pointer (some ⟨t_1, 0, none⟩)] 65 (0, 0)) :: treeR e_ItA eN99 103 105 ItA.f_key strlt t_1 s21.xs :: vals s21.xs :: _) (fun w S => S) ?_
  refine cP p3 ?_
  refine c_obj ?_
  rintro ⟨a_2, c_2⟩ ok_2
  refine c_conv (L' := blk m27 (.cells #[.int .i64 t27.n, .slice a_2 (t27.xs).length c_2] 54 (0, 0)) :: row e_Row.T e_Row.sz a_2 (t27.xs).length c_2 (flat e_Row t27.xs) :: vals t27.xs :: _) (fun w S => S) ?_
  have hsl := snap_le (n := n) (M := M)
  rw [← hb] at hsl
  obtain ⟨hsl1, hsl2⟩ := hsl
  have hl21 : s21.xs.length = M.length := by rw [← hsM21, M_len]
  have hl27 : t27.xs.length = M.length := by rw [← htM27, M_len]
  refine c_conv (L' := RfR m27 t27 :: _) (fun w S => Sat.obj_mk ⟨a_2, c_2⟩ ok_2 S) ?_
  refine c_fact (p := OkS t27 ∧ Srt ItA.f_key strlt t27.xs) (fun w S => RfR_ok S) fun hokr => ?_
  refine cP p4 (cP p1 (cP p4 (cP p4 (cP p4 ?_))))
  refine c_conv (L' := StR k21 s21 :: _) (fun w S => Sat.obj_mk t_1 ok_1 S) ?_
  refine c_fact (p := OkS s21) (fun w S => StR_ok S) fun hok => ?_
  refine cP p1 ?_
  refine c_obj ?_
  rintro ⟨a_3, c_3⟩ ok_3
  refine c_conv (L' := blk m27 (.cells #[.int .i64 t27.n, .slice a_3 (t27.xs).length c_3] 54 (0, 0)) :: row e_Row.T e_Row.sz a_3 (t27.xs).length c_3 (flat e_Row t27.xs) :: vals t27.xs :: _) (fun w S => S) ?_
  refine c_heldF [] (blk m27 (.cells #[.int .i64 t27.n, .slice a_3 (t27.xs).length c_3] 54 (0, 0)) :: row e_Row.T e_Row.sz a_3 (t27.xs).length c_3 (flat e_Row t27.xs) :: vals t27.xs :: StR k21 s21 :: row e8.T e8.sz a17 (([] : List UInt8) ++ bs).length c17 (flat e8 (([] : List UInt8) ++ bs)) :: F) (by kernel_rfl) ?_
  refine h_take 0 rfl rfl (by kernel_rfl) (by kernel_rfl) (by kernel_rfl) (fun L0 => v_move rfl rfl) ?_
  refine h_take 1 rfl rfl (by kernel_rfl) (by kernel_rfl) (by kernel_rfl) (fun L0 => v_bin rfl rfl rfl (b_peq Try.underlying26 _)) ?_
  refine h_take 2 rfl rfl (by kernel_rfl) (by kernel_rfl) (by kernel_rfl) (fun L0 => v_move rfl rfl) ?_
  refine h_take_yes 3 rfl rfl rfl rfl rfl (by kernel_rfl) (by kernel_rfl) (by kernel_rfl) (fun L0 => v_move rfl rfl) ?_
  refine h_take_yes 5 rfl rfl rfl rfl rfl (by kernel_rfl) (by kernel_rfl) (by kernel_rfl) (fun L0 => v_move rfl rfl) ?_
  refine h_take_yes 6 rfl rfl rfl rfl rfl (by kernel_rfl) (by kernel_rfl) (by kernel_rfl) (fun L0 => v_nil rfl rfl) ?_
  refine h_take_yes 7 rfl rfl rfl rfl rfl (by kernel_rfl) (by kernel_rfl) (by kernel_rfl) (fun L0 => v_fieldAddr (q := ⟨m27, 1, none⟩) rfl rfl Try.underlying54 rfl ti43 rfl) ?_
  refine h_take_yes 8 rfl rfl rfl rfl rfl (by kernel_rfl) (by kernel_rfl) (by kernel_rfl) (fun L0 => v_load1 rfl rfl Try.underlying43 rfl (rd_mem 0 rfl rfl)) ?_
  refine h_one 4 rfl (by kernel_rfl) ?_
  refine l_conv (L' := blk m27 (.cells #[.int .i64 t27.n, .slice a_3 (t27.xs).length c_3] 54 (0, 0)) :: row e_Row.T e_Row.sz a_3 (t27.xs).length c_3 (flat e_Row t27.xs) :: vals t27.xs :: StR k21 s21 :: row e8.T e8.sz a17 (([] : List UInt8) ++ bs).length c17 (flat e8 (([] : List UInt8) ++ bs)) :: F) (fun w S => S.perm List.perm_append_comm) ?_
  refine o_yes rfl rfl rfl (l_f3 ?_)
  refine o_call rfl cal22 rfl (rows6_ (by omega)) ?_
  rintro _ _ ⟨ys51, a51, c51, hys51, rfl, rfl⟩
  refine l_nil (qP p6 (qP p3 (qP p6 (qP p6 (qP p6 (qP p6 (qP p6 (q_out2 (h_next ?_)))))))))
  refine h_one 9 rfl (by kernel_rfl) ?_
  refine l_in2 (o_yes rfl rfl rfl ?_)
  refine o_call rfl cal20 rfl (same_ (xs := ys51) (ys := t27.xs) (c := c51) (c2 := c_3) (rds_own e_Row_ok 0 rfl) (rds_own e_Row_ok 3 rfl) (fun x hx => rds_vals 1 rfl hx) (fun x hx => rds_vals 4 rfl hx) (by have h9 := rows_len hys51; rw [M_len] at h9; omega)) ?_
  rintro _ _ ⟨bb56, hbb56, rfl, rfl⟩
  refine l_nil (q_out2 (h_next ?_))
  have hb56 : bb56 = true := hbb56.2 (by rw [hys51]; exact hsM21.trans htM27.symm)
  refine h_eq (t := 56) (v' := .bool true) rfl (by rw [hb56]) ?_
  refine h_take_yes 10 rfl rfl rfl rfl rfl (by kernel_rfl) (by kernel_rfl) (by kernel_rfl) (fun L0 => v_move rfl rfl) ?_
  refine h_take_yes 11 rfl rfl rfl rfl rfl (by kernel_rfl) (by kernel_rfl) (by kernel_rfl) (fun L0 => v_move rfl rfl) ?_
  refine h_take_yes 14 rfl rfl rfl rfl rfl (by kernel_rfl) (by kernel_rfl) (by kernel_rfl) (fun L0 => v_move rfl rfl) ?_
  refine h_take_yes 15 rfl rfl rfl rfl rfl (by kernel_rfl) (by kernel_rfl) (by kernel_rfl) (fun L0 => v_bytesStr (e := e8) rfl rfl rfl Try.underlying23 Try.underlying5 Try.underlying9 (rds_old hs)) ?_
  refine h_one 12 rfl (by kernel_rfl) ?_
  refine l_in2 (o_yes rfl rfl rfl (l_f5 ?_))
  refine o_call rfl cal25 rfl (snap_ ⟨hok, fun z hz => by rw [hsM21] at hz; have h9 := hsl2 z hz; omega, by omega⟩) ?_
  rintro _ _ ⟨a59, c59, rfl, rfl⟩
  refine l_nil (qP p7 (qP p2 (qP p7 (qP p7 (qP p7 (qP p7 (qP p7 (qP p7 (q_out3 ?_)))))))))
  refine h_next ?_
  refine h_one 13 rfl (by kernel_rfl) ?_
  refine l_in3 (o_yes rfl rfl rfl ?_)
  refine o_bytesStr (e := e8) rfl rfl rfl Try.underlying23 Try.underlying5 Try.underlying9 (rds_own e8_ok 0 rfl) ?_
  refine l_nil (q_out3 (h_next ?_))
  refine h_take_yes 16 rfl rfl rfl rfl rfl (by kernel_rfl) (by kernel_rfl) (by kernel_rfl) (fun L0 => v_bin rfl rfl rfl b_seql) ?_
  refine h_eq (t := 63) (v' := .bool true) rfl (show _ = Value.bool true from by simp [hsn21, hsM21, hb]) ?_
  refine h_take_yes 17 rfl rfl rfl rfl rfl (by kernel_rfl) (by kernel_rfl) (by kernel_rfl) (fun L0 => v_pick_true rfl rfl rfl) ?_
  refine h_take 18 rfl rfl (by kernel_rfl) (by kernel_rfl) (by kernel_rfl) (fun L0 => v_pick_false rfl rfl rfl) ?_
  refine h_take 19 rfl rfl (by kernel_rfl) (by kernel_rfl) (by kernel_rfl) (fun L0 => v_assign rfl rfl) ?_
  refine h_done (by kernel_rfl) ?_
  refine q_in3 (q_then (c_ret (qT (qT (qT (qT (qT (qT (qT ?_)))))))))
  refine qT ?_
  exact f_ret (r_one rfl rfl) (⟨rfl, rfl⟩) (fun w S => S)
theorem restores_law {W : World} {F : List Res} {n : Int} {bs : List UInt8} {a : Option Addr} {c : Nat} (hs : SlR W e8 a bs) (hcc : bs.length ≤ c) : CS Try.prog 7 #[.slice a bs.length c, .int .i64 n] W F (fun r L' => r = .bool true ∧ F = L') := by
  by_cases h1 : n < 1
  · exact restores_lo hs hcc h1
  · by_cases h3 : 3 < n
    · exact restores_hi hs hcc h3
    · by_cases hM : ∃ M, ValidM n M ∧ bs = snapB n M
      · obtain ⟨M, hM, hb⟩ := hM
        exact restores_is hs hcc (by omega) (by omega) hM hb
      · exact restores_no hs hcc (by omega) (by omega) fun M h1 h2 => hM ⟨M, h1, h2⟩
end
end Go.Proofs.Ytnfbjidpiglabaa
