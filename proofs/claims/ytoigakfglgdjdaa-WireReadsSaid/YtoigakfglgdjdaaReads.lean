/- Printed by eng2.py out of 18/spec.py. -/
import Derived.Test.YtoigakfglgdjdaaRRead
set_option linter.unusedVariables false
set_option linter.unusedSimpArgs false
set_option maxRecDepth 10000
namespace Go.Proofs.Ytoigakfglgdjdaa
open Go.RowKit Classical
theorem same_res {bs : List UInt8} {q m : Msg} {n k : Int} (h : RdRes bs q n) (g : RdRes bs m k) : n = k ∧ SameG q m := by
  rcases h with ⟨h1, h2⟩ | ⟨h1, h2, h3⟩
  · rcases g with ⟨g1, g2⟩ | ⟨g1, g2, g3⟩
    · exact ⟨by omega, h2.uniq g2⟩
    · exact absurd h2 (g3 q)
  · rcases g with ⟨g1, g2⟩ | ⟨g1, g2, g3⟩
    · exact absurd g2 (h3 m)
    · exact ⟨by omega, h2.trans g2.symm⟩
theorem toM_ofM {p : RMsg} {a : Option Addr} {c : Nat} {m : Msg} (h : SameG m (toM p)) : SameM (ofM m a c) p := by
  have h8 := h.8
  refine ⟨h.1, h.2, h.3, h.4, h.5, h.6, h.7, ?_⟩
  show m.f_Votes.xs.map toR = p.f_Votes.xs
  rw [h8]
  show (p.f_Votes.xs.map ofR).map toR = _
  rw [List.map_map]
  exact List.map_id'' (fun v => rfl) _
set_option maxHeartbeats 1000000 in
theorem reads_ {W : World} {F : List Res} {xs : List UInt8} {a : Option Addr} {c : Nat} (hs : SlR W e8 a xs) (hcc : xs.length ≤ c) (hx : xs.length ≤ 9223372036854775807) : CS Try.prog 6 #[.slice a xs.length c] W (F) (fun r L' => r = .bool true ∧ F = L') := by
 refine f_door (l0 := [(0, .slice a xs.length c)]) Try.func6 Try.ntmps6 rfl rfl rfl ?_
 refine c_seq ?_
 refine c_region ?_
 refine o_assign rfl rfl ?_
 refine l_nil ?_
 refine q_then ?_
 refine c_seq ?_
 refine c_seq ?_
 refine c_region ?_
 refine o_call rfl cal8 rfl (speaks_) ?_
 rintro _ _ ⟨rfl, rfl⟩
 refine o_not rfl rfl ?_
 refine l_nil ?_
 refine q_then ?_
 refine c_false rfl ?_
 refine c_skip ?_
 refine q_then ?_
 refine c_seq ?_
 refine c_seq ?_
 refine c_region ?_
 refine o_move rfl rfl ?_
 refine o_len rfl rfl Try.underlying28 ?_
 refine o_bin rfl rfl rfl b_gtr ?_
 refine l_nil ?_
 refine q_then ?_
 refine c_cond rfl (fun h1 => ?_) (fun h1 => ?_)
 · -- h1T
  have h1b := h1
  try simp only [decide_eq_true_eq] at h1
  refine c_seq ?_
  refine c_region ?_
  refine o_assign rfl rfl ?_
  refine l_nil ?_
  refine q_then ?_
  refine c_ret ?_
  refine q_pass_ret ?_
  exact f_ret (r_one rfl rfl) (⟨rfl, rfl⟩) (fun w S => S)
 · -- h1F
  have h1b := h1
  try simp only [decide_eq_false_iff_not, Int.not_lt, Int.not_le] at h1
  refine c_skip ?_
  refine q_then ?_
  refine c_seq ?_
  refine c_region ?_
  refine o_lit e8_ok rfl Try.underlying28 rfl rfl rfl (lit_ok rfl) ([] : List UInt8) rfl rfl fun a15 => ?_
  refine o_move rfl rfl ?_
  refine o_append e8_ok rfl rfl rfl Try.underlying28 (rds_c (rds_old hs)) (by show (_ + _) * 1 ≤ _; (try simp only [List.length_append, List.length_cons, List.length_nil]); omega) (by (try simp only [List.length_append, List.length_cons, List.length_nil]); omega) fun a17 c17 => ?_
  refine l_eq (t := 17) (v' := .slice a17 (xs).length c17) rfl (by rfl) ?_
  refine l_conv (L' := row e8.T e8.sz a17 (xs).length c17 (flat e8 xs) :: _) (fun w S => by exact S) ?_
  refine o_assign rfl rfl ?_
  refine l_nil ?_
  refine q_then ?_
  refine c_seq ?_
  refine c_region ?_
  refine o_move rfl rfl ?_
  refine o_call rfl cal15 rfl (read_ (rds_own e8_ok 0 rfl) (by omega)) ?_
  rintro _ _ ⟨q20, n20, hq20, rfl, rfl⟩
  have hql20 := hq20.len
  refine o_move rfl rfl ?_
  refine o_extract rfl rfl rfl ?_
  refine o_extract rfl rfl rfl ?_
  refine o_alloc rfl ti26 fun b4 => ?_
  refine o_storen rfl rfl ti26 rfl rfl rfl rfl ?_
  refine o_assign rfl rfl ?_
  refine l_nil ?_
  refine q_then ?_
  refine c_seq ?_
  refine c_region ?_
  refine o_move rfl rfl ?_
  refine o_call rfl cal16 rfl (rread_ hs (by omega) hcc) ?_
  rintro _ _ ⟨q25, n25, hq25, rfl, rfl⟩
  have hql25 := hq25.len
  simp only [toM, List.length_map] at hql25
  refine o_move rfl rfl ?_
  refine o_extract rfl rfl rfl ?_
  refine o_extract rfl rfl rfl ?_
  refine o_alloc rfl ti35 fun b6 => ?_
  refine o_storen rfl rfl ti35 rfl rfl rfl rfl ?_
  refine o_assign rfl rfl ?_
  refine l_nil ?_
  refine q_then ?_
  refine c_seq ?_
  refine c_seq ?_
  obtain ⟨hnk, hsg⟩ := same_res hq20 hq25
  refine c_heldF [] (blk b6 (.cells #[.int .i64 q25.f_Kind, .int .i64 q25.f_From, .int .i64 q25.f_To, .int .i64 q25.f_Group, .int .i64 q25.f_Slot, .int .u64 q25.f_Ballot, .string q25.f_Value, .slice q25.f_Votes.a (q25.f_Votes.xs).length q25.f_Votes.c] 35 (0, 0)) :: row e_RVote.T e_RVote.sz q25.f_Votes.a (q25.f_Votes.xs).length q25.f_Votes.c (flat e_RVote q25.f_Votes.xs) :: blk b4 (.cells #[.int .i64 q20.f_Kind, .int .i64 q20.f_From, .int .i64 q20.f_To, .int .i64 q20.f_Group, .int .i64 q20.f_Slot, .int .u64 q20.f_Ballot, .string q20.f_Value, .slice q20.f_Votes.a (q20.f_Votes.xs).length q20.f_Votes.c] 26 (0, 0)) :: row e_Vote.T e_Vote.sz q20.f_Votes.a (q20.f_Votes.xs).length q20.f_Votes.c (flat e_Vote q20.f_Votes.xs) :: row e8.T e8.sz a17 (xs).length c17 (flat e8 xs) :: F) (by kernel_rfl) ?_
  refine h_take 0 rfl rfl (by kernel_rfl) (by kernel_rfl) (by kernel_rfl) (fun L0 => v_move rfl rfl) ?_
  refine h_take 1 rfl rfl (by kernel_rfl) (by kernel_rfl) (by kernel_rfl) (fun L0 => v_move rfl rfl) ?_
  refine h_take 2 rfl rfl (by kernel_rfl) (by kernel_rfl) (by kernel_rfl) (fun L0 => v_bin rfl rfl rfl b_neq) ?_
  refine h_eq (t := 30) (v' := .bool false) rfl (show _ = Value.bool false from by rw [hnk]; simp) ?_
  refine h_take 3 rfl rfl (by kernel_rfl) (by kernel_rfl) (by kernel_rfl) (fun L0 => v_move rfl rfl) ?_
  refine h_take_yes 4 rfl rfl rfl rfl rfl (by kernel_rfl) (by kernel_rfl) (by kernel_rfl) (fun L0 => v_loadn (vs := [_, _, _, _, _, _, _, _]) rfl rfl Try.underlying26 rfl ti26 (rdn_lit 2 rfl rfl)) ?_
  refine h_take_yes 6 rfl rfl rfl rfl rfl (by kernel_rfl) (by kernel_rfl) (by kernel_rfl) (fun L0 => v_loadn (vs := [_, _, _, _, _, _, _, _]) rfl rfl Try.underlying35 rfl ti35 (rdn_lit 0 rfl rfl)) ?_
  refine h_one 5 rfl (by kernel_rfl) ?_
  refine l_conv (L' := blk b6 (.cells #[.int .i64 q25.f_Kind, .int .i64 q25.f_From, .int .i64 q25.f_To, .int .i64 q25.f_Group, .int .i64 q25.f_Slot, .int .u64 q25.f_Ballot, .string q25.f_Value, .slice q25.f_Votes.a (q25.f_Votes.xs).length q25.f_Votes.c] 35 (0, 0)) :: row e_RVote.T e_RVote.sz q25.f_Votes.a (q25.f_Votes.xs).length q25.f_Votes.c (flat e_RVote q25.f_Votes.xs) :: blk b4 (.cells #[.int .i64 q20.f_Kind, .int .i64 q20.f_From, .int .i64 q20.f_To, .int .i64 q20.f_Group, .int .i64 q20.f_Slot, .int .u64 q20.f_Ballot, .string q20.f_Value, .slice q20.f_Votes.a (q20.f_Votes.xs).length q20.f_Votes.c] 26 (0, 0)) :: row e_Vote.T e_Vote.sz q20.f_Votes.a (q20.f_Votes.xs).length q20.f_Votes.c (flat e_Vote q20.f_Votes.xs) :: row e8.T e8.sz a17 (xs).length c17 (flat e8 xs) :: F) (fun w S => S.perm List.perm_append_comm) ?_
  refine o_yes rfl rfl rfl ?_
  refine o_call rfl cal12 rfl (of_ (m := q20) (rds_own e_Vote_ok 3 rfl) (by omega) (by omega)) ?_
  rintro _ _ ⟨a33, c33, rfl, rfl⟩
  refine l_nil ?_
  refine q_conv (L' := (blk b6 (.cells #[.int .i64 q25.f_Kind, .int .i64 q25.f_From, .int .i64 q25.f_To, .int .i64 q25.f_Group, .int .i64 q25.f_Slot, .int .u64 q25.f_Ballot, .string q25.f_Value, .slice q25.f_Votes.a (q25.f_Votes.xs).length q25.f_Votes.c] 35 (0, 0)) :: row e_RVote.T e_RVote.sz q25.f_Votes.a (q25.f_Votes.xs).length q25.f_Votes.c (flat e_RVote q25.f_Votes.xs) :: blk b4 (.cells #[.int .i64 q20.f_Kind, .int .i64 q20.f_From, .int .i64 q20.f_To, .int .i64 q20.f_Group, .int .i64 q20.f_Slot, .int .u64 q20.f_Ballot, .string q20.f_Value, .slice q20.f_Votes.a (q20.f_Votes.xs).length q20.f_Votes.c] 26 (0, 0)) :: row e_Vote.T e_Vote.sz q20.f_Votes.a (q20.f_Votes.xs).length q20.f_Votes.c (flat e_Vote q20.f_Votes.xs) :: row e8.T e8.sz a17 (xs).length c17 (flat e8 xs) :: F) ++ [row e_RVote.T e_RVote.sz a33 ((q20.f_Votes.xs.map toR)).length c33 (flat e_RVote (q20.f_Votes.xs.map toR))]) (fun w S => S.perm (List.perm_append_comm (l₁ := [row e_RVote.T e_RVote.sz a33 ((q20.f_Votes.xs.map toR)).length c33 (flat e_RVote (q20.f_Votes.xs.map toR))]) (l₂ := blk b6 (.cells #[.int .i64 q25.f_Kind, .int .i64 q25.f_From, .int .i64 q25.f_To, .int .i64 q25.f_Group, .int .i64 q25.f_Slot, .int .u64 q25.f_Ballot, .string q25.f_Value, .slice q25.f_Votes.a (q25.f_Votes.xs).length q25.f_Votes.c] 35 (0, 0)) :: row e_RVote.T e_RVote.sz q25.f_Votes.a (q25.f_Votes.xs).length q25.f_Votes.c (flat e_RVote q25.f_Votes.xs) :: blk b4 (.cells #[.int .i64 q20.f_Kind, .int .i64 q20.f_From, .int .i64 q20.f_To, .int .i64 q20.f_Group, .int .i64 q20.f_Slot, .int .u64 q20.f_Ballot, .string q20.f_Value, .slice q20.f_Votes.a (q20.f_Votes.xs).length q20.f_Votes.c] 26 (0, 0)) :: row e_Vote.T e_Vote.sz q20.f_Votes.a (q20.f_Votes.xs).length q20.f_Votes.c (flat e_Vote q20.f_Votes.xs) :: row e8.T e8.sz a17 (xs).length c17 (flat e8 xs) :: F))) ?_
  refine h_next ?_
  refine h_one 7 rfl (by kernel_rfl) ?_
  refine l_conv (L' := row e_RVote.T e_RVote.sz a33 ((q20.f_Votes.xs.map toR)).length c33 (flat e_RVote (q20.f_Votes.xs.map toR)) :: blk b6 (.cells #[.int .i64 q25.f_Kind, .int .i64 q25.f_From, .int .i64 q25.f_To, .int .i64 q25.f_Group, .int .i64 q25.f_Slot, .int .u64 q25.f_Ballot, .string q25.f_Value, .slice q25.f_Votes.a (q25.f_Votes.xs).length q25.f_Votes.c] 35 (0, 0)) :: row e_RVote.T e_RVote.sz q25.f_Votes.a (q25.f_Votes.xs).length q25.f_Votes.c (flat e_RVote q25.f_Votes.xs) :: blk b4 (.cells #[.int .i64 q20.f_Kind, .int .i64 q20.f_From, .int .i64 q20.f_To, .int .i64 q20.f_Group, .int .i64 q20.f_Slot, .int .u64 q20.f_Ballot, .string q20.f_Value, .slice q20.f_Votes.a (q20.f_Votes.xs).length q20.f_Votes.c] 26 (0, 0)) :: row e_Vote.T e_Vote.sz q20.f_Votes.a (q20.f_Votes.xs).length q20.f_Votes.c (flat e_Vote q20.f_Votes.xs) :: row e8.T e8.sz a17 (xs).length c17 (flat e8 xs) :: F) (fun w S => S.perm List.perm_append_comm) ?_
  refine o_yes rfl rfl rfl ?_
  refine o_call rfl cal11 rfl (same_ (p := (⟨q20.f_Kind, q20.f_From, q20.f_To, q20.f_Group, q20.f_Slot, q20.f_Ballot, q20.f_Value, ⟨a33, (q20.f_Votes.xs.map toR), c33⟩⟩ : RMsg)) (q := q25) (rds_own e_RVote_ok 0 rfl) (by first | assumption | (try dsimp only); (try simp only [List.length_map, List.length_nil]); omega) (rds_own e_RVote_ok 2 rfl) (by first | assumption | (try dsimp only); (try simp only [List.length_map, List.length_nil]); omega)) ?_
  rintro _ _ ⟨rfl, rfl⟩
  refine l_nil ?_
  refine q_conv (L' := (blk b6 (.cells #[.int .i64 q25.f_Kind, .int .i64 q25.f_From, .int .i64 q25.f_To, .int .i64 q25.f_Group, .int .i64 q25.f_Slot, .int .u64 q25.f_Ballot, .string q25.f_Value, .slice q25.f_Votes.a (q25.f_Votes.xs).length q25.f_Votes.c] 35 (0, 0)) :: row e_RVote.T e_RVote.sz q25.f_Votes.a (q25.f_Votes.xs).length q25.f_Votes.c (flat e_RVote q25.f_Votes.xs) :: blk b4 (.cells #[.int .i64 q20.f_Kind, .int .i64 q20.f_From, .int .i64 q20.f_To, .int .i64 q20.f_Group, .int .i64 q20.f_Slot, .int .u64 q20.f_Ballot, .string q20.f_Value, .slice q20.f_Votes.a (q20.f_Votes.xs).length q20.f_Votes.c] 26 (0, 0)) :: row e_Vote.T e_Vote.sz q20.f_Votes.a (q20.f_Votes.xs).length q20.f_Votes.c (flat e_Vote q20.f_Votes.xs) :: row e8.T e8.sz a17 (xs).length c17 (flat e8 xs) :: F) ++ [row e_RVote.T e_RVote.sz a33 ((q20.f_Votes.xs.map toR)).length c33 (flat e_RVote (q20.f_Votes.xs.map toR))]) (fun w S => S.perm (List.perm_append_comm (l₁ := [row e_RVote.T e_RVote.sz a33 ((q20.f_Votes.xs.map toR)).length c33 (flat e_RVote (q20.f_Votes.xs.map toR))]) (l₂ := blk b6 (.cells #[.int .i64 q25.f_Kind, .int .i64 q25.f_From, .int .i64 q25.f_To, .int .i64 q25.f_Group, .int .i64 q25.f_Slot, .int .u64 q25.f_Ballot, .string q25.f_Value, .slice q25.f_Votes.a (q25.f_Votes.xs).length q25.f_Votes.c] 35 (0, 0)) :: row e_RVote.T e_RVote.sz q25.f_Votes.a (q25.f_Votes.xs).length q25.f_Votes.c (flat e_RVote q25.f_Votes.xs) :: blk b4 (.cells #[.int .i64 q20.f_Kind, .int .i64 q20.f_From, .int .i64 q20.f_To, .int .i64 q20.f_Group, .int .i64 q20.f_Slot, .int .u64 q20.f_Ballot, .string q20.f_Value, .slice q20.f_Votes.a (q20.f_Votes.xs).length q20.f_Votes.c] 26 (0, 0)) :: row e_Vote.T e_Vote.sz q20.f_Votes.a (q20.f_Votes.xs).length q20.f_Votes.c (flat e_Vote q20.f_Votes.xs) :: row e8.T e8.sz a17 (xs).length c17 (flat e8 xs) :: F))) ?_
  refine h_next ?_
  refine h_eq (t := 35) (v' := .bool true) rfl (show _ = Value.bool true from by rw [decide_eq_true (toM_ofM hsg)]) ?_
  refine h_take_yes 8 rfl rfl rfl rfl rfl (by kernel_rfl) (by kernel_rfl) (by kernel_rfl) (fun L0 => v_not rfl rfl) ?_
  refine h_take 9 rfl rfl (by kernel_rfl) (by kernel_rfl) (by kernel_rfl) (fun L0 => v_pick_false rfl rfl rfl) ?_
  refine h_take 10 rfl rfl (by kernel_rfl) (by kernel_rfl) (by kernel_rfl) (fun L0 => v_move rfl rfl) ?_
  refine h_take_yes 11 rfl rfl rfl rfl rfl (by kernel_rfl) (by kernel_rfl) (by kernel_rfl) (fun L0 => v_move rfl rfl) ?_
  refine h_take_yes 12 rfl rfl rfl rfl rfl (by kernel_rfl) (by kernel_rfl) (by kernel_rfl) (fun L0 => v_bytesStr (e := e8) rfl rfl rfl Try.underlying28 Try.underlying5 Try.underlying9 (rds_own e8_ok 4 rfl)) ?_
  refine h_take_yes 13 rfl rfl rfl rfl rfl (by kernel_rfl) (by kernel_rfl) (by kernel_rfl) (fun L0 => v_move rfl rfl) ?_
  refine h_take_yes 14 rfl rfl rfl rfl rfl (by kernel_rfl) (by kernel_rfl) (by kernel_rfl) (fun L0 => v_bytesStr (e := e8) rfl rfl rfl Try.underlying28 Try.underlying5 Try.underlying9 (rds_app (rds_c (rds_c (rds_c (rds_c (rds_c (rds_old hs)))))))) ?_
  refine h_take_yes 15 rfl rfl rfl rfl rfl (by kernel_rfl) (by kernel_rfl) (by kernel_rfl) (fun L0 => v_bin rfl rfl rfl b_sneq) ?_
  refine h_eq (t := 43) (v' := .bool false) rfl (show _ = Value.bool false from by simp) ?_
  refine h_take 16 rfl rfl (by kernel_rfl) (by kernel_rfl) (by kernel_rfl) (fun L0 => v_pick_false rfl rfl rfl) ?_
  refine h_done (by kernel_rfl) ?_
  refine q_conv (L' := row e_RVote.T e_RVote.sz a33 ((q20.f_Votes.xs.map toR)).length c33 (flat e_RVote (q20.f_Votes.xs.map toR)) :: blk b6 (.cells #[.int .i64 q25.f_Kind, .int .i64 q25.f_From, .int .i64 q25.f_To, .int .i64 q25.f_Group, .int .i64 q25.f_Slot, .int .u64 q25.f_Ballot, .string q25.f_Value, .slice q25.f_Votes.a (q25.f_Votes.xs).length q25.f_Votes.c] 35 (0, 0)) :: row e_RVote.T e_RVote.sz q25.f_Votes.a (q25.f_Votes.xs).length q25.f_Votes.c (flat e_RVote q25.f_Votes.xs) :: blk b4 (.cells #[.int .i64 q20.f_Kind, .int .i64 q20.f_From, .int .i64 q20.f_To, .int .i64 q20.f_Group, .int .i64 q20.f_Slot, .int .u64 q20.f_Ballot, .string q20.f_Value, .slice q20.f_Votes.a (q20.f_Votes.xs).length q20.f_Votes.c] 26 (0, 0)) :: row e_Vote.T e_Vote.sz q20.f_Votes.a (q20.f_Votes.xs).length q20.f_Votes.c (flat e_Vote q20.f_Votes.xs) :: row e8.T e8.sz a17 (xs).length c17 (flat e8 xs) :: F) (fun w S => S.perm List.perm_append_comm) ?_
  refine q_then ?_
  refine c_false rfl ?_
  refine c_skip ?_
  refine q_then ?_
  refine c_seq ?_
  refine c_seq ?_
  refine c_region ?_
  refine o_move rfl rfl ?_
  refine o_bin rfl rfl rfl b_neq ?_
  refine l_nil ?_
  refine q_then ?_
  refine c_cond rfl (fun h2 => ?_) (fun h2 => ?_)
  · -- h2T
   have h2b := h2
   try simp only [Bool.not_eq_true', decide_eq_false_iff_not, Int.not_lt, Int.not_le] at h2
   refine c_seq ?_
   refine c_region ?_
   refine o_assign rfl rfl ?_
   refine l_nil ?_
   refine q_then ?_
   refine c_ret ?_
   refine q_pass_ret ?_
   refine q_conv (fun w S => S.tail) ?_
   refine q_conv (fun w S => S.tail) ?_
   refine q_conv (fun w S => S.tail) ?_
   refine q_conv (fun w S => S.tail) ?_
   refine q_conv (fun w S => S.tail) ?_
   refine q_conv (fun w S => S.tail) ?_
   exact f_ret (r_one rfl rfl) (⟨rfl, rfl⟩) (fun w S => S)
  · -- h2F
   have h2b := h2
   try simp only [Bool.not_eq_false', decide_eq_true_eq] at h2
   refine c_skip ?_
   refine q_then ?_
   refine c_seq ?_
   have hgd := hq20.yes (by assumption)
   refine c_region ?_
   refine o_loadn (vs := [_, _, _, _, _, _, _, _]) rfl rfl Try.underlying26 rfl ti26 (rdn_lit 3 rfl rfl) ?_
   refine o_call rfl cal10 rfl (write_ (m := q20) (rds_own e_Vote_ok 4 rfl) (by omega) (hq20.yes (by assumption)).wf) ?_
   rintro _ _ ⟨out49, a49, c49, hout49, rfl, rfl⟩
   refine o_move rfl rfl ?_
   refine o_extract rfl rfl rfl ?_
   refine o_extract rfl rfl rfl ?_
   refine o_assign rfl rfl ?_
   refine o_assign rfl rfl ?_
   refine l_nil ?_
   refine q_then ?_
   refine c_seq ?_
   refine c_region ?_
   refine o_move rfl rfl ?_
   refine o_bin rfl rfl rfl b_eql ?_
   refine l_eq (t := 53) (v' := .bool true) rfl (show _ = Value.bool true from by rw [show msgN q20 = 0 from if_pos hgd.ok]; rfl) ?_
   refine o_move rfl rfl ?_
   refine o_yes rfl rfl rfl ?_
   refine o_move rfl rfl ?_
   refine o_yes rfl rfl rfl ?_
   refine o_bytesStr (e := e8) rfl rfl rfl Try.underlying28 Try.underlying5 Try.underlying9 (rds_own e8_ok 0 rfl) ?_
   refine o_yes rfl rfl rfl ?_
   refine o_move rfl rfl ?_
   refine o_yes rfl rfl rfl ?_
   refine o_bytesStr (e := e8) rfl rfl rfl Try.underlying28 Try.underlying5 Try.underlying9 (rds_c (rds_c (rds_c (rds_c (rds_c (rds_c (rds_c (rds_old hs)))))))) ?_
   refine o_yes rfl rfl rfl ?_
   refine o_bin rfl rfl rfl b_seql ?_
   refine l_eq (t := 59) (v' := .bool true) rfl (show _ = Value.bool true from by rw [show out49 = xs by rw [hout49, wrB, if_pos hgd.ok]; exact hgd.eq.symm]; simp) ?_
   refine o_pick_true rfl rfl rfl ?_
   refine o_assign rfl rfl ?_
   refine l_nil ?_
   refine q_then ?_
   refine c_ret ?_
   refine q_conv (fun w S => S.tail) ?_
   refine q_conv (fun w S => S.tail) ?_
   refine q_conv (fun w S => S.tail) ?_
   refine q_conv (fun w S => S.tail) ?_
   refine q_conv (fun w S => S.tail) ?_
   refine q_conv (fun w S => S.tail) ?_
   refine q_conv (fun w S => S.tail) ?_
   exact f_ret (r_one rfl rfl) (⟨rfl, rfl⟩) (fun w S => S)

end Go.Proofs.Ytoigakfglgdjdaa
