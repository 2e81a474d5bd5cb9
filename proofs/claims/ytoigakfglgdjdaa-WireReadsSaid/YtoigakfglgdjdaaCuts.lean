/- Printed by eng2.py out of 18/spec.py. -/
import Derived.Test.YtoigakfglgdjdaaRead
set_option linter.unusedVariables false
set_option linter.unusedSimpArgs false
set_option maxRecDepth 10000
namespace Go.Proofs.Ytoigakfglgdjdaa
open Go.RowKit Classical
theorem band64 (k : Int) (m : Nat) (hm : m < 4611686018427387904) : ∃ q : Nat, q ≤ m ∧ ibits .and .i64 k (m : Int) = (q : Int) := and_mask k m hm
theorem RdRes.len {bs : List UInt8} {q : Msg} {n : Int} (h : RdRes bs q n) : q.f_Votes.xs.length ≤ 64 := by
  rcases h with ⟨_, h⟩ | ⟨_, h, _⟩
  · exact h.len
  · rw [h.8]; exact Nat.zero_le _
theorem RdRes.yes {bs : List UInt8} {q : Msg} {n : Int} (h : RdRes bs q n) (hn : n = 0) : Good q bs := by
  rcases h with ⟨_, h⟩ | ⟨h, _⟩
  · exact h
  · omega
theorem RdRes.no {bs : List UInt8} {q : Msg} {n : Int} (h : RdRes bs q n) (hn : ¬ n = 0) : n = 31 ∧ ∀ m, ¬ Good m bs := by
  rcases h with ⟨h, _⟩ | ⟨h, _, h2⟩
  · exact absurd h hn
  · exact ⟨h, h2⟩
theorem RdRes.good {bs : List UInt8} {q m : Msg} {n : Int} (h : RdRes bs q n) (g : Good m bs) : n = 0 := Classical.byContradiction fun h9 => (h.no h9).2 m g
theorem wireB_pos (m : Msg) : 0 < (wireB m).length := by
  have := numB_pos (sumB (bodyB m)).toNat
  rw [wireB, List.length_append]; omega
theorem cut_not {m q : Msg} {bs : List UInt8} {j : Nat} (h : bs = wireB m) (hj : j < bs.length) (g : Good q (bs.take j)) {x y : Option Addr} {c d : Nat} : ¬ SameM (ofM q x c) (ofM m y d) := fun h9 => by
  have h1 := congrArg List.length (g.eq.trans (wireB_same (sameM_iff.1 h9)))
  rw [List.length_take, ← h] at h1; omega
set_option maxHeartbeats 1000000 in
theorem cuts_ {W : World} {F : List Res} {m : Msg} (T_m : RdS W F e_Vote m.f_Votes.a m.f_Votes.xs) (hn_m : m.f_Votes.xs.length ≤ 9223372036854775807) (wf_m : Wf m) {k : Int} {xs : List UInt8} {a : Option Addr} {c : Nat} (hs : RdS W F e8 a xs) (hx : xs.length ≤ 9223372036854775807) : CS Try.prog 7 #[.agg #[.int .i64 m.f_Kind, .int .i64 m.f_From, .int .i64 m.f_To, .int .i64 m.f_Group, .int .i64 m.f_Slot, .int .u64 m.f_Ballot, .string m.f_Value, .slice m.f_Votes.a (m.f_Votes.xs).length m.f_Votes.c], .int .i64 k, .slice a xs.length c] W (F) (fun r L' => r = .bool true ∧ F = L') := by
 refine f_door (l0 := [(0, .agg #[.int .i64 m.f_Kind, .int .i64 m.f_From, .int .i64 m.f_To, .int .i64 m.f_Group, .int .i64 m.f_Slot, .int .u64 m.f_Ballot, .string m.f_Value, .slice m.f_Votes.a (m.f_Votes.xs).length m.f_Votes.c]), (1, .int .i64 k), (2, .slice a xs.length c)]) Try.func7 Try.ntmps7 rfl rfl rfl ?_
 refine c_seq ?_
 refine c_region ?_
 refine o_box rfl rfl fun b3 => ?_
 refine o_assign rfl rfl ?_
 refine l_nil ?_
 refine q_then ?_
 refine c_seq ?_
 refine c_seq ?_
 refine c_region ?_
 refine o_call rfl cal8 rfl (speaks_) ?_
 rintro _ _ ⟨rfl, rfl⟩
 refine o_not rfl rfl ?_
 refine l_nil ?_
 refine q_then ?_
 refine c_false rfl ?_
 refine c_skip ?_
 refine q_then ?_
 refine c_seq ?_
 refine c_seq ?_
 refine c_region ?_
 refine o_loadn (vs := [_, _, _, _, _, _, _, _]) rfl rfl Try.underlying26 rfl ti26 (rdn_lit 0 rfl rfl) ?_
 refine o_call rfl cal9 rfl (great_ (m := m) (rds_c T_m) (by first | assumption | (try dsimp only); omega)) ?_
 rintro _ _ ⟨g16, hg16, rfl, rfl⟩
 refine o_move rfl rfl ?_
 refine l_split (t := 17) rfl (fun h1 => ?_) (fun h1 => ?_)
 · -- h1T
  have h1b := h1
  try simp only [decide_eq_true_eq, decide_eq_false_iff_not, Bool.not_eq_eq_eq_not, Bool.not_true, Bool.not_false, Bool.not_eq_true', Bool.not_eq_false', Int.not_lt, Int.not_le, Bool.or_eq_true, Bool.and_eq_true] at h1
  refine o_no rfl rfl rfl rfl ?_
  refine o_no rfl rfl rfl rfl ?_
  refine o_no rfl rfl rfl rfl ?_
  refine o_pick_true rfl rfl rfl ?_
  refine l_nil ?_
  refine q_then ?_
  refine c_true rfl ?_
  refine c_seq ?_
  refine c_region ?_
  refine o_assign rfl rfl ?_
  refine l_nil ?_
  refine q_then ?_
  refine c_ret ?_
  refine q_pass_ret ?_
  refine q_conv (fun w S => S.tail) ?_
  exact f_ret (r_one rfl rfl) (⟨rfl, rfl⟩) (fun w S => S)
 · -- h1F
  have h1b := h1
  try simp only [decide_eq_true_eq, decide_eq_false_iff_not, Bool.not_eq_eq_eq_not, Bool.not_true, Bool.not_false, Bool.not_eq_true', Bool.not_eq_false', Int.not_lt, Int.not_le, Bool.or_eq_true, Bool.and_eq_true] at h1
  refine o_yes rfl rfl rfl ?_
  refine o_move rfl rfl ?_
  refine o_yes rfl rfl rfl ?_
  refine o_len rfl rfl Try.underlying28 ?_
  refine o_yes rfl rfl rfl ?_
  refine o_bin rfl rfl rfl b_gtr ?_
  refine o_pick_false rfl rfl rfl ?_
  refine l_nil ?_
  refine q_then ?_
  refine c_cond rfl (fun h2 => ?_) (fun h2 => ?_)
  · -- h2T
   have h2b := h2
   try simp only [decide_eq_true_eq] at h2
   refine c_seq ?_
   refine c_region ?_
   refine o_assign rfl rfl ?_
   refine l_nil ?_
   refine q_then ?_
   refine c_ret ?_
   refine q_pass_ret ?_
   refine q_conv (fun w S => S.tail) ?_
   exact f_ret (r_one rfl rfl) (⟨rfl, rfl⟩) (fun w S => S)
  · -- h2F
   have h2b := h2
   try simp only [decide_eq_false_iff_not, Int.not_lt, Int.not_le] at h2
   refine c_skip ?_
   refine q_then ?_
   refine c_seq ?_
   refine c_region ?_
   refine o_loadn (vs := [_, _, _, _, _, _, _, _]) rfl rfl Try.underlying26 rfl ti26 (rdn_lit 0 rfl rfl) ?_
   refine o_call rfl cal10 rfl (write_ (m := m) (rds_c T_m) (by first | assumption | (try dsimp only); omega) wf_m) ?_
   rintro _ _ ⟨out24, a24, c24, hout24, rfl, rfl⟩
   refine l_fact (row_cap 0 rfl) ?_
   intro hcap24
   refine o_move rfl rfl ?_
   refine o_extract rfl rfl rfl ?_
   refine o_extract rfl rfl rfl ?_
   refine o_assign rfl rfl ?_
   refine o_assign rfl rfl ?_
   refine l_nil ?_
   refine q_then ?_
   refine c_seq ?_
   refine c_seq ?_
   refine c_region ?_
   refine o_move rfl rfl ?_
   refine o_bin rfl rfl rfl b_neq ?_
   refine l_nil ?_
   refine q_then ?_
   refine c_cond rfl (fun h3 => ?_) (fun h3 => ?_)
   · -- h3T
    have h3b := h3
    try simp only [Bool.not_eq_true', decide_eq_false_iff_not, Int.not_lt, Int.not_le] at h3
    refine c_seq ?_
    refine c_region ?_
    refine o_assign rfl rfl ?_
    refine l_nil ?_
    refine q_then ?_
    refine c_ret ?_
    refine q_pass_ret ?_
    refine q_conv (fun w S => S.tail) ?_
    refine q_conv (fun w S => S.tail) ?_
    exact f_ret (r_one rfl rfl) (⟨rfl, rfl⟩) (fun w S => S)
   · -- h3F
    have h3b := h3
    try simp only [Bool.not_eq_false', decide_eq_true_eq] at h3
    refine c_skip ?_
    refine q_then ?_
    refine c_seq ?_
    have hok := msgN_0 (by assumption)
    have ho : out24 = wireB m := by rw [hout24, wrB, if_pos hok]
    have hpo := wireB_pos m
    rw [← ho] at hpo
    have hwl : out24.length ≤ 500000 := by rw [ho, wireB, List.length_append]; have h8 := bodyB_len hok wf_m; have h9 := numB_len_le 10 (sumB (bodyB m)).toNat (by have := (sumB (bodyB m)).isLt; omega) (by omega); omega
    refine c_region ?_
    refine o_move rfl rfl ?_
    refine o_move rfl rfl ?_
    refine o_bin rfl rfl rfl (b_and rfl) ?_
    obtain ⟨q32, hq32, eq32⟩ := band64 k 65535 (by omega)
    refine l_eq (t := 32) (v' := .int .i64 (q32 : Int)) rfl (by first | exact congrArg _ eq32) ?_
    refine o_move rfl rfl ?_
    refine o_len rfl rfl Try.underlying28 ?_
    refine o_bin rfl rfl rfl (b_rem (by omega) tmodN) ?_
    have hmod := Nat.mod_lt q32 hpo
    refine o_cut (l' := 0) (h' := (q32 % out24.length)) (m := c24) rfl rfl Try.underlying28 ti5 (.inl ⟨rfl, rfl⟩) (.inr ⟨_, _, rfl, icast rfl (by omega), (by omega)⟩) (.inl ⟨rfl, rfl⟩) ?_
    obtain ⟨ys36, ay36, cut36, hys36, hlys36, eay36⟩ : ∃ ys_ ay_, (∀ {L : List Res}, RdS W L e8 a24 out24 → RdS W L e8 ay_ ys_) ∧ ys_ = sub out24 0 (q32 % out24.length) ∧ ys_.length = (q32 % out24.length) - 0 ∧ cutA a24 c24 0 1 = ay_ := ⟨_, _, fun h => rds_cut e8_ok h _ _ _ (by omega), rfl, sub_len (by omega), rfl⟩
    refine l_eq (t := 36) (v' := .slice ay36 ys36.length (c24 - 0)) rfl (by rw [eay36, hlys36]) ?_
    have hct : ys36 = out24.take (q32 % out24.length) := by rw [hys36, sub_take]
    refine o_call rfl cal15 rfl (read_ (cut36 (rds_own e8_ok 0 rfl)) (by rw [hlys36]; omega)) ?_
    rintro _ _ ⟨q37, n37, hq37, rfl, rfl⟩
    have hql37 := hq37.len
    refine o_move rfl rfl ?_
    refine o_extract rfl rfl rfl ?_
    refine o_extract rfl rfl rfl ?_
    refine o_alloc rfl ti26 fun b9 => ?_
    refine o_storen rfl rfl ti26 rfl rfl rfl rfl ?_
    refine o_assign rfl rfl ?_
    refine l_nil ?_
    refine q_then ?_
    refine c_seq ?_
    refine c_region ?_
    refine o_lit e8_ok rfl Try.underlying28 rfl rfl rfl (lit_ok rfl) ([] : List UInt8) rfl rfl fun a41 => ?_
    refine o_move rfl rfl ?_
    refine o_append e8_ok rfl rfl rfl Try.underlying28 (rds_own e8_ok 3 rfl) (by show (_ + _) * 1 ≤ _; (try simp only [List.length_append, List.length_cons, List.length_nil]); omega) (by (try simp only [List.length_append, List.length_cons, List.length_nil]); omega) fun a43 c43 => ?_
    refine l_f3 ?_
    refine l_drop ?_
    refine o_move rfl rfl ?_
    refine o_append e8_ok rfl rfl rfl Try.underlying28 (rds_c (rds_c (rds_c (rds_c hs)))) (by show (_ + _) * 1 ≤ _; (try simp only [List.length_append, List.length_cons, List.length_nil]); omega) (by (try simp only [List.length_append, List.length_cons, List.length_nil]); omega) fun a45 c45 => ?_
    refine o_call rfl cal15 rfl (read_ (rds_own e8_ok 0 rfl) (by simp only [List.length_append, List.length_nil]; omega)) ?_
    rintro _ _ ⟨q46, n46, hq46, rfl, rfl⟩
    have hql46 := hq46.len
    refine o_move rfl rfl ?_
    refine o_extract rfl rfl rfl ?_
    refine o_extract rfl rfl rfl ?_
    refine o_alloc rfl ti26 fun b11 => ?_
    refine o_storen rfl rfl ti26 rfl rfl rfl rfl ?_
    refine o_assign rfl rfl ?_
    refine l_nil ?_
    refine q_then ?_
    refine c_seq ?_
    refine c_seq ?_
    refine c_region ?_
    refine o_move rfl rfl ?_
    refine o_bin rfl rfl rfl b_eql ?_
    refine l_nil ?_
    refine q_then ?_
    refine c_cond rfl (fun h4 => ?_) (fun h4 => ?_)
    · -- h4T
     have h4b := h4
     try simp only [decide_eq_true_eq] at h4
     refine c_seq ?_
     refine c_heldF [] (blk b11 (.cells #[.int .i64 q46.f_Kind, .int .i64 q46.f_From, .int .i64 q46.f_To, .int .i64 q46.f_Group, .int .i64 q46.f_Slot, .int .u64 q46.f_Ballot, .string q46.f_Value, .slice q46.f_Votes.a (q46.f_Votes.xs).length q46.f_Votes.c] 26 (0, 0)) :: row e_Vote.T e_Vote.sz q46.f_Votes.a (q46.f_Votes.xs).length q46.f_Votes.c (flat e_Vote q46.f_Votes.xs) :: row e8.T e8.sz a45 (out24 ++ xs).length c45 (flat e8 (out24 ++ xs)) :: blk b9 (.cells #[.int .i64 q37.f_Kind, .int .i64 q37.f_From, .int .i64 q37.f_To, .int .i64 q37.f_Group, .int .i64 q37.f_Slot, .int .u64 q37.f_Ballot, .string q37.f_Value, .slice q37.f_Votes.a (q37.f_Votes.xs).length q37.f_Votes.c] 26 (0, 0)) :: row e_Vote.T e_Vote.sz q37.f_Votes.a (q37.f_Votes.xs).length q37.f_Votes.c (flat e_Vote q37.f_Votes.xs) :: blk b3 (.cells #[.int .i64 m.f_Kind, .int .i64 m.f_From, .int .i64 m.f_To, .int .i64 m.f_Group, .int .i64 m.f_Slot, .int .u64 m.f_Ballot, .string m.f_Value, .slice m.f_Votes.a (m.f_Votes.xs).length m.f_Votes.c] 26 (0, 0)) :: F) (by kernel_rfl) ?_
     refine h_take 0 rfl rfl (by kernel_rfl) (by kernel_rfl) (by kernel_rfl) (fun L0 => v_loadn (vs := [_, _, _, _, _, _, _, _]) rfl rfl Try.underlying26 rfl ti26 (rdn_lit 3 rfl rfl)) ?_
     refine h_take 2 rfl rfl (by kernel_rfl) (by kernel_rfl) (by kernel_rfl) (fun L0 => v_loadn (vs := [_, _, _, _, _, _, _, _]) rfl rfl Try.underlying26 rfl ti26 (rdn_lit 5 rfl rfl)) ?_
     refine h_one 1 rfl (by kernel_rfl) ?_
     refine l_conv (L' := blk b11 (.cells #[.int .i64 q46.f_Kind, .int .i64 q46.f_From, .int .i64 q46.f_To, .int .i64 q46.f_Group, .int .i64 q46.f_Slot, .int .u64 q46.f_Ballot, .string q46.f_Value, .slice q46.f_Votes.a (q46.f_Votes.xs).length q46.f_Votes.c] 26 (0, 0)) :: row e_Vote.T e_Vote.sz q46.f_Votes.a (q46.f_Votes.xs).length q46.f_Votes.c (flat e_Vote q46.f_Votes.xs) :: row e8.T e8.sz a45 (out24 ++ xs).length c45 (flat e8 (out24 ++ xs)) :: blk b9 (.cells #[.int .i64 q37.f_Kind, .int .i64 q37.f_From, .int .i64 q37.f_To, .int .i64 q37.f_Group, .int .i64 q37.f_Slot, .int .u64 q37.f_Ballot, .string q37.f_Value, .slice q37.f_Votes.a (q37.f_Votes.xs).length q37.f_Votes.c] 26 (0, 0)) :: row e_Vote.T e_Vote.sz q37.f_Votes.a (q37.f_Votes.xs).length q37.f_Votes.c (flat e_Vote q37.f_Votes.xs) :: blk b3 (.cells #[.int .i64 m.f_Kind, .int .i64 m.f_From, .int .i64 m.f_To, .int .i64 m.f_Group, .int .i64 m.f_Slot, .int .u64 m.f_Ballot, .string m.f_Value, .slice m.f_Votes.a (m.f_Votes.xs).length m.f_Votes.c] 26 (0, 0)) :: F) (fun w S => S.perm List.perm_append_comm) ?_
     refine o_call rfl cal12 rfl (of_ (m := q37) (rds_own e_Vote_ok 4 rfl) (by first | assumption | (try dsimp only); omega) (by omega)) ?_
     rintro _ _ ⟨a52, c52, rfl, rfl⟩
     refine l_nil ?_
     refine q_conv (L' := (blk b11 (.cells #[.int .i64 q46.f_Kind, .int .i64 q46.f_From, .int .i64 q46.f_To, .int .i64 q46.f_Group, .int .i64 q46.f_Slot, .int .u64 q46.f_Ballot, .string q46.f_Value, .slice q46.f_Votes.a (q46.f_Votes.xs).length q46.f_Votes.c] 26 (0, 0)) :: row e_Vote.T e_Vote.sz q46.f_Votes.a (q46.f_Votes.xs).length q46.f_Votes.c (flat e_Vote q46.f_Votes.xs) :: row e8.T e8.sz a45 (out24 ++ xs).length c45 (flat e8 (out24 ++ xs)) :: blk b9 (.cells #[.int .i64 q37.f_Kind, .int .i64 q37.f_From, .int .i64 q37.f_To, .int .i64 q37.f_Group, .int .i64 q37.f_Slot, .int .u64 q37.f_Ballot, .string q37.f_Value, .slice q37.f_Votes.a (q37.f_Votes.xs).length q37.f_Votes.c] 26 (0, 0)) :: row e_Vote.T e_Vote.sz q37.f_Votes.a (q37.f_Votes.xs).length q37.f_Votes.c (flat e_Vote q37.f_Votes.xs) :: blk b3 (.cells #[.int .i64 m.f_Kind, .int .i64 m.f_From, .int .i64 m.f_To, .int .i64 m.f_Group, .int .i64 m.f_Slot, .int .u64 m.f_Ballot, .string m.f_Value, .slice m.f_Votes.a (m.f_Votes.xs).length m.f_Votes.c] 26 (0, 0)) :: F) ++ [row e_RVote.T e_RVote.sz a52 ((q37.f_Votes.xs.map toR)).length c52 (flat e_RVote (q37.f_Votes.xs.map toR))]) (fun w S => S.perm (List.perm_append_comm (l₁ := [row e_RVote.T e_RVote.sz a52 ((q37.f_Votes.xs.map toR)).length c52 (flat e_RVote (q37.f_Votes.xs.map toR))]) (l₂ := blk b11 (.cells #[.int .i64 q46.f_Kind, .int .i64 q46.f_From, .int .i64 q46.f_To, .int .i64 q46.f_Group, .int .i64 q46.f_Slot, .int .u64 q46.f_Ballot, .string q46.f_Value, .slice q46.f_Votes.a (q46.f_Votes.xs).length q46.f_Votes.c] 26 (0, 0)) :: row e_Vote.T e_Vote.sz q46.f_Votes.a (q46.f_Votes.xs).length q46.f_Votes.c (flat e_Vote q46.f_Votes.xs) :: row e8.T e8.sz a45 (out24 ++ xs).length c45 (flat e8 (out24 ++ xs)) :: blk b9 (.cells #[.int .i64 q37.f_Kind, .int .i64 q37.f_From, .int .i64 q37.f_To, .int .i64 q37.f_Group, .int .i64 q37.f_Slot, .int .u64 q37.f_Ballot, .string q37.f_Value, .slice q37.f_Votes.a (q37.f_Votes.xs).length q37.f_Votes.c] 26 (0, 0)) :: row e_Vote.T e_Vote.sz q37.f_Votes.a (q37.f_Votes.xs).length q37.f_Votes.c (flat e_Vote q37.f_Votes.xs) :: blk b3 (.cells #[.int .i64 m.f_Kind, .int .i64 m.f_From, .int .i64 m.f_To, .int .i64 m.f_Group, .int .i64 m.f_Slot, .int .u64 m.f_Ballot, .string m.f_Value, .slice m.f_Votes.a (m.f_Votes.xs).length m.f_Votes.c] 26 (0, 0)) :: F))) ?_
     refine h_next ?_
     refine h_one 3 rfl (by kernel_rfl) ?_
     refine l_conv (L' := row e_RVote.T e_RVote.sz a52 ((q37.f_Votes.xs.map toR)).length c52 (flat e_RVote (q37.f_Votes.xs.map toR)) :: blk b11 (.cells #[.int .i64 q46.f_Kind, .int .i64 q46.f_From, .int .i64 q46.f_To, .int .i64 q46.f_Group, .int .i64 q46.f_Slot, .int .u64 q46.f_Ballot, .string q46.f_Value, .slice q46.f_Votes.a (q46.f_Votes.xs).length q46.f_Votes.c] 26 (0, 0)) :: row e_Vote.T e_Vote.sz q46.f_Votes.a (q46.f_Votes.xs).length q46.f_Votes.c (flat e_Vote q46.f_Votes.xs) :: row e8.T e8.sz a45 (out24 ++ xs).length c45 (flat e8 (out24 ++ xs)) :: blk b9 (.cells #[.int .i64 q37.f_Kind, .int .i64 q37.f_From, .int .i64 q37.f_To, .int .i64 q37.f_Group, .int .i64 q37.f_Slot, .int .u64 q37.f_Ballot, .string q37.f_Value, .slice q37.f_Votes.a (q37.f_Votes.xs).length q37.f_Votes.c] 26 (0, 0)) :: row e_Vote.T e_Vote.sz q37.f_Votes.a (q37.f_Votes.xs).length q37.f_Votes.c (flat e_Vote q37.f_Votes.xs) :: blk b3 (.cells #[.int .i64 m.f_Kind, .int .i64 m.f_From, .int .i64 m.f_To, .int .i64 m.f_Group, .int .i64 m.f_Slot, .int .u64 m.f_Ballot, .string m.f_Value, .slice m.f_Votes.a (m.f_Votes.xs).length m.f_Votes.c] 26 (0, 0)) :: F) (fun w S => S.perm List.perm_append_comm) ?_
     refine o_call rfl cal12 rfl (of_ (m := m) (rds_c (rds_c (rds_c (rds_c (rds_c (rds_c (rds_c T_m))))))) (by first | assumption | (try dsimp only); omega) (by have := hg16 (by assumption); omega)) ?_
     rintro _ _ ⟨a54, c54, rfl, rfl⟩
     refine l_nil ?_
     refine q_conv (L' := (blk b11 (.cells #[.int .i64 q46.f_Kind, .int .i64 q46.f_From, .int .i64 q46.f_To, .int .i64 q46.f_Group, .int .i64 q46.f_Slot, .int .u64 q46.f_Ballot, .string q46.f_Value, .slice q46.f_Votes.a (q46.f_Votes.xs).length q46.f_Votes.c] 26 (0, 0)) :: row e_Vote.T e_Vote.sz q46.f_Votes.a (q46.f_Votes.xs).length q46.f_Votes.c (flat e_Vote q46.f_Votes.xs) :: row e8.T e8.sz a45 (out24 ++ xs).length c45 (flat e8 (out24 ++ xs)) :: blk b9 (.cells #[.int .i64 q37.f_Kind, .int .i64 q37.f_From, .int .i64 q37.f_To, .int .i64 q37.f_Group, .int .i64 q37.f_Slot, .int .u64 q37.f_Ballot, .string q37.f_Value, .slice q37.f_Votes.a (q37.f_Votes.xs).length q37.f_Votes.c] 26 (0, 0)) :: row e_Vote.T e_Vote.sz q37.f_Votes.a (q37.f_Votes.xs).length q37.f_Votes.c (flat e_Vote q37.f_Votes.xs) :: blk b3 (.cells #[.int .i64 m.f_Kind, .int .i64 m.f_From, .int .i64 m.f_To, .int .i64 m.f_Group, .int .i64 m.f_Slot, .int .u64 m.f_Ballot, .string m.f_Value, .slice m.f_Votes.a (m.f_Votes.xs).length m.f_Votes.c] 26 (0, 0)) :: F) ++ [row e_RVote.T e_RVote.sz a54 ((m.f_Votes.xs.map toR)).length c54 (flat e_RVote (m.f_Votes.xs.map toR)), row e_RVote.T e_RVote.sz a52 ((q37.f_Votes.xs.map toR)).length c52 (flat e_RVote (q37.f_Votes.xs.map toR))]) (fun w S => S.perm (List.perm_append_comm (l₁ := [row e_RVote.T e_RVote.sz a54 ((m.f_Votes.xs.map toR)).length c54 (flat e_RVote (m.f_Votes.xs.map toR)), row e_RVote.T e_RVote.sz a52 ((q37.f_Votes.xs.map toR)).length c52 (flat e_RVote (q37.f_Votes.xs.map toR))]) (l₂ := blk b11 (.cells #[.int .i64 q46.f_Kind, .int .i64 q46.f_From, .int .i64 q46.f_To, .int .i64 q46.f_Group, .int .i64 q46.f_Slot, .int .u64 q46.f_Ballot, .string q46.f_Value, .slice q46.f_Votes.a (q46.f_Votes.xs).length q46.f_Votes.c] 26 (0, 0)) :: row e_Vote.T e_Vote.sz q46.f_Votes.a (q46.f_Votes.xs).length q46.f_Votes.c (flat e_Vote q46.f_Votes.xs) :: row e8.T e8.sz a45 (out24 ++ xs).length c45 (flat e8 (out24 ++ xs)) :: blk b9 (.cells #[.int .i64 q37.f_Kind, .int .i64 q37.f_From, .int .i64 q37.f_To, .int .i64 q37.f_Group, .int .i64 q37.f_Slot, .int .u64 q37.f_Ballot, .string q37.f_Value, .slice q37.f_Votes.a (q37.f_Votes.xs).length q37.f_Votes.c] 26 (0, 0)) :: row e_Vote.T e_Vote.sz q37.f_Votes.a (q37.f_Votes.xs).length q37.f_Votes.c (flat e_Vote q37.f_Votes.xs) :: blk b3 (.cells #[.int .i64 m.f_Kind, .int .i64 m.f_From, .int .i64 m.f_To, .int .i64 m.f_Group, .int .i64 m.f_Slot, .int .u64 m.f_Ballot, .string m.f_Value, .slice m.f_Votes.a (m.f_Votes.xs).length m.f_Votes.c] 26 (0, 0)) :: F))) ?_
     refine h_next ?_
     refine h_one 4 rfl (by kernel_rfl) ?_
     refine l_conv (L' := row e_RVote.T e_RVote.sz a54 ((m.f_Votes.xs.map toR)).length c54 (flat e_RVote (m.f_Votes.xs.map toR)) :: row e_RVote.T e_RVote.sz a52 ((q37.f_Votes.xs.map toR)).length c52 (flat e_RVote (q37.f_Votes.xs.map toR)) :: blk b11 (.cells #[.int .i64 q46.f_Kind, .int .i64 q46.f_From, .int .i64 q46.f_To, .int .i64 q46.f_Group, .int .i64 q46.f_Slot, .int .u64 q46.f_Ballot, .string q46.f_Value, .slice q46.f_Votes.a (q46.f_Votes.xs).length q46.f_Votes.c] 26 (0, 0)) :: row e_Vote.T e_Vote.sz q46.f_Votes.a (q46.f_Votes.xs).length q46.f_Votes.c (flat e_Vote q46.f_Votes.xs) :: row e8.T e8.sz a45 (out24 ++ xs).length c45 (flat e8 (out24 ++ xs)) :: blk b9 (.cells #[.int .i64 q37.f_Kind, .int .i64 q37.f_From, .int .i64 q37.f_To, .int .i64 q37.f_Group, .int .i64 q37.f_Slot, .int .u64 q37.f_Ballot, .string q37.f_Value, .slice q37.f_Votes.a (q37.f_Votes.xs).length q37.f_Votes.c] 26 (0, 0)) :: row e_Vote.T e_Vote.sz q37.f_Votes.a (q37.f_Votes.xs).length q37.f_Votes.c (flat e_Vote q37.f_Votes.xs) :: blk b3 (.cells #[.int .i64 m.f_Kind, .int .i64 m.f_From, .int .i64 m.f_To, .int .i64 m.f_Group, .int .i64 m.f_Slot, .int .u64 m.f_Ballot, .string m.f_Value, .slice m.f_Votes.a (m.f_Votes.xs).length m.f_Votes.c] 26 (0, 0)) :: F) (fun w S => S.perm List.perm_append_comm) ?_
     refine o_call rfl cal11 rfl (same_ (p := (⟨q37.f_Kind, q37.f_From, q37.f_To, q37.f_Group, q37.f_Slot, q37.f_Ballot, q37.f_Value, ⟨a52, (q37.f_Votes.xs.map toR), c52⟩⟩ : RMsg)) (q := (⟨m.f_Kind, m.f_From, m.f_To, m.f_Group, m.f_Slot, m.f_Ballot, m.f_Value, ⟨a54, (m.f_Votes.xs.map toR), c54⟩⟩ : RMsg)) (rds_own e_RVote_ok 1 rfl) (by first | assumption | (try dsimp only); (try simp only [List.length_map, List.length_nil]); omega) (rds_own e_RVote_ok 0 rfl) (by first | assumption | (try dsimp only); (try simp only [List.length_map, List.length_nil]); omega)) ?_
     rintro _ _ ⟨rfl, rfl⟩
     refine l_nil ?_
     refine q_conv (L' := (blk b11 (.cells #[.int .i64 q46.f_Kind, .int .i64 q46.f_From, .int .i64 q46.f_To, .int .i64 q46.f_Group, .int .i64 q46.f_Slot, .int .u64 q46.f_Ballot, .string q46.f_Value, .slice q46.f_Votes.a (q46.f_Votes.xs).length q46.f_Votes.c] 26 (0, 0)) :: row e_Vote.T e_Vote.sz q46.f_Votes.a (q46.f_Votes.xs).length q46.f_Votes.c (flat e_Vote q46.f_Votes.xs) :: row e8.T e8.sz a45 (out24 ++ xs).length c45 (flat e8 (out24 ++ xs)) :: blk b9 (.cells #[.int .i64 q37.f_Kind, .int .i64 q37.f_From, .int .i64 q37.f_To, .int .i64 q37.f_Group, .int .i64 q37.f_Slot, .int .u64 q37.f_Ballot, .string q37.f_Value, .slice q37.f_Votes.a (q37.f_Votes.xs).length q37.f_Votes.c] 26 (0, 0)) :: row e_Vote.T e_Vote.sz q37.f_Votes.a (q37.f_Votes.xs).length q37.f_Votes.c (flat e_Vote q37.f_Votes.xs) :: blk b3 (.cells #[.int .i64 m.f_Kind, .int .i64 m.f_From, .int .i64 m.f_To, .int .i64 m.f_Group, .int .i64 m.f_Slot, .int .u64 m.f_Ballot, .string m.f_Value, .slice m.f_Votes.a (m.f_Votes.xs).length m.f_Votes.c] 26 (0, 0)) :: F) ++ [row e_RVote.T e_RVote.sz a54 ((m.f_Votes.xs.map toR)).length c54 (flat e_RVote (m.f_Votes.xs.map toR)), row e_RVote.T e_RVote.sz a52 ((q37.f_Votes.xs.map toR)).length c52 (flat e_RVote (q37.f_Votes.xs.map toR))]) (fun w S => S.perm (List.perm_append_comm (l₁ := [row e_RVote.T e_RVote.sz a54 ((m.f_Votes.xs.map toR)).length c54 (flat e_RVote (m.f_Votes.xs.map toR)), row e_RVote.T e_RVote.sz a52 ((q37.f_Votes.xs.map toR)).length c52 (flat e_RVote (q37.f_Votes.xs.map toR))]) (l₂ := blk b11 (.cells #[.int .i64 q46.f_Kind, .int .i64 q46.f_From, .int .i64 q46.f_To, .int .i64 q46.f_Group, .int .i64 q46.f_Slot, .int .u64 q46.f_Ballot, .string q46.f_Value, .slice q46.f_Votes.a (q46.f_Votes.xs).length q46.f_Votes.c] 26 (0, 0)) :: row e_Vote.T e_Vote.sz q46.f_Votes.a (q46.f_Votes.xs).length q46.f_Votes.c (flat e_Vote q46.f_Votes.xs) :: row e8.T e8.sz a45 (out24 ++ xs).length c45 (flat e8 (out24 ++ xs)) :: blk b9 (.cells #[.int .i64 q37.f_Kind, .int .i64 q37.f_From, .int .i64 q37.f_To, .int .i64 q37.f_Group, .int .i64 q37.f_Slot, .int .u64 q37.f_Ballot, .string q37.f_Value, .slice q37.f_Votes.a (q37.f_Votes.xs).length q37.f_Votes.c] 26 (0, 0)) :: row e_Vote.T e_Vote.sz q37.f_Votes.a (q37.f_Votes.xs).length q37.f_Votes.c (flat e_Vote q37.f_Votes.xs) :: blk b3 (.cells #[.int .i64 m.f_Kind, .int .i64 m.f_From, .int .i64 m.f_To, .int .i64 m.f_Group, .int .i64 m.f_Slot, .int .u64 m.f_Ballot, .string m.f_Value, .slice m.f_Votes.a (m.f_Votes.xs).length m.f_Votes.c] 26 (0, 0)) :: F))) ?_
     refine h_next ?_
     refine h_take 5 rfl rfl (by kernel_rfl) (by kernel_rfl) (by kernel_rfl) (fun L0 => v_not rfl rfl) ?_
     refine h_eq (t := 56) (v' := .bool true) rfl (show _ = Value.bool true from by rw [decide_eq_false (cut_not ho hmod (hct ▸ hq37.yes (by assumption)))]; rfl) ?_
     refine h_take 6 rfl rfl (by kernel_rfl) (by kernel_rfl) (by kernel_rfl) (fun L0 => v_assign rfl rfl) ?_
     refine h_done (by kernel_rfl) ?_
     refine q_conv (L' := row e_RVote.T e_RVote.sz a54 ((m.f_Votes.xs.map toR)).length c54 (flat e_RVote (m.f_Votes.xs.map toR)) :: row e_RVote.T e_RVote.sz a52 ((q37.f_Votes.xs.map toR)).length c52 (flat e_RVote (q37.f_Votes.xs.map toR)) :: blk b11 (.cells #[.int .i64 q46.f_Kind, .int .i64 q46.f_From, .int .i64 q46.f_To, .int .i64 q46.f_Group, .int .i64 q46.f_Slot, .int .u64 q46.f_Ballot, .string q46.f_Value, .slice q46.f_Votes.a (q46.f_Votes.xs).length q46.f_Votes.c] 26 (0, 0)) :: row e_Vote.T e_Vote.sz q46.f_Votes.a (q46.f_Votes.xs).length q46.f_Votes.c (flat e_Vote q46.f_Votes.xs) :: row e8.T e8.sz a45 (out24 ++ xs).length c45 (flat e8 (out24 ++ xs)) :: blk b9 (.cells #[.int .i64 q37.f_Kind, .int .i64 q37.f_From, .int .i64 q37.f_To, .int .i64 q37.f_Group, .int .i64 q37.f_Slot, .int .u64 q37.f_Ballot, .string q37.f_Value, .slice q37.f_Votes.a (q37.f_Votes.xs).length q37.f_Votes.c] 26 (0, 0)) :: row e_Vote.T e_Vote.sz q37.f_Votes.a (q37.f_Votes.xs).length q37.f_Votes.c (flat e_Vote q37.f_Votes.xs) :: blk b3 (.cells #[.int .i64 m.f_Kind, .int .i64 m.f_From, .int .i64 m.f_To, .int .i64 m.f_Group, .int .i64 m.f_Slot, .int .u64 m.f_Ballot, .string m.f_Value, .slice m.f_Votes.a (m.f_Votes.xs).length m.f_Votes.c] 26 (0, 0)) :: F) (fun w S => S.perm List.perm_append_comm) ?_
     refine q_then ?_
     refine c_ret ?_
     refine q_pass_ret ?_
     refine q_conv (fun w S => S.tail) ?_
     refine q_conv (fun w S => S.tail) ?_
     refine q_conv (fun w S => S.tail) ?_
     refine q_conv (fun w S => S.tail) ?_
     refine q_conv (fun w S => S.tail) ?_
     refine q_conv (fun w S => S.tail) ?_
     refine q_conv (fun w S => S.tail) ?_
     refine q_conv (fun w S => S.tail) ?_
     exact f_ret (r_one rfl rfl) (⟨rfl, rfl⟩) (fun w S => S)
    · -- h4F
     have h4b := h4
     try simp only [decide_eq_false_iff_not, Int.not_lt, Int.not_le] at h4
     refine c_skip ?_
     refine q_then ?_
     refine c_seq ?_
     refine c_region ?_
     refine o_move rfl rfl ?_
     refine o_bin rfl rfl rfl b_eql ?_
     refine l_eq (t := 58) (v' := .bool true) rfl (show _ = Value.bool true from by rw [decide_eq_true (hq37.no (by assumption)).1]) ?_
     refine o_move rfl rfl ?_
     refine o_yes rfl rfl rfl ?_
     refine o_move rfl rfl ?_
     refine o_yes rfl rfl rfl ?_
     refine o_len rfl rfl Try.underlying28 ?_
     refine o_yes rfl rfl rfl ?_
     refine o_bin rfl rfl rfl b_gtr ?_
     refine o_yes rfl rfl rfl ?_
     refine o_move rfl rfl ?_
     refine l_split (t := 63) rfl (fun h5 => ?_) (fun h5 => ?_)
     · -- h5T
      have h5b := h5
      try simp only [decide_eq_true_eq] at h5
      refine o_no rfl rfl rfl rfl ?_
      refine o_no rfl rfl rfl rfl ?_
      refine o_yes rfl rfl rfl ?_
      refine o_pick_true rfl rfl rfl ?_
      refine o_pick_true rfl rfl rfl ?_
      refine o_assign rfl rfl ?_
      refine l_nil ?_
      refine q_then ?_
      refine c_ret ?_
      refine q_conv (fun w S => S.tail) ?_
      refine q_conv (fun w S => S.tail) ?_
      refine q_conv (fun w S => S.tail) ?_
      refine q_conv (fun w S => S.tail) ?_
      refine q_conv (fun w S => S.tail) ?_
      refine q_conv (fun w S => S.tail) ?_
      exact f_ret (r_one rfl rfl) (⟨rfl, rfl⟩) (fun w S => S)
     · -- h5F
      have h5b := h5
      try simp only [decide_eq_false_iff_not, Int.not_lt, Int.not_le] at h5
      refine o_yes rfl rfl rfl ?_
      refine o_move rfl rfl ?_
      refine o_yes rfl rfl rfl ?_
      refine o_bin rfl rfl rfl b_eql ?_
      refine l_eq (t := 65) (v' := .bool true) rfl (show _ = Value.bool true from by rw [decide_eq_true (hq46.good ⟨hok, wf_m, by rw [List.eq_nil_of_length_eq_zero (l := xs) (by omega)]; simpa using ho⟩)]) ?_
      refine o_yes rfl rfl rfl ?_
      refine o_pick_false rfl rfl rfl ?_
      refine o_pick_true rfl rfl rfl ?_
      refine o_assign rfl rfl ?_
      refine l_nil ?_
      refine q_then ?_
      refine c_ret ?_
      refine q_conv (fun w S => S.tail) ?_
      refine q_conv (fun w S => S.tail) ?_
      refine q_conv (fun w S => S.tail) ?_
      refine q_conv (fun w S => S.tail) ?_
      refine q_conv (fun w S => S.tail) ?_
      refine q_conv (fun w S => S.tail) ?_
      exact f_ret (r_one rfl rfl) (⟨rfl, rfl⟩) (fun w S => S)

end Go.Proofs.Ytoigakfglgdjdaa
