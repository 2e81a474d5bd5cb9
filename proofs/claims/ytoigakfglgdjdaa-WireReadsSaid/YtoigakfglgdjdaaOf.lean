/- Printed by eng2.py out of 18/spec.py. -/
import Derived.Test.YtoigakfglgdjdaaSeq
set_option linter.unusedVariables false
set_option linter.unusedSimpArgs false
set_option maxRecDepth 10000
namespace Go.Proofs.Ytoigakfglgdjdaa
open Go.RowKit Classical
def toR (v : Vote) : RVote := ⟨v.f_Slot, v.f_Ballot, v.f_Value⟩
theorem take_map_on {vs : List Vote} {i : Nat} {v : Vote} (h : vs[i]? = some v) : (vs.take (i + 1)).map toR = (vs.take i).map toR ++ [toR v] := by
  obtain ⟨hi, hx⟩ := List.getElem?_eq_some_iff.1 h
  rw [List.take_succ_eq_append_getElem hi, List.map_append, hx]; rfl
/-- What two messages are one by. -/
def SameM (p q : RMsg) : Prop := p.f_Kind = q.f_Kind ∧ p.f_From = q.f_From ∧ p.f_To = q.f_To ∧ p.f_Group = q.f_Group ∧ p.f_Slot = q.f_Slot ∧ p.f_Ballot = q.f_Ballot ∧ p.f_Value = q.f_Value ∧ p.f_Votes.xs = q.f_Votes.xs
theorem eqTo_on {α : Type} {xs ys : List α} {i : Nat} {x y : α} (h : ∀ j, j < i → xs[j]? = ys[j]?) (hx : xs[i]? = some x) (hy : ys[i]? = some y) (e : x = y) : ∀ j, j < i + 1 → xs[j]? = ys[j]? := fun j hj => by
  by_cases hji : j < i
  · exact h j hji
  · obtain rfl : j = i := by omega
    rw [hx, hy, e]
theorem eqTo_all {α : Type} {xs ys : List α} {i : Nat} (h : ∀ j, j < i → xs[j]? = ys[j]?) (hl : xs.length = ys.length) (hi : xs.length ≤ i) : xs = ys := List.ext_getElem? fun j => by
  by_cases hj : j < i
  · exact h j hj
  · rw [List.getElem?_eq_none (by omega), List.getElem?_eq_none (by omega)]
theorem great_ {W : World} {F : List Res} {m : Msg} (T_m : RdS W F e_Vote m.f_Votes.a m.f_Votes.xs) (hn_m : m.f_Votes.xs.length ≤ 9223372036854775807) : CS Try.prog 9 #[.agg #[.int .i64 m.f_Kind, .int .i64 m.f_From, .int .i64 m.f_To, .int .i64 m.f_Group, .int .i64 m.f_Slot, .int .u64 m.f_Ballot, .string m.f_Value, .slice m.f_Votes.a (m.f_Votes.xs).length m.f_Votes.c]] W (F) (fun r L' => ∃ g : Bool, (g = false → m.f_Votes.xs.length ≤ 3000) ∧ r = .bool g ∧ F = L') := by
 refine f_door (l0 := [(0, .agg #[.int .i64 m.f_Kind, .int .i64 m.f_From, .int .i64 m.f_To, .int .i64 m.f_Group, .int .i64 m.f_Slot, .int .u64 m.f_Ballot, .string m.f_Value, .slice m.f_Votes.a (m.f_Votes.xs).length m.f_Votes.c])]) Try.func9 Try.ntmps9 rfl rfl rfl ?_
 refine c_seq ?_
 refine c_region ?_
 refine o_box rfl rfl fun b1 => ?_
 refine o_assign rfl rfl ?_
 refine l_nil ?_
 refine q_then ?_
 refine c_seq ?_
 refine c_region ?_
 refine o_assign rfl rfl ?_
 refine l_nil ?_
 refine q_then ?_
 refine c_seq ?_
 refine c_seq ?_
 refine c_region ?_
 refine o_assign rfl rfl ?_
 refine l_nil ?_
 refine q_then ?_
 refine c_block ?_
 refine c_loop (α := Nat × Int) (fun z => [(1, .pointer (some ⟨b1, 0, none⟩)), (3, .int .i64 z.2), (4, .int .i64 (z.1 : Int))]) (fun z => blk b1 (.cells #[.int .i64 m.f_Kind, .int .i64 m.f_From, .int .i64 m.f_To, .int .i64 m.f_Group, .int .i64 m.f_Slot, .int .u64 m.f_Ballot, .string m.f_Value, .slice m.f_Votes.a (m.f_Votes.xs).length m.f_Votes.c] 26 (0, 0)) :: F) (fun z => z.1 ≤ m.f_Votes.xs.length ∧ 10 * (z.1 : Int) ≤ z.2 ∧ z.2 ≤ 30000) (fun z => m.f_Votes.xs.length - z.1) (0, 0) (by exact ⟨Nat.zero_le _, by decide, by decide⟩) ⟨(by first | rfl | exact vint (by omega)), (by first | rfl | exact vint (by omega)), (by first | rfl | exact vint (by omega)), trivial⟩ (fun w S => S) ?_
 rintro ⟨i, n⟩ ⟨hi, hn1, hn2⟩
 try dsimp only at *
 refine c_seq ?_
 refine c_seq ?_
 refine c_region ?_
 refine o_move rfl rfl ?_
 refine o_fieldAddr (q := ⟨b1, 7, none⟩) rfl rfl Try.underlying26 rfl ti24 rfl ?_
 refine o_load1 rfl rfl Try.underlying24 rfl (rd_mem 0 rfl rfl) ?_
 refine o_len rfl rfl Try.underlying24 ?_
 refine o_bin rfl rfl rfl b_lss ?_
 refine l_nil ?_
 refine q_then ?_
 refine c_cond rfl (fun h1 => ?_) (fun h1 => ?_)
 · -- h1T
  have h1b := h1
  try simp only [decide_eq_true_eq] at h1
  refine c_skip ?_
  refine q_then ?_
  refine c_seq ?_
  refine c_block ?_
  refine c_seq ?_
  refine c_seq ?_
  refine c_fact (p := ∃ ad, m.f_Votes.a = some ad) (rds_some (e := e_Vote) (xs := m.f_Votes.xs) (rds_c T_m) (by intro h0; have h00 := congrArg List.length h0; simp only [List.length_nil] at h00; omega)) ?_
  rintro ⟨adx, eadx⟩
  refine c_region ?_
  refine o_fieldAddr (q := ⟨b1, 7, none⟩) rfl rfl Try.underlying26 rfl ti24 rfl ?_
  refine o_load1 rfl rfl Try.underlying24 rfl (rd_mem 0 rfl rfl) ?_
  refine o_move rfl rfl ?_
  refine o_indexK e_Vote_ok eadx rfl rfl rfl Try.underlying24 (by omega) (by omega) ?_
  obtain ⟨x15, hx15⟩ : ∃ x, (m.f_Votes.xs)[((i : Int)).toNat]? = some x := ⟨_, List.getElem?_eq_getElem (by omega)⟩
  refine o_fieldAddr rfl rfl Try.underlying48 rfl ti9 (Addr.add_add' _ _ _) ?_
  refine o_load1 rfl rfl Try.underlying9 rfl (rd_sl e_Vote_ok eadx (rds_c T_m) hx15 rfl) ?_
  refine o_lenStr rfl rfl Try.underlying9 ?_
  refine o_bin rfl rfl rfl b_gtr ?_
  refine o_move rfl rfl ?_
  refine l_split (t := 20) rfl (fun h2 => ?_) (fun h2 => ?_)
  · -- h2T
   have h2b := h2
   try simp only [decide_eq_true_eq] at h2
   refine o_no rfl rfl rfl rfl ?_
   refine o_no rfl rfl rfl rfl ?_
   refine o_pick_true rfl rfl rfl ?_
   refine l_nil ?_
   refine q_then ?_
   refine c_true rfl ?_
   refine c_seq ?_
   refine c_region ?_
   refine o_assign rfl rfl ?_
   refine l_nil ?_
   refine q_then ?_
   refine c_ret ?_
   refine q_pass_ret ?_
   refine q_block_ret ?_
   refine q_pass_ret ?_
   refine q_pass_ret ?_
   refine q_block_ret ?_
   refine q_pass_ret ?_
   refine q_conv (fun w S => S.tail) ?_
   exact f_ret (r_one rfl rfl) (⟨true, fun h9 => absurd h9 (by decide), rfl, rfl⟩) (fun w S => S)
  · -- h2F
   have h2b := h2
   try simp only [decide_eq_false_iff_not, Int.not_lt, Int.not_le] at h2
   refine o_yes rfl rfl rfl ?_
   refine o_move rfl rfl ?_
   refine o_yes rfl rfl rfl ?_
   refine o_bin rfl rfl rfl b_gtr ?_
   refine o_pick_false rfl rfl rfl ?_
   refine l_nil ?_
   refine q_then ?_
   refine c_cond rfl (fun h3 => ?_) (fun h3 => ?_)
   · -- h3T
    have h3b := h3
    try simp only [decide_eq_true_eq] at h3
    refine c_seq ?_
    refine c_region ?_
    refine o_assign rfl rfl ?_
    refine l_nil ?_
    refine q_then ?_
    refine c_ret ?_
    refine q_pass_ret ?_
    refine q_block_ret ?_
    refine q_pass_ret ?_
    refine q_pass_ret ?_
    refine q_block_ret ?_
    refine q_pass_ret ?_
    refine q_conv (fun w S => S.tail) ?_
    exact f_ret (r_one rfl rfl) (⟨true, fun h9 => absurd h9 (by decide), rfl, rfl⟩) (fun w S => S)
   · -- h3F
    have h3b := h3
    try simp only [decide_eq_false_iff_not, Int.not_lt, Int.not_le] at h3
    refine c_skip ?_
    refine q_then ?_
    refine c_region ?_
    refine o_move rfl rfl ?_
    refine o_fieldAddr (q := ⟨b1, 7, none⟩) rfl rfl Try.underlying26 rfl ti24 rfl ?_
    refine o_load1 rfl rfl Try.underlying24 rfl (rd_mem 0 rfl rfl) ?_
    refine o_move rfl rfl ?_
    refine o_indexK e_Vote_ok eadx rfl rfl rfl Try.underlying24 (by omega) (by omega) ?_
    obtain ⟨x28, hx28⟩ : ∃ x, (m.f_Votes.xs)[((i : Int)).toNat]? = some x := ⟨_, List.getElem?_eq_getElem (by omega)⟩
    have e28 : x28 = x15 := by rw [hx15] at hx28; exact (Option.some.inj hx28).symm
    have e28' : x28.f_Value.size = x15.f_Value.size := by rw [e28]
    refine o_fieldAddr rfl rfl Try.underlying48 rfl ti9 (Addr.add_add' _ _ _) ?_
    refine o_load1 rfl rfl Try.underlying9 rfl (rd_sl e_Vote_ok eadx (rds_c T_m) hx28 rfl) ?_
    refine o_lenStr rfl rfl Try.underlying9 ?_
    refine o_bin rfl rfl rfl (b_add (wrap_i64 (by omega) (by omega))) ?_
    refine o_bin rfl rfl rfl (b_add (wrap_i64 (by omega) (by omega))) ?_
    refine o_assign rfl rfl ?_
    refine l_nil ?_
    refine q_block ?_
    refine q_then ?_
    refine c_region ?_
    refine o_move rfl rfl ?_
    refine o_bin rfl rfl rfl (b_add (wrap_i64 (by omega) (by omega))) ?_
    refine o_assign rfl rfl ?_
    refine l_nil ?_
    exact q_round (i + 1, n + (((x28.f_Value).size : Int) + 10)) (by exact ⟨by omega, by omega, by omega⟩) (by (try dsimp only); omega) ⟨(by first | rfl | exact vint (by omega)), (by first | rfl | exact vint (by omega)), (by first | rfl | exact vint (by omega)), trivial⟩ (fun w S => S)
 · -- h1F
  have h1b := h1
  try simp only [decide_eq_false_iff_not, Int.not_lt, Int.not_le] at h1
  refine c_exit ?_
  refine q_pass_exit ?_
  refine q_pass_exit ?_
  refine q_hit ?_
  refine q_then ?_
  refine c_seq ?_
  refine c_region ?_
  refine o_move rfl rfl ?_
  refine o_bin rfl rfl rfl b_gtr ?_
  refine o_move rfl rfl ?_
  refine l_split (t := 36) rfl (fun h4 => ?_) (fun h4 => ?_)
  · -- h4T
   have h4b := h4
   try simp only [decide_eq_true_eq] at h4
   refine o_no rfl rfl rfl rfl ?_
   refine o_no rfl rfl rfl rfl ?_
   refine o_no rfl rfl rfl rfl ?_
   refine o_no rfl rfl rfl rfl ?_
   refine o_pick_true rfl rfl rfl ?_
   refine o_assign rfl rfl ?_
   refine l_nil ?_
   refine q_then ?_
   refine c_ret ?_
   refine q_conv (fun w S => S.tail) ?_
   exact f_ret (r_one rfl rfl) (⟨true, fun h9 => absurd h9 (by decide), rfl, rfl⟩) (fun w S => S)
  · -- h4F
   have h4b := h4
   try simp only [decide_eq_false_iff_not, Int.not_lt, Int.not_le] at h4
   refine o_yes rfl rfl rfl ?_
   refine o_fieldAddr (q := ⟨b1, 6, none⟩) rfl rfl Try.underlying26 rfl ti9 rfl ?_
   refine o_yes rfl rfl rfl ?_
   refine o_load1 rfl rfl Try.underlying9 rfl (rd_mem 0 rfl rfl) ?_
   refine o_yes rfl rfl rfl ?_
   refine o_lenStr rfl rfl Try.underlying9 ?_
   refine o_yes rfl rfl rfl ?_
   refine o_bin rfl rfl rfl b_gtr ?_
   refine o_pick_false rfl rfl rfl ?_
   refine o_assign rfl rfl ?_
   refine l_nil ?_
   refine q_then ?_
   refine c_ret ?_
   refine q_conv (fun w S => S.tail) ?_
   exact f_ret (r_one rfl rfl) (⟨_, fun h9 => by first | (cases h9; done) | (simp only [decide_eq_false_iff_not] at h9; omega) | omega, rfl, rfl⟩) (fun w S => S)

theorem of_ {W : World} {F : List Res} {m : Msg} (T_m : RdS W F e_Vote m.f_Votes.a m.f_Votes.xs) (hn_m : m.f_Votes.xs.length ≤ 9223372036854775807) (hv : m.f_Votes.xs.length ≤ 100000) : CS Try.prog 12 #[.agg #[.int .i64 m.f_Kind, .int .i64 m.f_From, .int .i64 m.f_To, .int .i64 m.f_Group, .int .i64 m.f_Slot, .int .u64 m.f_Ballot, .string m.f_Value, .slice m.f_Votes.a (m.f_Votes.xs).length m.f_Votes.c]] W (F) (fun r L' => ∃ (a' : Option Addr) (c' : Nat), r = .agg (e_RMsg.cells ⟨m.f_Kind, m.f_From, m.f_To, m.f_Group, m.f_Slot, m.f_Ballot, m.f_Value, ⟨a', m.f_Votes.xs.map toR, c'⟩⟩).toArray ∧ L' = row e_RVote.T e_RVote.sz a' ((m.f_Votes.xs.map toR)).length c' (flat e_RVote (m.f_Votes.xs.map toR)) :: F) := by
 refine f_door (l0 := [(0, .agg #[.int .i64 m.f_Kind, .int .i64 m.f_From, .int .i64 m.f_To, .int .i64 m.f_Group, .int .i64 m.f_Slot, .int .u64 m.f_Ballot, .string m.f_Value, .slice m.f_Votes.a (m.f_Votes.xs).length m.f_Votes.c])]) Try.func12 Try.ntmps12 rfl rfl rfl ?_
 refine c_seq ?_
 refine c_region ?_
 refine o_box rfl rfl fun b1 => ?_
 refine o_alloc rfl ti35 fun b2 => ?_
 refine l_nil ?_
 refine q_then ?_
 refine c_seq ?_
 refine c_region ?_
 refine o_fieldAddr (q := ⟨b1, 0, none⟩) rfl rfl Try.underlying26 rfl ti3 rfl ?_
 refine o_load1 rfl rfl Try.underlying3 rfl (rd_mem 1 rfl rfl) ?_
 refine o_fieldAddr (q := ⟨b1, 1, none⟩) rfl rfl Try.underlying26 rfl ti3 rfl ?_
 refine o_load1 rfl rfl Try.underlying3 rfl (rd_mem 1 rfl rfl) ?_
 refine o_fieldAddr (q := ⟨b1, 2, none⟩) rfl rfl Try.underlying26 rfl ti3 rfl ?_
 refine o_load1 rfl rfl Try.underlying3 rfl (rd_mem 1 rfl rfl) ?_
 refine o_fieldAddr (q := ⟨b1, 3, none⟩) rfl rfl Try.underlying26 rfl ti3 rfl ?_
 refine o_load1 rfl rfl Try.underlying3 rfl (rd_mem 1 rfl rfl) ?_
 refine o_fieldAddr (q := ⟨b1, 4, none⟩) rfl rfl Try.underlying26 rfl ti3 rfl ?_
 refine o_load1 rfl rfl Try.underlying3 rfl (rd_mem 1 rfl rfl) ?_
 refine o_fieldAddr (q := ⟨b1, 5, none⟩) rfl rfl Try.underlying26 rfl ti23 rfl ?_
 refine o_load1 rfl rfl Try.underlying23 rfl (rd_mem 1 rfl rfl) ?_
 refine o_fieldAddr (q := ⟨b1, 6, none⟩) rfl rfl Try.underlying26 rfl ti9 rfl ?_
 refine o_load1 rfl rfl Try.underlying9 rfl (rd_mem 1 rfl rfl) ?_
 refine o_build rfl sp35 ti35 rfl ((fill_cons (cells' := [.int .i64 m.f_Kind, .int .i64 0, .int .i64 0, .int .i64 0, .int .i64 0, .int .u64 0, .string ByteArray.empty, .slice none 0 0]) rfl rfl rfl rfl (fill_cons (cells' := [.int .i64 m.f_Kind, .int .i64 m.f_From, .int .i64 0, .int .i64 0, .int .i64 0, .int .u64 0, .string ByteArray.empty, .slice none 0 0]) rfl rfl rfl rfl (fill_cons (cells' := [.int .i64 m.f_Kind, .int .i64 m.f_From, .int .i64 m.f_To, .int .i64 0, .int .i64 0, .int .u64 0, .string ByteArray.empty, .slice none 0 0]) rfl rfl rfl rfl (fill_cons (cells' := [.int .i64 m.f_Kind, .int .i64 m.f_From, .int .i64 m.f_To, .int .i64 m.f_Group, .int .i64 0, .int .u64 0, .string ByteArray.empty, .slice none 0 0]) rfl rfl rfl rfl (fill_cons (cells' := [.int .i64 m.f_Kind, .int .i64 m.f_From, .int .i64 m.f_To, .int .i64 m.f_Group, .int .i64 m.f_Slot, .int .u64 0, .string ByteArray.empty, .slice none 0 0]) rfl rfl rfl rfl (fill_cons (cells' := [.int .i64 m.f_Kind, .int .i64 m.f_From, .int .i64 m.f_To, .int .i64 m.f_Group, .int .i64 m.f_Slot, .int .u64 m.f_Ballot, .string ByteArray.empty, .slice none 0 0]) rfl rfl rfl rfl (fill_cons (cells' := [.int .i64 m.f_Kind, .int .i64 m.f_From, .int .i64 m.f_To, .int .i64 m.f_Group, .int .i64 m.f_Slot, .int .u64 m.f_Ballot, .string m.f_Value, .slice none 0 0]) rfl rfl rfl rfl fill_nil)))))))) ?_
 refine o_alloc rfl ti35 fun b3 => ?_
 refine o_storen rfl rfl ti35 rfl rfl rfl rfl ?_
 refine l_nil ?_
 refine q_then ?_
 refine c_seq ?_
 refine c_seq ?_
 refine c_nilrow e_RVote ?_
 refine c_region ?_
 refine o_assign rfl rfl ?_
 refine l_nil ?_
 refine q_then ?_
 refine c_block ?_
 refine c_loop (α := Nat × (Option Addr) × Nat) (fun z => [(1, .pointer (some ⟨b1, 0, none⟩)), (2, .pointer (some ⟨b2, 0, none⟩)), (3, .pointer (some ⟨b3, 0, none⟩)), (4, .int .i64 (z.1 : Int))]) (fun z => row e_RVote.T e_RVote.sz z.2.1 (((m.f_Votes.xs.take z.1).map toR)).length z.2.2 (flat e_RVote ((m.f_Votes.xs.take z.1).map toR)) :: blk b3 (.cells #[.int .i64 m.f_Kind, .int .i64 m.f_From, .int .i64 m.f_To, .int .i64 m.f_Group, .int .i64 m.f_Slot, .int .u64 m.f_Ballot, .string m.f_Value, .slice z.2.1 (((m.f_Votes.xs.take z.1).map toR)).length z.2.2] 35 (0, 0)) :: blk b2 (.cells #[.int .i64 0, .int .i64 0, .int .i64 0, .int .i64 0, .int .i64 0, .int .u64 0, .string ByteArray.empty, .slice none 0 0] 35 (0, 0)) :: blk b1 (.cells #[.int .i64 m.f_Kind, .int .i64 m.f_From, .int .i64 m.f_To, .int .i64 m.f_Group, .int .i64 m.f_Slot, .int .u64 m.f_Ballot, .string m.f_Value, .slice m.f_Votes.a (m.f_Votes.xs).length m.f_Votes.c] 26 (0, 0)) :: F) (fun z => z.1 ≤ m.f_Votes.xs.length) (fun z => m.f_Votes.xs.length - z.1) (0, none, 0) (by exact Nat.zero_le _) ⟨(by first | rfl | exact vint (by omega)), (by first | rfl | exact vint (by omega)), (by first | rfl | exact vint (by omega)), (by first | rfl | exact vint (by omega)), trivial⟩ (fun w S => S) ?_
 rintro ⟨i, a9, c9⟩ hi
 try dsimp only at *
 refine c_seq ?_
 refine c_seq ?_
 refine c_region ?_
 refine o_move rfl rfl ?_
 refine o_fieldAddr (q := ⟨b1, 7, none⟩) rfl rfl Try.underlying26 rfl ti24 rfl ?_
 refine o_load1 rfl rfl Try.underlying24 rfl (rd_mem 3 rfl rfl) ?_
 refine o_len rfl rfl Try.underlying24 ?_
 refine o_bin rfl rfl rfl b_lss ?_
 refine l_nil ?_
 refine q_then ?_
 refine c_cond rfl (fun h1 => ?_) (fun h1 => ?_)
 · -- h1T
  have h1b := h1
  try simp only [decide_eq_true_eq] at h1
  refine c_skip ?_
  refine q_then ?_
  refine c_seq ?_
  refine c_block ?_
  refine c_fact (p := ∃ ad, m.f_Votes.a = some ad) (rds_some (e := e_Vote) (xs := m.f_Votes.xs) (rds_c (rds_c (rds_c (rds_c T_m)))) (by intro h0; have h00 := congrArg List.length h0; simp only [List.length_nil] at h00; omega)) ?_
  rintro ⟨adx, eadx⟩
  have hml : ((m.f_Votes.xs.take i).map toR).length = i := by simp; omega
  refine c_conv (fun w S => S.perm p1) ?_
  refine c_conv (fun w S => S.perm p1) ?_
  refine c_conv (fun w S => S.perm p3) ?_
  refine c_conv (fun w S => S.perm p3) ?_
  refine c_held [blk b2 (.cells #[.int .i64 0, .int .i64 0, .int .i64 0, .int .i64 0, .int .i64 0, .int .u64 0, .string ByteArray.empty, .slice none 0 0] 35 (0, 0)), blk b1 (.cells #[.int .i64 m.f_Kind, .int .i64 m.f_From, .int .i64 m.f_To, .int .i64 m.f_Group, .int .i64 m.f_Slot, .int .u64 m.f_Ballot, .string m.f_Value, .slice m.f_Votes.a (m.f_Votes.xs).length m.f_Votes.c] 26 (0, 0))] (by kernel_rfl) rfl ?_
  refine h_take 0 rfl rfl (by kernel_rfl) (by kernel_rfl) (by kernel_rfl) (fun L0 => v_fieldAddr (q := ⟨b3, 7, none⟩) rfl rfl Try.underlying35 rfl ti33 rfl) ?_
  refine h_take 2 rfl rfl (by kernel_rfl) (by kernel_rfl) (by kernel_rfl) (fun L0 => v_fieldAddr (q := ⟨b1, 7, none⟩) rfl rfl Try.underlying26 rfl ti24 rfl) ?_
  refine h_take 3 rfl rfl (by kernel_rfl) (by kernel_rfl) (by kernel_rfl) (fun L0 => v_load1 rfl rfl Try.underlying24 rfl (rd_mem 1 rfl rfl)) ?_
  refine h_take 4 rfl rfl (by kernel_rfl) (by kernel_rfl) (by kernel_rfl) (fun L0 => v_move rfl rfl) ?_
  refine h_take 5 rfl rfl (by kernel_rfl) (by kernel_rfl) (by kernel_rfl) (fun L0 => v_indexK e_Vote_ok eadx rfl rfl rfl Try.underlying24 (by omega) (by omega)) ?_
  obtain ⟨x32, hx32⟩ : ∃ x, (m.f_Votes.xs)[((i : Int)).toNat]? = some x := ⟨_, List.getElem?_eq_getElem (by omega)⟩
  refine h_take 6 rfl rfl (by kernel_rfl) (by kernel_rfl) (by kernel_rfl) (fun L0 => v_fieldAddr rfl rfl Try.underlying48 rfl ti3 (Addr.add_add' _ _ _)) ?_
  refine h_take 8 rfl rfl (by kernel_rfl) (by kernel_rfl) (by kernel_rfl) (fun L0 => v_fieldAddr (q := ⟨b1, 7, none⟩) rfl rfl Try.underlying26 rfl ti24 rfl) ?_
  refine h_take 9 rfl rfl (by kernel_rfl) (by kernel_rfl) (by kernel_rfl) (fun L0 => v_load1 rfl rfl Try.underlying24 rfl (rd_mem 1 rfl rfl)) ?_
  refine h_take 10 rfl rfl (by kernel_rfl) (by kernel_rfl) (by kernel_rfl) (fun L0 => v_move rfl rfl) ?_
  refine h_take 11 rfl rfl (by kernel_rfl) (by kernel_rfl) (by kernel_rfl) (fun L0 => v_indexK e_Vote_ok eadx rfl rfl rfl Try.underlying24 (by omega) (by omega)) ?_
  obtain ⟨x38, hx38⟩ : ∃ x, (m.f_Votes.xs)[((i : Int)).toNat]? = some x := ⟨_, List.getElem?_eq_getElem (by omega)⟩
  refine h_take 12 rfl rfl (by kernel_rfl) (by kernel_rfl) (by kernel_rfl) (fun L0 => v_fieldAddr rfl rfl Try.underlying48 rfl ti23 (Addr.add_add' _ _ _)) ?_
  refine h_take 14 rfl rfl (by kernel_rfl) (by kernel_rfl) (by kernel_rfl) (fun L0 => v_fieldAddr (q := ⟨b1, 7, none⟩) rfl rfl Try.underlying26 rfl ti24 rfl) ?_
  refine h_take 15 rfl rfl (by kernel_rfl) (by kernel_rfl) (by kernel_rfl) (fun L0 => v_load1 rfl rfl Try.underlying24 rfl (rd_mem 1 rfl rfl)) ?_
  refine h_take 16 rfl rfl (by kernel_rfl) (by kernel_rfl) (by kernel_rfl) (fun L0 => v_move rfl rfl) ?_
  refine h_take 17 rfl rfl (by kernel_rfl) (by kernel_rfl) (by kernel_rfl) (fun L0 => v_indexK e_Vote_ok eadx rfl rfl rfl Try.underlying24 (by omega) (by omega)) ?_
  obtain ⟨x44, hx44⟩ : ∃ x, (m.f_Votes.xs)[((i : Int)).toNat]? = some x := ⟨_, List.getElem?_eq_getElem (by omega)⟩
  have hx32' : m.f_Votes.xs[i]? = some x32 := hx32
  have e38 : x38 = x32 := by rw [hx32] at hx38; exact (Option.some.inj hx38).symm
  have e44 : x44 = x32 := by rw [hx32] at hx44; exact (Option.some.inj hx44).symm
  have hval : (m.f_Votes.xs.take i).map toR ++ [⟨x32.f_Slot, x38.f_Ballot, x44.f_Value⟩] = (m.f_Votes.xs.take (i + 1)).map toR := by rw [take_map_on hx32', e38, e44]; rfl
  refine h_take 18 rfl rfl (by kernel_rfl) (by kernel_rfl) (by kernel_rfl) (fun L0 => v_fieldAddr rfl rfl Try.underlying48 rfl ti9 (Addr.add_add' _ _ _)) ?_
  refine h_many (is := [1, 7, 13, 19]) (by kernel_rfl) (by decide) (forall_cons ⟨_, rfl, ?_⟩ (forall_cons ⟨_, rfl, ?_⟩ (forall_cons ⟨_, rfl, ?_⟩ (forall_cons ⟨_, rfl, ?_⟩ forall_nil))))
  · -- 1 comes first
   refine o_load1 rfl rfl Try.underlying33 rfl (rd_mem 3 rfl rfl) ?_
   refine l_nil ?_
   refine h_next ?_
   refine h_many (is := [7, 13, 19]) (by kernel_rfl) (by decide) (forall_cons ⟨_, rfl, ?_⟩ (forall_cons ⟨_, rfl, ?_⟩ (forall_cons ⟨_, rfl, ?_⟩ forall_nil)))
   · -- 7 comes first
    refine o_load1 rfl rfl Try.underlying3 rfl (rd_sl e_Vote_ok eadx (rds_c (rds_c (rds_c (rds_c T_m)))) hx32 rfl) ?_
    refine l_nil ?_
    refine h_next ?_
    refine h_many (is := [13, 19]) (by kernel_rfl) (by decide) (forall_cons ⟨_, rfl, ?_⟩ (forall_cons ⟨_, rfl, ?_⟩ forall_nil))
    · -- 13 comes first
     refine o_load1 rfl rfl Try.underlying23 rfl (rd_sl e_Vote_ok eadx (rds_c (rds_c (rds_c (rds_c T_m)))) hx38 rfl) ?_
     refine l_nil ?_
     refine h_next ?_
     refine h_one 19 rfl (by kernel_rfl) ?_
     refine o_load1 rfl rfl Try.underlying9 rfl (rd_sl e_Vote_ok eadx (rds_c (rds_c (rds_c (rds_c T_m)))) hx44 rfl) ?_
     refine l_nil ?_
     refine h_next ?_
     refine h_take 20 rfl rfl (by kernel_rfl) (by kernel_rfl) (by kernel_rfl) (fun L0 => v_build rfl sp58 ti58 rfl ((fill_cons (cells' := [.int .i64 x32.f_Slot, .int .u64 0, .string ByteArray.empty]) rfl rfl rfl rfl (fill_cons (cells' := [.int .i64 x32.f_Slot, .int .u64 x38.f_Ballot, .string ByteArray.empty]) rfl rfl rfl rfl (fill_cons (cells' := [.int .i64 x32.f_Slot, .int .u64 x38.f_Ballot, .string x44.f_Value]) rfl rfl rfl rfl fill_nil))))) ?_
     refine h_one 21 rfl (by kernel_rfl) ?_
     refine o_lit e_RVote_ok rfl Try.underlying33 rfl rfl rfl (lit_ok rfl) [⟨x32.f_Slot, x38.f_Ballot, x44.f_Value⟩] rfl rfl fun a48 => ?_
     refine l_nil ?_
     refine q_conv (fun w S => S.perm p4) ?_
     refine q_conv (fun w S => S.perm p4) ?_
     refine q_conv (fun w S => S.perm p2) ?_
     refine q_conv (fun w S => S.perm p4) ?_
     refine q_conv (fun w S => S.perm p4) ?_
     refine h_next ?_
     refine h_one 22 rfl (by kernel_rfl) ?_
     refine l_f3 ?_
     refine o_append e_RVote_ok rfl rfl rfl Try.underlying33 (rds_own e_RVote_ok 3 rfl) (by show (_ + _) * 32 ≤ _; (try simp only [List.length_append, List.length_cons, List.length_nil]); omega) (by (try simp only [List.length_append, List.length_cons, List.length_nil]); omega) fun a49 c49 => ?_
     refine l_f3 ?_
     refine l_drop ?_
     refine l_eq (t := 49) (v' := .slice a49 (((m.f_Votes.xs.take (i + 1)).map toR)).length c49) rfl (by rw [hval]) ?_
     refine l_conv (L' := row e_RVote.T e_RVote.sz a49 (((m.f_Votes.xs.take (i + 1)).map toR)).length c49 (flat e_RVote ((m.f_Votes.xs.take (i + 1)).map toR)) :: _) (fun w S => by rw [hval] at S; exact S) ?_
     refine l_nil ?_
     refine q_conv (fun w S => S.perm p3) ?_
     refine q_conv (fun w S => S.perm p1) ?_
     refine q_conv (fun w S => S.perm p3) ?_
     refine q_conv (fun w S => S.perm p3) ?_
     refine h_next ?_
     refine h_take 23 rfl rfl (by kernel_rfl) (by kernel_rfl) (by kernel_rfl) (fun L0 => v_fieldAddr (q := ⟨b3, 7, none⟩) rfl rfl Try.underlying35 rfl ti33 rfl) ?_
     refine h_one 24 rfl (by kernel_rfl) ?_
     refine l_f3 ?_
     refine o_store1 rfl rfl rfl ti33 rfl rfl ?_
     refine l_nil ?_
     refine q_conv (fun w S => S.perm p3) ?_
     refine q_conv (fun w S => S.perm p1) ?_
     refine q_conv (fun w S => S.perm p3) ?_
     refine q_conv (fun w S => S.perm p3) ?_
     refine h_next ?_
     refine h_done (by kernel_rfl) ?_
     refine q_block ?_
     refine q_then ?_
     refine c_region ?_
     refine o_move rfl rfl ?_
     refine o_bin rfl rfl rfl (b_add (wrap_i64 (by omega) (by omega))) ?_
     refine o_assign rfl rfl ?_
     refine l_nil ?_
     refine q_conv (fun w S => S.perm p1) ?_
     refine q_conv (fun w S => S.perm p1) ?_
     refine q_conv (fun w S => S.perm p2) ?_
     refine q_conv (fun w S => S.perm p3) ?_
     exact q_round (i + 1, a49, c49) (by (try dsimp only); omega) (by (try dsimp only); omega) ⟨(by first | rfl | exact vint (by omega)), (by first | rfl | exact vint (by omega)), (by first | rfl | exact vint (by omega)), (by first | rfl | exact vint (by omega)), trivial⟩ (fun w S => S)
    · -- 19 comes first
     refine o_load1 rfl rfl Try.underlying9 rfl (rd_sl e_Vote_ok eadx (rds_c (rds_c (rds_c (rds_c T_m)))) hx44 rfl) ?_
     refine l_nil ?_
     refine h_next ?_
     refine h_one 13 rfl (by kernel_rfl) ?_
     refine o_load1 rfl rfl Try.underlying23 rfl (rd_sl e_Vote_ok eadx (rds_c (rds_c (rds_c (rds_c T_m)))) hx38 rfl) ?_
     refine l_nil ?_
     refine h_next ?_
     refine h_take 20 rfl rfl (by kernel_rfl) (by kernel_rfl) (by kernel_rfl) (fun L0 => v_build rfl sp58 ti58 rfl ((fill_cons (cells' := [.int .i64 x32.f_Slot, .int .u64 0, .string ByteArray.empty]) rfl rfl rfl rfl (fill_cons (cells' := [.int .i64 x32.f_Slot, .int .u64 x38.f_Ballot, .string ByteArray.empty]) rfl rfl rfl rfl (fill_cons (cells' := [.int .i64 x32.f_Slot, .int .u64 x38.f_Ballot, .string x44.f_Value]) rfl rfl rfl rfl fill_nil))))) ?_
     refine h_one 21 rfl (by kernel_rfl) ?_
     refine o_lit e_RVote_ok rfl Try.underlying33 rfl rfl rfl (lit_ok rfl) [⟨x32.f_Slot, x38.f_Ballot, x44.f_Value⟩] rfl rfl fun a48 => ?_
     refine l_nil ?_
     refine q_conv (fun w S => S.perm p4) ?_
     refine q_conv (fun w S => S.perm p4) ?_
     refine q_conv (fun w S => S.perm p2) ?_
     refine q_conv (fun w S => S.perm p4) ?_
     refine q_conv (fun w S => S.perm p4) ?_
     refine h_next ?_
     refine h_one 22 rfl (by kernel_rfl) ?_
     refine l_f3 ?_
     refine o_append e_RVote_ok rfl rfl rfl Try.underlying33 (rds_own e_RVote_ok 3 rfl) (by show (_ + _) * 32 ≤ _; (try simp only [List.length_append, List.length_cons, List.length_nil]); omega) (by (try simp only [List.length_append, List.length_cons, List.length_nil]); omega) fun a49 c49 => ?_
     refine l_f3 ?_
     refine l_drop ?_
     refine l_eq (t := 49) (v' := .slice a49 (((m.f_Votes.xs.take (i + 1)).map toR)).length c49) rfl (by rw [hval]) ?_
     refine l_conv (L' := row e_RVote.T e_RVote.sz a49 (((m.f_Votes.xs.take (i + 1)).map toR)).length c49 (flat e_RVote ((m.f_Votes.xs.take (i + 1)).map toR)) :: _) (fun w S => by rw [hval] at S; exact S) ?_
     refine l_nil ?_
     refine q_conv (fun w S => S.perm p3) ?_
     refine q_conv (fun w S => S.perm p1) ?_
     refine q_conv (fun w S => S.perm p3) ?_
     refine q_conv (fun w S => S.perm p3) ?_
     refine h_next ?_
     refine h_take 23 rfl rfl (by kernel_rfl) (by kernel_rfl) (by kernel_rfl) (fun L0 => v_fieldAddr (q := ⟨b3, 7, none⟩) rfl rfl Try.underlying35 rfl ti33 rfl) ?_
     refine h_one 24 rfl (by kernel_rfl) ?_
     refine l_f3 ?_
     refine o_store1 rfl rfl rfl ti33 rfl rfl ?_
     refine l_nil ?_
     refine q_conv (fun w S => S.perm p3) ?_
     refine q_conv (fun w S => S.perm p1) ?_
     refine q_conv (fun w S => S.perm p3) ?_
     refine q_conv (fun w S => S.perm p3) ?_
     refine h_next ?_
     refine h_done (by kernel_rfl) ?_
     refine q_block ?_
     refine q_then ?_
     refine c_region ?_
     refine o_move rfl rfl ?_
     refine o_bin rfl rfl rfl (b_add (wrap_i64 (by omega) (by omega))) ?_
     refine o_assign rfl rfl ?_
     refine l_nil ?_
     refine q_conv (fun w S => S.perm p1) ?_
     refine q_conv (fun w S => S.perm p1) ?_
     refine q_conv (fun w S => S.perm p2) ?_
     refine q_conv (fun w S => S.perm p3) ?_
     exact q_round (i + 1, a49, c49) (by (try dsimp only); omega) (by (try dsimp only); omega) ⟨(by first | rfl | exact vint (by omega)), (by first | rfl | exact vint (by omega)), (by first | rfl | exact vint (by omega)), (by first | rfl | exact vint (by omega)), trivial⟩ (fun w S => S)
   · -- 13 comes first
    refine o_load1 rfl rfl Try.underlying23 rfl (rd_sl e_Vote_ok eadx (rds_c (rds_c (rds_c (rds_c T_m)))) hx38 rfl) ?_
    refine l_nil ?_
    refine h_next ?_
    refine h_many (is := [7, 19]) (by kernel_rfl) (by decide) (forall_cons ⟨_, rfl, ?_⟩ (forall_cons ⟨_, rfl, ?_⟩ forall_nil))
    · -- 7 comes first
     refine o_load1 rfl rfl Try.underlying3 rfl (rd_sl e_Vote_ok eadx (rds_c (rds_c (rds_c (rds_c T_m)))) hx32 rfl) ?_
     refine l_nil ?_
     refine h_next ?_
     refine h_one 19 rfl (by kernel_rfl) ?_
     refine o_load1 rfl rfl Try.underlying9 rfl (rd_sl e_Vote_ok eadx (rds_c (rds_c (rds_c (rds_c T_m)))) hx44 rfl) ?_
     refine l_nil ?_
     refine h_next ?_
     refine h_take 20 rfl rfl (by kernel_rfl) (by kernel_rfl) (by kernel_rfl) (fun L0 => v_build rfl sp58 ti58 rfl ((fill_cons (cells' := [.int .i64 x32.f_Slot, .int .u64 0, .string ByteArray.empty]) rfl rfl rfl rfl (fill_cons (cells' := [.int .i64 x32.f_Slot, .int .u64 x38.f_Ballot, .string ByteArray.empty]) rfl rfl rfl rfl (fill_cons (cells' := [.int .i64 x32.f_Slot, .int .u64 x38.f_Ballot, .string x44.f_Value]) rfl rfl rfl rfl fill_nil))))) ?_
     refine h_one 21 rfl (by kernel_rfl) ?_
     refine o_lit e_RVote_ok rfl Try.underlying33 rfl rfl rfl (lit_ok rfl) [⟨x32.f_Slot, x38.f_Ballot, x44.f_Value⟩] rfl rfl fun a48 => ?_
     refine l_nil ?_
     refine q_conv (fun w S => S.perm p4) ?_
     refine q_conv (fun w S => S.perm p4) ?_
     refine q_conv (fun w S => S.perm p2) ?_
     refine q_conv (fun w S => S.perm p4) ?_
     refine q_conv (fun w S => S.perm p4) ?_
     refine h_next ?_
     refine h_one 22 rfl (by kernel_rfl) ?_
     refine l_f3 ?_
     refine o_append e_RVote_ok rfl rfl rfl Try.underlying33 (rds_own e_RVote_ok 3 rfl) (by show (_ + _) * 32 ≤ _; (try simp only [List.length_append, List.length_cons, List.length_nil]); omega) (by (try simp only [List.length_append, List.length_cons, List.length_nil]); omega) fun a49 c49 => ?_
     refine l_f3 ?_
     refine l_drop ?_
     refine l_eq (t := 49) (v' := .slice a49 (((m.f_Votes.xs.take (i + 1)).map toR)).length c49) rfl (by rw [hval]) ?_
     refine l_conv (L' := row e_RVote.T e_RVote.sz a49 (((m.f_Votes.xs.take (i + 1)).map toR)).length c49 (flat e_RVote ((m.f_Votes.xs.take (i + 1)).map toR)) :: _) (fun w S => by rw [hval] at S; exact S) ?_
     refine l_nil ?_
     refine q_conv (fun w S => S.perm p3) ?_
     refine q_conv (fun w S => S.perm p1) ?_
     refine q_conv (fun w S => S.perm p3) ?_
     refine q_conv (fun w S => S.perm p3) ?_
     refine h_next ?_
     refine h_take 23 rfl rfl (by kernel_rfl) (by kernel_rfl) (by kernel_rfl) (fun L0 => v_fieldAddr (q := ⟨b3, 7, none⟩) rfl rfl Try.underlying35 rfl ti33 rfl) ?_
     refine h_one 24 rfl (by kernel_rfl) ?_
     refine l_f3 ?_
     refine o_store1 rfl rfl rfl ti33 rfl rfl ?_
     refine l_nil ?_
     refine q_conv (fun w S => S.perm p3) ?_
     refine q_conv (fun w S => S.perm p1) ?_
     refine q_conv (fun w S => S.perm p3) ?_
     refine q_conv (fun w S => S.perm p3) ?_
     refine h_next ?_
     refine h_done (by kernel_rfl) ?_
     refine q_block ?_
     refine q_then ?_
     refine c_region ?_
     refine o_move rfl rfl ?_
     refine o_bin rfl rfl rfl (b_add (wrap_i64 (by omega) (by omega))) ?_
     refine o_assign rfl rfl ?_
     refine l_nil ?_
     refine q_conv (fun w S => S.perm p1) ?_
     refine q_conv (fun w S => S.perm p1) ?_
     refine q_conv (fun w S => S.perm p2) ?_
     refine q_conv (fun w S => S.perm p3) ?_
     exact q_round (i + 1, a49, c49) (by (try dsimp only); omega) (by (try dsimp only); omega) ⟨(by first | rfl | exact vint (by omega)), (by first | rfl | exact vint (by omega)), (by first | rfl | exact vint (by omega)), (by first | rfl | exact vint (by omega)), trivial⟩ (fun w S => S)
    · -- 19 comes first
     refine o_load1 rfl rfl Try.underlying9 rfl (rd_sl e_Vote_ok eadx (rds_c (rds_c (rds_c (rds_c T_m)))) hx44 rfl) ?_
     refine l_nil ?_
     refine h_next ?_
     refine h_one 7 rfl (by kernel_rfl) ?_
     refine o_load1 rfl rfl Try.underlying3 rfl (rd_sl e_Vote_ok eadx (rds_c (rds_c (rds_c (rds_c T_m)))) hx32 rfl) ?_
     refine l_nil ?_
     refine h_next ?_
     refine h_take 20 rfl rfl (by kernel_rfl) (by kernel_rfl) (by kernel_rfl) (fun L0 => v_build rfl sp58 ti58 rfl ((fill_cons (cells' := [.int .i64 x32.f_Slot, .int .u64 0, .string ByteArray.empty]) rfl rfl rfl rfl (fill_cons (cells' := [.int .i64 x32.f_Slot, .int .u64 x38.f_Ballot, .string ByteArray.empty]) rfl rfl rfl rfl (fill_cons (cells' := [.int .i64 x32.f_Slot, .int .u64 x38.f_Ballot, .string x44.f_Value]) rfl rfl rfl rfl fill_nil))))) ?_
     refine h_one 21 rfl (by kernel_rfl) ?_
     refine o_lit e_RVote_ok rfl Try.underlying33 rfl rfl rfl (lit_ok rfl) [⟨x32.f_Slot, x38.f_Ballot, x44.f_Value⟩] rfl rfl fun a48 => ?_
     refine l_nil ?_
     refine q_conv (fun w S => S.perm p4) ?_
     refine q_conv (fun w S => S.perm p4) ?_
     refine q_conv (fun w S => S.perm p2) ?_
     refine q_conv (fun w S => S.perm p4) ?_
     refine q_conv (fun w S => S.perm p4) ?_
     refine h_next ?_
     refine h_one 22 rfl (by kernel_rfl) ?_
     refine l_f3 ?_
     refine o_append e_RVote_ok rfl rfl rfl Try.underlying33 (rds_own e_RVote_ok 3 rfl) (by show (_ + _) * 32 ≤ _; (try simp only [List.length_append, List.length_cons, List.length_nil]); omega) (by (try simp only [List.length_append, List.length_cons, List.length_nil]); omega) fun a49 c49 => ?_
     refine l_f3 ?_
     refine l_drop ?_
     refine l_eq (t := 49) (v' := .slice a49 (((m.f_Votes.xs.take (i + 1)).map toR)).length c49) rfl (by rw [hval]) ?_
     refine l_conv (L' := row e_RVote.T e_RVote.sz a49 (((m.f_Votes.xs.take (i + 1)).map toR)).length c49 (flat e_RVote ((m.f_Votes.xs.take (i + 1)).map toR)) :: _) (fun w S => by rw [hval] at S; exact S) ?_
     refine l_nil ?_
     refine q_conv (fun w S => S.perm p3) ?_
     refine q_conv (fun w S => S.perm p1) ?_
     refine q_conv (fun w S => S.perm p3) ?_
     refine q_conv (fun w S => S.perm p3) ?_
     refine h_next ?_
     refine h_take 23 rfl rfl (by kernel_rfl) (by kernel_rfl) (by kernel_rfl) (fun L0 => v_fieldAddr (q := ⟨b3, 7, none⟩) rfl rfl Try.underlying35 rfl ti33 rfl) ?_
     refine h_one 24 rfl (by kernel_rfl) ?_
     refine l_f3 ?_
     refine o_store1 rfl rfl rfl ti33 rfl rfl ?_
     refine l_nil ?_
     refine q_conv (fun w S => S.perm p3) ?_
     refine q_conv (fun w S => S.perm p1) ?_
     refine q_conv (fun w S => S.perm p3) ?_
     refine q_conv (fun w S => S.perm p3) ?_
     refine h_next ?_
     refine h_done (by kernel_rfl) ?_
     refine q_block ?_
     refine q_then ?_
     refine c_region ?_
     refine o_move rfl rfl ?_
     refine o_bin rfl rfl rfl (b_add (wrap_i64 (by omega) (by omega))) ?_
     refine o_assign rfl rfl ?_
     refine l_nil ?_
     refine q_conv (fun w S => S.perm p1) ?_
     refine q_conv (fun w S => S.perm p1) ?_
     refine q_conv (fun w S => S.perm p2) ?_
     refine q_conv (fun w S => S.perm p3) ?_
     exact q_round (i + 1, a49, c49) (by (try dsimp only); omega) (by (try dsimp only); omega) ⟨(by first | rfl | exact vint (by omega)), (by first | rfl | exact vint (by omega)), (by first | rfl | exact vint (by omega)), (by first | rfl | exact vint (by omega)), trivial⟩ (fun w S => S)
   · -- 19 comes first
    refine o_load1 rfl rfl Try.underlying9 rfl (rd_sl e_Vote_ok eadx (rds_c (rds_c (rds_c (rds_c T_m)))) hx44 rfl) ?_
    refine l_nil ?_
    refine h_next ?_
    refine h_many (is := [7, 13]) (by kernel_rfl) (by decide) (forall_cons ⟨_, rfl, ?_⟩ (forall_cons ⟨_, rfl, ?_⟩ forall_nil))
    · -- 7 comes first
     refine o_load1 rfl rfl Try.underlying3 rfl (rd_sl e_Vote_ok eadx (rds_c (rds_c (rds_c (rds_c T_m)))) hx32 rfl) ?_
     refine l_nil ?_
     refine h_next ?_
     refine h_one 13 rfl (by kernel_rfl) ?_
     refine o_load1 rfl rfl Try.underlying23 rfl (rd_sl e_Vote_ok eadx (rds_c (rds_c (rds_c (rds_c T_m)))) hx38 rfl) ?_
     refine l_nil ?_
     refine h_next ?_
     refine h_take 20 rfl rfl (by kernel_rfl) (by kernel_rfl) (by kernel_rfl) (fun L0 => v_build rfl sp58 ti58 rfl ((fill_cons (cells' := [.int .i64 x32.f_Slot, .int .u64 0, .string ByteArray.empty]) rfl rfl rfl rfl (fill_cons (cells' := [.int .i64 x32.f_Slot, .int .u64 x38.f_Ballot, .string ByteArray.empty]) rfl rfl rfl rfl (fill_cons (cells' := [.int .i64 x32.f_Slot, .int .u64 x38.f_Ballot, .string x44.f_Value]) rfl rfl rfl rfl fill_nil))))) ?_
     refine h_one 21 rfl (by kernel_rfl) ?_
     refine o_lit e_RVote_ok rfl Try.underlying33 rfl rfl rfl (lit_ok rfl) [⟨x32.f_Slot, x38.f_Ballot, x44.f_Value⟩] rfl rfl fun a48 => ?_
     refine l_nil ?_
     refine q_conv (fun w S => S.perm p4) ?_
     refine q_conv (fun w S => S.perm p4) ?_
     refine q_conv (fun w S => S.perm p2) ?_
     refine q_conv (fun w S => S.perm p4) ?_
     refine q_conv (fun w S => S.perm p4) ?_
     refine h_next ?_
     refine h_one 22 rfl (by kernel_rfl) ?_
     refine l_f3 ?_
     refine o_append e_RVote_ok rfl rfl rfl Try.underlying33 (rds_own e_RVote_ok 3 rfl) (by show (_ + _) * 32 ≤ _; (try simp only [List.length_append, List.length_cons, List.length_nil]); omega) (by (try simp only [List.length_append, List.length_cons, List.length_nil]); omega) fun a49 c49 => ?_
     refine l_f3 ?_
     refine l_drop ?_
     refine l_eq (t := 49) (v' := .slice a49 (((m.f_Votes.xs.take (i + 1)).map toR)).length c49) rfl (by rw [hval]) ?_
     refine l_conv (L' := row e_RVote.T e_RVote.sz a49 (((m.f_Votes.xs.take (i + 1)).map toR)).length c49 (flat e_RVote ((m.f_Votes.xs.take (i + 1)).map toR)) :: _) (fun w S => by rw [hval] at S; exact S) ?_
     refine l_nil ?_
     refine q_conv (fun w S => S.perm p3) ?_
     refine q_conv (fun w S => S.perm p1) ?_
     refine q_conv (fun w S => S.perm p3) ?_
     refine q_conv (fun w S => S.perm p3) ?_
     refine h_next ?_
     refine h_take 23 rfl rfl (by kernel_rfl) (by kernel_rfl) (by kernel_rfl) (fun L0 => v_fieldAddr (q := ⟨b3, 7, none⟩) rfl rfl Try.underlying35 rfl ti33 rfl) ?_
     refine h_one 24 rfl (by kernel_rfl) ?_
     refine l_f3 ?_
     refine o_store1 rfl rfl rfl ti33 rfl rfl ?_
     refine l_nil ?_
     refine q_conv (fun w S => S.perm p3) ?_
     refine q_conv (fun w S => S.perm p1) ?_
     refine q_conv (fun w S => S.perm p3) ?_
     refine q_conv (fun w S => S.perm p3) ?_
     refine h_next ?_
     refine h_done (by kernel_rfl) ?_
     refine q_block ?_
     refine q_then ?_
     refine c_region ?_
     refine o_move rfl rfl ?_
     refine o_bin rfl rfl rfl (b_add (wrap_i64 (by omega) (by omega))) ?_
     refine o_assign rfl rfl ?_
     refine l_nil ?_
     refine q_conv (fun w S => S.perm p1) ?_
     refine q_conv (fun w S => S.perm p1) ?_
     refine q_conv (fun w S => S.perm p2) ?_
     refine q_conv (fun w S => S.perm p3) ?_
     exact q_round (i + 1, a49, c49) (by (try dsimp only); omega) (by (try dsimp only); omega) ⟨(by first | rfl | exact vint (by omega)), (by first | rfl | exact vint (by omega)), (by first | rfl | exact vint (by omega)), (by first | rfl | exact vint (by omega)), trivial⟩ (fun w S => S)
    · -- 13 comes first
     refine o_load1 rfl rfl Try.underlying23 rfl (rd_sl e_Vote_ok eadx (rds_c (rds_c (rds_c (rds_c T_m)))) hx38 rfl) ?_
     refine l_nil ?_
     refine h_next ?_
     refine h_one 7 rfl (by kernel_rfl) ?_
     refine o_load1 rfl rfl Try.underlying3 rfl (rd_sl e_Vote_ok eadx (rds_c (rds_c (rds_c (rds_c T_m)))) hx32 rfl) ?_
     refine l_nil ?_
     refine h_next ?_
     refine h_take 20 rfl rfl (by kernel_rfl) (by kernel_rfl) (by kernel_rfl) (fun L0 => v_build rfl sp58 ti58 rfl ((fill_cons (cells' := [.int .i64 x32.f_Slot, .int .u64 0, .string ByteArray.empty]) rfl rfl rfl rfl (fill_cons (cells' := [.int .i64 x32.f_Slot, .int .u64 x38.f_Ballot, .string ByteArray.empty]) rfl rfl rfl rfl (fill_cons (cells' := [.int .i64 x32.f_Slot, .int .u64 x38.f_Ballot, .string x44.f_Value]) rfl rfl rfl rfl fill_nil))))) ?_
     refine h_one 21 rfl (by kernel_rfl) ?_
     refine o_lit e_RVote_ok rfl Try.underlying33 rfl rfl rfl (lit_ok rfl) [⟨x32.f_Slot, x38.f_Ballot, x44.f_Value⟩] rfl rfl fun a48 => ?_
     refine l_nil ?_
     refine q_conv (fun w S => S.perm p4) ?_
     refine q_conv (fun w S => S.perm p4) ?_
     refine q_conv (fun w S => S.perm p2) ?_
     refine q_conv (fun w S => S.perm p4) ?_
     refine q_conv (fun w S => S.perm p4) ?_
     refine h_next ?_
     refine h_one 22 rfl (by kernel_rfl) ?_
     refine l_f3 ?_
     refine o_append e_RVote_ok rfl rfl rfl Try.underlying33 (rds_own e_RVote_ok 3 rfl) (by show (_ + _) * 32 ≤ _; (try simp only [List.length_append, List.length_cons, List.length_nil]); omega) (by (try simp only [List.length_append, List.length_cons, List.length_nil]); omega) fun a49 c49 => ?_
     refine l_f3 ?_
     refine l_drop ?_
     refine l_eq (t := 49) (v' := .slice a49 (((m.f_Votes.xs.take (i + 1)).map toR)).length c49) rfl (by rw [hval]) ?_
     refine l_conv (L' := row e_RVote.T e_RVote.sz a49 (((m.f_Votes.xs.take (i + 1)).map toR)).length c49 (flat e_RVote ((m.f_Votes.xs.take (i + 1)).map toR)) :: _) (fun w S => by rw [hval] at S; exact S) ?_
     refine l_nil ?_
     refine q_conv (fun w S => S.perm p3) ?_
     refine q_conv (fun w S => S.perm p1) ?_
     refine q_conv (fun w S => S.perm p3) ?_
     refine q_conv (fun w S => S.perm p3) ?_
     refine h_next ?_
     refine h_take 23 rfl rfl (by kernel_rfl) (by kernel_rfl) (by kernel_rfl) (fun L0 => v_fieldAddr (q := ⟨b3, 7, none⟩) rfl rfl Try.underlying35 rfl ti33 rfl) ?_
     refine h_one 24 rfl (by kernel_rfl) ?_
     refine l_f3 ?_
     refine o_store1 rfl rfl rfl ti33 rfl rfl ?_
     refine l_nil ?_
     refine q_conv (fun w S => S.perm p3) ?_
     refine q_conv (fun w S => S.perm p1) ?_
     refine q_conv (fun w S => S.perm p3) ?_
     refine q_conv (fun w S => S.perm p3) ?_
     refine h_next ?_
     refine h_done (by kernel_rfl) ?_
     refine q_block ?_
     refine q_then ?_
     refine c_region ?_
     refine o_move rfl rfl ?_
     refine o_bin rfl rfl rfl (b_add (wrap_i64 (by omega) (by omega))) ?_
     refine o_assign rfl rfl ?_
     refine l_nil ?_
     refine q_conv (fun w S => S.perm p1) ?_
     refine q_conv (fun w S => S.perm p1) ?_
     refine q_conv (fun w S => S.perm p2) ?_
     refine q_conv (fun w S => S.perm p3) ?_
     exact q_round (i + 1, a49, c49) (by (try dsimp only); omega) (by (try dsimp only); omega) ⟨(by first | rfl | exact vint (by omega)), (by first | rfl | exact vint (by omega)), (by first | rfl | exact vint (by omega)), (by first | rfl | exact vint (by omega)), trivial⟩ (fun w S => S)
  · -- 7 comes first
   refine o_load1 rfl rfl Try.underlying3 rfl (rd_sl e_Vote_ok eadx (rds_c (rds_c (rds_c (rds_c T_m)))) hx32 rfl) ?_
   refine l_nil ?_
   refine h_next ?_
   refine h_many (is := [1, 13, 19]) (by kernel_rfl) (by decide) (forall_cons ⟨_, rfl, ?_⟩ (forall_cons ⟨_, rfl, ?_⟩ (forall_cons ⟨_, rfl, ?_⟩ forall_nil)))
   · -- 1 comes first
    refine o_load1 rfl rfl Try.underlying33 rfl (rd_mem 3 rfl rfl) ?_
    refine l_nil ?_
    refine h_next ?_
    refine h_many (is := [13, 19]) (by kernel_rfl) (by decide) (forall_cons ⟨_, rfl, ?_⟩ (forall_cons ⟨_, rfl, ?_⟩ forall_nil))
    · -- 13 comes first
     refine o_load1 rfl rfl Try.underlying23 rfl (rd_sl e_Vote_ok eadx (rds_c (rds_c (rds_c (rds_c T_m)))) hx38 rfl) ?_
     refine l_nil ?_
     refine h_next ?_
     refine h_one 19 rfl (by kernel_rfl) ?_
     refine o_load1 rfl rfl Try.underlying9 rfl (rd_sl e_Vote_ok eadx (rds_c (rds_c (rds_c (rds_c T_m)))) hx44 rfl) ?_
     refine l_nil ?_
     refine h_next ?_
     refine h_take 20 rfl rfl (by kernel_rfl) (by kernel_rfl) (by kernel_rfl) (fun L0 => v_build rfl sp58 ti58 rfl ((fill_cons (cells' := [.int .i64 x32.f_Slot, .int .u64 0, .string ByteArray.empty]) rfl rfl rfl rfl (fill_cons (cells' := [.int .i64 x32.f_Slot, .int .u64 x38.f_Ballot, .string ByteArray.empty]) rfl rfl rfl rfl (fill_cons (cells' := [.int .i64 x32.f_Slot, .int .u64 x38.f_Ballot, .string x44.f_Value]) rfl rfl rfl rfl fill_nil))))) ?_
     refine h_one 21 rfl (by kernel_rfl) ?_
     refine o_lit e_RVote_ok rfl Try.underlying33 rfl rfl rfl (lit_ok rfl) [⟨x32.f_Slot, x38.f_Ballot, x44.f_Value⟩] rfl rfl fun a48 => ?_
     refine l_nil ?_
     refine q_conv (fun w S => S.perm p4) ?_
     refine q_conv (fun w S => S.perm p4) ?_
     refine q_conv (fun w S => S.perm p2) ?_
     refine q_conv (fun w S => S.perm p4) ?_
     refine q_conv (fun w S => S.perm p4) ?_
     refine h_next ?_
     refine h_one 22 rfl (by kernel_rfl) ?_
     refine l_f3 ?_
     refine o_append e_RVote_ok rfl rfl rfl Try.underlying33 (rds_own e_RVote_ok 3 rfl) (by show (_ + _) * 32 ≤ _; (try simp only [List.length_append, List.length_cons, List.length_nil]); omega) (by (try simp only [List.length_append, List.length_cons, List.length_nil]); omega) fun a49 c49 => ?_
     refine l_f3 ?_
     refine l_drop ?_
     refine l_eq (t := 49) (v' := .slice a49 (((m.f_Votes.xs.take (i + 1)).map toR)).length c49) rfl (by rw [hval]) ?_
     refine l_conv (L' := row e_RVote.T e_RVote.sz a49 (((m.f_Votes.xs.take (i + 1)).map toR)).length c49 (flat e_RVote ((m.f_Votes.xs.take (i + 1)).map toR)) :: _) (fun w S => by rw [hval] at S; exact S) ?_
     refine l_nil ?_
     refine q_conv (fun w S => S.perm p3) ?_
     refine q_conv (fun w S => S.perm p1) ?_
     refine q_conv (fun w S => S.perm p3) ?_
     refine q_conv (fun w S => S.perm p3) ?_
     refine h_next ?_
     refine h_take 23 rfl rfl (by kernel_rfl) (by kernel_rfl) (by kernel_rfl) (fun L0 => v_fieldAddr (q := ⟨b3, 7, none⟩) rfl rfl Try.underlying35 rfl ti33 rfl) ?_
     refine h_one 24 rfl (by kernel_rfl) ?_
     refine l_f3 ?_
     refine o_store1 rfl rfl rfl ti33 rfl rfl ?_
     refine l_nil ?_
     refine q_conv (fun w S => S.perm p3) ?_
     refine q_conv (fun w S => S.perm p1) ?_
     refine q_conv (fun w S => S.perm p3) ?_
     refine q_conv (fun w S => S.perm p3) ?_
     refine h_next ?_
     refine h_done (by kernel_rfl) ?_
     refine q_block ?_
     refine q_then ?_
     refine c_region ?_
     refine o_move rfl rfl ?_
     refine o_bin rfl rfl rfl (b_add (wrap_i64 (by omega) (by omega))) ?_
     refine o_assign rfl rfl ?_
     refine l_nil ?_
     refine q_conv (fun w S => S.perm p1) ?_
     refine q_conv (fun w S => S.perm p1) ?_
     refine q_conv (fun w S => S.perm p2) ?_
     refine q_conv (fun w S => S.perm p3) ?_
     exact q_round (i + 1, a49, c49) (by (try dsimp only); omega) (by (try dsimp only); omega) ⟨(by first | rfl | exact vint (by omega)), (by first | rfl | exact vint (by omega)), (by first | rfl | exact vint (by omega)), (by first | rfl | exact vint (by omega)), trivial⟩ (fun w S => S)
    · -- 19 comes first
     refine o_load1 rfl rfl Try.underlying9 rfl (rd_sl e_Vote_ok eadx (rds_c (rds_c (rds_c (rds_c T_m)))) hx44 rfl) ?_
     refine l_nil ?_
     refine h_next ?_
     refine h_one 13 rfl (by kernel_rfl) ?_
     refine o_load1 rfl rfl Try.underlying23 rfl (rd_sl e_Vote_ok eadx (rds_c (rds_c (rds_c (rds_c T_m)))) hx38 rfl) ?_
     refine l_nil ?_
     refine h_next ?_
     refine h_take 20 rfl rfl (by kernel_rfl) (by kernel_rfl) (by kernel_rfl) (fun L0 => v_build rfl sp58 ti58 rfl ((fill_cons (cells' := [.int .i64 x32.f_Slot, .int .u64 0, .string ByteArray.empty]) rfl rfl rfl rfl (fill_cons (cells' := [.int .i64 x32.f_Slot, .int .u64 x38.f_Ballot, .string ByteArray.empty]) rfl rfl rfl rfl (fill_cons (cells' := [.int .i64 x32.f_Slot, .int .u64 x38.f_Ballot, .string x44.f_Value]) rfl rfl rfl rfl fill_nil))))) ?_
     refine h_one 21 rfl (by kernel_rfl) ?_
     refine o_lit e_RVote_ok rfl Try.underlying33 rfl rfl rfl (lit_ok rfl) [⟨x32.f_Slot, x38.f_Ballot, x44.f_Value⟩] rfl rfl fun a48 => ?_
     refine l_nil ?_
     refine q_conv (fun w S => S.perm p4) ?_
     refine q_conv (fun w S => S.perm p4) ?_
     refine q_conv (fun w S => S.perm p2) ?_
     refine q_conv (fun w S => S.perm p4) ?_
     refine q_conv (fun w S => S.perm p4) ?_
     refine h_next ?_
     refine h_one 22 rfl (by kernel_rfl) ?_
     refine l_f3 ?_
     refine o_append e_RVote_ok rfl rfl rfl Try.underlying33 (rds_own e_RVote_ok 3 rfl) (by show (_ + _) * 32 ≤ _; (try simp only [List.length_append, List.length_cons, List.length_nil]); omega) (by (try simp only [List.length_append, List.length_cons, List.length_nil]); omega) fun a49 c49 => ?_
     refine l_f3 ?_
     refine l_drop ?_
     refine l_eq (t := 49) (v' := .slice a49 (((m.f_Votes.xs.take (i + 1)).map toR)).length c49) rfl (by rw [hval]) ?_
     refine l_conv (L' := row e_RVote.T e_RVote.sz a49 (((m.f_Votes.xs.take (i + 1)).map toR)).length c49 (flat e_RVote ((m.f_Votes.xs.take (i + 1)).map toR)) :: _) (fun w S => by rw [hval] at S; exact S) ?_
     refine l_nil ?_
     refine q_conv (fun w S => S.perm p3) ?_
     refine q_conv (fun w S => S.perm p1) ?_
     refine q_conv (fun w S => S.perm p3) ?_
     refine q_conv (fun w S => S.perm p3) ?_
     refine h_next ?_
     refine h_take 23 rfl rfl (by kernel_rfl) (by kernel_rfl) (by kernel_rfl) (fun L0 => v_fieldAddr (q := ⟨b3, 7, none⟩) rfl rfl Try.underlying35 rfl ti33 rfl) ?_
     refine h_one 24 rfl (by kernel_rfl) ?_
     refine l_f3 ?_
     refine o_store1 rfl rfl rfl ti33 rfl rfl ?_
     refine l_nil ?_
     refine q_conv (fun w S => S.perm p3) ?_
     refine q_conv (fun w S => S.perm p1) ?_
     refine q_conv (fun w S => S.perm p3) ?_
     refine q_conv (fun w S => S.perm p3) ?_
     refine h_next ?_
     refine h_done (by kernel_rfl) ?_
     refine q_block ?_
     refine q_then ?_
     refine c_region ?_
     refine o_move rfl rfl ?_
     refine o_bin rfl rfl rfl (b_add (wrap_i64 (by omega) (by omega))) ?_
     refine o_assign rfl rfl ?_
     refine l_nil ?_
     refine q_conv (fun w S => S.perm p1) ?_
     refine q_conv (fun w S => S.perm p1) ?_
     refine q_conv (fun w S => S.perm p2) ?_
     refine q_conv (fun w S => S.perm p3) ?_
     exact q_round (i + 1, a49, c49) (by (try dsimp only); omega) (by (try dsimp only); omega) ⟨(by first | rfl | exact vint (by omega)), (by first | rfl | exact vint (by omega)), (by first | rfl | exact vint (by omega)), (by first | rfl | exact vint (by omega)), trivial⟩ (fun w S => S)
   · -- 13 comes first
    refine o_load1 rfl rfl Try.underlying23 rfl (rd_sl e_Vote_ok eadx (rds_c (rds_c (rds_c (rds_c T_m)))) hx38 rfl) ?_
    refine l_nil ?_
    refine h_next ?_
    refine h_many (is := [1, 19]) (by kernel_rfl) (by decide) (forall_cons ⟨_, rfl, ?_⟩ (forall_cons ⟨_, rfl, ?_⟩ forall_nil))
    · -- 1 comes first
     refine o_load1 rfl rfl Try.underlying33 rfl (rd_mem 3 rfl rfl) ?_
     refine l_nil ?_
     refine h_next ?_
     refine h_one 19 rfl (by kernel_rfl) ?_
     refine o_load1 rfl rfl Try.underlying9 rfl (rd_sl e_Vote_ok eadx (rds_c (rds_c (rds_c (rds_c T_m)))) hx44 rfl) ?_
     refine l_nil ?_
     refine h_next ?_
     refine h_take 20 rfl rfl (by kernel_rfl) (by kernel_rfl) (by kernel_rfl) (fun L0 => v_build rfl sp58 ti58 rfl ((fill_cons (cells' := [.int .i64 x32.f_Slot, .int .u64 0, .string ByteArray.empty]) rfl rfl rfl rfl (fill_cons (cells' := [.int .i64 x32.f_Slot, .int .u64 x38.f_Ballot, .string ByteArray.empty]) rfl rfl rfl rfl (fill_cons (cells' := [.int .i64 x32.f_Slot, .int .u64 x38.f_Ballot, .string x44.f_Value]) rfl rfl rfl rfl fill_nil))))) ?_
     refine h_one 21 rfl (by kernel_rfl) ?_
     refine o_lit e_RVote_ok rfl Try.underlying33 rfl rfl rfl (lit_ok rfl) [⟨x32.f_Slot, x38.f_Ballot, x44.f_Value⟩] rfl rfl fun a48 => ?_
     refine l_nil ?_
     refine q_conv (fun w S => S.perm p4) ?_
     refine q_conv (fun w S => S.perm p4) ?_
     refine q_conv (fun w S => S.perm p2) ?_
     refine q_conv (fun w S => S.perm p4) ?_
     refine q_conv (fun w S => S.perm p4) ?_
     refine h_next ?_
     refine h_one 22 rfl (by kernel_rfl) ?_
     refine l_f3 ?_
     refine o_append e_RVote_ok rfl rfl rfl Try.underlying33 (rds_own e_RVote_ok 3 rfl) (by show (_ + _) * 32 ≤ _; (try simp only [List.length_append, List.length_cons, List.length_nil]); omega) (by (try simp only [List.length_append, List.length_cons, List.length_nil]); omega) fun a49 c49 => ?_
     refine l_f3 ?_
     refine l_drop ?_
     refine l_eq (t := 49) (v' := .slice a49 (((m.f_Votes.xs.take (i + 1)).map toR)).length c49) rfl (by rw [hval]) ?_
     refine l_conv (L' := row e_RVote.T e_RVote.sz a49 (((m.f_Votes.xs.take (i + 1)).map toR)).length c49 (flat e_RVote ((m.f_Votes.xs.take (i + 1)).map toR)) :: _) (fun w S => by rw [hval] at S; exact S) ?_
     refine l_nil ?_
     refine q_conv (fun w S => S.perm p3) ?_
     refine q_conv (fun w S => S.perm p1) ?_
     refine q_conv (fun w S => S.perm p3) ?_
     refine q_conv (fun w S => S.perm p3) ?_
     refine h_next ?_
     refine h_take 23 rfl rfl (by kernel_rfl) (by kernel_rfl) (by kernel_rfl) (fun L0 => v_fieldAddr (q := ⟨b3, 7, none⟩) rfl rfl Try.underlying35 rfl ti33 rfl) ?_
     refine h_one 24 rfl (by kernel_rfl) ?_
     refine l_f3 ?_
     refine o_store1 rfl rfl rfl ti33 rfl rfl ?_
     refine l_nil ?_
     refine q_conv (fun w S => S.perm p3) ?_
     refine q_conv (fun w S => S.perm p1) ?_
     refine q_conv (fun w S => S.perm p3) ?_
     refine q_conv (fun w S => S.perm p3) ?_
     refine h_next ?_
     refine h_done (by kernel_rfl) ?_
     refine q_block ?_
     refine q_then ?_
     refine c_region ?_
     refine o_move rfl rfl ?_
     refine o_bin rfl rfl rfl (b_add (wrap_i64 (by omega) (by omega))) ?_
     refine o_assign rfl rfl ?_
     refine l_nil ?_
     refine q_conv (fun w S => S.perm p1) ?_
     refine q_conv (fun w S => S.perm p1) ?_
     refine q_conv (fun w S => S.perm p2) ?_
     refine q_conv (fun w S => S.perm p3) ?_
     exact q_round (i + 1, a49, c49) (by (try dsimp only); omega) (by (try dsimp only); omega) ⟨(by first | rfl | exact vint (by omega)), (by first | rfl | exact vint (by omega)), (by first | rfl | exact vint (by omega)), (by first | rfl | exact vint (by omega)), trivial⟩ (fun w S => S)
    · -- 19 comes first
     refine o_load1 rfl rfl Try.underlying9 rfl (rd_sl e_Vote_ok eadx (rds_c (rds_c (rds_c (rds_c T_m)))) hx44 rfl) ?_
     refine l_nil ?_
     refine h_next ?_
     refine h_take 20 rfl rfl (by kernel_rfl) (by kernel_rfl) (by kernel_rfl) (fun L0 => v_build rfl sp58 ti58 rfl ((fill_cons (cells' := [.int .i64 x32.f_Slot, .int .u64 0, .string ByteArray.empty]) rfl rfl rfl rfl (fill_cons (cells' := [.int .i64 x32.f_Slot, .int .u64 x38.f_Ballot, .string ByteArray.empty]) rfl rfl rfl rfl (fill_cons (cells' := [.int .i64 x32.f_Slot, .int .u64 x38.f_Ballot, .string x44.f_Value]) rfl rfl rfl rfl fill_nil))))) ?_
     refine h_many (is := [1, 21]) (by kernel_rfl) (by decide) (forall_cons ⟨_, rfl, ?_⟩ (forall_cons ⟨_, rfl, ?_⟩ forall_nil))
     · -- 1 comes first
      refine o_load1 rfl rfl Try.underlying33 rfl (rd_mem 3 rfl rfl) ?_
      refine l_nil ?_
      refine h_next ?_
      refine h_one 21 rfl (by kernel_rfl) ?_
      refine o_lit e_RVote_ok rfl Try.underlying33 rfl rfl rfl (lit_ok rfl) [⟨x32.f_Slot, x38.f_Ballot, x44.f_Value⟩] rfl rfl fun a48 => ?_
      refine l_nil ?_
      refine q_conv (fun w S => S.perm p4) ?_
      refine q_conv (fun w S => S.perm p4) ?_
      refine q_conv (fun w S => S.perm p2) ?_
      refine q_conv (fun w S => S.perm p4) ?_
      refine q_conv (fun w S => S.perm p4) ?_
      refine h_next ?_
      refine h_one 22 rfl (by kernel_rfl) ?_
      refine l_f3 ?_
      refine o_append e_RVote_ok rfl rfl rfl Try.underlying33 (rds_own e_RVote_ok 3 rfl) (by show (_ + _) * 32 ≤ _; (try simp only [List.length_append, List.length_cons, List.length_nil]); omega) (by (try simp only [List.length_append, List.length_cons, List.length_nil]); omega) fun a49 c49 => ?_
      refine l_f3 ?_
      refine l_drop ?_
      refine l_eq (t := 49) (v' := .slice a49 (((m.f_Votes.xs.take (i + 1)).map toR)).length c49) rfl (by rw [hval]) ?_
      refine l_conv (L' := row e_RVote.T e_RVote.sz a49 (((m.f_Votes.xs.take (i + 1)).map toR)).length c49 (flat e_RVote ((m.f_Votes.xs.take (i + 1)).map toR)) :: _) (fun w S => by rw [hval] at S; exact S) ?_
      refine l_nil ?_
      refine q_conv (fun w S => S.perm p3) ?_
      refine q_conv (fun w S => S.perm p1) ?_
      refine q_conv (fun w S => S.perm p3) ?_
      refine q_conv (fun w S => S.perm p3) ?_
      refine h_next ?_
      refine h_take 23 rfl rfl (by kernel_rfl) (by kernel_rfl) (by kernel_rfl) (fun L0 => v_fieldAddr (q := ⟨b3, 7, none⟩) rfl rfl Try.underlying35 rfl ti33 rfl) ?_
      refine h_one 24 rfl (by kernel_rfl) ?_
      refine l_f3 ?_
      refine o_store1 rfl rfl rfl ti33 rfl rfl ?_
      refine l_nil ?_
      refine q_conv (fun w S => S.perm p3) ?_
      refine q_conv (fun w S => S.perm p1) ?_
      refine q_conv (fun w S => S.perm p3) ?_
      refine q_conv (fun w S => S.perm p3) ?_
      refine h_next ?_
      refine h_done (by kernel_rfl) ?_
      refine q_block ?_
      refine q_then ?_
      refine c_region ?_
      refine o_move rfl rfl ?_
      refine o_bin rfl rfl rfl (b_add (wrap_i64 (by omega) (by omega))) ?_
      refine o_assign rfl rfl ?_
      refine l_nil ?_
      refine q_conv (fun w S => S.perm p1) ?_
      refine q_conv (fun w S => S.perm p1) ?_
      refine q_conv (fun w S => S.perm p2) ?_
      refine q_conv (fun w S => S.perm p3) ?_
      exact q_round (i + 1, a49, c49) (by (try dsimp only); omega) (by (try dsimp only); omega) ⟨(by first | rfl | exact vint (by omega)), (by first | rfl | exact vint (by omega)), (by first | rfl | exact vint (by omega)), (by first | rfl | exact vint (by omega)), trivial⟩ (fun w S => S)
     · -- 21 comes first
      refine o_lit e_RVote_ok rfl Try.underlying33 rfl rfl rfl (lit_ok rfl) [⟨x32.f_Slot, x38.f_Ballot, x44.f_Value⟩] rfl rfl fun a48 => ?_
      refine l_nil ?_
      refine q_conv (fun w S => S.perm p4) ?_
      refine q_conv (fun w S => S.perm p4) ?_
      refine q_conv (fun w S => S.perm p2) ?_
      refine q_conv (fun w S => S.perm p4) ?_
      refine q_conv (fun w S => S.perm p4) ?_
      refine h_next ?_
      refine h_one 1 rfl (by kernel_rfl) ?_
      refine o_load1 rfl rfl Try.underlying33 rfl (rd_mem 4 rfl rfl) ?_
      refine l_nil ?_
      refine h_next ?_
      refine h_one 22 rfl (by kernel_rfl) ?_
      refine l_f3 ?_
      refine o_append e_RVote_ok rfl rfl rfl Try.underlying33 (rds_own e_RVote_ok 3 rfl) (by show (_ + _) * 32 ≤ _; (try simp only [List.length_append, List.length_cons, List.length_nil]); omega) (by (try simp only [List.length_append, List.length_cons, List.length_nil]); omega) fun a49 c49 => ?_
      refine l_f3 ?_
      refine l_drop ?_
      refine l_eq (t := 49) (v' := .slice a49 (((m.f_Votes.xs.take (i + 1)).map toR)).length c49) rfl (by rw [hval]) ?_
      refine l_conv (L' := row e_RVote.T e_RVote.sz a49 (((m.f_Votes.xs.take (i + 1)).map toR)).length c49 (flat e_RVote ((m.f_Votes.xs.take (i + 1)).map toR)) :: _) (fun w S => by rw [hval] at S; exact S) ?_
      refine l_nil ?_
      refine q_conv (fun w S => S.perm p3) ?_
      refine q_conv (fun w S => S.perm p1) ?_
      refine q_conv (fun w S => S.perm p3) ?_
      refine q_conv (fun w S => S.perm p3) ?_
      refine h_next ?_
      refine h_take 23 rfl rfl (by kernel_rfl) (by kernel_rfl) (by kernel_rfl) (fun L0 => v_fieldAddr (q := ⟨b3, 7, none⟩) rfl rfl Try.underlying35 rfl ti33 rfl) ?_
      refine h_one 24 rfl (by kernel_rfl) ?_
      refine l_f3 ?_
      refine o_store1 rfl rfl rfl ti33 rfl rfl ?_
      refine l_nil ?_
      refine q_conv (fun w S => S.perm p3) ?_
      refine q_conv (fun w S => S.perm p1) ?_
      refine q_conv (fun w S => S.perm p3) ?_
      refine q_conv (fun w S => S.perm p3) ?_
      refine h_next ?_
      refine h_done (by kernel_rfl) ?_
      refine q_block ?_
      refine q_then ?_
      refine c_region ?_
      refine o_move rfl rfl ?_
      refine o_bin rfl rfl rfl (b_add (wrap_i64 (by omega) (by omega))) ?_
      refine o_assign rfl rfl ?_
      refine l_nil ?_
      refine q_conv (fun w S => S.perm p1) ?_
      refine q_conv (fun w S => S.perm p1) ?_
      refine q_conv (fun w S => S.perm p2) ?_
      refine q_conv (fun w S => S.perm p3) ?_
      exact q_round (i + 1, a49, c49) (by (try dsimp only); omega) (by (try dsimp only); omega) ⟨(by first | rfl | exact vint (by omega)), (by first | rfl | exact vint (by omega)), (by first | rfl | exact vint (by omega)), (by first | rfl | exact vint (by omega)), trivial⟩ (fun w S => S)
   · -- 19 comes first
    refine o_load1 rfl rfl Try.underlying9 rfl (rd_sl e_Vote_ok eadx (rds_c (rds_c (rds_c (rds_c T_m)))) hx44 rfl) ?_
    refine l_nil ?_
    refine h_next ?_
    refine h_many (is := [1, 13]) (by kernel_rfl) (by decide) (forall_cons ⟨_, rfl, ?_⟩ (forall_cons ⟨_, rfl, ?_⟩ forall_nil))
    · -- 1 comes first
     refine o_load1 rfl rfl Try.underlying33 rfl (rd_mem 3 rfl rfl) ?_
     refine l_nil ?_
     refine h_next ?_
     refine h_one 13 rfl (by kernel_rfl) ?_
     refine o_load1 rfl rfl Try.underlying23 rfl (rd_sl e_Vote_ok eadx (rds_c (rds_c (rds_c (rds_c T_m)))) hx38 rfl) ?_
     refine l_nil ?_
     refine h_next ?_
     refine h_take 20 rfl rfl (by kernel_rfl) (by kernel_rfl) (by kernel_rfl) (fun L0 => v_build rfl sp58 ti58 rfl ((fill_cons (cells' := [.int .i64 x32.f_Slot, .int .u64 0, .string ByteArray.empty]) rfl rfl rfl rfl (fill_cons (cells' := [.int .i64 x32.f_Slot, .int .u64 x38.f_Ballot, .string ByteArray.empty]) rfl rfl rfl rfl (fill_cons (cells' := [.int .i64 x32.f_Slot, .int .u64 x38.f_Ballot, .string x44.f_Value]) rfl rfl rfl rfl fill_nil))))) ?_
     refine h_one 21 rfl (by kernel_rfl) ?_
     refine o_lit e_RVote_ok rfl Try.underlying33 rfl rfl rfl (lit_ok rfl) [⟨x32.f_Slot, x38.f_Ballot, x44.f_Value⟩] rfl rfl fun a48 => ?_
     refine l_nil ?_
     refine q_conv (fun w S => S.perm p4) ?_
     refine q_conv (fun w S => S.perm p4) ?_
     refine q_conv (fun w S => S.perm p2) ?_
     refine q_conv (fun w S => S.perm p4) ?_
     refine q_conv (fun w S => S.perm p4) ?_
     refine h_next ?_
     refine h_one 22 rfl (by kernel_rfl) ?_
     refine l_f3 ?_
     refine o_append e_RVote_ok rfl rfl rfl Try.underlying33 (rds_own e_RVote_ok 3 rfl) (by show (_ + _) * 32 ≤ _; (try simp only [List.length_append, List.length_cons, List.length_nil]); omega) (by (try simp only [List.length_append, List.length_cons, List.length_nil]); omega) fun a49 c49 => ?_
     refine l_f3 ?_
     refine l_drop ?_
     refine l_eq (t := 49) (v' := .slice a49 (((m.f_Votes.xs.take (i + 1)).map toR)).length c49) rfl (by rw [hval]) ?_
     refine l_conv (L' := row e_RVote.T e_RVote.sz a49 (((m.f_Votes.xs.take (i + 1)).map toR)).length c49 (flat e_RVote ((m.f_Votes.xs.take (i + 1)).map toR)) :: _) (fun w S => by rw [hval] at S; exact S) ?_
     refine l_nil ?_
     refine q_conv (fun w S => S.perm p3) ?_
     refine q_conv (fun w S => S.perm p1) ?_
     refine q_conv (fun w S => S.perm p3) ?_
     refine q_conv (fun w S => S.perm p3) ?_
     refine h_next ?_
     refine h_take 23 rfl rfl (by kernel_rfl) (by kernel_rfl) (by kernel_rfl) (fun L0 => v_fieldAddr (q := ⟨b3, 7, none⟩) rfl rfl Try.underlying35 rfl ti33 rfl) ?_
     refine h_one 24 rfl (by kernel_rfl) ?_
     refine l_f3 ?_
     refine o_store1 rfl rfl rfl ti33 rfl rfl ?_
     refine l_nil ?_
     refine q_conv (fun w S => S.perm p3) ?_
     refine q_conv (fun w S => S.perm p1) ?_
     refine q_conv (fun w S => S.perm p3) ?_
     refine q_conv (fun w S => S.perm p3) ?_
     refine h_next ?_
     refine h_done (by kernel_rfl) ?_
     refine q_block ?_
     refine q_then ?_
     refine c_region ?_
     refine o_move rfl rfl ?_
     refine o_bin rfl rfl rfl (b_add (wrap_i64 (by omega) (by omega))) ?_
     refine o_assign rfl rfl ?_
     refine l_nil ?_
     refine q_conv (fun w S => S.perm p1) ?_
     refine q_conv (fun w S => S.perm p1) ?_
     refine q_conv (fun w S => S.perm p2) ?_
     refine q_conv (fun w S => S.perm p3) ?_
     exact q_round (i + 1, a49, c49) (by (try dsimp only); omega) (by (try dsimp only); omega) ⟨(by first | rfl | exact vint (by omega)), (by first | rfl | exact vint (by omega)), (by first | rfl | exact vint (by omega)), (by first | rfl | exact vint (by omega)), trivial⟩ (fun w S => S)
    · -- 13 comes first
     refine o_load1 rfl rfl Try.underlying23 rfl (rd_sl e_Vote_ok eadx (rds_c (rds_c (rds_c (rds_c T_m)))) hx38 rfl) ?_
     refine l_nil ?_
     refine h_next ?_
     refine h_take 20 rfl rfl (by kernel_rfl) (by kernel_rfl) (by kernel_rfl) (fun L0 => v_build rfl sp58 ti58 rfl ((fill_cons (cells' := [.int .i64 x32.f_Slot, .int .u64 0, .string ByteArray.empty]) rfl rfl rfl rfl (fill_cons (cells' := [.int .i64 x32.f_Slot, .int .u64 x38.f_Ballot, .string ByteArray.empty]) rfl rfl rfl rfl (fill_cons (cells' := [.int .i64 x32.f_Slot, .int .u64 x38.f_Ballot, .string x44.f_Value]) rfl rfl rfl rfl fill_nil))))) ?_
     refine h_many (is := [1, 21]) (by kernel_rfl) (by decide) (forall_cons ⟨_, rfl, ?_⟩ (forall_cons ⟨_, rfl, ?_⟩ forall_nil))
     · -- 1 comes first
      refine o_load1 rfl rfl Try.underlying33 rfl (rd_mem 3 rfl rfl) ?_
      refine l_nil ?_
      refine h_next ?_
      refine h_one 21 rfl (by kernel_rfl) ?_
      refine o_lit e_RVote_ok rfl Try.underlying33 rfl rfl rfl (lit_ok rfl) [⟨x32.f_Slot, x38.f_Ballot, x44.f_Value⟩] rfl rfl fun a48 => ?_
      refine l_nil ?_
      refine q_conv (fun w S => S.perm p4) ?_
      refine q_conv (fun w S => S.perm p4) ?_
      refine q_conv (fun w S => S.perm p2) ?_
      refine q_conv (fun w S => S.perm p4) ?_
      refine q_conv (fun w S => S.perm p4) ?_
      refine h_next ?_
      refine h_one 22 rfl (by kernel_rfl) ?_
      refine l_f3 ?_
      refine o_append e_RVote_ok rfl rfl rfl Try.underlying33 (rds_own e_RVote_ok 3 rfl) (by show (_ + _) * 32 ≤ _; (try simp only [List.length_append, List.length_cons, List.length_nil]); omega) (by (try simp only [List.length_append, List.length_cons, List.length_nil]); omega) fun a49 c49 => ?_
      refine l_f3 ?_
      refine l_drop ?_
      refine l_eq (t := 49) (v' := .slice a49 (((m.f_Votes.xs.take (i + 1)).map toR)).length c49) rfl (by rw [hval]) ?_
      refine l_conv (L' := row e_RVote.T e_RVote.sz a49 (((m.f_Votes.xs.take (i + 1)).map toR)).length c49 (flat e_RVote ((m.f_Votes.xs.take (i + 1)).map toR)) :: _) (fun w S => by rw [hval] at S; exact S) ?_
      refine l_nil ?_
      refine q_conv (fun w S => S.perm p3) ?_
      refine q_conv (fun w S => S.perm p1) ?_
      refine q_conv (fun w S => S.perm p3) ?_
      refine q_conv (fun w S => S.perm p3) ?_
      refine h_next ?_
      refine h_take 23 rfl rfl (by kernel_rfl) (by kernel_rfl) (by kernel_rfl) (fun L0 => v_fieldAddr (q := ⟨b3, 7, none⟩) rfl rfl Try.underlying35 rfl ti33 rfl) ?_
      refine h_one 24 rfl (by kernel_rfl) ?_
      refine l_f3 ?_
      refine o_store1 rfl rfl rfl ti33 rfl rfl ?_
      refine l_nil ?_
      refine q_conv (fun w S => S.perm p3) ?_
      refine q_conv (fun w S => S.perm p1) ?_
      refine q_conv (fun w S => S.perm p3) ?_
      refine q_conv (fun w S => S.perm p3) ?_
      refine h_next ?_
      refine h_done (by kernel_rfl) ?_
      refine q_block ?_
      refine q_then ?_
      refine c_region ?_
      refine o_move rfl rfl ?_
      refine o_bin rfl rfl rfl (b_add (wrap_i64 (by omega) (by omega))) ?_
      refine o_assign rfl rfl ?_
      refine l_nil ?_
      refine q_conv (fun w S => S.perm p1) ?_
      refine q_conv (fun w S => S.perm p1) ?_
      refine q_conv (fun w S => S.perm p2) ?_
      refine q_conv (fun w S => S.perm p3) ?_
      exact q_round (i + 1, a49, c49) (by (try dsimp only); omega) (by (try dsimp only); omega) ⟨(by first | rfl | exact vint (by omega)), (by first | rfl | exact vint (by omega)), (by first | rfl | exact vint (by omega)), (by first | rfl | exact vint (by omega)), trivial⟩ (fun w S => S)
     · -- 21 comes first
      refine o_lit e_RVote_ok rfl Try.underlying33 rfl rfl rfl (lit_ok rfl) [⟨x32.f_Slot, x38.f_Ballot, x44.f_Value⟩] rfl rfl fun a48 => ?_
      refine l_nil ?_
      refine q_conv (fun w S => S.perm p4) ?_
      refine q_conv (fun w S => S.perm p4) ?_
      refine q_conv (fun w S => S.perm p2) ?_
      refine q_conv (fun w S => S.perm p4) ?_
      refine q_conv (fun w S => S.perm p4) ?_
      refine h_next ?_
      refine h_one 1 rfl (by kernel_rfl) ?_
      refine o_load1 rfl rfl Try.underlying33 rfl (rd_mem 4 rfl rfl) ?_
      refine l_nil ?_
      refine h_next ?_
      refine h_one 22 rfl (by kernel_rfl) ?_
      refine l_f3 ?_
      refine o_append e_RVote_ok rfl rfl rfl Try.underlying33 (rds_own e_RVote_ok 3 rfl) (by show (_ + _) * 32 ≤ _; (try simp only [List.length_append, List.length_cons, List.length_nil]); omega) (by (try simp only [List.length_append, List.length_cons, List.length_nil]); omega) fun a49 c49 => ?_
      refine l_f3 ?_
      refine l_drop ?_
      refine l_eq (t := 49) (v' := .slice a49 (((m.f_Votes.xs.take (i + 1)).map toR)).length c49) rfl (by rw [hval]) ?_
      refine l_conv (L' := row e_RVote.T e_RVote.sz a49 (((m.f_Votes.xs.take (i + 1)).map toR)).length c49 (flat e_RVote ((m.f_Votes.xs.take (i + 1)).map toR)) :: _) (fun w S => by rw [hval] at S; exact S) ?_
      refine l_nil ?_
      refine q_conv (fun w S => S.perm p3) ?_
      refine q_conv (fun w S => S.perm p1) ?_
      refine q_conv (fun w S => S.perm p3) ?_
      refine q_conv (fun w S => S.perm p3) ?_
      refine h_next ?_
      refine h_take 23 rfl rfl (by kernel_rfl) (by kernel_rfl) (by kernel_rfl) (fun L0 => v_fieldAddr (q := ⟨b3, 7, none⟩) rfl rfl Try.underlying35 rfl ti33 rfl) ?_
      refine h_one 24 rfl (by kernel_rfl) ?_
      refine l_f3 ?_
      refine o_store1 rfl rfl rfl ti33 rfl rfl ?_
      refine l_nil ?_
      refine q_conv (fun w S => S.perm p3) ?_
      refine q_conv (fun w S => S.perm p1) ?_
      refine q_conv (fun w S => S.perm p3) ?_
      refine q_conv (fun w S => S.perm p3) ?_
      refine h_next ?_
      refine h_done (by kernel_rfl) ?_
      refine q_block ?_
      refine q_then ?_
      refine c_region ?_
      refine o_move rfl rfl ?_
      refine o_bin rfl rfl rfl (b_add (wrap_i64 (by omega) (by omega))) ?_
      refine o_assign rfl rfl ?_
      refine l_nil ?_
      refine q_conv (fun w S => S.perm p1) ?_
      refine q_conv (fun w S => S.perm p1) ?_
      refine q_conv (fun w S => S.perm p2) ?_
      refine q_conv (fun w S => S.perm p3) ?_
      exact q_round (i + 1, a49, c49) (by (try dsimp only); omega) (by (try dsimp only); omega) ⟨(by first | rfl | exact vint (by omega)), (by first | rfl | exact vint (by omega)), (by first | rfl | exact vint (by omega)), (by first | rfl | exact vint (by omega)), trivial⟩ (fun w S => S)
  · -- 13 comes first
   refine o_load1 rfl rfl Try.underlying23 rfl (rd_sl e_Vote_ok eadx (rds_c (rds_c (rds_c (rds_c T_m)))) hx38 rfl) ?_
   refine l_nil ?_
   refine h_next ?_
   refine h_many (is := [1, 7, 19]) (by kernel_rfl) (by decide) (forall_cons ⟨_, rfl, ?_⟩ (forall_cons ⟨_, rfl, ?_⟩ (forall_cons ⟨_, rfl, ?_⟩ forall_nil)))
   · -- 1 comes first
    refine o_load1 rfl rfl Try.underlying33 rfl (rd_mem 3 rfl rfl) ?_
    refine l_nil ?_
    refine h_next ?_
    refine h_many (is := [7, 19]) (by kernel_rfl) (by decide) (forall_cons ⟨_, rfl, ?_⟩ (forall_cons ⟨_, rfl, ?_⟩ forall_nil))
    · -- 7 comes first
     refine o_load1 rfl rfl Try.underlying3 rfl (rd_sl e_Vote_ok eadx (rds_c (rds_c (rds_c (rds_c T_m)))) hx32 rfl) ?_
     refine l_nil ?_
     refine h_next ?_
     refine h_one 19 rfl (by kernel_rfl) ?_
     refine o_load1 rfl rfl Try.underlying9 rfl (rd_sl e_Vote_ok eadx (rds_c (rds_c (rds_c (rds_c T_m)))) hx44 rfl) ?_
     refine l_nil ?_
     refine h_next ?_
     refine h_take 20 rfl rfl (by kernel_rfl) (by kernel_rfl) (by kernel_rfl) (fun L0 => v_build rfl sp58 ti58 rfl ((fill_cons (cells' := [.int .i64 x32.f_Slot, .int .u64 0, .string ByteArray.empty]) rfl rfl rfl rfl (fill_cons (cells' := [.int .i64 x32.f_Slot, .int .u64 x38.f_Ballot, .string ByteArray.empty]) rfl rfl rfl rfl (fill_cons (cells' := [.int .i64 x32.f_Slot, .int .u64 x38.f_Ballot, .string x44.f_Value]) rfl rfl rfl rfl fill_nil))))) ?_
     refine h_one 21 rfl (by kernel_rfl) ?_
     refine o_lit e_RVote_ok rfl Try.underlying33 rfl rfl rfl (lit_ok rfl) [⟨x32.f_Slot, x38.f_Ballot, x44.f_Value⟩] rfl rfl fun a48 => ?_
     refine l_nil ?_
     refine q_conv (fun w S => S.perm p4) ?_
     refine q_conv (fun w S => S.perm p4) ?_
     refine q_conv (fun w S => S.perm p2) ?_
     refine q_conv (fun w S => S.perm p4) ?_
     refine q_conv (fun w S => S.perm p4) ?_
     refine h_next ?_
     refine h_one 22 rfl (by kernel_rfl) ?_
     refine l_f3 ?_
     refine o_append e_RVote_ok rfl rfl rfl Try.underlying33 (rds_own e_RVote_ok 3 rfl) (by show (_ + _) * 32 ≤ _; (try simp only [List.length_append, List.length_cons, List.length_nil]); omega) (by (try simp only [List.length_append, List.length_cons, List.length_nil]); omega) fun a49 c49 => ?_
     refine l_f3 ?_
     refine l_drop ?_
     refine l_eq (t := 49) (v' := .slice a49 (((m.f_Votes.xs.take (i + 1)).map toR)).length c49) rfl (by rw [hval]) ?_
     refine l_conv (L' := row e_RVote.T e_RVote.sz a49 (((m.f_Votes.xs.take (i + 1)).map toR)).length c49 (flat e_RVote ((m.f_Votes.xs.take (i + 1)).map toR)) :: _) (fun w S => by rw [hval] at S; exact S) ?_
     refine l_nil ?_
     refine q_conv (fun w S => S.perm p3) ?_
     refine q_conv (fun w S => S.perm p1) ?_
     refine q_conv (fun w S => S.perm p3) ?_
     refine q_conv (fun w S => S.perm p3) ?_
     refine h_next ?_
     refine h_take 23 rfl rfl (by kernel_rfl) (by kernel_rfl) (by kernel_rfl) (fun L0 => v_fieldAddr (q := ⟨b3, 7, none⟩) rfl rfl Try.underlying35 rfl ti33 rfl) ?_
     refine h_one 24 rfl (by kernel_rfl) ?_
     refine l_f3 ?_
     refine o_store1 rfl rfl rfl ti33 rfl rfl ?_
     refine l_nil ?_
     refine q_conv (fun w S => S.perm p3) ?_
     refine q_conv (fun w S => S.perm p1) ?_
     refine q_conv (fun w S => S.perm p3) ?_
     refine q_conv (fun w S => S.perm p3) ?_
     refine h_next ?_
     refine h_done (by kernel_rfl) ?_
     refine q_block ?_
     refine q_then ?_
     refine c_region ?_
     refine o_move rfl rfl ?_
     refine o_bin rfl rfl rfl (b_add (wrap_i64 (by omega) (by omega))) ?_
     refine o_assign rfl rfl ?_
     refine l_nil ?_
     refine q_conv (fun w S => S.perm p1) ?_
     refine q_conv (fun w S => S.perm p1) ?_
     refine q_conv (fun w S => S.perm p2) ?_
     refine q_conv (fun w S => S.perm p3) ?_
     exact q_round (i + 1, a49, c49) (by (try dsimp only); omega) (by (try dsimp only); omega) ⟨(by first | rfl | exact vint (by omega)), (by first | rfl | exact vint (by omega)), (by first | rfl | exact vint (by omega)), (by first | rfl | exact vint (by omega)), trivial⟩ (fun w S => S)
    · -- 19 comes first
     refine o_load1 rfl rfl Try.underlying9 rfl (rd_sl e_Vote_ok eadx (rds_c (rds_c (rds_c (rds_c T_m)))) hx44 rfl) ?_
     refine l_nil ?_
     refine h_next ?_
     refine h_one 7 rfl (by kernel_rfl) ?_
     refine o_load1 rfl rfl Try.underlying3 rfl (rd_sl e_Vote_ok eadx (rds_c (rds_c (rds_c (rds_c T_m)))) hx32 rfl) ?_
     refine l_nil ?_
     refine h_next ?_
     refine h_take 20 rfl rfl (by kernel_rfl) (by kernel_rfl) (by kernel_rfl) (fun L0 => v_build rfl sp58 ti58 rfl ((fill_cons (cells' := [.int .i64 x32.f_Slot, .int .u64 0, .string ByteArray.empty]) rfl rfl rfl rfl (fill_cons (cells' := [.int .i64 x32.f_Slot, .int .u64 x38.f_Ballot, .string ByteArray.empty]) rfl rfl rfl rfl (fill_cons (cells' := [.int .i64 x32.f_Slot, .int .u64 x38.f_Ballot, .string x44.f_Value]) rfl rfl rfl rfl fill_nil))))) ?_
     refine h_one 21 rfl (by kernel_rfl) ?_
     refine o_lit e_RVote_ok rfl Try.underlying33 rfl rfl rfl (lit_ok rfl) [⟨x32.f_Slot, x38.f_Ballot, x44.f_Value⟩] rfl rfl fun a48 => ?_
     refine l_nil ?_
     refine q_conv (fun w S => S.perm p4) ?_
     refine q_conv (fun w S => S.perm p4) ?_
     refine q_conv (fun w S => S.perm p2) ?_
     refine q_conv (fun w S => S.perm p4) ?_
     refine q_conv (fun w S => S.perm p4) ?_
     refine h_next ?_
     refine h_one 22 rfl (by kernel_rfl) ?_
     refine l_f3 ?_
     refine o_append e_RVote_ok rfl rfl rfl Try.underlying33 (rds_own e_RVote_ok 3 rfl) (by show (_ + _) * 32 ≤ _; (try simp only [List.length_append, List.length_cons, List.length_nil]); omega) (by (try simp only [List.length_append, List.length_cons, List.length_nil]); omega) fun a49 c49 => ?_
     refine l_f3 ?_
     refine l_drop ?_
     refine l_eq (t := 49) (v' := .slice a49 (((m.f_Votes.xs.take (i + 1)).map toR)).length c49) rfl (by rw [hval]) ?_
     refine l_conv (L' := row e_RVote.T e_RVote.sz a49 (((m.f_Votes.xs.take (i + 1)).map toR)).length c49 (flat e_RVote ((m.f_Votes.xs.take (i + 1)).map toR)) :: _) (fun w S => by rw [hval] at S; exact S) ?_
     refine l_nil ?_
     refine q_conv (fun w S => S.perm p3) ?_
     refine q_conv (fun w S => S.perm p1) ?_
     refine q_conv (fun w S => S.perm p3) ?_
     refine q_conv (fun w S => S.perm p3) ?_
     refine h_next ?_
     refine h_take 23 rfl rfl (by kernel_rfl) (by kernel_rfl) (by kernel_rfl) (fun L0 => v_fieldAddr (q := ⟨b3, 7, none⟩) rfl rfl Try.underlying35 rfl ti33 rfl) ?_
     refine h_one 24 rfl (by kernel_rfl) ?_
     refine l_f3 ?_
     refine o_store1 rfl rfl rfl ti33 rfl rfl ?_
     refine l_nil ?_
     refine q_conv (fun w S => S.perm p3) ?_
     refine q_conv (fun w S => S.perm p1) ?_
     refine q_conv (fun w S => S.perm p3) ?_
     refine q_conv (fun w S => S.perm p3) ?_
     refine h_next ?_
     refine h_done (by kernel_rfl) ?_
     refine q_block ?_
     refine q_then ?_
     refine c_region ?_
     refine o_move rfl rfl ?_
     refine o_bin rfl rfl rfl (b_add (wrap_i64 (by omega) (by omega))) ?_
     refine o_assign rfl rfl ?_
     refine l_nil ?_
     refine q_conv (fun w S => S.perm p1) ?_
     refine q_conv (fun w S => S.perm p1) ?_
     refine q_conv (fun w S => S.perm p2) ?_
     refine q_conv (fun w S => S.perm p3) ?_
     exact q_round (i + 1, a49, c49) (by (try dsimp only); omega) (by (try dsimp only); omega) ⟨(by first | rfl | exact vint (by omega)), (by first | rfl | exact vint (by omega)), (by first | rfl | exact vint (by omega)), (by first | rfl | exact vint (by omega)), trivial⟩ (fun w S => S)
   · -- 7 comes first
    refine o_load1 rfl rfl Try.underlying3 rfl (rd_sl e_Vote_ok eadx (rds_c (rds_c (rds_c (rds_c T_m)))) hx32 rfl) ?_
    refine l_nil ?_
    refine h_next ?_
    refine h_many (is := [1, 19]) (by kernel_rfl) (by decide) (forall_cons ⟨_, rfl, ?_⟩ (forall_cons ⟨_, rfl, ?_⟩ forall_nil))
    · -- 1 comes first
     refine o_load1 rfl rfl Try.underlying33 rfl (rd_mem 3 rfl rfl) ?_
     refine l_nil ?_
     refine h_next ?_
     refine h_one 19 rfl (by kernel_rfl) ?_
     refine o_load1 rfl rfl Try.underlying9 rfl (rd_sl e_Vote_ok eadx (rds_c (rds_c (rds_c (rds_c T_m)))) hx44 rfl) ?_
     refine l_nil ?_
     refine h_next ?_
     refine h_take 20 rfl rfl (by kernel_rfl) (by kernel_rfl) (by kernel_rfl) (fun L0 => v_build rfl sp58 ti58 rfl ((fill_cons (cells' := [.int .i64 x32.f_Slot, .int .u64 0, .string ByteArray.empty]) rfl rfl rfl rfl (fill_cons (cells' := [.int .i64 x32.f_Slot, .int .u64 x38.f_Ballot, .string ByteArray.empty]) rfl rfl rfl rfl (fill_cons (cells' := [.int .i64 x32.f_Slot, .int .u64 x38.f_Ballot, .string x44.f_Value]) rfl rfl rfl rfl fill_nil))))) ?_
     refine h_one 21 rfl (by kernel_rfl) ?_
     refine o_lit e_RVote_ok rfl Try.underlying33 rfl rfl rfl (lit_ok rfl) [⟨x32.f_Slot, x38.f_Ballot, x44.f_Value⟩] rfl rfl fun a48 => ?_
     refine l_nil ?_
     refine q_conv (fun w S => S.perm p4) ?_
     refine q_conv (fun w S => S.perm p4) ?_
     refine q_conv (fun w S => S.perm p2) ?_
     refine q_conv (fun w S => S.perm p4) ?_
     refine q_conv (fun w S => S.perm p4) ?_
     refine h_next ?_
     refine h_one 22 rfl (by kernel_rfl) ?_
     refine l_f3 ?_
     refine o_append e_RVote_ok rfl rfl rfl Try.underlying33 (rds_own e_RVote_ok 3 rfl) (by show (_ + _) * 32 ≤ _; (try simp only [List.length_append, List.length_cons, List.length_nil]); omega) (by (try simp only [List.length_append, List.length_cons, List.length_nil]); omega) fun a49 c49 => ?_
     refine l_f3 ?_
     refine l_drop ?_
     refine l_eq (t := 49) (v' := .slice a49 (((m.f_Votes.xs.take (i + 1)).map toR)).length c49) rfl (by rw [hval]) ?_
     refine l_conv (L' := row e_RVote.T e_RVote.sz a49 (((m.f_Votes.xs.take (i + 1)).map toR)).length c49 (flat e_RVote ((m.f_Votes.xs.take (i + 1)).map toR)) :: _) (fun w S => by rw [hval] at S; exact S) ?_
     refine l_nil ?_
     refine q_conv (fun w S => S.perm p3) ?_
     refine q_conv (fun w S => S.perm p1) ?_
     refine q_conv (fun w S => S.perm p3) ?_
     refine q_conv (fun w S => S.perm p3) ?_
     refine h_next ?_
     refine h_take 23 rfl rfl (by kernel_rfl) (by kernel_rfl) (by kernel_rfl) (fun L0 => v_fieldAddr (q := ⟨b3, 7, none⟩) rfl rfl Try.underlying35 rfl ti33 rfl) ?_
     refine h_one 24 rfl (by kernel_rfl) ?_
     refine l_f3 ?_
     refine o_store1 rfl rfl rfl ti33 rfl rfl ?_
     refine l_nil ?_
     refine q_conv (fun w S => S.perm p3) ?_
     refine q_conv (fun w S => S.perm p1) ?_
     refine q_conv (fun w S => S.perm p3) ?_
     refine q_conv (fun w S => S.perm p3) ?_
     refine h_next ?_
     refine h_done (by kernel_rfl) ?_
     refine q_block ?_
     refine q_then ?_
     refine c_region ?_
     refine o_move rfl rfl ?_
     refine o_bin rfl rfl rfl (b_add (wrap_i64 (by omega) (by omega))) ?_
     refine o_assign rfl rfl ?_
     refine l_nil ?_
     refine q_conv (fun w S => S.perm p1) ?_
     refine q_conv (fun w S => S.perm p1) ?_
     refine q_conv (fun w S => S.perm p2) ?_
     refine q_conv (fun w S => S.perm p3) ?_
     exact q_round (i + 1, a49, c49) (by (try dsimp only); omega) (by (try dsimp only); omega) ⟨(by first | rfl | exact vint (by omega)), (by first | rfl | exact vint (by omega)), (by first | rfl | exact vint (by omega)), (by first | rfl | exact vint (by omega)), trivial⟩ (fun w S => S)
    · -- 19 comes first
     refine o_load1 rfl rfl Try.underlying9 rfl (rd_sl e_Vote_ok eadx (rds_c (rds_c (rds_c (rds_c T_m)))) hx44 rfl) ?_
     refine l_nil ?_
     refine h_next ?_
     refine h_take 20 rfl rfl (by kernel_rfl) (by kernel_rfl) (by kernel_rfl) (fun L0 => v_build rfl sp58 ti58 rfl ((fill_cons (cells' := [.int .i64 x32.f_Slot, .int .u64 0, .string ByteArray.empty]) rfl rfl rfl rfl (fill_cons (cells' := [.int .i64 x32.f_Slot, .int .u64 x38.f_Ballot, .string ByteArray.empty]) rfl rfl rfl rfl (fill_cons (cells' := [.int .i64 x32.f_Slot, .int .u64 x38.f_Ballot, .string x44.f_Value]) rfl rfl rfl rfl fill_nil))))) ?_
     refine h_many (is := [1, 21]) (by kernel_rfl) (by decide) (forall_cons ⟨_, rfl, ?_⟩ (forall_cons ⟨_, rfl, ?_⟩ forall_nil))
     · -- 1 comes first
      refine o_load1 rfl rfl Try.underlying33 rfl (rd_mem 3 rfl rfl) ?_
      refine l_nil ?_
      refine h_next ?_
      refine h_one 21 rfl (by kernel_rfl) ?_
      refine o_lit e_RVote_ok rfl Try.underlying33 rfl rfl rfl (lit_ok rfl) [⟨x32.f_Slot, x38.f_Ballot, x44.f_Value⟩] rfl rfl fun a48 => ?_
      refine l_nil ?_
      refine q_conv (fun w S => S.perm p4) ?_
      refine q_conv (fun w S => S.perm p4) ?_
      refine q_conv (fun w S => S.perm p2) ?_
      refine q_conv (fun w S => S.perm p4) ?_
      refine q_conv (fun w S => S.perm p4) ?_
      refine h_next ?_
      refine h_one 22 rfl (by kernel_rfl) ?_
      refine l_f3 ?_
      refine o_append e_RVote_ok rfl rfl rfl Try.underlying33 (rds_own e_RVote_ok 3 rfl) (by show (_ + _) * 32 ≤ _; (try simp only [List.length_append, List.length_cons, List.length_nil]); omega) (by (try simp only [List.length_append, List.length_cons, List.length_nil]); omega) fun a49 c49 => ?_
      refine l_f3 ?_
      refine l_drop ?_
      refine l_eq (t := 49) (v' := .slice a49 (((m.f_Votes.xs.take (i + 1)).map toR)).length c49) rfl (by rw [hval]) ?_
      refine l_conv (L' := row e_RVote.T e_RVote.sz a49 (((m.f_Votes.xs.take (i + 1)).map toR)).length c49 (flat e_RVote ((m.f_Votes.xs.take (i + 1)).map toR)) :: _) (fun w S => by rw [hval] at S; exact S) ?_
      refine l_nil ?_
      refine q_conv (fun w S => S.perm p3) ?_
      refine q_conv (fun w S => S.perm p1) ?_
      refine q_conv (fun w S => S.perm p3) ?_
      refine q_conv (fun w S => S.perm p3) ?_
      refine h_next ?_
      refine h_take 23 rfl rfl (by kernel_rfl) (by kernel_rfl) (by kernel_rfl) (fun L0 => v_fieldAddr (q := ⟨b3, 7, none⟩) rfl rfl Try.underlying35 rfl ti33 rfl) ?_
      refine h_one 24 rfl (by kernel_rfl) ?_
      refine l_f3 ?_
      refine o_store1 rfl rfl rfl ti33 rfl rfl ?_
      refine l_nil ?_
      refine q_conv (fun w S => S.perm p3) ?_
      refine q_conv (fun w S => S.perm p1) ?_
      refine q_conv (fun w S => S.perm p3) ?_
      refine q_conv (fun w S => S.perm p3) ?_
      refine h_next ?_
      refine h_done (by kernel_rfl) ?_
      refine q_block ?_
      refine q_then ?_
      refine c_region ?_
      refine o_move rfl rfl ?_
      refine o_bin rfl rfl rfl (b_add (wrap_i64 (by omega) (by omega))) ?_
      refine o_assign rfl rfl ?_
      refine l_nil ?_
      refine q_conv (fun w S => S.perm p1) ?_
      refine q_conv (fun w S => S.perm p1) ?_
      refine q_conv (fun w S => S.perm p2) ?_
      refine q_conv (fun w S => S.perm p3) ?_
      exact q_round (i + 1, a49, c49) (by (try dsimp only); omega) (by (try dsimp only); omega) ⟨(by first | rfl | exact vint (by omega)), (by first | rfl | exact vint (by omega)), (by first | rfl | exact vint (by omega)), (by first | rfl | exact vint (by omega)), trivial⟩ (fun w S => S)
     · -- 21 comes first
      refine o_lit e_RVote_ok rfl Try.underlying33 rfl rfl rfl (lit_ok rfl) [⟨x32.f_Slot, x38.f_Ballot, x44.f_Value⟩] rfl rfl fun a48 => ?_
      refine l_nil ?_
      refine q_conv (fun w S => S.perm p4) ?_
      refine q_conv (fun w S => S.perm p4) ?_
      refine q_conv (fun w S => S.perm p2) ?_
      refine q_conv (fun w S => S.perm p4) ?_
      refine q_conv (fun w S => S.perm p4) ?_
      refine h_next ?_
      refine h_one 1 rfl (by kernel_rfl) ?_
      refine o_load1 rfl rfl Try.underlying33 rfl (rd_mem 4 rfl rfl) ?_
      refine l_nil ?_
      refine h_next ?_
      refine h_one 22 rfl (by kernel_rfl) ?_
      refine l_f3 ?_
      refine o_append e_RVote_ok rfl rfl rfl Try.underlying33 (rds_own e_RVote_ok 3 rfl) (by show (_ + _) * 32 ≤ _; (try simp only [List.length_append, List.length_cons, List.length_nil]); omega) (by (try simp only [List.length_append, List.length_cons, List.length_nil]); omega) fun a49 c49 => ?_
      refine l_f3 ?_
      refine l_drop ?_
      refine l_eq (t := 49) (v' := .slice a49 (((m.f_Votes.xs.take (i + 1)).map toR)).length c49) rfl (by rw [hval]) ?_
      refine l_conv (L' := row e_RVote.T e_RVote.sz a49 (((m.f_Votes.xs.take (i + 1)).map toR)).length c49 (flat e_RVote ((m.f_Votes.xs.take (i + 1)).map toR)) :: _) (fun w S => by rw [hval] at S; exact S) ?_
      refine l_nil ?_
      refine q_conv (fun w S => S.perm p3) ?_
      refine q_conv (fun w S => S.perm p1) ?_
      refine q_conv (fun w S => S.perm p3) ?_
      refine q_conv (fun w S => S.perm p3) ?_
      refine h_next ?_
      refine h_take 23 rfl rfl (by kernel_rfl) (by kernel_rfl) (by kernel_rfl) (fun L0 => v_fieldAddr (q := ⟨b3, 7, none⟩) rfl rfl Try.underlying35 rfl ti33 rfl) ?_
      refine h_one 24 rfl (by kernel_rfl) ?_
      refine l_f3 ?_
      refine o_store1 rfl rfl rfl ti33 rfl rfl ?_
      refine l_nil ?_
      refine q_conv (fun w S => S.perm p3) ?_
      refine q_conv (fun w S => S.perm p1) ?_
      refine q_conv (fun w S => S.perm p3) ?_
      refine q_conv (fun w S => S.perm p3) ?_
      refine h_next ?_
      refine h_done (by kernel_rfl) ?_
      refine q_block ?_
      refine q_then ?_
      refine c_region ?_
      refine o_move rfl rfl ?_
      refine o_bin rfl rfl rfl (b_add (wrap_i64 (by omega) (by omega))) ?_
      refine o_assign rfl rfl ?_
      refine l_nil ?_
      refine q_conv (fun w S => S.perm p1) ?_
      refine q_conv (fun w S => S.perm p1) ?_
      refine q_conv (fun w S => S.perm p2) ?_
      refine q_conv (fun w S => S.perm p3) ?_
      exact q_round (i + 1, a49, c49) (by (try dsimp only); omega) (by (try dsimp only); omega) ⟨(by first | rfl | exact vint (by omega)), (by first | rfl | exact vint (by omega)), (by first | rfl | exact vint (by omega)), (by first | rfl | exact vint (by omega)), trivial⟩ (fun w S => S)
   · -- 19 comes first
    refine o_load1 rfl rfl Try.underlying9 rfl (rd_sl e_Vote_ok eadx (rds_c (rds_c (rds_c (rds_c T_m)))) hx44 rfl) ?_
    refine l_nil ?_
    refine h_next ?_
    refine h_many (is := [1, 7]) (by kernel_rfl) (by decide) (forall_cons ⟨_, rfl, ?_⟩ (forall_cons ⟨_, rfl, ?_⟩ forall_nil))
    · -- 1 comes first
     refine o_load1 rfl rfl Try.underlying33 rfl (rd_mem 3 rfl rfl) ?_
     refine l_nil ?_
     refine h_next ?_
     refine h_one 7 rfl (by kernel_rfl) ?_
     refine o_load1 rfl rfl Try.underlying3 rfl (rd_sl e_Vote_ok eadx (rds_c (rds_c (rds_c (rds_c T_m)))) hx32 rfl) ?_
     refine l_nil ?_
     refine h_next ?_
     refine h_take 20 rfl rfl (by kernel_rfl) (by kernel_rfl) (by kernel_rfl) (fun L0 => v_build rfl sp58 ti58 rfl ((fill_cons (cells' := [.int .i64 x32.f_Slot, .int .u64 0, .string ByteArray.empty]) rfl rfl rfl rfl (fill_cons (cells' := [.int .i64 x32.f_Slot, .int .u64 x38.f_Ballot, .string ByteArray.empty]) rfl rfl rfl rfl (fill_cons (cells' := [.int .i64 x32.f_Slot, .int .u64 x38.f_Ballot, .string x44.f_Value]) rfl rfl rfl rfl fill_nil))))) ?_
     refine h_one 21 rfl (by kernel_rfl) ?_
     refine o_lit e_RVote_ok rfl Try.underlying33 rfl rfl rfl (lit_ok rfl) [⟨x32.f_Slot, x38.f_Ballot, x44.f_Value⟩] rfl rfl fun a48 => ?_
     refine l_nil ?_
     refine q_conv (fun w S => S.perm p4) ?_
     refine q_conv (fun w S => S.perm p4) ?_
     refine q_conv (fun w S => S.perm p2) ?_
     refine q_conv (fun w S => S.perm p4) ?_
     refine q_conv (fun w S => S.perm p4) ?_
     refine h_next ?_
     refine h_one 22 rfl (by kernel_rfl) ?_
     refine l_f3 ?_
     refine o_append e_RVote_ok rfl rfl rfl Try.underlying33 (rds_own e_RVote_ok 3 rfl) (by show (_ + _) * 32 ≤ _; (try simp only [List.length_append, List.length_cons, List.length_nil]); omega) (by (try simp only [List.length_append, List.length_cons, List.length_nil]); omega) fun a49 c49 => ?_
     refine l_f3 ?_
     refine l_drop ?_
     refine l_eq (t := 49) (v' := .slice a49 (((m.f_Votes.xs.take (i + 1)).map toR)).length c49) rfl (by rw [hval]) ?_
     refine l_conv (L' := row e_RVote.T e_RVote.sz a49 (((m.f_Votes.xs.take (i + 1)).map toR)).length c49 (flat e_RVote ((m.f_Votes.xs.take (i + 1)).map toR)) :: _) (fun w S => by rw [hval] at S; exact S) ?_
     refine l_nil ?_
     refine q_conv (fun w S => S.perm p3) ?_
     refine q_conv (fun w S => S.perm p1) ?_
     refine q_conv (fun w S => S.perm p3) ?_
     refine q_conv (fun w S => S.perm p3) ?_
     refine h_next ?_
     refine h_take 23 rfl rfl (by kernel_rfl) (by kernel_rfl) (by kernel_rfl) (fun L0 => v_fieldAddr (q := ⟨b3, 7, none⟩) rfl rfl Try.underlying35 rfl ti33 rfl) ?_
     refine h_one 24 rfl (by kernel_rfl) ?_
     refine l_f3 ?_
     refine o_store1 rfl rfl rfl ti33 rfl rfl ?_
     refine l_nil ?_
     refine q_conv (fun w S => S.perm p3) ?_
     refine q_conv (fun w S => S.perm p1) ?_
     refine q_conv (fun w S => S.perm p3) ?_
     refine q_conv (fun w S => S.perm p3) ?_
     refine h_next ?_
     refine h_done (by kernel_rfl) ?_
     refine q_block ?_
     refine q_then ?_
     refine c_region ?_
     refine o_move rfl rfl ?_
     refine o_bin rfl rfl rfl (b_add (wrap_i64 (by omega) (by omega))) ?_
     refine o_assign rfl rfl ?_
     refine l_nil ?_
     refine q_conv (fun w S => S.perm p1) ?_
     refine q_conv (fun w S => S.perm p1) ?_
     refine q_conv (fun w S => S.perm p2) ?_
     refine q_conv (fun w S => S.perm p3) ?_
     exact q_round (i + 1, a49, c49) (by (try dsimp only); omega) (by (try dsimp only); omega) ⟨(by first | rfl | exact vint (by omega)), (by first | rfl | exact vint (by omega)), (by first | rfl | exact vint (by omega)), (by first | rfl | exact vint (by omega)), trivial⟩ (fun w S => S)
    · -- 7 comes first
     refine o_load1 rfl rfl Try.underlying3 rfl (rd_sl e_Vote_ok eadx (rds_c (rds_c (rds_c (rds_c T_m)))) hx32 rfl) ?_
     refine l_nil ?_
     refine h_next ?_
     refine h_take 20 rfl rfl (by kernel_rfl) (by kernel_rfl) (by kernel_rfl) (fun L0 => v_build rfl sp58 ti58 rfl ((fill_cons (cells' := [.int .i64 x32.f_Slot, .int .u64 0, .string ByteArray.empty]) rfl rfl rfl rfl (fill_cons (cells' := [.int .i64 x32.f_Slot, .int .u64 x38.f_Ballot, .string ByteArray.empty]) rfl rfl rfl rfl (fill_cons (cells' := [.int .i64 x32.f_Slot, .int .u64 x38.f_Ballot, .string x44.f_Value]) rfl rfl rfl rfl fill_nil))))) ?_
     refine h_many (is := [1, 21]) (by kernel_rfl) (by decide) (forall_cons ⟨_, rfl, ?_⟩ (forall_cons ⟨_, rfl, ?_⟩ forall_nil))
     · -- 1 comes first
      refine o_load1 rfl rfl Try.underlying33 rfl (rd_mem 3 rfl rfl) ?_
      refine l_nil ?_
      refine h_next ?_
      refine h_one 21 rfl (by kernel_rfl) ?_
      refine o_lit e_RVote_ok rfl Try.underlying33 rfl rfl rfl (lit_ok rfl) [⟨x32.f_Slot, x38.f_Ballot, x44.f_Value⟩] rfl rfl fun a48 => ?_
      refine l_nil ?_
      refine q_conv (fun w S => S.perm p4) ?_
      refine q_conv (fun w S => S.perm p4) ?_
      refine q_conv (fun w S => S.perm p2) ?_
      refine q_conv (fun w S => S.perm p4) ?_
      refine q_conv (fun w S => S.perm p4) ?_
      refine h_next ?_
      refine h_one 22 rfl (by kernel_rfl) ?_
      refine l_f3 ?_
      refine o_append e_RVote_ok rfl rfl rfl Try.underlying33 (rds_own e_RVote_ok 3 rfl) (by show (_ + _) * 32 ≤ _; (try simp only [List.length_append, List.length_cons, List.length_nil]); omega) (by (try simp only [List.length_append, List.length_cons, List.length_nil]); omega) fun a49 c49 => ?_
      refine l_f3 ?_
      refine l_drop ?_
      refine l_eq (t := 49) (v' := .slice a49 (((m.f_Votes.xs.take (i + 1)).map toR)).length c49) rfl (by rw [hval]) ?_
      refine l_conv (L' := row e_RVote.T e_RVote.sz a49 (((m.f_Votes.xs.take (i + 1)).map toR)).length c49 (flat e_RVote ((m.f_Votes.xs.take (i + 1)).map toR)) :: _) (fun w S => by rw [hval] at S; exact S) ?_
      refine l_nil ?_
      refine q_conv (fun w S => S.perm p3) ?_
      refine q_conv (fun w S => S.perm p1) ?_
      refine q_conv (fun w S => S.perm p3) ?_
      refine q_conv (fun w S => S.perm p3) ?_
      refine h_next ?_
      refine h_take 23 rfl rfl (by kernel_rfl) (by kernel_rfl) (by kernel_rfl) (fun L0 => v_fieldAddr (q := ⟨b3, 7, none⟩) rfl rfl Try.underlying35 rfl ti33 rfl) ?_
      refine h_one 24 rfl (by kernel_rfl) ?_
      refine l_f3 ?_
      refine o_store1 rfl rfl rfl ti33 rfl rfl ?_
      refine l_nil ?_
      refine q_conv (fun w S => S.perm p3) ?_
      refine q_conv (fun w S => S.perm p1) ?_
      refine q_conv (fun w S => S.perm p3) ?_
      refine q_conv (fun w S => S.perm p3) ?_
      refine h_next ?_
      refine h_done (by kernel_rfl) ?_
      refine q_block ?_
      refine q_then ?_
      refine c_region ?_
      refine o_move rfl rfl ?_
      refine o_bin rfl rfl rfl (b_add (wrap_i64 (by omega) (by omega))) ?_
      refine o_assign rfl rfl ?_
      refine l_nil ?_
      refine q_conv (fun w S => S.perm p1) ?_
      refine q_conv (fun w S => S.perm p1) ?_
      refine q_conv (fun w S => S.perm p2) ?_
      refine q_conv (fun w S => S.perm p3) ?_
      exact q_round (i + 1, a49, c49) (by (try dsimp only); omega) (by (try dsimp only); omega) ⟨(by first | rfl | exact vint (by omega)), (by first | rfl | exact vint (by omega)), (by first | rfl | exact vint (by omega)), (by first | rfl | exact vint (by omega)), trivial⟩ (fun w S => S)
     · -- 21 comes first
      refine o_lit e_RVote_ok rfl Try.underlying33 rfl rfl rfl (lit_ok rfl) [⟨x32.f_Slot, x38.f_Ballot, x44.f_Value⟩] rfl rfl fun a48 => ?_
      refine l_nil ?_
      refine q_conv (fun w S => S.perm p4) ?_
      refine q_conv (fun w S => S.perm p4) ?_
      refine q_conv (fun w S => S.perm p2) ?_
      refine q_conv (fun w S => S.perm p4) ?_
      refine q_conv (fun w S => S.perm p4) ?_
      refine h_next ?_
      refine h_one 1 rfl (by kernel_rfl) ?_
      refine o_load1 rfl rfl Try.underlying33 rfl (rd_mem 4 rfl rfl) ?_
      refine l_nil ?_
      refine h_next ?_
      refine h_one 22 rfl (by kernel_rfl) ?_
      refine l_f3 ?_
      refine o_append e_RVote_ok rfl rfl rfl Try.underlying33 (rds_own e_RVote_ok 3 rfl) (by show (_ + _) * 32 ≤ _; (try simp only [List.length_append, List.length_cons, List.length_nil]); omega) (by (try simp only [List.length_append, List.length_cons, List.length_nil]); omega) fun a49 c49 => ?_
      refine l_f3 ?_
      refine l_drop ?_
      refine l_eq (t := 49) (v' := .slice a49 (((m.f_Votes.xs.take (i + 1)).map toR)).length c49) rfl (by rw [hval]) ?_
      refine l_conv (L' := row e_RVote.T e_RVote.sz a49 (((m.f_Votes.xs.take (i + 1)).map toR)).length c49 (flat e_RVote ((m.f_Votes.xs.take (i + 1)).map toR)) :: _) (fun w S => by rw [hval] at S; exact S) ?_
      refine l_nil ?_
      refine q_conv (fun w S => S.perm p3) ?_
      refine q_conv (fun w S => S.perm p1) ?_
      refine q_conv (fun w S => S.perm p3) ?_
      refine q_conv (fun w S => S.perm p3) ?_
      refine h_next ?_
      refine h_take 23 rfl rfl (by kernel_rfl) (by kernel_rfl) (by kernel_rfl) (fun L0 => v_fieldAddr (q := ⟨b3, 7, none⟩) rfl rfl Try.underlying35 rfl ti33 rfl) ?_
      refine h_one 24 rfl (by kernel_rfl) ?_
      refine l_f3 ?_
      refine o_store1 rfl rfl rfl ti33 rfl rfl ?_
      refine l_nil ?_
      refine q_conv (fun w S => S.perm p3) ?_
      refine q_conv (fun w S => S.perm p1) ?_
      refine q_conv (fun w S => S.perm p3) ?_
      refine q_conv (fun w S => S.perm p3) ?_
      refine h_next ?_
      refine h_done (by kernel_rfl) ?_
      refine q_block ?_
      refine q_then ?_
      refine c_region ?_
      refine o_move rfl rfl ?_
      refine o_bin rfl rfl rfl (b_add (wrap_i64 (by omega) (by omega))) ?_
      refine o_assign rfl rfl ?_
      refine l_nil ?_
      refine q_conv (fun w S => S.perm p1) ?_
      refine q_conv (fun w S => S.perm p1) ?_
      refine q_conv (fun w S => S.perm p2) ?_
      refine q_conv (fun w S => S.perm p3) ?_
      exact q_round (i + 1, a49, c49) (by (try dsimp only); omega) (by (try dsimp only); omega) ⟨(by first | rfl | exact vint (by omega)), (by first | rfl | exact vint (by omega)), (by first | rfl | exact vint (by omega)), (by first | rfl | exact vint (by omega)), trivial⟩ (fun w S => S)
  · -- 19 comes first
   refine o_load1 rfl rfl Try.underlying9 rfl (rd_sl e_Vote_ok eadx (rds_c (rds_c (rds_c (rds_c T_m)))) hx44 rfl) ?_
   refine l_nil ?_
   refine h_next ?_
   refine h_many (is := [1, 7, 13]) (by kernel_rfl) (by decide) (forall_cons ⟨_, rfl, ?_⟩ (forall_cons ⟨_, rfl, ?_⟩ (forall_cons ⟨_, rfl, ?_⟩ forall_nil)))
   · -- 1 comes first
    refine o_load1 rfl rfl Try.underlying33 rfl (rd_mem 3 rfl rfl) ?_
    refine l_nil ?_
    refine h_next ?_
    refine h_many (is := [7, 13]) (by kernel_rfl) (by decide) (forall_cons ⟨_, rfl, ?_⟩ (forall_cons ⟨_, rfl, ?_⟩ forall_nil))
    · -- 7 comes first
     refine o_load1 rfl rfl Try.underlying3 rfl (rd_sl e_Vote_ok eadx (rds_c (rds_c (rds_c (rds_c T_m)))) hx32 rfl) ?_
     refine l_nil ?_
     refine h_next ?_
     refine h_one 13 rfl (by kernel_rfl) ?_
     refine o_load1 rfl rfl Try.underlying23 rfl (rd_sl e_Vote_ok eadx (rds_c (rds_c (rds_c (rds_c T_m)))) hx38 rfl) ?_
     refine l_nil ?_
     refine h_next ?_
     refine h_take 20 rfl rfl (by kernel_rfl) (by kernel_rfl) (by kernel_rfl) (fun L0 => v_build rfl sp58 ti58 rfl ((fill_cons (cells' := [.int .i64 x32.f_Slot, .int .u64 0, .string ByteArray.empty]) rfl rfl rfl rfl (fill_cons (cells' := [.int .i64 x32.f_Slot, .int .u64 x38.f_Ballot, .string ByteArray.empty]) rfl rfl rfl rfl (fill_cons (cells' := [.int .i64 x32.f_Slot, .int .u64 x38.f_Ballot, .string x44.f_Value]) rfl rfl rfl rfl fill_nil))))) ?_
     refine h_one 21 rfl (by kernel_rfl) ?_
     refine o_lit e_RVote_ok rfl Try.underlying33 rfl rfl rfl (lit_ok rfl) [⟨x32.f_Slot, x38.f_Ballot, x44.f_Value⟩] rfl rfl fun a48 => ?_
     refine l_nil ?_
     refine q_conv (fun w S => S.perm p4) ?_
     refine q_conv (fun w S => S.perm p4) ?_
     refine q_conv (fun w S => S.perm p2) ?_
     refine q_conv (fun w S => S.perm p4) ?_
     refine q_conv (fun w S => S.perm p4) ?_
     refine h_next ?_
     refine h_one 22 rfl (by kernel_rfl) ?_
     refine l_f3 ?_
     refine o_append e_RVote_ok rfl rfl rfl Try.underlying33 (rds_own e_RVote_ok 3 rfl) (by show (_ + _) * 32 ≤ _; (try simp only [List.length_append, List.length_cons, List.length_nil]); omega) (by (try simp only [List.length_append, List.length_cons, List.length_nil]); omega) fun a49 c49 => ?_
     refine l_f3 ?_
     refine l_drop ?_
     refine l_eq (t := 49) (v' := .slice a49 (((m.f_Votes.xs.take (i + 1)).map toR)).length c49) rfl (by rw [hval]) ?_
     refine l_conv (L' := row e_RVote.T e_RVote.sz a49 (((m.f_Votes.xs.take (i + 1)).map toR)).length c49 (flat e_RVote ((m.f_Votes.xs.take (i + 1)).map toR)) :: _) (fun w S => by rw [hval] at S; exact S) ?_
     refine l_nil ?_
     refine q_conv (fun w S => S.perm p3) ?_
     refine q_conv (fun w S => S.perm p1) ?_
     refine q_conv (fun w S => S.perm p3) ?_
     refine q_conv (fun w S => S.perm p3) ?_
     refine h_next ?_
     refine h_take 23 rfl rfl (by kernel_rfl) (by kernel_rfl) (by kernel_rfl) (fun L0 => v_fieldAddr (q := ⟨b3, 7, none⟩) rfl rfl Try.underlying35 rfl ti33 rfl) ?_
     refine h_one 24 rfl (by kernel_rfl) ?_
     refine l_f3 ?_
     refine o_store1 rfl rfl rfl ti33 rfl rfl ?_
     refine l_nil ?_
     refine q_conv (fun w S => S.perm p3) ?_
     refine q_conv (fun w S => S.perm p1) ?_
     refine q_conv (fun w S => S.perm p3) ?_
     refine q_conv (fun w S => S.perm p3) ?_
     refine h_next ?_
     refine h_done (by kernel_rfl) ?_
     refine q_block ?_
     refine q_then ?_
     refine c_region ?_
     refine o_move rfl rfl ?_
     refine o_bin rfl rfl rfl (b_add (wrap_i64 (by omega) (by omega))) ?_
     refine o_assign rfl rfl ?_
     refine l_nil ?_
     refine q_conv (fun w S => S.perm p1) ?_
     refine q_conv (fun w S => S.perm p1) ?_
     refine q_conv (fun w S => S.perm p2) ?_
     refine q_conv (fun w S => S.perm p3) ?_
     exact q_round (i + 1, a49, c49) (by (try dsimp only); omega) (by (try dsimp only); omega) ⟨(by first | rfl | exact vint (by omega)), (by first | rfl | exact vint (by omega)), (by first | rfl | exact vint (by omega)), (by first | rfl | exact vint (by omega)), trivial⟩ (fun w S => S)
    · -- 13 comes first
     refine o_load1 rfl rfl Try.underlying23 rfl (rd_sl e_Vote_ok eadx (rds_c (rds_c (rds_c (rds_c T_m)))) hx38 rfl) ?_
     refine l_nil ?_
     refine h_next ?_
     refine h_one 7 rfl (by kernel_rfl) ?_
     refine o_load1 rfl rfl Try.underlying3 rfl (rd_sl e_Vote_ok eadx (rds_c (rds_c (rds_c (rds_c T_m)))) hx32 rfl) ?_
     refine l_nil ?_
     refine h_next ?_
     refine h_take 20 rfl rfl (by kernel_rfl) (by kernel_rfl) (by kernel_rfl) (fun L0 => v_build rfl sp58 ti58 rfl ((fill_cons (cells' := [.int .i64 x32.f_Slot, .int .u64 0, .string ByteArray.empty]) rfl rfl rfl rfl (fill_cons (cells' := [.int .i64 x32.f_Slot, .int .u64 x38.f_Ballot, .string ByteArray.empty]) rfl rfl rfl rfl (fill_cons (cells' := [.int .i64 x32.f_Slot, .int .u64 x38.f_Ballot, .string x44.f_Value]) rfl rfl rfl rfl fill_nil))))) ?_
     refine h_one 21 rfl (by kernel_rfl) ?_
     refine o_lit e_RVote_ok rfl Try.underlying33 rfl rfl rfl (lit_ok rfl) [⟨x32.f_Slot, x38.f_Ballot, x44.f_Value⟩] rfl rfl fun a48 => ?_
     refine l_nil ?_
     refine q_conv (fun w S => S.perm p4) ?_
     refine q_conv (fun w S => S.perm p4) ?_
     refine q_conv (fun w S => S.perm p2) ?_
     refine q_conv (fun w S => S.perm p4) ?_
     refine q_conv (fun w S => S.perm p4) ?_
     refine h_next ?_
     refine h_one 22 rfl (by kernel_rfl) ?_
     refine l_f3 ?_
     refine o_append e_RVote_ok rfl rfl rfl Try.underlying33 (rds_own e_RVote_ok 3 rfl) (by show (_ + _) * 32 ≤ _; (try simp only [List.length_append, List.length_cons, List.length_nil]); omega) (by (try simp only [List.length_append, List.length_cons, List.length_nil]); omega) fun a49 c49 => ?_
     refine l_f3 ?_
     refine l_drop ?_
     refine l_eq (t := 49) (v' := .slice a49 (((m.f_Votes.xs.take (i + 1)).map toR)).length c49) rfl (by rw [hval]) ?_
     refine l_conv (L' := row e_RVote.T e_RVote.sz a49 (((m.f_Votes.xs.take (i + 1)).map toR)).length c49 (flat e_RVote ((m.f_Votes.xs.take (i + 1)).map toR)) :: _) (fun w S => by rw [hval] at S; exact S) ?_
     refine l_nil ?_
     refine q_conv (fun w S => S.perm p3) ?_
     refine q_conv (fun w S => S.perm p1) ?_
     refine q_conv (fun w S => S.perm p3) ?_
     refine q_conv (fun w S => S.perm p3) ?_
     refine h_next ?_
     refine h_take 23 rfl rfl (by kernel_rfl) (by kernel_rfl) (by kernel_rfl) (fun L0 => v_fieldAddr (q := ⟨b3, 7, none⟩) rfl rfl Try.underlying35 rfl ti33 rfl) ?_
     refine h_one 24 rfl (by kernel_rfl) ?_
     refine l_f3 ?_
     refine o_store1 rfl rfl rfl ti33 rfl rfl ?_
     refine l_nil ?_
     refine q_conv (fun w S => S.perm p3) ?_
     refine q_conv (fun w S => S.perm p1) ?_
     refine q_conv (fun w S => S.perm p3) ?_
     refine q_conv (fun w S => S.perm p3) ?_
     refine h_next ?_
     refine h_done (by kernel_rfl) ?_
     refine q_block ?_
     refine q_then ?_
     refine c_region ?_
     refine o_move rfl rfl ?_
     refine o_bin rfl rfl rfl (b_add (wrap_i64 (by omega) (by omega))) ?_
     refine o_assign rfl rfl ?_
     refine l_nil ?_
     refine q_conv (fun w S => S.perm p1) ?_
     refine q_conv (fun w S => S.perm p1) ?_
     refine q_conv (fun w S => S.perm p2) ?_
     refine q_conv (fun w S => S.perm p3) ?_
     exact q_round (i + 1, a49, c49) (by (try dsimp only); omega) (by (try dsimp only); omega) ⟨(by first | rfl | exact vint (by omega)), (by first | rfl | exact vint (by omega)), (by first | rfl | exact vint (by omega)), (by first | rfl | exact vint (by omega)), trivial⟩ (fun w S => S)
   · -- 7 comes first
    refine o_load1 rfl rfl Try.underlying3 rfl (rd_sl e_Vote_ok eadx (rds_c (rds_c (rds_c (rds_c T_m)))) hx32 rfl) ?_
    refine l_nil ?_
    refine h_next ?_
    refine h_many (is := [1, 13]) (by kernel_rfl) (by decide) (forall_cons ⟨_, rfl, ?_⟩ (forall_cons ⟨_, rfl, ?_⟩ forall_nil))
    · -- 1 comes first
     refine o_load1 rfl rfl Try.underlying33 rfl (rd_mem 3 rfl rfl) ?_
     refine l_nil ?_
     refine h_next ?_
     refine h_one 13 rfl (by kernel_rfl) ?_
     refine o_load1 rfl rfl Try.underlying23 rfl (rd_sl e_Vote_ok eadx (rds_c (rds_c (rds_c (rds_c T_m)))) hx38 rfl) ?_
     refine l_nil ?_
     refine h_next ?_
     refine h_take 20 rfl rfl (by kernel_rfl) (by kernel_rfl) (by kernel_rfl) (fun L0 => v_build rfl sp58 ti58 rfl ((fill_cons (cells' := [.int .i64 x32.f_Slot, .int .u64 0, .string ByteArray.empty]) rfl rfl rfl rfl (fill_cons (cells' := [.int .i64 x32.f_Slot, .int .u64 x38.f_Ballot, .string ByteArray.empty]) rfl rfl rfl rfl (fill_cons (cells' := [.int .i64 x32.f_Slot, .int .u64 x38.f_Ballot, .string x44.f_Value]) rfl rfl rfl rfl fill_nil))))) ?_
     refine h_one 21 rfl (by kernel_rfl) ?_
     refine o_lit e_RVote_ok rfl Try.underlying33 rfl rfl rfl (lit_ok rfl) [⟨x32.f_Slot, x38.f_Ballot, x44.f_Value⟩] rfl rfl fun a48 => ?_
     refine l_nil ?_
     refine q_conv (fun w S => S.perm p4) ?_
     refine q_conv (fun w S => S.perm p4) ?_
     refine q_conv (fun w S => S.perm p2) ?_
     refine q_conv (fun w S => S.perm p4) ?_
     refine q_conv (fun w S => S.perm p4) ?_
     refine h_next ?_
     refine h_one 22 rfl (by kernel_rfl) ?_
     refine l_f3 ?_
     refine o_append e_RVote_ok rfl rfl rfl Try.underlying33 (rds_own e_RVote_ok 3 rfl) (by show (_ + _) * 32 ≤ _; (try simp only [List.length_append, List.length_cons, List.length_nil]); omega) (by (try simp only [List.length_append, List.length_cons, List.length_nil]); omega) fun a49 c49 => ?_
     refine l_f3 ?_
     refine l_drop ?_
     refine l_eq (t := 49) (v' := .slice a49 (((m.f_Votes.xs.take (i + 1)).map toR)).length c49) rfl (by rw [hval]) ?_
     refine l_conv (L' := row e_RVote.T e_RVote.sz a49 (((m.f_Votes.xs.take (i + 1)).map toR)).length c49 (flat e_RVote ((m.f_Votes.xs.take (i + 1)).map toR)) :: _) (fun w S => by rw [hval] at S; exact S) ?_
     refine l_nil ?_
     refine q_conv (fun w S => S.perm p3) ?_
     refine q_conv (fun w S => S.perm p1) ?_
     refine q_conv (fun w S => S.perm p3) ?_
     refine q_conv (fun w S => S.perm p3) ?_
     refine h_next ?_
     refine h_take 23 rfl rfl (by kernel_rfl) (by kernel_rfl) (by kernel_rfl) (fun L0 => v_fieldAddr (q := ⟨b3, 7, none⟩) rfl rfl Try.underlying35 rfl ti33 rfl) ?_
     refine h_one 24 rfl (by kernel_rfl) ?_
     refine l_f3 ?_
     refine o_store1 rfl rfl rfl ti33 rfl rfl ?_
     refine l_nil ?_
     refine q_conv (fun w S => S.perm p3) ?_
     refine q_conv (fun w S => S.perm p1) ?_
     refine q_conv (fun w S => S.perm p3) ?_
     refine q_conv (fun w S => S.perm p3) ?_
     refine h_next ?_
     refine h_done (by kernel_rfl) ?_
     refine q_block ?_
     refine q_then ?_
     refine c_region ?_
     refine o_move rfl rfl ?_
     refine o_bin rfl rfl rfl (b_add (wrap_i64 (by omega) (by omega))) ?_
     refine o_assign rfl rfl ?_
     refine l_nil ?_
     refine q_conv (fun w S => S.perm p1) ?_
     refine q_conv (fun w S => S.perm p1) ?_
     refine q_conv (fun w S => S.perm p2) ?_
     refine q_conv (fun w S => S.perm p3) ?_
     exact q_round (i + 1, a49, c49) (by (try dsimp only); omega) (by (try dsimp only); omega) ⟨(by first | rfl | exact vint (by omega)), (by first | rfl | exact vint (by omega)), (by first | rfl | exact vint (by omega)), (by first | rfl | exact vint (by omega)), trivial⟩ (fun w S => S)
    · -- 13 comes first
     refine o_load1 rfl rfl Try.underlying23 rfl (rd_sl e_Vote_ok eadx (rds_c (rds_c (rds_c (rds_c T_m)))) hx38 rfl) ?_
     refine l_nil ?_
     refine h_next ?_
     refine h_take 20 rfl rfl (by kernel_rfl) (by kernel_rfl) (by kernel_rfl) (fun L0 => v_build rfl sp58 ti58 rfl ((fill_cons (cells' := [.int .i64 x32.f_Slot, .int .u64 0, .string ByteArray.empty]) rfl rfl rfl rfl (fill_cons (cells' := [.int .i64 x32.f_Slot, .int .u64 x38.f_Ballot, .string ByteArray.empty]) rfl rfl rfl rfl (fill_cons (cells' := [.int .i64 x32.f_Slot, .int .u64 x38.f_Ballot, .string x44.f_Value]) rfl rfl rfl rfl fill_nil))))) ?_
     refine h_many (is := [1, 21]) (by kernel_rfl) (by decide) (forall_cons ⟨_, rfl, ?_⟩ (forall_cons ⟨_, rfl, ?_⟩ forall_nil))
     · -- 1 comes first
      refine o_load1 rfl rfl Try.underlying33 rfl (rd_mem 3 rfl rfl) ?_
      refine l_nil ?_
      refine h_next ?_
      refine h_one 21 rfl (by kernel_rfl) ?_
      refine o_lit e_RVote_ok rfl Try.underlying33 rfl rfl rfl (lit_ok rfl) [⟨x32.f_Slot, x38.f_Ballot, x44.f_Value⟩] rfl rfl fun a48 => ?_
      refine l_nil ?_
      refine q_conv (fun w S => S.perm p4) ?_
      refine q_conv (fun w S => S.perm p4) ?_
      refine q_conv (fun w S => S.perm p2) ?_
      refine q_conv (fun w S => S.perm p4) ?_
      refine q_conv (fun w S => S.perm p4) ?_
      refine h_next ?_
      refine h_one 22 rfl (by kernel_rfl) ?_
      refine l_f3 ?_
      refine o_append e_RVote_ok rfl rfl rfl Try.underlying33 (rds_own e_RVote_ok 3 rfl) (by show (_ + _) * 32 ≤ _; (try simp only [List.length_append, List.length_cons, List.length_nil]); omega) (by (try simp only [List.length_append, List.length_cons, List.length_nil]); omega) fun a49 c49 => ?_
      refine l_f3 ?_
      refine l_drop ?_
      refine l_eq (t := 49) (v' := .slice a49 (((m.f_Votes.xs.take (i + 1)).map toR)).length c49) rfl (by rw [hval]) ?_
      refine l_conv (L' := row e_RVote.T e_RVote.sz a49 (((m.f_Votes.xs.take (i + 1)).map toR)).length c49 (flat e_RVote ((m.f_Votes.xs.take (i + 1)).map toR)) :: _) (fun w S => by rw [hval] at S; exact S) ?_
      refine l_nil ?_
      refine q_conv (fun w S => S.perm p3) ?_
      refine q_conv (fun w S => S.perm p1) ?_
      refine q_conv (fun w S => S.perm p3) ?_
      refine q_conv (fun w S => S.perm p3) ?_
      refine h_next ?_
      refine h_take 23 rfl rfl (by kernel_rfl) (by kernel_rfl) (by kernel_rfl) (fun L0 => v_fieldAddr (q := ⟨b3, 7, none⟩) rfl rfl Try.underlying35 rfl ti33 rfl) ?_
      refine h_one 24 rfl (by kernel_rfl) ?_
      refine l_f3 ?_
      refine o_store1 rfl rfl rfl ti33 rfl rfl ?_
      refine l_nil ?_
      refine q_conv (fun w S => S.perm p3) ?_
      refine q_conv (fun w S => S.perm p1) ?_
      refine q_conv (fun w S => S.perm p3) ?_
      refine q_conv (fun w S => S.perm p3) ?_
      refine h_next ?_
      refine h_done (by kernel_rfl) ?_
      refine q_block ?_
      refine q_then ?_
      refine c_region ?_
      refine o_move rfl rfl ?_
      refine o_bin rfl rfl rfl (b_add (wrap_i64 (by omega) (by omega))) ?_
      refine o_assign rfl rfl ?_
      refine l_nil ?_
      refine q_conv (fun w S => S.perm p1) ?_
      refine q_conv (fun w S => S.perm p1) ?_
      refine q_conv (fun w S => S.perm p2) ?_
      refine q_conv (fun w S => S.perm p3) ?_
      exact q_round (i + 1, a49, c49) (by (try dsimp only); omega) (by (try dsimp only); omega) ⟨(by first | rfl | exact vint (by omega)), (by first | rfl | exact vint (by omega)), (by first | rfl | exact vint (by omega)), (by first | rfl | exact vint (by omega)), trivial⟩ (fun w S => S)
     · -- 21 comes first
      refine o_lit e_RVote_ok rfl Try.underlying33 rfl rfl rfl (lit_ok rfl) [⟨x32.f_Slot, x38.f_Ballot, x44.f_Value⟩] rfl rfl fun a48 => ?_
      refine l_nil ?_
      refine q_conv (fun w S => S.perm p4) ?_
      refine q_conv (fun w S => S.perm p4) ?_
      refine q_conv (fun w S => S.perm p2) ?_
      refine q_conv (fun w S => S.perm p4) ?_
      refine q_conv (fun w S => S.perm p4) ?_
      refine h_next ?_
      refine h_one 1 rfl (by kernel_rfl) ?_
      refine o_load1 rfl rfl Try.underlying33 rfl (rd_mem 4 rfl rfl) ?_
      refine l_nil ?_
      refine h_next ?_
      refine h_one 22 rfl (by kernel_rfl) ?_
      refine l_f3 ?_
      refine o_append e_RVote_ok rfl rfl rfl Try.underlying33 (rds_own e_RVote_ok 3 rfl) (by show (_ + _) * 32 ≤ _; (try simp only [List.length_append, List.length_cons, List.length_nil]); omega) (by (try simp only [List.length_append, List.length_cons, List.length_nil]); omega) fun a49 c49 => ?_
      refine l_f3 ?_
      refine l_drop ?_
      refine l_eq (t := 49) (v' := .slice a49 (((m.f_Votes.xs.take (i + 1)).map toR)).length c49) rfl (by rw [hval]) ?_
      refine l_conv (L' := row e_RVote.T e_RVote.sz a49 (((m.f_Votes.xs.take (i + 1)).map toR)).length c49 (flat e_RVote ((m.f_Votes.xs.take (i + 1)).map toR)) :: _) (fun w S => by rw [hval] at S; exact S) ?_
      refine l_nil ?_
      refine q_conv (fun w S => S.perm p3) ?_
      refine q_conv (fun w S => S.perm p1) ?_
      refine q_conv (fun w S => S.perm p3) ?_
      refine q_conv (fun w S => S.perm p3) ?_
      refine h_next ?_
      refine h_take 23 rfl rfl (by kernel_rfl) (by kernel_rfl) (by kernel_rfl) (fun L0 => v_fieldAddr (q := ⟨b3, 7, none⟩) rfl rfl Try.underlying35 rfl ti33 rfl) ?_
      refine h_one 24 rfl (by kernel_rfl) ?_
      refine l_f3 ?_
      refine o_store1 rfl rfl rfl ti33 rfl rfl ?_
      refine l_nil ?_
      refine q_conv (fun w S => S.perm p3) ?_
      refine q_conv (fun w S => S.perm p1) ?_
      refine q_conv (fun w S => S.perm p3) ?_
      refine q_conv (fun w S => S.perm p3) ?_
      refine h_next ?_
      refine h_done (by kernel_rfl) ?_
      refine q_block ?_
      refine q_then ?_
      refine c_region ?_
      refine o_move rfl rfl ?_
      refine o_bin rfl rfl rfl (b_add (wrap_i64 (by omega) (by omega))) ?_
      refine o_assign rfl rfl ?_
      refine l_nil ?_
      refine q_conv (fun w S => S.perm p1) ?_
      refine q_conv (fun w S => S.perm p1) ?_
      refine q_conv (fun w S => S.perm p2) ?_
      refine q_conv (fun w S => S.perm p3) ?_
      exact q_round (i + 1, a49, c49) (by (try dsimp only); omega) (by (try dsimp only); omega) ⟨(by first | rfl | exact vint (by omega)), (by first | rfl | exact vint (by omega)), (by first | rfl | exact vint (by omega)), (by first | rfl | exact vint (by omega)), trivial⟩ (fun w S => S)
   · -- 13 comes first
    refine o_load1 rfl rfl Try.underlying23 rfl (rd_sl e_Vote_ok eadx (rds_c (rds_c (rds_c (rds_c T_m)))) hx38 rfl) ?_
    refine l_nil ?_
    refine h_next ?_
    refine h_many (is := [1, 7]) (by kernel_rfl) (by decide) (forall_cons ⟨_, rfl, ?_⟩ (forall_cons ⟨_, rfl, ?_⟩ forall_nil))
    · -- 1 comes first
     refine o_load1 rfl rfl Try.underlying33 rfl (rd_mem 3 rfl rfl) ?_
     refine l_nil ?_
     refine h_next ?_
     refine h_one 7 rfl (by kernel_rfl) ?_
     refine o_load1 rfl rfl Try.underlying3 rfl (rd_sl e_Vote_ok eadx (rds_c (rds_c (rds_c (rds_c T_m)))) hx32 rfl) ?_
     refine l_nil ?_
     refine h_next ?_
     refine h_take 20 rfl rfl (by kernel_rfl) (by kernel_rfl) (by kernel_rfl) (fun L0 => v_build rfl sp58 ti58 rfl ((fill_cons (cells' := [.int .i64 x32.f_Slot, .int .u64 0, .string ByteArray.empty]) rfl rfl rfl rfl (fill_cons (cells' := [.int .i64 x32.f_Slot, .int .u64 x38.f_Ballot, .string ByteArray.empty]) rfl rfl rfl rfl (fill_cons (cells' := [.int .i64 x32.f_Slot, .int .u64 x38.f_Ballot, .string x44.f_Value]) rfl rfl rfl rfl fill_nil))))) ?_
     refine h_one 21 rfl (by kernel_rfl) ?_
     refine o_lit e_RVote_ok rfl Try.underlying33 rfl rfl rfl (lit_ok rfl) [⟨x32.f_Slot, x38.f_Ballot, x44.f_Value⟩] rfl rfl fun a48 => ?_
     refine l_nil ?_
     refine q_conv (fun w S => S.perm p4) ?_
     refine q_conv (fun w S => S.perm p4) ?_
     refine q_conv (fun w S => S.perm p2) ?_
     refine q_conv (fun w S => S.perm p4) ?_
     refine q_conv (fun w S => S.perm p4) ?_
     refine h_next ?_
     refine h_one 22 rfl (by kernel_rfl) ?_
     refine l_f3 ?_
     refine o_append e_RVote_ok rfl rfl rfl Try.underlying33 (rds_own e_RVote_ok 3 rfl) (by show (_ + _) * 32 ≤ _; (try simp only [List.length_append, List.length_cons, List.length_nil]); omega) (by (try simp only [List.length_append, List.length_cons, List.length_nil]); omega) fun a49 c49 => ?_
     refine l_f3 ?_
     refine l_drop ?_
     refine l_eq (t := 49) (v' := .slice a49 (((m.f_Votes.xs.take (i + 1)).map toR)).length c49) rfl (by rw [hval]) ?_
     refine l_conv (L' := row e_RVote.T e_RVote.sz a49 (((m.f_Votes.xs.take (i + 1)).map toR)).length c49 (flat e_RVote ((m.f_Votes.xs.take (i + 1)).map toR)) :: _) (fun w S => by rw [hval] at S; exact S) ?_
     refine l_nil ?_
     refine q_conv (fun w S => S.perm p3) ?_
     refine q_conv (fun w S => S.perm p1) ?_
     refine q_conv (fun w S => S.perm p3) ?_
     refine q_conv (fun w S => S.perm p3) ?_
     refine h_next ?_
     refine h_take 23 rfl rfl (by kernel_rfl) (by kernel_rfl) (by kernel_rfl) (fun L0 => v_fieldAddr (q := ⟨b3, 7, none⟩) rfl rfl Try.underlying35 rfl ti33 rfl) ?_
     refine h_one 24 rfl (by kernel_rfl) ?_
     refine l_f3 ?_
     refine o_store1 rfl rfl rfl ti33 rfl rfl ?_
     refine l_nil ?_
     refine q_conv (fun w S => S.perm p3) ?_
     refine q_conv (fun w S => S.perm p1) ?_
     refine q_conv (fun w S => S.perm p3) ?_
     refine q_conv (fun w S => S.perm p3) ?_
     refine h_next ?_
     refine h_done (by kernel_rfl) ?_
     refine q_block ?_
     refine q_then ?_
     refine c_region ?_
     refine o_move rfl rfl ?_
     refine o_bin rfl rfl rfl (b_add (wrap_i64 (by omega) (by omega))) ?_
     refine o_assign rfl rfl ?_
     refine l_nil ?_
     refine q_conv (fun w S => S.perm p1) ?_
     refine q_conv (fun w S => S.perm p1) ?_
     refine q_conv (fun w S => S.perm p2) ?_
     refine q_conv (fun w S => S.perm p3) ?_
     exact q_round (i + 1, a49, c49) (by (try dsimp only); omega) (by (try dsimp only); omega) ⟨(by first | rfl | exact vint (by omega)), (by first | rfl | exact vint (by omega)), (by first | rfl | exact vint (by omega)), (by first | rfl | exact vint (by omega)), trivial⟩ (fun w S => S)
    · -- 7 comes first
     refine o_load1 rfl rfl Try.underlying3 rfl (rd_sl e_Vote_ok eadx (rds_c (rds_c (rds_c (rds_c T_m)))) hx32 rfl) ?_
     refine l_nil ?_
     refine h_next ?_
     refine h_take 20 rfl rfl (by kernel_rfl) (by kernel_rfl) (by kernel_rfl) (fun L0 => v_build rfl sp58 ti58 rfl ((fill_cons (cells' := [.int .i64 x32.f_Slot, .int .u64 0, .string ByteArray.empty]) rfl rfl rfl rfl (fill_cons (cells' := [.int .i64 x32.f_Slot, .int .u64 x38.f_Ballot, .string ByteArray.empty]) rfl rfl rfl rfl (fill_cons (cells' := [.int .i64 x32.f_Slot, .int .u64 x38.f_Ballot, .string x44.f_Value]) rfl rfl rfl rfl fill_nil))))) ?_
     refine h_many (is := [1, 21]) (by kernel_rfl) (by decide) (forall_cons ⟨_, rfl, ?_⟩ (forall_cons ⟨_, rfl, ?_⟩ forall_nil))
     · -- 1 comes first
      refine o_load1 rfl rfl Try.underlying33 rfl (rd_mem 3 rfl rfl) ?_
      refine l_nil ?_
      refine h_next ?_
      refine h_one 21 rfl (by kernel_rfl) ?_
      refine o_lit e_RVote_ok rfl Try.underlying33 rfl rfl rfl (lit_ok rfl) [⟨x32.f_Slot, x38.f_Ballot, x44.f_Value⟩] rfl rfl fun a48 => ?_
      refine l_nil ?_
      refine q_conv (fun w S => S.perm p4) ?_
      refine q_conv (fun w S => S.perm p4) ?_
      refine q_conv (fun w S => S.perm p2) ?_
      refine q_conv (fun w S => S.perm p4) ?_
      refine q_conv (fun w S => S.perm p4) ?_
      refine h_next ?_
      refine h_one 22 rfl (by kernel_rfl) ?_
      refine l_f3 ?_
      refine o_append e_RVote_ok rfl rfl rfl Try.underlying33 (rds_own e_RVote_ok 3 rfl) (by show (_ + _) * 32 ≤ _; (try simp only [List.length_append, List.length_cons, List.length_nil]); omega) (by (try simp only [List.length_append, List.length_cons, List.length_nil]); omega) fun a49 c49 => ?_
      refine l_f3 ?_
      refine l_drop ?_
      refine l_eq (t := 49) (v' := .slice a49 (((m.f_Votes.xs.take (i + 1)).map toR)).length c49) rfl (by rw [hval]) ?_
      refine l_conv (L' := row e_RVote.T e_RVote.sz a49 (((m.f_Votes.xs.take (i + 1)).map toR)).length c49 (flat e_RVote ((m.f_Votes.xs.take (i + 1)).map toR)) :: _) (fun w S => by rw [hval] at S; exact S) ?_
      refine l_nil ?_
      refine q_conv (fun w S => S.perm p3) ?_
      refine q_conv (fun w S => S.perm p1) ?_
      refine q_conv (fun w S => S.perm p3) ?_
      refine q_conv (fun w S => S.perm p3) ?_
      refine h_next ?_
      refine h_take 23 rfl rfl (by kernel_rfl) (by kernel_rfl) (by kernel_rfl) (fun L0 => v_fieldAddr (q := ⟨b3, 7, none⟩) rfl rfl Try.underlying35 rfl ti33 rfl) ?_
      refine h_one 24 rfl (by kernel_rfl) ?_
      refine l_f3 ?_
      refine o_store1 rfl rfl rfl ti33 rfl rfl ?_
      refine l_nil ?_
      refine q_conv (fun w S => S.perm p3) ?_
      refine q_conv (fun w S => S.perm p1) ?_
      refine q_conv (fun w S => S.perm p3) ?_
      refine q_conv (fun w S => S.perm p3) ?_
      refine h_next ?_
      refine h_done (by kernel_rfl) ?_
      refine q_block ?_
      refine q_then ?_
      refine c_region ?_
      refine o_move rfl rfl ?_
      refine o_bin rfl rfl rfl (b_add (wrap_i64 (by omega) (by omega))) ?_
      refine o_assign rfl rfl ?_
      refine l_nil ?_
      refine q_conv (fun w S => S.perm p1) ?_
      refine q_conv (fun w S => S.perm p1) ?_
      refine q_conv (fun w S => S.perm p2) ?_
      refine q_conv (fun w S => S.perm p3) ?_
      exact q_round (i + 1, a49, c49) (by (try dsimp only); omega) (by (try dsimp only); omega) ⟨(by first | rfl | exact vint (by omega)), (by first | rfl | exact vint (by omega)), (by first | rfl | exact vint (by omega)), (by first | rfl | exact vint (by omega)), trivial⟩ (fun w S => S)
     · -- 21 comes first
      refine o_lit e_RVote_ok rfl Try.underlying33 rfl rfl rfl (lit_ok rfl) [⟨x32.f_Slot, x38.f_Ballot, x44.f_Value⟩] rfl rfl fun a48 => ?_
      refine l_nil ?_
      refine q_conv (fun w S => S.perm p4) ?_
      refine q_conv (fun w S => S.perm p4) ?_
      refine q_conv (fun w S => S.perm p2) ?_
      refine q_conv (fun w S => S.perm p4) ?_
      refine q_conv (fun w S => S.perm p4) ?_
      refine h_next ?_
      refine h_one 1 rfl (by kernel_rfl) ?_
      refine o_load1 rfl rfl Try.underlying33 rfl (rd_mem 4 rfl rfl) ?_
      refine l_nil ?_
      refine h_next ?_
      refine h_one 22 rfl (by kernel_rfl) ?_
      refine l_f3 ?_
      refine o_append e_RVote_ok rfl rfl rfl Try.underlying33 (rds_own e_RVote_ok 3 rfl) (by show (_ + _) * 32 ≤ _; (try simp only [List.length_append, List.length_cons, List.length_nil]); omega) (by (try simp only [List.length_append, List.length_cons, List.length_nil]); omega) fun a49 c49 => ?_
      refine l_f3 ?_
      refine l_drop ?_
      refine l_eq (t := 49) (v' := .slice a49 (((m.f_Votes.xs.take (i + 1)).map toR)).length c49) rfl (by rw [hval]) ?_
      refine l_conv (L' := row e_RVote.T e_RVote.sz a49 (((m.f_Votes.xs.take (i + 1)).map toR)).length c49 (flat e_RVote ((m.f_Votes.xs.take (i + 1)).map toR)) :: _) (fun w S => by rw [hval] at S; exact S) ?_
      refine l_nil ?_
      refine q_conv (fun w S => S.perm p3) ?_
      refine q_conv (fun w S => S.perm p1) ?_
      refine q_conv (fun w S => S.perm p3) ?_
      refine q_conv (fun w S => S.perm p3) ?_
      refine h_next ?_
      refine h_take 23 rfl rfl (by kernel_rfl) (by kernel_rfl) (by kernel_rfl) (fun L0 => v_fieldAddr (q := ⟨b3, 7, none⟩) rfl rfl Try.underlying35 rfl ti33 rfl) ?_
      refine h_one 24 rfl (by kernel_rfl) ?_
      refine l_f3 ?_
      refine o_store1 rfl rfl rfl ti33 rfl rfl ?_
      refine l_nil ?_
      refine q_conv (fun w S => S.perm p3) ?_
      refine q_conv (fun w S => S.perm p1) ?_
      refine q_conv (fun w S => S.perm p3) ?_
      refine q_conv (fun w S => S.perm p3) ?_
      refine h_next ?_
      refine h_done (by kernel_rfl) ?_
      refine q_block ?_
      refine q_then ?_
      refine c_region ?_
      refine o_move rfl rfl ?_
      refine o_bin rfl rfl rfl (b_add (wrap_i64 (by omega) (by omega))) ?_
      refine o_assign rfl rfl ?_
      refine l_nil ?_
      refine q_conv (fun w S => S.perm p1) ?_
      refine q_conv (fun w S => S.perm p1) ?_
      refine q_conv (fun w S => S.perm p2) ?_
      refine q_conv (fun w S => S.perm p3) ?_
      exact q_round (i + 1, a49, c49) (by (try dsimp only); omega) (by (try dsimp only); omega) ⟨(by first | rfl | exact vint (by omega)), (by first | rfl | exact vint (by omega)), (by first | rfl | exact vint (by omega)), (by first | rfl | exact vint (by omega)), trivial⟩ (fun w S => S)
 · -- h1F
  have h1b := h1
  try simp only [decide_eq_false_iff_not, Int.not_lt, Int.not_le] at h1
  have hi9 : (m.f_Votes.xs.take i).map toR = m.f_Votes.xs.map toR := by rw [List.take_of_length_le (by omega)]
  refine c_exit ?_
  refine q_pass_exit ?_
  refine q_pass_exit ?_
  refine q_hit ?_
  refine q_then ?_
  refine c_seq ?_
  refine c_region ?_
  refine o_loadn (vs := [_, _, _, _, _, _, _, _]) rfl rfl Try.underlying35 rfl ti35 (rdn_lit 1 rfl rfl) ?_
  refine l_f2 ?_
  refine o_storen rfl rfl ti35 rfl rfl rfl rfl ?_
  refine l_nil ?_
  refine q_then ?_
  refine c_ret ?_
  refine f_retq (.inl rfl) (rs_1 rfl (rs_celln (vs := [.int .i64 m.f_Kind, .int .i64 m.f_From, .int .i64 m.f_To, .int .i64 m.f_Group, .int .i64 m.f_Slot, .int .u64 m.f_Ballot, .string m.f_Value, .slice a9 (((m.f_Votes.xs.take i).map toR)).length c9]) rfl Try.underlying35 rfl ti35 (rdn_lit 0 rfl rfl))) (fun w S => ?_)
  replace S := S.tail
  replace S := (S.perm p1).tail
  replace S := (S.perm p1).tail
  exact ⟨_, ⟨a9, c9, by rw [hi9]; rfl, rfl⟩, (fun w S => by rw [hi9] at S; exact S) w S⟩

end Go.Proofs.Ytoigakfglgdjdaa
