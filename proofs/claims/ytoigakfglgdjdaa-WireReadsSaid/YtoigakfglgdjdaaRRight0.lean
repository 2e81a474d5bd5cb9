/- Printed by eng2.py out of 18/spec.py. -/
import Derived.Test.YtoigakfglgdjdaaNames
import Derived.Test.YtoigakfglgdjdaaOf
set_option linter.unusedVariables false
set_option linter.unusedSimpArgs false
set_option maxRecDepth 10000
namespace Go.Proofs.Ytoigakfglgdjdaa
open Go.RowKit Classical
def ofR (v : RVote) : Vote := ⟨v.f_Slot, v.f_Ballot, v.f_Value⟩
abbrev toM (p : RMsg) : Msg := ⟨p.f_Kind, p.f_From, p.f_To, p.f_Group, p.f_Slot, p.f_Ballot, p.f_Value, ⟨p.f_Votes.a, p.f_Votes.xs.map ofR, p.f_Votes.c⟩⟩
theorem get_ofR {vs : List RVote} {i : Nat} {v : RVote} (h : vs[i]? = some v) : (vs.map ofR)[i]? = some (ofR v) := by rw [List.getElem?_map, h]; rfl
theorem ba_zero {x : ByteArray} : x = ByteArray.empty ↔ x.size = 0 := ⟨fun h => by rw [h]; rfl, fun h => ByteArray.ext (Array.eq_empty_of_size_eq_zero h)⟩
def fewN (n k : Nat) : Nat := if k < n then k + 1 else n
def RVotesTo (vs : List RVote) (i : Nat) : Prop := VotesTo (vs.map ofR) i
theorem rvotesTo_0 {vs : List RVote} : RVotesTo vs 0 := votesTo_0
theorem rvotesTo_on {vs : List RVote} {i : Nat} {v : RVote} (h : RVotesTo vs i) (hv : vs[i]? = some v) (h1 : 0 ≤ v.f_Slot) (h2 : v.f_Slot < 64) (h3 : v.f_Value.size ≤ 4096) (h4 : ∀ j u, j + 1 = i → vs[j]? = some u → u.f_Slot < v.f_Slot) : RVotesTo vs (i + 1) :=
  votesTo_on h (get_ofR hv) h1 h2 h3 fun j u hj hu => by
    rw [List.getElem?_map] at hu
    obtain ⟨w, hw, rfl⟩ := Option.map_eq_some_iff.1 hu
    exact h4 j w hj hw
theorem rvotesTo_no {vs : List RVote} {i : Nat} {v : RVote} (hv : vs[i]? = some v) (h : v.f_Slot < 0 ∨ 64 ≤ v.f_Slot ∨ 4096 < v.f_Value.size) : ¬ RVotesTo vs vs.length := fun h9 => votesTo_no (get_ofR hv) h (by rw [List.length_map]; exact h9)
theorem rvotesTo_no2 {vs : List RVote} {i : Nat} {v u : RVote} (hi : 0 < i) (hu : vs[((i : Int) - 1).toNat]? = some u) (hv : vs[i]? = some v) (h : v.f_Slot ≤ u.f_Slot) : ¬ RVotesTo vs vs.length := fun h9 => votesTo_no2 hi (get_ofR hu) (get_ofR hv) h (by rw [List.length_map]; exact h9)
/-- Right, as the document asks it. -/
def RightM (p : RMsg) : Prop := 1 ≤ p.f_Kind ∧ p.f_Kind ≤ 9 ∧ (0 ≤ p.f_From ∧ p.f_From ≤ 8) ∧ (0 ≤ p.f_To ∧ p.f_To ≤ 8) ∧ (0 ≤ p.f_Group ∧ p.f_Group ≤ 3) ∧ (0 ≤ p.f_Slot ∧ p.f_Slot ≤ 64) ∧ p.f_Value.size ≤ 4096 ∧
  (p.f_Value.size = 0 ∨ (p.f_Kind = 3 ∨ p.f_Kind = 6 ∨ p.f_Kind = 8 ∨ p.f_Kind = 9)) ∧ (p.f_Votes.xs.length = 0 ∨ p.f_Kind = 2) ∧ RVotesTo p.f_Votes.xs p.f_Votes.xs.length
theorem right_iff {p : RMsg} : RightM p ↔ MsgOk (toM p) := by
  unfold RightM MsgOk Valued RVotesTo
  simp only [toM, List.length_map, ba_zero]
theorem rwithin_ {W : World} {F : List Res} {n k : Int} : CS Try.prog 38 #[.int .i64 n, .int .i64 k] W (F) (fun r L' => r = .bool (decide (0 ≤ n ∧ n ≤ k)) ∧ F = L') := by
 refine f_door (l0 := [(0, .int .i64 n), (1, .int .i64 k)]) Try.func38 Try.ntmps38 rfl rfl rfl ?_
 refine c_seq ?_
 refine c_region ?_
 refine o_assign rfl rfl ?_
 refine l_nil ?_
 refine q_then ?_
 refine c_seq ?_
 refine c_region ?_
 refine o_move rfl rfl ?_
 refine o_bin rfl rfl rfl b_geq ?_
 refine o_move rfl rfl ?_
 refine l_split (t := 7) rfl (fun h1 => ?_) (fun h1 => ?_)
 · -- h1T
  have h1b := h1
  try simp only [decide_eq_true_eq] at h1
  refine o_yes rfl rfl rfl ?_
  refine o_move rfl rfl ?_
  refine o_yes rfl rfl rfl ?_
  refine o_move rfl rfl ?_
  refine o_yes rfl rfl rfl ?_
  refine o_bin rfl rfl rfl b_leq ?_
  refine o_pick_true rfl rfl rfl ?_
  refine o_assign rfl rfl ?_
  refine l_nil ?_
  refine q_then ?_
  refine c_ret ?_
  exact f_ret (r_one rfl rfl) (⟨by first | exact vtrue (by  grind) | exact vfalse (by  grind) | exact bdec (by  grind), rfl⟩) (fun w S => S)
 · -- h1F
  have h1b := h1
  try simp only [decide_eq_false_iff_not, Int.not_lt, Int.not_le] at h1
  refine o_no rfl rfl rfl rfl ?_
  refine o_no rfl rfl rfl rfl ?_
  refine o_no rfl rfl rfl rfl ?_
  refine o_pick_false rfl rfl rfl ?_
  refine o_assign rfl rfl ?_
  refine l_nil ?_
  refine q_then ?_
  refine c_ret ?_
  exact f_ret (r_one rfl rfl) (⟨by first | exact vtrue (by  grind) | exact vfalse (by  grind) | exact bdec (by  grind), rfl⟩) (fun w S => S)

theorem few_ {W : World} {F : List Res} {n k : Nat} (hn : n < 18446744073709551616) (hk : k ≤ 1000) : CS Try.prog 34 #[.int .u64 (n : Int), .int .u64 (k : Int)] W (F) (fun r L' => r = .int .i64 (fewN n k : Int) ∧ F = L') := by
 refine f_door (l0 := [(0, .int .u64 (n : Int)), (1, .int .u64 (k : Int))]) Try.func34 Try.ntmps34 rfl rfl rfl ?_
 refine c_seq ?_
 refine c_region ?_
 refine o_assign rfl rfl ?_
 refine l_nil ?_
 refine q_then ?_
 refine c_seq ?_
 refine c_seq ?_
 refine c_region ?_
 refine o_move rfl rfl ?_
 refine o_move rfl rfl ?_
 refine o_bin rfl rfl rfl b_gtr ?_
 refine l_nil ?_
 refine q_then ?_
 refine c_cond rfl (fun h1 => ?_) (fun h1 => ?_)
 · -- h1T
  have h1b := h1
  try simp only [decide_eq_true_eq] at h1
  refine c_seq ?_
  refine c_region ?_
  refine o_move rfl rfl ?_
  refine o_int rfl rfl Try.underlying23 Try.underlying3 (wrap_i64 (by omega) (by omega)) ?_
  refine o_bin rfl rfl rfl (b_add (wrap_i64 (by omega) (by omega))) ?_
  refine o_assign rfl rfl ?_
  refine l_nil ?_
  refine q_then ?_
  refine c_ret ?_
  refine q_pass_ret ?_
  exact f_ret (r_one rfl rfl) (⟨by rw [fewN, if_pos (by omega)]; (try rw [Int.natCast_add]); (try rfl), rfl⟩) (fun w S => S)
 · -- h1F
  have h1b := h1
  try simp only [decide_eq_false_iff_not, Int.not_lt, Int.not_le] at h1
  refine c_skip ?_
  refine q_then ?_
  refine c_seq ?_
  refine c_region ?_
  refine o_move rfl rfl ?_
  refine o_int rfl rfl Try.underlying23 Try.underlying3 (wrap_i64 (by omega) (by omega)) ?_
  refine o_assign rfl rfl ?_
  refine l_nil ?_
  refine q_then ?_
  refine c_ret ?_
  exact f_ret (r_one rfl rfl) (⟨by rw [fewN, if_neg (by omega)]; (try rw [Int.natCast_add]); (try rfl), rfl⟩) (fun w S => S)

end Go.Proofs.Ytoigakfglgdjdaa
