/- Printed by eng2.py out of 15/spec.py. -/
import Derived.Test.YteehongibjkjlaaOGreat
set_option linter.unusedVariables false
set_option linter.unusedSimpArgs false
set_option maxRecDepth 10000
namespace Go.Proofs.Yteehongibjkjlaa
open Go.RowKit Classical
theorem glog_ {W : World} {F : List Res} {log : List Order} {a : Option Addr} {c : Nat} (hs : RdS W F e_Order a log) (ho : ∀ x ∈ log, OrdR W F x) (hn : log.length ≤ 9223372036854775807) : CS Try.prog 8 #[.slice a log.length c] W (F) (fun r L' => ∃ g : Bool, (g = false → log.length ≤ 30 ∧ ∀ x ∈ log, OSmall x) ∧ r = .bool g ∧ F = L') := by
 refine f_door (l0 := [(0, .slice a log.length c)]) Try.func8 Try.ntmps8 rfl rfl rfl ?_
 refine c_seq ?_
 refine c_region ?_
 refine o_assign rfl rfl ?_
 refine l_nil ?_
 refine q_then ?_
 refine c_seq ?_
 refine c_seq ?_
 refine c_region ?_
 refine o_move rfl rfl ?_
 refine o_len rfl rfl Try.underlying22 ?_
 refine o_bin rfl rfl rfl b_gtr ?_
 refine l_nil ?_
 refine q_then ?_
 refine c_cond rfl (fun h1 => ?_) (fun h1 => ?_)
 · -- h1T
  have h1b := h1
  try simp only [decide_eq_true_eq] at h1
  refine c_seq ?_
  refine c_region ?_
  refine o_assign rfl rfl ?_
  refine l_nil ?_
  refine q_then ?_
  refine c_ret ?_
  refine q_pass_ret ?_
  exact f_ret (r_one rfl rfl) (⟨true, fun h9 => absurd h9 (by decide), rfl, rfl⟩) (fun w S => S)
 · -- h1F
  have h1b := h1
  try simp only [decide_eq_false_iff_not, Int.not_lt, Int.not_le] at h1
  refine c_skip ?_
  refine q_then ?_
  refine c_seq ?_
  refine c_seq ?_
  refine c_region ?_
  refine o_move rfl rfl ?_
  refine o_len rfl rfl Try.underlying22 ?_
  refine o_move rfl rfl ?_
  refine l_nil ?_
  refine q_then ?_
  refine c_block ?_
  refine c_loop (α := Nat) (fun z => [(8, .slice a (log).length c), (9, .int .i64 ((log).length : Int)), (10, .int .i64 (z : Int))]) (fun z => F) (fun z => z ≤ log.length ∧ UpTo (fun x : Order => OSmall x) log z) (fun z => log.length - z) (0) (by exact ⟨Nat.zero_le _, upTo_0⟩) ⟨(by first | rfl | exact vint (by omega)), (by first | rfl | exact vint (by omega)), (by first | rfl | exact vint (by omega)), trivial⟩ (fun w S => S) ?_
  rintro i ⟨hi, ht⟩
  try dsimp only at *
  refine c_seq ?_
  refine c_region ?_
  refine o_bin rfl rfl rfl b_lss ?_
  refine l_nil ?_
  refine q_then ?_
  refine c_seq ?_
  refine c_cond rfl (fun h2 => ?_) (fun h2 => ?_)
  · -- h2T
   have h2b := h2
   try simp only [decide_eq_true_eq] at h2
   refine c_skip ?_
   refine q_then ?_
   refine c_seq ?_
   refine c_block ?_
   refine c_seq ?_
   refine c_region ?_
   refine o_index e_Order_ok rfl rfl rfl Try.underlying22 (by omega) (by omega) hs fun ad12 ead12 => ?_
   obtain ⟨x12, hx12⟩ : ∃ x, (log)[((i : Int)).toNat]? = some x := ⟨_, List.getElem?_eq_getElem (by omega)⟩
   refine o_loadn (vs := e_Order.cells x12) rfl rfl Try.underlying40 rfl ti40 (rdn_sl e_Order_ok ead12 hs hx12) ?_
   refine o_alloc rfl ti40 fun b4 => ?_
   refine o_storen rfl rfl ti40 rfl rfl rfl rfl ?_
   refine l_nil ?_
   refine q_then ?_
   refine c_seq ?_
   refine c_region ?_
   refine o_loadn (vs := [_, _, _, _, _, _, _, _, _, _]) rfl rfl Try.underlying40 rfl ti40 (rdn_lit 0 rfl rfl) ?_
   refine o_call rfl cal13 rfl (rgreat_ (o := x12) (OrdR.c (ho x12 (List.mem_of_getElem? hx12)))) ?_
   rintro _ _ ⟨g15, hg15, rfl, rfl⟩
   refine l_nil ?_
   refine q_then ?_
   refine c_cond rfl (fun h3 => ?_) (fun h3 => ?_)
   · -- h3T
    have h3b := h3
    try simp only [decide_eq_true_eq, decide_eq_false_iff_not, Bool.not_eq_eq_eq_not, Bool.not_true, Bool.not_false, Bool.not_eq_true', Bool.not_eq_false', Int.not_lt, Int.not_le, Bool.or_eq_true, Bool.and_eq_true] at h3
    refine c_seq ?_
    refine c_region ?_
    refine o_assign rfl rfl ?_
    refine l_nil ?_
    refine q_then ?_
    refine c_ret ?_
    refine q_block_ret ?_
    refine q_pass_ret ?_
    refine q_pass_ret ?_
    refine q_block_ret ?_
    refine q_pass_ret ?_
    refine q_conv (fun w S => S.tail) ?_
    exact f_ret (r_one rfl rfl) (⟨true, fun h9 => absurd h9 (by decide), rfl, rfl⟩) (fun w S => S)
   · -- h3F
    have h3b := h3
    try simp only [decide_eq_true_eq, decide_eq_false_iff_not, Bool.not_eq_eq_eq_not, Bool.not_true, Bool.not_false, Bool.not_eq_true', Bool.not_eq_false', Int.not_lt, Int.not_le, Bool.or_eq_true, Bool.and_eq_true] at h3
    refine c_skip ?_
    refine q_block ?_
    refine q_then ?_
    refine c_region ?_
    refine o_bin rfl rfl rfl (b_add (wrap_i64 (by omega) (by omega))) ?_
    refine o_move rfl rfl ?_
    refine l_nil ?_
    refine q_conv (fun w S => S.tail) ?_
    exact q_round (i + 1) (by exact ⟨by omega, upTo_on ht hx12 (hg15 h3)⟩) (by (try dsimp only); omega) ⟨(by first | rfl | exact vint (by omega)), (by first | rfl | exact vint (by omega)), (by first | rfl | exact vint (by omega)), trivial⟩ (fun w S => S)
  · -- h2F
   have h2b := h2
   try simp only [decide_eq_false_iff_not, Int.not_lt, Int.not_le] at h2
   refine c_exit ?_
   refine q_pass_exit ?_
   refine q_pass_exit ?_
   refine q_hit ?_
   refine q_then ?_
   refine c_seq ?_
   refine c_region ?_
   refine o_assign rfl rfl ?_
   refine l_nil ?_
   refine q_then ?_
   refine c_ret ?_
   exact f_ret (r_one rfl rfl) (⟨false, fun _ => ⟨by omega, upTo_all ht (by omega)⟩, rfl, rfl⟩) (fun w S => S)

end Go.Proofs.Yteehongibjkjlaa
