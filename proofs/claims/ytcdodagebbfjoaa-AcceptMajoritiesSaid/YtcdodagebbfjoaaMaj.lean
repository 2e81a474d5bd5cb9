/- Printed by eng2.py out of 11/spec.py. -/
import Derived.Test.YtcdodagebbfjoaaSpeaks
import Derived.Test.YtcdodagebbfjoaaMajp
import Derived.Test.YtcdodagebbfjoaaMajTy
set_option linter.unusedVariables false
set_option linter.unusedSimpArgs false
set_option maxRecDepth 10000
namespace Go.Proofs.Ytcdodagebbfjoaa
open Go.RowKit Classical
set_option maxHeartbeats 1000000 in
theorem maj_ {W : World} {F : List Res} {vo tk0 tl0 : Int} : CS Try.prog 4 #[.int .i64 vo, .int .u64 tk0, .int .u64 tl0] W (F) (fun r L' => r = .bool true ∧ F = L') := by
 refine f_door (l0 := [(0, .int .i64 vo), (1, .int .u64 tk0), (2, .int .u64 tl0)]) Try.func4 Try.ntmps4 rfl rfl rfl ?_
 refine c_seq ?_
 refine c_region ?_
 refine o_assign rfl rfl ?_
 refine l_nil ?_
 refine q_then ?_
 refine c_seq ?_
 refine c_seq ?_
 refine c_region ?_
 refine o_call rfl cal7 rfl (speaks_) ?_
 rintro _ _ ⟨rfl, rfl⟩
 refine o_not rfl rfl ?_
 refine l_nil ?_
 refine q_then ?_
 refine c_false rfl ?_
 refine c_skip ?_
 refine q_then ?_
 refine c_seq ?_
 refine c_region ?_
 refine o_move rfl rfl ?_
 refine o_bin rfl rfl rfl (b_and rfl) ?_
 obtain ⟨q21, hq21, eq21⟩ := band64 vo 7 (by omega)
 refine l_eq (t := 21) (v' := .int .i64 (q21 : Int)) rfl (by first | exact congrArg _ eq21) ?_
 refine o_bin rfl rfl rfl (b_add (wrap_i64 (by omega) (by omega))) ?_
 refine o_assign rfl rfl ?_
 refine l_nil ?_
 refine q_then ?_
 refine c_seq ?_
 refine c_region ?_
 refine o_lit eVP_ok rfl Try.underlying36 rfl rfl rfl (lit_ok rfl) ([] : List Nat) rfl rfl fun a23 => ?_
 refine o_assign rfl rfl ?_
 refine l_nil ?_
 refine q_then ?_
 refine c_seq ?_
 refine c_conv (L' := vsR ([] : List (Nat × VSA)) :: _) (fun w S => Sat.emp_ S) ?_
 refine c_conv (fun w S => S.perm p1) ?_
 refine c_conv (L' := row eVP.T eVP.sz a23 ((([] : List (Nat × VSA)).map Prod.fst)).length 0 (flat eVP (([] : List (Nat × VSA)).map Prod.fst)) :: _) (fun w S => S) ?_
 refine c_region ?_
 refine o_assign rfl rfl ?_
 refine o_assign rfl rfl ?_
 refine o_assign rfl rfl ?_
 refine l_nil ?_
 refine q_then ?_
 refine c_seq ?_
 refine c_seq ?_
 refine c_region ?_
 refine o_assign rfl rfl ?_
 refine l_nil ?_
 refine q_then ?_
 refine c_block ?_
 refine c_loop (α := Nat × (List (Nat × VSA)) × (List Bool) × Nat × (Option Addr) × Nat) (fun z => [(1, .int .u64 tk0), (2, .int .u64 tl0), (7, .int .i64 ((1 : Int) + (q21 : Int))), (8, .slice z.2.2.2.2.1 ((z.2.1.map Prod.fst)).length z.2.2.2.2.2), (9, .int .i64 (z.2.2.2.1 : Int)), (10, .int .i64 0), (11, .bool false), (12, .int .i64 (z.1 : Int))]) (fun z => row eVP.T eVP.sz z.2.2.2.2.1 ((z.2.1.map Prod.fst)).length z.2.2.2.2.2 (flat eVP (z.2.1.map Prod.fst)) :: vsR z.2.1 :: F) (fun z => z.1 ≤ 1 + q21 ∧ Maj1 z.2.2.1 z.2.1 z.1 z.2.2.2.1) (fun z => 1 + q21 - z.1) (0, [], [], 0, a23, 0) (by exact ⟨by omega, maj1_0⟩) ⟨(by first | rfl | exact vint (by omega)), (by first | rfl | exact vint (by omega)), (by first | rfl | exact vint (by omega)), (by first | rfl | exact vint (by omega)), (by first | rfl | exact vint (by omega)), (by first | rfl | exact vint (by omega)), (by first | rfl | exact vint (by omega)), (by first | rfl | exact vint (by omega)), trivial⟩ (fun w S => S) ?_
 rintro ⟨i, gs, Ts, tk, ga, gc⟩ ⟨hi, hm1⟩
 try dsimp only at *
 refine c_seq ?_
 refine c_seq ?_
 refine c_region ?_
 refine o_move rfl rfl ?_
 refine o_move rfl rfl ?_
 refine o_bin rfl rfl rfl b_lss ?_
 refine l_nil ?_
 refine q_then ?_
 refine c_cond rfl (fun h1 => ?_) (fun h1 => ?_)
 · -- h1T
  have h1b := h1
  try simp only [decide_eq_true_eq] at h1
  refine c_skip ?_
  refine q_then ?_
  refine c_seq ?_
  refine c_block ?_
  refine c_seq ?_
  have hgl := hm1.glen
  have hml : (gs.map Prod.fst).length = gs.length := List.length_map ..
  have htk : tk ≤ i := by have h8 := hm1.tk; have h9 := List.count_le_length (a := true) (l := Ts); rw [hm1.len] at h9; omega
  refine c_region ?_
  refine o_call rfl cal8 rfl (vnewA) ?_
  rintro _ _ ⟨k29, rfl, rfl⟩
  refine o_assign rfl rfl ?_
  refine l_nil ?_
  refine q_then ?_
  refine c_seq ?_
  refine c_seq ?_
  refine c_region ?_
  refine o_move rfl rfl ?_
  refine o_bin rfl rfl rfl (b_peq Try.underlying27 _) ?_
  refine l_nil ?_
  refine q_then ?_
  refine c_false rfl ?_
  refine c_skip ?_
  refine q_then ?_
  refine c_seq ?_
  refine c_region ?_
  refine o_move rfl rfl ?_
  refine o_move rfl rfl ?_
  refine o_lit eVP_ok rfl Try.underlying36 rfl rfl rfl (lit_ok rfl) [k29] rfl rfl fun a34 => ?_
  refine l_f2 ?_
  refine o_append eVP_ok rfl rfl rfl Try.underlying36 (rds_own eVP_ok 1 rfl) (by show (_ + _) * 8 ≤ _; (try simp only [List.length_append, List.length_cons, List.length_nil]); omega) (by (try simp only [List.length_append, List.length_cons, List.length_nil]); omega) fun a35 c35 => ?_
  refine l_f1 ?_
  refine l_drop ?_
  refine o_assign rfl rfl ?_
  refine l_nil ?_
  refine q_then ?_
  refine c_seq ?_
  refine c_region ?_
  refine o_move rfl rfl ?_
  refine o_move rfl rfl ?_
  refine o_int rfl rfl Try.underlying3 Try.underlying37 (wrap_u64 (by omega) (by omega)) ?_
  refine o_bin rfl rfl rfl (b_shr (by omega) rfl) ?_
  refine o_bin rfl rfl rfl (b_and rfl) ?_
  refine o_bin rfl rfl rfl b_eql ?_
  refine o_move rfl rfl ?_
  refine l_split (t := 42) rfl (fun h2 => ?_) (fun h2 => ?_)
  · -- h2T
   have h2b := h2
   try simp only [decide_eq_true_eq, decide_eq_false_iff_not, Bool.not_eq_eq_eq_not, Bool.not_true, Bool.not_false, Bool.not_eq_true', Bool.not_eq_false', Int.not_lt, Int.not_le, Bool.or_eq_true, Bool.and_eq_true] at h2
   refine o_yes rfl rfl rfl ?_
   refine o_move rfl rfl ?_
   refine o_yes rfl rfl rfl ?_
   refine o_build rfl sp31 ti31 rfl ((fill_cons (cells' := [.int .i64 3, .int .u64 0, .string ByteArray.empty]) rfl rfl rfl rfl (fill_cons (cells' := [.int .i64 3, .int .u64 5, .string ByteArray.empty]) rfl rfl rfl rfl (fill_cons (cells' := [.int .i64 3, .int .u64 5, .string ⟨#[120]⟩]) rfl rfl rfl rfl fill_nil)))) ?_
   refine o_yes rfl rfl rfl ?_
   refine l_f1 ?_
   refine o_call rfl cal9 rfl (vaccA (v := (⟨3, 5, ⟨#[120]⟩⟩ : VoS))) ?_
   rintro _ _ ⟨rfl, rfl⟩
   refine l_eq (t := 45) (v' := .bool true) rfl (show _ = Value.bool true from by rw [decide_eq_true acc_yes]) ?_
   refine o_pick_true rfl rfl rfl ?_
   refine l_nil ?_
   refine q_then ?_
   refine c_true rfl ?_
   refine c_region ?_
   refine o_move rfl rfl ?_
   refine o_bin rfl rfl rfl (b_add (wrap_i64 (by omega) (by omega))) ?_
   refine o_assign rfl rfl ?_
   refine l_nil ?_
   refine q_block ?_
   refine q_then ?_
   refine c_conv (L' := VtA k29 (stT true) :: _) (fun w S => by rw [show (accSA (⟨0, []⟩ : VSA) (⟨3, 5, ⟨#[120]⟩⟩ : VoS)) = (stT true) from acc_s5] at S; exact S) ?_
   refine c_conv (fun w S => S.perm p1) ?_
   refine c_conv (fun w S => S.perm p2) ?_
   refine c_conv (fun w S => S.perm p2) ?_
   refine c_conv (L' := vsR (gs ++ [(k29, (stT true))]) :: row eVP.T eVP.sz a35 (((gs ++ [(k29, (stT true))]).map Prod.fst)).length c35 (flat eVP ((gs ++ [(k29, (stT true))]).map Prod.fst)) :: _) (fun w S => by have h9 := Sat.v_app S; rw [show (gs.map Prod.fst) ++ [k29] = ((gs ++ [(k29, (stT true))]).map Prod.fst) from by rw [List.map_append]; rfl] at h9; exact h9) ?_
   refine c_region ?_
   refine o_move rfl rfl ?_
   refine o_bin rfl rfl rfl (b_add (wrap_i64 (by omega) (by omega))) ?_
   refine o_assign rfl rfl ?_
   refine l_nil ?_
   refine q_conv (fun w S => S.perm p1) ?_
   exact q_round (i + 1, (gs ++ [(k29, (stT true))]), (Ts ++ [true]), tk + 1, a35, c35) (by exact ⟨by omega, hm1.yes⟩) (by (try dsimp only); omega) ⟨(by first | rfl | exact vint (by omega)), (by first | rfl | exact vint (by omega)), (by first | rfl | exact vint (by omega)), (by rw [List.map_append]; rfl), (by first | rfl | exact vint (by omega)), (by first | rfl | exact vint (by omega)), (by first | rfl | exact vint (by omega)), (by first | rfl | exact vint (by omega)), trivial⟩ (fun w S => S)
  · -- h2F
   have h2b := h2
   try simp only [decide_eq_true_eq, decide_eq_false_iff_not, Bool.not_eq_eq_eq_not, Bool.not_true, Bool.not_false, Bool.not_eq_true', Bool.not_eq_false', Int.not_lt, Int.not_le, Bool.or_eq_true, Bool.and_eq_true] at h2
   refine o_no rfl rfl rfl rfl ?_
   refine o_no rfl rfl rfl rfl ?_
   refine o_no rfl rfl rfl rfl ?_
   refine o_pick_false rfl rfl rfl ?_
   refine l_nil ?_
   refine q_then ?_
   refine c_false rfl ?_
   refine c_skip ?_
   refine q_block ?_
   refine q_then ?_
   refine c_conv (fun w S => S.perm p1) ?_
   refine c_conv (L' := VtA k29 (stT false) :: _) (fun w S => by rw [show (⟨0, []⟩ : VSA) = (stT false) from rfl] at S; exact S) ?_
   refine c_conv (fun w S => S.perm p1) ?_
   refine c_conv (fun w S => S.perm p2) ?_
   refine c_conv (fun w S => S.perm p2) ?_
   refine c_conv (L' := vsR (gs ++ [(k29, (stT false))]) :: row eVP.T eVP.sz a35 (((gs ++ [(k29, (stT false))]).map Prod.fst)).length c35 (flat eVP ((gs ++ [(k29, (stT false))]).map Prod.fst)) :: _) (fun w S => by have h9 := Sat.v_app S; rw [show (gs.map Prod.fst) ++ [k29] = ((gs ++ [(k29, (stT false))]).map Prod.fst) from by rw [List.map_append]; rfl] at h9; exact h9) ?_
   refine c_region ?_
   refine o_move rfl rfl ?_
   refine o_bin rfl rfl rfl (b_add (wrap_i64 (by omega) (by omega))) ?_
   refine o_assign rfl rfl ?_
   refine l_nil ?_
   refine q_conv (fun w S => S.perm p1) ?_
   exact q_round (i + 1, (gs ++ [(k29, (stT false))]), (Ts ++ [false]), tk, a35, c35) (by exact ⟨by omega, hm1.no⟩) (by (try dsimp only); omega) ⟨(by first | rfl | exact vint (by omega)), (by first | rfl | exact vint (by omega)), (by first | rfl | exact vint (by omega)), (by rw [List.map_append]; rfl), (by first | rfl | exact vint (by omega)), (by first | rfl | exact vint (by omega)), (by first | rfl | exact vint (by omega)), (by first | rfl | exact vint (by omega)), trivial⟩ (fun w S => S)
 · -- h1F
  have h1b := h1
  try simp only [decide_eq_false_iff_not, Int.not_lt, Int.not_le] at h1
  refine c_exit ?_
  refine q_pass_exit ?_
  refine q_pass_exit ?_
  refine q_hit ?_
  refine q_then ?_
  refine c_seq ?_
  refine c_seq ?_
  have hgl := hm1.glen
  have hTl := hm1.len
  have hml : (gs.map Prod.fst).length = gs.length := List.length_map ..
  refine c_region ?_
  refine o_move rfl rfl ?_
  refine o_len rfl rfl Try.underlying36 ?_
  refine o_move rfl rfl ?_
  refine l_nil ?_
  refine q_then ?_
  refine c_block ?_
  refine c_loop (α := Nat × (List (Nat × VSA)) × Nat × Bool) (fun z => [(2, .int .u64 tl0), (7, .int .i64 ((1 : Int) + (q21 : Int))), (9, .int .i64 (tk : Int)), (10, .int .i64 (z.2.2.1 : Int)), (11, .bool z.2.2.2), (49, .slice ga ((gs.map Prod.fst)).length gc), (50, .int .i64 (((gs.map Prod.fst)).length : Int)), (51, .int .i64 (z.1 : Int))]) (fun z => row eVP.T eVP.sz ga ((gs.map Prod.fst)).length gc (flat eVP (gs.map Prod.fst)) :: vsR z.2.1 :: F) (fun z => z.1 ≤ 1 + q21 ∧ Maj2 Ts (gs.map Prod.fst) z.2.1 z.1 z.2.2.1 z.2.2.2) (fun z => 1 + q21 - z.1) (0, gs, 0, false) (by exact ⟨by omega, hm1.two⟩) ⟨(by first | rfl | exact vint (by omega)), (by first | rfl | exact vint (by omega)), (by first | rfl | exact vint (by omega)), (by first | rfl | exact vint (by omega)), (by first | rfl | exact vint (by omega)), (by first | rfl | exact vint (by omega)), (by first | rfl | exact vint (by omega)), (by first | rfl | exact vint (by omega)), trivial⟩ (fun w S => S) ?_
  rintro ⟨j, gs2, td, fo⟩ ⟨hj, hm2⟩
  try dsimp only at *
  refine c_seq ?_
  refine c_region ?_
  refine o_bin rfl rfl rfl b_lss ?_
  refine l_nil ?_
  refine q_then ?_
  refine c_seq ?_
  refine c_cond rfl (fun h3 => ?_) (fun h3 => ?_)
  · -- h3T
   have h3b := h3
   try simp only [decide_eq_true_eq] at h3
   refine c_skip ?_
   refine q_then ?_
   refine c_seq ?_
   refine c_block ?_
   refine c_seq ?_
   have hle2 := hm2.le
   refine c_region ?_
   refine o_move rfl rfl ?_
   refine o_index eVP_ok rfl rfl rfl Try.underlying36 (by omega) (by omega) (rds_own eVP_ok 0 rfl) fun ad54 ead54 => ?_
   obtain ⟨x54, hx54⟩ : ∃ x, ((gs.map Prod.fst))[((j : Int)).toNat]? = some x := ⟨_, List.getElem?_eq_getElem (by omega)⟩
   refine o_load1 rfl rfl Try.underlying27 rfl (rd_sl0 eVP_ok ead54 (rds_own eVP_ok 0 rfl) hx54 rfl) ?_
   refine o_assign rfl rfl ?_
   refine o_assign rfl rfl ?_
   refine l_nil ?_
   refine q_then ?_
   refine c_seq ?_
   refine c_seq ?_
   refine c_region ?_
   refine o_move rfl rfl ?_
   refine o_move rfl rfl ?_
   refine o_int rfl rfl Try.underlying3 Try.underlying37 (wrap_u64 (by omega) (by omega)) ?_
   refine o_bin rfl rfl rfl (b_shr (by omega) rfl) ?_
   refine o_bin rfl rfl rfl (b_and rfl) ?_
   refine o_bin rfl rfl rfl b_eql ?_
   refine l_nil ?_
   refine q_then ?_
   refine c_cond rfl (fun h4 => ?_) (fun h4 => ?_)
   · -- h4T
    have h4b := h4
    try simp only [decide_eq_true_eq, decide_eq_false_iff_not, Bool.not_eq_eq_eq_not, Bool.not_true, Bool.not_false, Bool.not_eq_true', Bool.not_eq_false', Int.not_lt, Int.not_le, Bool.or_eq_true, Bool.and_eq_true] at h4
    refine c_exit ?_
    refine q_pass_exit ?_
    refine q_hit ?_
    refine q_then ?_
    refine c_region ?_
    refine o_bin rfl rfl rfl (b_add (wrap_i64 (by omega) (by omega))) ?_
    refine o_move rfl rfl ?_
    refine l_nil ?_
    exact q_round (j + 1, gs2, td, fo) (by exact ⟨by omega, hm2.skip (by omega)⟩) (by (try dsimp only); omega) ⟨(by first | rfl | exact vint (by omega)), (by first | rfl | exact vint (by omega)), (by first | rfl | exact vint (by omega)), (by first | rfl | exact vint (by omega)), (by first | rfl | exact vint (by omega)), (by first | rfl | exact vint (by omega)), (by first | rfl | exact vint (by omega)), (by first | rfl | exact vint (by omega)), trivial⟩ (fun w S => S)
   · -- h4F
    have h4b := h4
    try simp only [decide_eq_true_eq, decide_eq_false_iff_not, Bool.not_eq_eq_eq_not, Bool.not_true, Bool.not_false, Bool.not_eq_true', Bool.not_eq_false', Int.not_lt, Int.not_le, Bool.or_eq_true, Bool.and_eq_true] at h4
    refine c_skip ?_
    refine q_then ?_
    refine c_seq ?_
    obtain ⟨z, hz⟩ : ∃ z, gs2[j]? = some z := ⟨_, List.getElem?_eq_getElem (by have := hm2.len; omega)⟩
    obtain ⟨tb, htb, hzs⟩ := hm2.st j z (Nat.le_refl _) hz
    have hzp : z.1 = x54 := by have h9 := hx54; rw [← hm2.fst] at h9; rw [show ((j : Int)).toNat = j from rfl, List.getElem?_map, hz] at h9; exact Option.some.inj h9
    refine c_conv (fun w S => S.perm p1) ?_
    refine c_conv (L' := VtA x54 (stT tb) :: vsR (gs2.eraseIdx j) :: _) (fun w S => by have h9 := Sat.v_take hz S; rw [hzp, hzs] at h9; exact h9) ?_
    refine c_region ?_
    refine o_move rfl rfl ?_
    refine o_call rfl cal10 rfl (vpromA (b := 9) (fr := 0)) ?_
    rintro _ _ ⟨a64, c64, rfl, rfl⟩
    refine o_move rfl rfl ?_
    refine o_extract rfl rfl rfl ?_
    refine o_extract rfl rfl rfl ?_
    refine l_eq (t := 66) (v' := .bool true) rfl (show _ = Value.bool true from by rw [decide_eq_true (pr_stT tb)] <;> rfl) ?_
    refine o_assign rfl rfl ?_
    refine o_assign rfl rfl ?_
    refine l_nil ?_
    refine q_then ?_
    refine c_seq ?_
    refine c_seq ?_
    refine c_region ?_
    refine o_move rfl rfl ?_
    refine o_not rfl rfl ?_
    refine l_nil ?_
    refine q_then ?_
    refine c_false rfl ?_
    refine c_skip ?_
    refine q_then ?_
    refine c_seq ?_
    refine c_region ?_
    refine o_move rfl rfl ?_
    refine o_bin rfl rfl rfl (b_add (wrap_i64 (by omega) (by omega))) ?_
    refine o_assign rfl rfl ?_
    refine l_nil ?_
    refine q_then ?_
    refine (Classical.em (tb = true)).elim (fun ht => ?_) (fun ht => ?_)
    · -- ht True
     have hpl : promLA (stT tb) 9 0 = [⟨3, 5, ⟨#[120]⟩⟩] := by rw [ht]; exact pl_true
     have hpn : (promLA (stT tb) 9 0).length = 1 := by rw [hpl]; rfl
     refine c_region ?_
     refine o_move rfl rfl ?_
     refine o_move rfl rfl ?_
     refine l_split (t := 72) rfl (fun h5 => ?_) (fun h5 => ?_)
     · -- h5T
      have h5b := h5
      try simp only [decide_eq_true_eq, decide_eq_false_iff_not, Bool.not_eq_eq_eq_not, Bool.not_true, Bool.not_false, Bool.not_eq_true', Bool.not_eq_false', Int.not_lt, Int.not_le, Bool.or_eq_true, Bool.and_eq_true] at h5
      refine o_no rfl rfl rfl rfl ?_
      refine o_no rfl rfl rfl rfl ?_
      refine o_no rfl rfl rfl rfl ?_
      refine o_no rfl rfl rfl rfl ?_
      refine o_no rfl rfl rfl rfl ?_
      refine o_no rfl rfl rfl rfl ?_
      refine o_no rfl rfl rfl rfl ?_
      refine o_no rfl rfl rfl rfl ?_
      refine o_no rfl rfl rfl rfl ?_
      refine o_no rfl rfl rfl rfl ?_
      refine o_no rfl rfl rfl rfl ?_
      refine o_no rfl rfl rfl rfl ?_
      refine o_no rfl rfl rfl rfl ?_
      refine o_no rfl rfl rfl rfl ?_
      refine o_no rfl rfl rfl rfl ?_
      refine o_no rfl rfl rfl rfl ?_
      refine o_no rfl rfl rfl rfl ?_
      refine o_no rfl rfl rfl rfl ?_
      refine o_no rfl rfl rfl rfl ?_
      refine o_no rfl rfl rfl rfl ?_
      refine o_no rfl rfl rfl rfl ?_
      refine o_no rfl rfl rfl rfl ?_
      refine o_no rfl rfl rfl rfl ?_
      refine o_no rfl rfl rfl rfl ?_
      refine o_pick_true rfl rfl rfl ?_
      refine o_assign rfl rfl ?_
      refine l_nil ?_
      refine q_block ?_
      refine q_then ?_
      refine c_conv (fun w S => S.perm p3) ?_
      refine c_conv (fun w S => S.perm p1) ?_
      refine c_conv (fun w S => S.perm p3) ?_
      refine c_conv (fun w S => S.perm p3) ?_
      refine c_conv (L' := vsR (gs2.set j (x54, (promSA (stT tb) 9))) :: _) (fun w S => Sat.v_set (by have := hm2.len; omega) S) ?_
      refine c_region ?_
      refine o_bin rfl rfl rfl (b_add (wrap_i64 (by omega) (by omega))) ?_
      refine o_move rfl rfl ?_
      refine l_nil ?_
      refine q_conv (fun w S => (S.perm p1).tail) ?_
      refine q_conv (fun w S => S.perm p1) ?_
      exact q_round (j + 1, (gs2.set j (x54, (promSA (stT tb) 9))), td + 1, true) (by exact ⟨by omega, by have h9 := hm2.tell (s := (promSA (stT tb) 9)) hz hzp htb; (try rw [show tb = true from ht] at h9); (try rw [show tb = false from by simpa using ht] at h9); first | exact h9 | (simpa [*] using h9)⟩) (by (try dsimp only); omega) ⟨(by first | rfl | exact vint (by omega)), (by first | rfl | exact vint (by omega)), (by first | rfl | exact vint (by omega)), (by first | rfl | exact vint (by omega)), (by first | rfl | exact vint (by omega)), (by first | rfl | exact vint (by omega)), (by first | rfl | exact vint (by omega)), (by first | rfl | exact vint (by omega)), trivial⟩ (fun w S => S)
     · -- h5F
      have h5b := h5
      try simp only [decide_eq_true_eq, decide_eq_false_iff_not, Bool.not_eq_eq_eq_not, Bool.not_true, Bool.not_false, Bool.not_eq_true', Bool.not_eq_false', Int.not_lt, Int.not_le, Bool.or_eq_true, Bool.and_eq_true] at h5
      refine o_yes rfl rfl rfl ?_
      refine o_move rfl rfl ?_
      refine o_yes rfl rfl rfl ?_
      refine o_len rfl rfl Try.underlying32 ?_
      refine o_yes rfl rfl rfl ?_
      refine o_bin rfl rfl rfl b_eql ?_
      refine l_eq (t := 75) (v' := .bool true) rfl (show _ = Value.bool true from by rw [hpl]; simp) ?_
      refine o_yes rfl rfl rfl ?_
      refine o_move rfl rfl ?_
      refine o_yes rfl rfl rfl ?_
      refine o_move rfl rfl ?_
      refine o_yes rfl rfl rfl ?_
      refine o_index e_VoS_ok rfl rfl rfl Try.underlying32 (by omega) (by omega) (rds_own e_VoS_ok 0 rfl) fun ad78 ead78 => ?_
      obtain ⟨x78, hx78⟩ : ∃ x, ((promLA (stT tb) 9 0))[((0 : Int)).toNat]? = some x := ⟨_, List.getElem?_eq_getElem (by omega)⟩
      have e78 : x78 = (⟨3, 5, ⟨#[120]⟩⟩ : VoS) := by have h9 := hx78; rw [show tb = true from ht, pl_true] at h9; simpa using h9.symm
      refine o_yes rfl rfl rfl ?_
      refine o_fieldAddr rfl rfl Try.underlying31 rfl ti9 (Addr.add_add' _ _ _) ?_
      refine o_yes rfl rfl rfl ?_
      refine o_load1 rfl rfl Try.underlying9 rfl (rd_sl e_VoS_ok ead78 (rds_own e_VoS_ok 0 rfl) hx78 rfl) ?_
      refine o_yes rfl rfl rfl ?_
      refine o_bin rfl rfl rfl b_seql ?_
      refine l_eq (t := 81) (v' := .bool true) rfl (show _ = Value.bool true from by rw [e78]; simp) ?_
      refine o_yes rfl rfl rfl ?_
      refine o_pick_true rfl rfl rfl ?_
      refine o_yes rfl rfl rfl ?_
      refine o_move rfl rfl ?_
      refine o_yes rfl rfl rfl ?_
      refine o_move rfl rfl ?_
      refine o_yes rfl rfl rfl ?_
      refine o_indexK e_VoS_ok ead78 rfl rfl rfl Try.underlying32 (by omega) (by omega) ?_
      obtain ⟨x85, hx85⟩ : ∃ x, ((promLA (stT tb) 9 0))[((0 : Int)).toNat]? = some x := ⟨_, List.getElem?_eq_getElem (by omega)⟩
      have e85 : x85 = (⟨3, 5, ⟨#[120]⟩⟩ : VoS) := by have h9 := hx85; rw [show tb = true from ht, pl_true] at h9; simpa using h9.symm
      refine o_yes rfl rfl rfl ?_
      refine o_fieldAddr rfl rfl Try.underlying31 rfl ti23 (Addr.add_add' _ _ _) ?_
      refine o_yes rfl rfl rfl ?_
      refine o_load1 rfl rfl Try.underlying23 rfl (rd_sl e_VoS_ok ead78 (rds_own e_VoS_ok 0 rfl) hx85 rfl) ?_
      refine o_yes rfl rfl rfl ?_
      refine o_bin rfl rfl rfl b_eql ?_
      refine l_eq (t := 88) (v' := .bool true) rfl (show _ = Value.bool true from by rw [e85]; simp) ?_
      refine o_yes rfl rfl rfl ?_
      refine o_pick_true rfl rfl rfl ?_
      refine o_yes rfl rfl rfl ?_
      refine o_move rfl rfl ?_
      refine o_yes rfl rfl rfl ?_
      refine o_move rfl rfl ?_
      refine o_yes rfl rfl rfl ?_
      refine o_indexK e_VoS_ok ead78 rfl rfl rfl Try.underlying32 (by omega) (by omega) ?_
      obtain ⟨x92, hx92⟩ : ∃ x, ((promLA (stT tb) 9 0))[((0 : Int)).toNat]? = some x := ⟨_, List.getElem?_eq_getElem (by omega)⟩
      have e92 : x92 = (⟨3, 5, ⟨#[120]⟩⟩ : VoS) := by have h9 := hx92; rw [show tb = true from ht, pl_true] at h9; simpa using h9.symm
      refine o_yes rfl rfl rfl ?_
      refine o_fieldAddr rfl rfl Try.underlying31 rfl ti3 (Addr.add_add' _ _ _) ?_
      refine o_yes rfl rfl rfl ?_
      refine o_load1 rfl rfl Try.underlying3 rfl (rd_sl e_VoS_ok ead78 (rds_own e_VoS_ok 0 rfl) hx92 rfl) ?_
      refine o_yes rfl rfl rfl ?_
      refine o_bin rfl rfl rfl b_eql ?_
      refine l_eq (t := 95) (v' := .bool true) rfl (show _ = Value.bool true from by rw [e92]; simp) ?_
      refine o_yes rfl rfl rfl ?_
      refine o_pick_true rfl rfl rfl ?_
      refine o_pick_false rfl rfl rfl ?_
      refine o_assign rfl rfl ?_
      refine l_nil ?_
      refine q_block ?_
      refine q_then ?_
      refine c_conv (fun w S => S.perm p3) ?_
      refine c_conv (fun w S => S.perm p1) ?_
      refine c_conv (fun w S => S.perm p3) ?_
      refine c_conv (fun w S => S.perm p3) ?_
      refine c_conv (L' := vsR (gs2.set j (x54, (promSA (stT tb) 9))) :: _) (fun w S => Sat.v_set (by have := hm2.len; omega) S) ?_
      refine c_region ?_
      refine o_bin rfl rfl rfl (b_add (wrap_i64 (by omega) (by omega))) ?_
      refine o_move rfl rfl ?_
      refine l_nil ?_
      refine q_conv (fun w S => (S.perm p1).tail) ?_
      refine q_conv (fun w S => S.perm p1) ?_
      exact q_round (j + 1, (gs2.set j (x54, (promSA (stT tb) 9))), td + 1, true) (by exact ⟨by omega, by have h9 := hm2.tell (s := (promSA (stT tb) 9)) hz hzp htb; (try rw [show tb = true from ht] at h9); (try rw [show tb = false from by simpa using ht] at h9); first | exact h9 | (simpa [*] using h9)⟩) (by (try dsimp only); omega) ⟨(by first | rfl | exact vint (by omega)), (by first | rfl | exact vint (by omega)), (by first | rfl | exact vint (by omega)), (by first | rfl | exact vint (by omega)), (by first | rfl | exact vint (by omega)), (by first | rfl | exact vint (by omega)), (by first | rfl | exact vint (by omega)), (by first | rfl | exact vint (by omega)), trivial⟩ (fun w S => S)
    · -- ht False
     have hpl : promLA (stT tb) 9 0 = [] := by rw [show tb = false from by simpa using ht]; exact pl_false
     refine c_region ?_
     refine o_move rfl rfl ?_
     refine o_move rfl rfl ?_
     refine l_split (t := 72) rfl (fun h6 => ?_) (fun h6 => ?_)
     · -- h6T
      have h6b := h6
      try simp only [decide_eq_true_eq, decide_eq_false_iff_not, Bool.not_eq_eq_eq_not, Bool.not_true, Bool.not_false, Bool.not_eq_true', Bool.not_eq_false', Int.not_lt, Int.not_le, Bool.or_eq_true, Bool.and_eq_true] at h6
      refine o_no rfl rfl rfl rfl ?_
      refine o_no rfl rfl rfl rfl ?_
      refine o_no rfl rfl rfl rfl ?_
      refine o_no rfl rfl rfl rfl ?_
      refine o_no rfl rfl rfl rfl ?_
      refine o_no rfl rfl rfl rfl ?_
      refine o_no rfl rfl rfl rfl ?_
      refine o_no rfl rfl rfl rfl ?_
      refine o_no rfl rfl rfl rfl ?_
      refine o_no rfl rfl rfl rfl ?_
      refine o_no rfl rfl rfl rfl ?_
      refine o_no rfl rfl rfl rfl ?_
      refine o_no rfl rfl rfl rfl ?_
      refine o_no rfl rfl rfl rfl ?_
      refine o_no rfl rfl rfl rfl ?_
      refine o_no rfl rfl rfl rfl ?_
      refine o_no rfl rfl rfl rfl ?_
      refine o_no rfl rfl rfl rfl ?_
      refine o_no rfl rfl rfl rfl ?_
      refine o_no rfl rfl rfl rfl ?_
      refine o_no rfl rfl rfl rfl ?_
      refine o_no rfl rfl rfl rfl ?_
      refine o_no rfl rfl rfl rfl ?_
      refine o_no rfl rfl rfl rfl ?_
      refine o_pick_true rfl rfl rfl ?_
      refine o_assign rfl rfl ?_
      refine l_nil ?_
      refine q_block ?_
      refine q_then ?_
      refine c_conv (fun w S => S.perm p3) ?_
      refine c_conv (fun w S => S.perm p1) ?_
      refine c_conv (fun w S => S.perm p3) ?_
      refine c_conv (fun w S => S.perm p3) ?_
      refine c_conv (L' := vsR (gs2.set j (x54, (promSA (stT tb) 9))) :: _) (fun w S => Sat.v_set (by have := hm2.len; omega) S) ?_
      refine c_region ?_
      refine o_bin rfl rfl rfl (b_add (wrap_i64 (by omega) (by omega))) ?_
      refine o_move rfl rfl ?_
      refine l_nil ?_
      refine q_conv (fun w S => (S.perm p1).tail) ?_
      refine q_conv (fun w S => S.perm p1) ?_
      exact q_round (j + 1, (gs2.set j (x54, (promSA (stT tb) 9))), td + 1, true) (by exact ⟨by omega, by have h9 := hm2.tell (s := (promSA (stT tb) 9)) hz hzp htb; (try rw [show tb = true from ht] at h9); (try rw [show tb = false from by simpa using ht] at h9); first | exact h9 | (simpa [*] using h9)⟩) (by (try dsimp only); omega) ⟨(by first | rfl | exact vint (by omega)), (by first | rfl | exact vint (by omega)), (by first | rfl | exact vint (by omega)), (by first | rfl | exact vint (by omega)), (by first | rfl | exact vint (by omega)), (by first | rfl | exact vint (by omega)), (by first | rfl | exact vint (by omega)), (by first | rfl | exact vint (by omega)), trivial⟩ (fun w S => S)
     · -- h6F
      have h6b := h6
      try simp only [decide_eq_true_eq, decide_eq_false_iff_not, Bool.not_eq_eq_eq_not, Bool.not_true, Bool.not_false, Bool.not_eq_true', Bool.not_eq_false', Int.not_lt, Int.not_le, Bool.or_eq_true, Bool.and_eq_true] at h6
      refine o_yes rfl rfl rfl ?_
      refine o_move rfl rfl ?_
      refine o_yes rfl rfl rfl ?_
      refine o_len rfl rfl Try.underlying32 ?_
      refine o_yes rfl rfl rfl ?_
      refine o_bin rfl rfl rfl b_eql ?_
      refine l_eq (t := 75) (v' := .bool false) rfl (show _ = Value.bool false from by rw [hpl]; simp) ?_
      refine o_yes rfl rfl rfl ?_
      refine o_move rfl rfl ?_
      refine o_no rfl rfl rfl rfl ?_
      refine o_no rfl rfl rfl rfl ?_
      refine o_no rfl rfl rfl rfl ?_
      refine o_no rfl rfl rfl rfl ?_
      refine o_no rfl rfl rfl rfl ?_
      refine o_yes rfl rfl rfl ?_
      refine o_pick_false rfl rfl rfl ?_
      refine o_yes rfl rfl rfl ?_
      refine o_move rfl rfl ?_
      refine o_no rfl rfl rfl rfl ?_
      refine o_no rfl rfl rfl rfl ?_
      refine o_no rfl rfl rfl rfl ?_
      refine o_no rfl rfl rfl rfl ?_
      refine o_no rfl rfl rfl rfl ?_
      refine o_yes rfl rfl rfl ?_
      refine o_pick_false rfl rfl rfl ?_
      refine o_yes rfl rfl rfl ?_
      refine o_move rfl rfl ?_
      refine o_no rfl rfl rfl rfl ?_
      refine o_no rfl rfl rfl rfl ?_
      refine o_no rfl rfl rfl rfl ?_
      refine o_no rfl rfl rfl rfl ?_
      refine o_no rfl rfl rfl rfl ?_
      refine o_yes rfl rfl rfl ?_
      refine o_pick_false rfl rfl rfl ?_
      refine o_pick_false rfl rfl rfl ?_
      refine o_assign rfl rfl ?_
      refine l_nil ?_
      refine q_block ?_
      refine q_then ?_
      refine c_conv (fun w S => S.perm p3) ?_
      refine c_conv (fun w S => S.perm p1) ?_
      refine c_conv (fun w S => S.perm p3) ?_
      refine c_conv (fun w S => S.perm p3) ?_
      refine c_conv (L' := vsR (gs2.set j (x54, (promSA (stT tb) 9))) :: _) (fun w S => Sat.v_set (by have := hm2.len; omega) S) ?_
      refine c_region ?_
      refine o_bin rfl rfl rfl (b_add (wrap_i64 (by omega) (by omega))) ?_
      refine o_move rfl rfl ?_
      refine l_nil ?_
      refine q_conv (fun w S => (S.perm p1).tail) ?_
      refine q_conv (fun w S => S.perm p1) ?_
      exact q_round (j + 1, (gs2.set j (x54, (promSA (stT tb) 9))), td + 1, false) (by exact ⟨by omega, by have h9 := hm2.tell (s := (promSA (stT tb) 9)) hz hzp htb; (try rw [show tb = true from ht] at h9); (try rw [show tb = false from by simpa using ht] at h9); first | exact h9 | (simpa [*] using h9)⟩) (by (try dsimp only); omega) ⟨(by first | rfl | exact vint (by omega)), (by first | rfl | exact vint (by omega)), (by first | rfl | exact vint (by omega)), (by first | rfl | exact vint (by omega)), (by first | rfl | exact vint (by omega)), (by first | rfl | exact vint (by omega)), (by first | rfl | exact vint (by omega)), (by first | rfl | exact vint (by omega)), trivial⟩ (fun w S => S)
  · -- h3F
   have h3b := h3
   try simp only [decide_eq_false_iff_not, Int.not_lt, Int.not_le] at h3
   refine c_exit ?_
   refine q_pass_exit ?_
   refine q_pass_exit ?_
   refine q_hit ?_
   refine q_then ?_
   refine c_seq ?_
   have hle2 := hm2.le
   have htk : tk ≤ i := by have h8 := hm1.tk; have h9 := List.count_le_length (a := true) (l := Ts); rw [hm1.len] at h9; omega
   refine c_region ?_
   refine o_move rfl rfl ?_
   refine o_bin rfl rfl rfl (b_mul (wrap_i64 (by omega) (by omega))) ?_
   refine o_move rfl rfl ?_
   refine o_bin rfl rfl rfl b_leq ?_
   refine o_move rfl rfl ?_
   refine l_split (t := 103) rfl (fun h7 => ?_) (fun h7 => ?_)
   · -- h7T
    have h7b := h7
    try simp only [decide_eq_true_eq] at h7
    refine o_no rfl rfl rfl rfl ?_
    refine o_no rfl rfl rfl rfl ?_
    refine o_no rfl rfl rfl rfl ?_
    refine o_no rfl rfl rfl rfl ?_
    refine o_pick_true rfl rfl rfl ?_
    refine o_move rfl rfl ?_
    refine o_no rfl rfl rfl rfl ?_
    refine o_pick_true rfl rfl rfl ?_
    refine o_assign rfl rfl ?_
    refine l_nil ?_
    refine q_then ?_
    refine c_ret ?_
    refine q_conv (fun w S => S.tail) ?_
    refine q_conv (fun w S => S.tail) ?_
    exact f_ret (r_one rfl rfl) (⟨by first | rfl | (rw [maj_end hm2 hm1.len (by omega) (by omega) hm1.tk (by omega) (by omega)]), rfl⟩) (fun w S => S)
   · -- h7F
    have h7b := h7
    try simp only [decide_eq_false_iff_not, Int.not_lt, Int.not_le] at h7
    refine o_yes rfl rfl rfl ?_
    refine o_move rfl rfl ?_
    refine o_yes rfl rfl rfl ?_
    refine o_bin rfl rfl rfl (b_mul (wrap_i64 (by omega) (by omega))) ?_
    refine o_yes rfl rfl rfl ?_
    refine o_move rfl rfl ?_
    refine o_yes rfl rfl rfl ?_
    refine o_bin rfl rfl rfl b_leq ?_
    refine o_pick_false rfl rfl rfl ?_
    refine o_move rfl rfl ?_
    refine l_split (t := 109) rfl (fun h8 => ?_) (fun h8 => ?_)
    · -- h8T
     have h8b := h8
     try simp only [decide_eq_true_eq] at h8
     refine o_no rfl rfl rfl rfl ?_
     refine o_pick_true rfl rfl rfl ?_
     refine o_assign rfl rfl ?_
     refine l_nil ?_
     refine q_then ?_
     refine c_ret ?_
     refine q_conv (fun w S => S.tail) ?_
     refine q_conv (fun w S => S.tail) ?_
     exact f_ret (r_one rfl rfl) (⟨by first | rfl | (rw [maj_end hm2 hm1.len (by omega) (by omega) hm1.tk (by omega) (by omega)]), rfl⟩) (fun w S => S)
    · -- h8F
     have h8b := h8
     try simp only [decide_eq_false_iff_not, Int.not_lt, Int.not_le] at h8
     refine o_yes rfl rfl rfl ?_
     refine o_move rfl rfl ?_
     refine o_pick_false rfl rfl rfl ?_
     refine o_assign rfl rfl ?_
     refine l_nil ?_
     refine q_then ?_
     refine c_ret ?_
     refine q_conv (fun w S => S.tail) ?_
     refine q_conv (fun w S => S.tail) ?_
     exact f_ret (r_one rfl rfl) (⟨by first | rfl | (rw [maj_end hm2 hm1.len (by omega) (by omega) hm1.tk (by omega) (by omega)]), rfl⟩) (fun w S => S)

end Go.Proofs.Ytcdodagebbfjoaa
