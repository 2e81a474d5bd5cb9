/- Printed by eng2.py out of 15/spec.py. -/
import Derived.Test.YteehongibjkjlaaFilp
import Derived.Test.YteehongibjkjlaaRHomes
import Derived.Test.YteehongibjkjlaaPart
set_option linter.unusedVariables false
set_option linter.unusedSimpArgs false
set_option maxRecDepth 10000
namespace Go.Proofs.Yteehongibjkjlaa
open Go.RowKit Classical
set_option maxHeartbeats 1000000 in
theorem rfirst_ {W : World} {F : List Res} {i : Nat} {log : List Order} {a : Option Addr} {c : Nat} (hs : RdS W F e_Order a log) (ho : ∀ x ∈ log, OrdR W F x) (hn : log.length ≤ 9223372036854775807) (hi0 : i < log.length) (hmk : ∀ (j : Nat) x, j ≤ i → log[j]? = some x → x.f_Marks.xs.length ≤ 1000000) : CS Try.prog 31 #[.slice a log.length c, .int .i64 (i : Int)] W (F) (fun r L' => r = .bool (decide (FirstG log i)) ∧ F = L') := by
 refine f_door (l0 := [(0, .slice a log.length c), (1, .int .i64 (i : Int))]) Try.func31 Try.ntmps31 rfl rfl rfl ?_
 refine c_seq ?_
 refine c_region ?_
 refine o_assign rfl rfl ?_
 refine l_nil ?_
 refine q_then ?_
 refine c_seq ?_
 refine c_seq ?_
 refine c_region ?_
 refine o_move rfl rfl ?_
 refine o_move rfl rfl ?_
 refine o_index e_Order_ok rfl rfl rfl Try.underlying22 (by omega) (by omega) hs fun ad8 ead8 => ?_
 obtain ⟨x8, hx8⟩ : ∃ x, (log)[((i : Int)).toNat]? = some x := ⟨_, List.getElem?_eq_getElem (by omega)⟩
 have hx8' : log[i]? = some x8 := hx8
 refine o_loadn (vs := e_Order.cells x8) rfl rfl Try.underlying40 rfl ti40 (rdn_sl e_Order_ok ead8 hs hx8) ?_
 refine o_call rfl cal12 rfl (rsingle_ (o := x8) (ho x8 (List.mem_of_getElem? hx8)) (hmk i x8 (Nat.le_refl _) hx8)) ?_
 rintro _ _ ⟨rfl, rfl⟩
 refine l_nil ?_
 refine q_then ?_
 refine c_cond rfl (fun h1 => ?_) (fun h1 => ?_)
 · -- h1T
  have h1b := h1
  try simp only [decide_eq_true_eq] at h1
  refine c_seq ?_
  refine c_region ?_
  refine o_assign rfl rfl ?_
  refine l_nil ?_
  refine q_then ?_
  refine c_ret ?_
  refine q_pass_ret ?_
  exact f_ret (r_one rfl rfl) (⟨vfalse' (fun h9 => (firstG_iff hx8').1 h9 |>.1 (by simpa using h1b)), rfl⟩) (fun w S => S)
 · -- h1F
  have h1b := h1
  try simp only [decide_eq_false_iff_not, Int.not_lt, Int.not_le] at h1
  refine c_skip ?_
  refine q_then ?_
  refine c_seq ?_
  refine c_seq ?_
  refine c_region ?_
  refine o_assign rfl rfl ?_
  refine l_nil ?_
  refine q_then ?_
  refine c_block ?_
  refine c_loop (α := Nat) (fun z => [(0, .slice a (log).length c), (1, .int .i64 (i : Int)), (5, .int .i64 (z : Int))]) (fun z => F) (fun z => z ≤ i ∧ ∀ k y, k < z → log[k]? = some y → y.tag = x8.tag → single y) (fun z => i - z) (0) (by exact ⟨Nat.zero_le _, fun k y h => absurd h (by omega)⟩) ⟨(by first | rfl | exact vint (by omega)), (by first | rfl | exact vint (by omega)), (by first | rfl | exact vint (by omega)), trivial⟩ (fun w S => S) ?_
  rintro j ⟨hj, hno⟩
  try dsimp only at *
  refine c_seq ?_
  refine c_seq ?_
  refine c_region ?_
  refine o_move rfl rfl ?_
  refine o_move rfl rfl ?_
  refine o_bin rfl rfl rfl b_lss ?_
  refine l_nil ?_
  refine q_then ?_
  refine c_cond rfl (fun h2 => ?_) (fun h2 => ?_)
  · -- h2T
   have h2b := h2
   try simp only [decide_eq_true_eq] at h2
   refine c_skip ?_
   refine q_then ?_
   refine c_seq ?_
   refine c_block ?_
   refine c_seq ?_
   refine c_fact (p := ∃ ad, a = some ad) (rds_some (e := e_Order) (xs := log) hs (by intro h0; have h00 := congrArg List.length h0; simp only [List.length_nil] at h00; omega)) ?_
   rintro ⟨adx, eadx⟩
   refine c_heldF [] (F) (by kernel_rfl) ?_
   refine h_take 0 rfl rfl (by kernel_rfl) (by kernel_rfl) (by kernel_rfl) (fun L0 => v_move rfl rfl) ?_
   refine h_take 1 rfl rfl (by kernel_rfl) (by kernel_rfl) (by kernel_rfl) (fun L0 => v_move rfl rfl) ?_
   refine h_take 2 rfl rfl (by kernel_rfl) (by kernel_rfl) (by kernel_rfl) (fun L0 => v_indexK e_Order_ok eadx rfl rfl rfl Try.underlying22 (by omega) (by omega)) ?_
   obtain ⟨x18, hx18⟩ : ∃ x, (log)[((j : Int)).toNat]? = some x := ⟨_, List.getElem?_eq_getElem (by omega)⟩
   have hx18' : log[j]? = some x18 := hx18
   refine h_take 3 rfl rfl (by kernel_rfl) (by kernel_rfl) (by kernel_rfl) (fun L0 => v_fieldAddr rfl rfl Try.underlying40 rfl ti33 (Addr.add_add' _ _ _)) ?_
   refine h_take 4 rfl rfl (by kernel_rfl) (by kernel_rfl) (by kernel_rfl) (fun L0 => v_loadn (vs := [.int .i64 x18.f_Tag_Id_Node, .int .u64 x18.f_Tag_Id_Epoch, .int .u64 x18.f_Tag_Id_Seq, .int .i64 x18.f_Tag_Try]) rfl rfl Try.underlying33 rfl ti33 (rdn_slo (n := 4) e_Order_ok eadx (rds_app hs) hx18 rfl)) ?_
   refine h_take 5 rfl rfl (by kernel_rfl) (by kernel_rfl) (by kernel_rfl) (fun L0 => v_move rfl rfl) ?_
   refine h_take 6 rfl rfl (by kernel_rfl) (by kernel_rfl) (by kernel_rfl) (fun L0 => v_move rfl rfl) ?_
   refine h_take 7 rfl rfl (by kernel_rfl) (by kernel_rfl) (by kernel_rfl) (fun L0 => v_indexK e_Order_ok eadx rfl rfl rfl Try.underlying22 (by omega) (by omega)) ?_
   obtain ⟨x23, hx23⟩ : ∃ x, (log)[((i : Int)).toNat]? = some x := ⟨_, List.getElem?_eq_getElem (by omega)⟩
   have e23 : x23 = x8 := by rw [hx8] at hx23; exact (Option.some.inj hx23).symm
   refine h_take 8 rfl rfl (by kernel_rfl) (by kernel_rfl) (by kernel_rfl) (fun L0 => v_fieldAddr rfl rfl Try.underlying40 rfl ti33 (Addr.add_add' _ _ _)) ?_
   refine h_take 9 rfl rfl (by kernel_rfl) (by kernel_rfl) (by kernel_rfl) (fun L0 => v_loadn (vs := [.int .i64 x23.f_Tag_Id_Node, .int .u64 x23.f_Tag_Id_Epoch, .int .u64 x23.f_Tag_Id_Seq, .int .i64 x23.f_Tag_Try]) rfl rfl Try.underlying33 rfl ti33 (rdn_slo (n := 4) e_Order_ok eadx (rds_app hs) hx23 rfl)) ?_
   refine h_take 10 rfl rfl (by kernel_rfl) (by kernel_rfl) (by kernel_rfl) (fun L0 => v_bin rfl rfl rfl (b_eqlS33 ⟨x18.f_Tag_Id_Node, x18.f_Tag_Id_Epoch, x18.f_Tag_Id_Seq, x18.f_Tag_Try⟩ ⟨x23.f_Tag_Id_Node, x23.f_Tag_Id_Epoch, x23.f_Tag_Id_Seq, x23.f_Tag_Try⟩)) ?_
   refine h_take 11 rfl rfl (by kernel_rfl) (by kernel_rfl) (by kernel_rfl) (fun L0 => v_move rfl rfl) ?_
   refine h_split (t := 27) rfl (fun h3 => ?_) (fun h3 => ?_)
   · -- h3T
    have h3b := h3
    try simp only [decide_eq_true_eq] at h3
    refine h_take_yes 12 rfl rfl rfl rfl rfl (by kernel_rfl) (by kernel_rfl) (by kernel_rfl) (fun L0 => v_move rfl rfl) ?_
    refine h_take_yes 13 rfl rfl rfl rfl rfl (by kernel_rfl) (by kernel_rfl) (by kernel_rfl) (fun L0 => v_move rfl rfl) ?_
    refine h_take_yes 14 rfl rfl rfl rfl rfl (by kernel_rfl) (by kernel_rfl) (by kernel_rfl) (fun L0 => v_indexK e_Order_ok eadx rfl rfl rfl Try.underlying22 (by omega) (by omega)) ?_
    obtain ⟨x30, hx30⟩ : ∃ x, (log)[((j : Int)).toNat]? = some x := ⟨_, List.getElem?_eq_getElem (by omega)⟩
    have e30 : x30 = x18 := by rw [hx18] at hx30; exact (Option.some.inj hx30).symm
    refine h_take_yes 15 rfl rfl rfl rfl rfl (by kernel_rfl) (by kernel_rfl) (by kernel_rfl) (fun L0 => v_loadn (vs := e_Order.cells x30) rfl rfl Try.underlying40 rfl ti40 (rdn_sl e_Order_ok eadx (rds_app hs) hx30)) ?_
    refine h_one 16 rfl (by kernel_rfl) ?_
    refine l_conv (L' := F) (fun w S => S.perm List.perm_append_comm) ?_
    refine o_yes rfl rfl rfl ?_
    refine o_call rfl cal12 rfl (rsingle_ (o := x30) (ho x30 (List.mem_of_getElem? hx30)) (hmk j x30 (by omega) hx30)) ?_
    rintro _ _ ⟨rfl, rfl⟩
    refine l_nil ?_
    refine q_conv (L' := (F) ++ []) (fun w S => S.perm (List.perm_append_comm (l₁ := []) (l₂ := F))) ?_
    refine h_next ?_
    refine h_take_yes 17 rfl rfl rfl rfl rfl (by kernel_rfl) (by kernel_rfl) (by kernel_rfl) (fun L0 => v_not rfl rfl) ?_
    refine h_take 18 rfl rfl (by kernel_rfl) (by kernel_rfl) (by kernel_rfl) (fun L0 => v_pick_true rfl rfl rfl) ?_
    refine h_done (by kernel_rfl) ?_
    refine q_conv (L' := F) (fun w S => S.perm List.perm_append_comm) ?_
    refine q_then ?_
    refine c_cond rfl (fun h4 => ?_) (fun h4 => ?_)
    · -- h4T
     have h4b := h4
     try simp only [Bool.not_eq_true', decide_eq_false_iff_not, Int.not_lt, Int.not_le] at h4
     refine c_seq ?_
     refine c_region ?_
     refine o_assign rfl rfl ?_
     refine l_nil ?_
     refine q_then ?_
     refine c_ret ?_
     refine q_block_ret ?_
     refine q_pass_ret ?_
     refine q_pass_ret ?_
     refine q_block_ret ?_
     refine q_pass_ret ?_
     exact f_ret (r_one rfl rfl) (⟨vfalse' (fun h9 => by obtain ⟨o', q1, q2, q3⟩ := h9; rw [hx8'] at q1; cases q1; exact (by simp_all : ¬ single x18) (q3 j x18 (by omega) hx18' (by simp_all))), rfl⟩) (fun w S => S)
    · -- h4F
     have h4b := h4
     try simp only [Bool.not_eq_false', decide_eq_true_eq] at h4
     refine c_skip ?_
     refine q_block ?_
     refine q_then ?_
     refine c_region ?_
     refine o_move rfl rfl ?_
     refine o_bin rfl rfl rfl (b_add (wrap_i64 (by omega) (by omega))) ?_
     refine o_assign rfl rfl ?_
     refine l_nil ?_
     exact q_round (j + 1) (by exact ⟨by omega, fun k y hk hy ht => by rcases Nat.lt_succ_iff_lt_or_eq.1 hk with h9 | h9; exact hno k y h9 hy ht; subst h9; rw [hx18'] at hy; cases hy; subst e23; (try subst e30); first | (exfalso; simp_all; done) | (simp_all; done) | grind⟩) (by (try dsimp only); omega) ⟨(by first | rfl | exact vint (by omega)), (by first | rfl | exact vint (by omega)), (by first | rfl | exact vint (by omega)), trivial⟩ (fun w S => S)
   · -- h3F
    have h3b := h3
    try simp only [decide_eq_false_iff_not, Int.not_lt, Int.not_le] at h3
    refine h_take_no 12 rfl rfl rfl rfl rfl (by kernel_rfl) (by kernel_rfl) (by kernel_rfl) ?_
    refine h_take_no 13 rfl rfl rfl rfl rfl (by kernel_rfl) (by kernel_rfl) (by kernel_rfl) ?_
    refine h_take_no 14 rfl rfl rfl rfl rfl (by kernel_rfl) (by kernel_rfl) (by kernel_rfl) ?_
    refine h_take_no 15 rfl rfl rfl rfl rfl (by kernel_rfl) (by kernel_rfl) (by kernel_rfl) ?_
    refine h_take_no 16 rfl rfl rfl rfl rfl (by kernel_rfl) (by kernel_rfl) (by kernel_rfl) ?_
    refine h_take_no 17 rfl rfl rfl rfl rfl (by kernel_rfl) (by kernel_rfl) (by kernel_rfl) ?_
    refine h_take 18 rfl rfl (by kernel_rfl) (by kernel_rfl) (by kernel_rfl) (fun L0 => v_pick_false rfl rfl rfl) ?_
    refine h_done (by kernel_rfl) ?_
    refine q_conv (L' := F) (fun w S => S.perm List.perm_append_comm) ?_
    refine q_then ?_
    refine c_false rfl ?_
    refine c_skip ?_
    refine q_block ?_
    refine q_then ?_
    refine c_region ?_
    refine o_move rfl rfl ?_
    refine o_bin rfl rfl rfl (b_add (wrap_i64 (by omega) (by omega))) ?_
    refine o_assign rfl rfl ?_
    refine l_nil ?_
    exact q_round (j + 1) (by exact ⟨by omega, fun k y hk hy ht => by rcases Nat.lt_succ_iff_lt_or_eq.1 hk with h9 | h9; exact hno k y h9 hy ht; subst h9; rw [hx18'] at hy; cases hy; subst e23; (try subst e30); first | (exfalso; simp_all; done) | (simp_all; done) | grind⟩) (by (try dsimp only); omega) ⟨(by first | rfl | exact vint (by omega)), (by first | rfl | exact vint (by omega)), (by first | rfl | exact vint (by omega)), trivial⟩ (fun w S => S)
  · -- h2F
   have h2b := h2
   try simp only [decide_eq_false_iff_not, Int.not_lt, Int.not_le] at h2
   refine c_exit ?_
   refine q_pass_exit ?_
   refine q_pass_exit ?_
   refine q_hit ?_
   refine q_then ?_
   refine c_seq ?_
   refine c_region ?_
   refine o_assign rfl rfl ?_
   refine l_nil ?_
   refine q_then ?_
   refine c_ret ?_
   exact f_ret (r_one rfl rfl) (⟨vtrue' ⟨x8, hx8', (by simpa using h1b), fun k y hk hy ht => hno k y (by omega) hy ht⟩, rfl⟩) (fun w S => S)

end Go.Proofs.Yteehongibjkjlaa
