/- Printed by eng.py out of 13/spec.py. -/
import Derived.Test.YtokphffmbennkaaLearn
import Derived.Test.YtokphffmbennkaaOnce
import Derived.Test.YtokphffmbennkaaAnyp
import Derived.Test.YtokphffmbennkaaMem2
import Derived.Test.YtokphffmbennkaaBits
set_option linter.unusedVariables false
set_option linter.unusedSimpArgs false
set_option maxRecDepth 10000
namespace Go.Proofs.Ytokphffmbennkaa
open Go.RowKit
set_option maxHeartbeats 1000000 in
theorem any_ {W : World} {F : List Res} {k0 : Int} {xs : List Int} {a : Option Addr} {c : Nat} (hs : SlR W eI a xs) : CS Try.prog 3 #[.int .i64 k0, .slice a xs.length c] W (F) (fun r L' => r = .bool true ∧ F = L') := by
  refine f_door (l0 := [(0, .int .i64 k0), (1, .slice a xs.length c)]) Try.func3 Try.ntmps3 rfl rfl rfl ?_
  refine c_seq ?_
  refine c_region ?_
  refine o_assign rfl rfl ?_
  refine l_nil ?_
  refine q_then ?_
  refine c_seq ?_
  refine c_seq ?_
  refine c_region ?_
  refine o_call rfl cal7 rfl (speaks_) ?_
  rintro _ _ ⟨rfl, rfl⟩
  refine o_not rfl rfl ?_
  refine l_nil ?_
  refine q_then ?_
  refine c_false rfl ?_
  refine c_skip ?_
  refine q_then ?_
  refine c_seq ?_
  refine c_region ?_
  refine o_move rfl rfl ?_
  refine o_bin rfl rfl rfl (b_and rfl) ?_
  obtain ⟨q18, hq18, eq18⟩ := band64 k0 1023 (by omega)
  refine l_eq (t := 18) (v' := .int .i64 (q18 : Int)) rfl (by first | exact congrArg _ eq18) ?_
  have hn64 : q18 % 65 ≤ 64 := by omega
  refine o_bin rfl rfl rfl (b_rem (by omega) (tmodI)) ?_
  refine o_assign rfl rfl ?_
  refine l_nil ?_
  refine q_then ?_
  refine c_seq ?_
  refine c_seq ?_
  refine c_region ?_
  refine o_move rfl rfl ?_
  refine o_len rfl rfl Try.underlying22 ?_
  refine o_bin rfl rfl rfl b_gtr ?_
  refine l_nil ?_
  refine q_then ?_
  refine c_cond rfl (fun h1 => ?_) (fun h1 => ?_)
  · -- h1T
    have h1b := h1
    try simp only [decide_eq_true_eq, decide_eq_false_iff_not, Bool.not_eq_eq_eq_not, Bool.not_true, Bool.not_false, Bool.not_eq_true', Bool.not_eq_false', Int.not_lt, Int.not_le, Bool.or_eq_true, Bool.and_eq_true] at h1
    refine c_seq ?_
    refine c_region ?_
    refine o_assign rfl rfl ?_
    refine l_nil ?_
    refine q_then ?_
    refine c_ret ?_
    refine q_pass_ret ?_
    exact f_ret (r_one rfl rfl) (⟨rfl, rfl⟩) (fun w S => S)
  · -- h1F
    have h1b := h1
    try simp only [decide_eq_true_eq, decide_eq_false_iff_not, Bool.not_eq_eq_eq_not, Bool.not_true, Bool.not_false, Bool.not_eq_true', Bool.not_eq_false', Int.not_lt, Int.not_le, Bool.or_eq_true, Bool.and_eq_true] at h1
    refine c_skip ?_
    refine q_then ?_
    refine c_seq ?_
    refine c_region ?_
    refine o_call rfl cal8 rfl (newI) ?_
    rintro _ _ ⟨k23, m23, rfl, rfl⟩
    refine o_assign rfl rfl ?_
    refine l_nil ?_
    refine q_then ?_
    refine c_seq ?_
    refine c_seq ?_
    refine c_region ?_
    refine o_move rfl rfl ?_
    refine o_bin rfl rfl rfl (b_peq Try.underlying24 _) ?_
    refine l_nil ?_
    refine q_then ?_
    refine c_false rfl ?_
    refine c_skip ?_
    refine q_then ?_
    refine c_seq ?_
    refine c_region ?_
    refine o_lit eI_ok rfl Try.underlying22 rfl rfl rfl (lit_ok rfl) ([] : List Int) rfl rfl fun a26 => ?_
    refine o_assign rfl rfl ?_
    refine l_nil ?_
    refine q_then ?_
    refine c_seq ?_
    refine c_seq ?_
    refine c_region ?_
    refine o_assign rfl rfl ?_
    refine l_nil ?_
    refine q_then ?_
    refine c_block ?_
    refine c_loop (α := Nat × (Option Addr) × Nat) (fun z => [(1, .slice a (xs).length c), (5, .int .i64 ((q18 % 65 : Nat) : Int)), (6, .pointer (some ⟨k23, 0, none⟩)), (7, .slice z.2.1 (iot z.1).length z.2.2), (8, .int .i64 (z.1 : Int))]) (fun z => row eI.T eI.sz z.2.1 (iot z.1).length z.2.2 (flat eI (iot z.1)) :: blk k23 (.cells #[.map (some m23), .int .i64 ((0 : Nat) : Int)] 53 (0, 0)) :: mapR kvI vvI m23 ([] : List (Int × Int)) :: F) (fun z => z.1 ≤ q18 % 65) (fun z => q18 % 65 - z.1) (0, a26, 0) (by exact Nat.zero_le _) ⟨(by first | rfl | exact vint (by omega)), (by first | rfl | exact vint (by omega)), (by first | rfl | exact vint (by omega)), (by first | rfl | exact vint (by omega)), (by first | rfl | exact vint (by omega)), trivial⟩ (fun w S => S) ?_
    rintro ⟨i, a7, c7⟩ hi
    try dsimp only at *
    refine c_seq ?_
    refine c_seq ?_
    refine c_region ?_
    refine o_move rfl rfl ?_
    refine o_move rfl rfl ?_
    refine o_bin rfl rfl rfl b_lss ?_
    refine l_nil ?_
    refine q_then ?_
    refine c_cond rfl (fun h2 => ?_) (fun h2 => ?_)
    · -- h2T
      have h2b := h2
      try simp only [decide_eq_true_eq, decide_eq_false_iff_not, Bool.not_eq_eq_eq_not, Bool.not_true, Bool.not_false, Bool.not_eq_true', Bool.not_eq_false', Int.not_lt, Int.not_le, Bool.or_eq_true, Bool.and_eq_true] at h2
      refine c_skip ?_
      refine q_then ?_
      refine c_seq ?_
      refine c_block ?_
      refine c_region ?_
      refine o_move rfl rfl ?_
      refine o_move rfl rfl ?_
      refine o_lit eI_ok rfl Try.underlying22 rfl rfl rfl (lit_ok rfl) [(i : Int)] rfl rfl fun a34 => ?_
      refine l_f1 ?_
      refine o_append eI_ok rfl rfl rfl Try.underlying22 (rds_own eI_ok 1 rfl) (by show (_ + _) * 8 ≤ _; rw [iot_len]; simp only [List.length_cons, List.length_nil]; omega) (by rw [iot_len]; simp only [List.length_cons, List.length_nil]; omega) fun a35 c35 => ?_
      refine l_f1 ?_
      refine l_drop ?_
      refine l_eq (t := 35) (v' := .slice a35 (iot (i + 1)).length c35) rfl (by rw [iot_succ]) ?_
      refine l_conv (L' := row eI.T eI.sz a35 (iot (i + 1)).length c35 (flat eI (iot (i + 1))) :: _) (fun w S => by rw [iot_succ] at S; exact S) ?_
      refine o_assign rfl rfl ?_
      refine l_nil ?_
      refine q_block ?_
      refine q_then ?_
      refine c_region ?_
      refine o_move rfl rfl ?_
      refine o_bin rfl rfl rfl (b_add (wrap_i64 (by omega) (by omega))) ?_
      refine o_assign rfl rfl ?_
      refine l_nil ?_
      exact q_round (i + 1, a35, c35) (by (try dsimp only); omega) (by (try dsimp only); omega) ⟨(by first | rfl | exact vint (by omega)), (by first | rfl | exact vint (by omega)), (by first | rfl | exact vint (by omega)), (by first | rfl | exact vint (by omega)), (by first | rfl | exact vint (by omega)), trivial⟩ (fun w S => S)
    · -- h2F
      have h2b := h2
      try simp only [decide_eq_true_eq, decide_eq_false_iff_not, Bool.not_eq_eq_eq_not, Bool.not_true, Bool.not_false, Bool.not_eq_true', Bool.not_eq_false', Int.not_lt, Int.not_le, Bool.or_eq_true, Bool.and_eq_true] at h2
      obtain rfl : i = q18 % 65 := by omega
      refine c_exit ?_
      refine q_pass_exit ?_
      refine q_pass_exit ?_
      refine q_hit ?_
      refine q_then ?_
      refine c_seq ?_
      refine c_seq ?_
      refine c_region ?_
      refine o_assign rfl rfl ?_
      refine l_nil ?_
      refine q_then ?_
      refine c_block ?_
      refine c_loop (α := (List Int) × Nat × (List (Int × Int)) × Nat × (Option Addr) × Nat) (fun z => [(1, .slice a (xs).length c), (5, .int .i64 ((q18 % 65 : Nat) : Int)), (6, .pointer (some ⟨k23, 0, none⟩)), (7, .slice z.2.2.2.2.1 (z.1).length z.2.2.2.2.2), (9, .int .i64 (z.2.1 : Int))]) (fun z => row eI.T eI.sz z.2.2.2.2.1 (z.1).length z.2.2.2.2.2 (flat eI z.1) :: blk k23 (.cells #[.map (some m23), .int .i64 (z.2.2.2.1 : Int)] 53 (0, 0)) :: mapR kvI vvI m23 z.2.2.1 :: F) (fun z => AnyOk (q18 % 65) z.2.2.1 z.1 ∧ ChOk z.2.2.1 z.2.2.2.1 ∧ z.2.1 + z.1.length ≤ 64) (fun z => z.1.length) (iot (q18 % 65), 0, [], 0, a7, c7) (by exact ⟨any_start _, chOk_nil, by dsimp only; rw [iot_len]; omega⟩) ⟨(by first | rfl | exact vint (by omega)), (by first | rfl | exact vint (by omega)), (by first | rfl | exact vint (by omega)), (by rfl), (by first | rfl | exact vint (by omega)), trivial⟩ (fun w S => S) ?_
      rintro ⟨R, j, D, wh, a7, c7⟩ ⟨hA, ok, hRl⟩
      try dsimp only at *
      refine c_seq ?_
      refine c_seq ?_
      refine c_region ?_
      refine o_move rfl rfl ?_
      refine o_len rfl rfl Try.underlying22 ?_
      refine o_bin rfl rfl rfl b_gtr ?_
      refine l_nil ?_
      refine q_then ?_
      refine c_cond rfl (fun h3 => ?_) (fun h3 => ?_)
      · -- h3T
        have h3b := h3
        try simp only [decide_eq_true_eq, decide_eq_false_iff_not, Bool.not_eq_eq_eq_not, Bool.not_true, Bool.not_false, Bool.not_eq_true', Bool.not_eq_false', Int.not_lt, Int.not_le, Bool.or_eq_true, Bool.and_eq_true] at h3
        refine c_skip ?_
        refine q_then ?_
        refine c_seq ?_
        refine c_block ?_
        refine c_seq ?_
        refine c_region ?_
        refine o_assign rfl rfl ?_
        refine l_nil ?_
        refine q_then ?_
        refine c_seq ?_
        refine c_seq ?_
        refine c_region ?_
        refine o_move rfl rfl ?_
        refine o_move rfl rfl ?_
        refine o_len rfl rfl Try.underlying22 ?_
        refine o_bin rfl rfl rfl b_lss ?_
        refine l_nil ?_
        refine q_then ?_
        refine c_cond rfl (fun h4 => ?_) (fun h4 => ?_)
        · -- h4T
          have h4b := h4
          try simp only [decide_eq_true_eq, decide_eq_false_iff_not, Bool.not_eq_eq_eq_not, Bool.not_true, Bool.not_false, Bool.not_eq_true', Bool.not_eq_false', Int.not_lt, Int.not_le, Bool.or_eq_true, Bool.and_eq_true] at h4
          refine c_region ?_
          refine o_move rfl rfl ?_
          refine o_move rfl rfl ?_
          refine o_index eI_ok rfl rfl rfl Try.underlying22 (by omega) (by omega) (rds_c (rds_c (rds_c (rds_old hs)))) fun ad47 ead47 => ?_
          obtain ⟨x47, hx47⟩ : ∃ x, (xs)[((j : Int)).toNat]? = some x := ⟨_, List.getElem?_eq_getElem (by omega)⟩
          refine o_load1 rfl rfl Try.underlying3 rfl (rd_sl0 eI_ok ead47 (rds_c (rds_c (rds_c (rds_old hs)))) hx47 rfl) ?_
          refine o_bin rfl rfl rfl (b_and rfl) ?_
          obtain ⟨q49, hq49, eq49⟩ := band64 x47 65535 (by omega)
          refine l_eq (t := 49) (v' := .int .i64 (q49 : Int)) rfl (by first | exact congrArg _ eq49) ?_
          refine o_move rfl rfl ?_
          refine o_len rfl rfl Try.underlying22 ?_
          refine o_bin rfl rfl rfl (b_rem (by omega) (tmodI)) ?_
          refine o_assign rfl rfl ?_
          refine l_nil ?_
          refine q_then ?_
          refine c_seq ?_
          have hkl : (q49 % R.length) < R.length := Nat.mod_lt _ (by omega)
          refine c_region ?_
          refine o_move rfl rfl ?_
          refine o_index eI_ok rfl rfl rfl Try.underlying22 (by omega) (by omega) (rds_own eI_ok 0 rfl) fun ad54 ead54 => ?_
          obtain ⟨x54, hx54⟩ : ∃ x, (R)[((0 : Int)).toNat]? = some x := ⟨_, List.getElem?_eq_getElem (by omega)⟩
          refine o_load1 rfl rfl Try.underlying3 rfl (rd_sl0 eI_ok ead54 (rds_own eI_ok 0 rfl) hx54 rfl) ?_
          refine o_assign rfl rfl ?_
          refine l_nil ?_
          refine q_then ?_
          refine c_seq ?_
          refine c_seq ?_
          refine c_held [row eI.T eI.sz a7 (R).length c7 (flat eI R)] (by kernel_rfl) rfl ?_
          refine h_take 0 rfl rfl (by kernel_rfl) (by kernel_rfl) (by kernel_rfl) (fun L0 => v_move rfl rfl) ?_
          refine h_take 2 rfl rfl (by kernel_rfl) (by kernel_rfl) (by kernel_rfl) (fun L0 => v_move rfl rfl) ?_
          refine h_one 1 rfl (by kernel_rfl) ?_
          refine l_f2 ?_
          refine l_f2 ?_
          refine o_call rfl cal9 rfl (lenI ok) ?_
          rintro _ _ ⟨rfl, rfl⟩
          refine l_nil ?_
          refine q_conv (fun w S => S.perm p1) ?_
          refine q_conv (fun w S => S.perm p1) ?_
          refine q_conv (fun w S => S.perm p2) ?_
          refine h_next ?_
          have hlow := any_low ok hA hx54
          refine h_take 3 rfl rfl (by kernel_rfl) (by kernel_rfl) (by kernel_rfl) (fun L0 => v_bin rfl rfl rfl b_neq) ?_
          refine h_eq (t := 59) (v' := .bool false) rfl (show _ = Value.bool false from by rw [hlow]; simp) ?_
          refine h_take 4 rfl rfl (by kernel_rfl) (by kernel_rfl) (by kernel_rfl) (fun L0 => v_move rfl rfl) ?_
          refine h_take_yes 5 rfl rfl rfl rfl rfl (by kernel_rfl) (by kernel_rfl) (by kernel_rfl) (fun L0 => v_move rfl rfl) ?_
          refine h_take_yes 6 rfl rfl rfl rfl rfl (by kernel_rfl) (by kernel_rfl) (by kernel_rfl) (fun L0 => v_move rfl rfl) ?_
          refine h_take_yes 7 rfl rfl rfl rfl rfl (by kernel_rfl) (by kernel_rfl) (by kernel_rfl) (fun L0 => v_move rfl rfl) ?_
          refine h_take_yes 8 rfl rfl rfl rfl rfl (by kernel_rfl) (by kernel_rfl) (by kernel_rfl) (fun L0 => v_indexK eI_ok ead54 rfl rfl rfl Try.underlying22 (by omega) (by omega)) ?_
          obtain ⟨x64, hx64⟩ : ∃ x, (R)[(((q49 % R.length : Nat) : Int)).toNat]? = some x := ⟨_, List.getElem?_eq_getElem (by omega)⟩
          refine h_take_yes 9 rfl rfl rfl rfl rfl (by kernel_rfl) (by kernel_rfl) (by kernel_rfl) (fun L0 => v_load1 rfl rfl Try.underlying3 rfl (rd_sl0 eI_ok ead54 (rds_own eI_ok 0 rfl) hx64 rfl)) ?_
          refine h_take_yes 10 rfl rfl rfl rfl rfl (by kernel_rfl) (by kernel_rfl) (by kernel_rfl) (fun L0 => v_move rfl rfl) ?_
          refine h_take_yes 11 rfl rfl rfl rfl rfl (by kernel_rfl) (by kernel_rfl) (by kernel_rfl) (fun L0 => v_move rfl rfl) ?_
          refine h_take_yes 12 rfl rfl rfl rfl rfl (by kernel_rfl) (by kernel_rfl) (by kernel_rfl) (fun L0 => v_indexK eI_ok ead54 rfl rfl rfl Try.underlying22 (by omega) (by omega)) ?_
          obtain ⟨x68, hx68⟩ : ∃ x, (R)[(((q49 % R.length : Nat) : Int)).toNat]? = some x := ⟨_, List.getElem?_eq_getElem (by omega)⟩
          have hxk : R[(q49 % R.length)]? = some x64 := by rw [← hx64, Int.toNat_natCast]
          have e68 : x64 = x68 := by rw [hx64] at hx68; exact Option.some.inj hx68
          have hxr := hA.inr x64 (List.mem_of_getElem? hxk)
          have hfr := any_fresh hA hn64 hxk
          refine h_take_yes 13 rfl rfl rfl rfl rfl (by kernel_rfl) (by kernel_rfl) (by kernel_rfl) (fun L0 => v_load1 rfl rfl Try.underlying3 rfl (rd_sl0 eI_ok ead54 (rds_own eI_ok 0 rfl) hx68 rfl)) ?_
          refine h_eq (t := 69) (v' := .int .i64 x64) rfl (by rw [e68]) ?_
          refine h_take_yes 14 rfl rfl rfl rfl rfl (by kernel_rfl) (by kernel_rfl) (by kernel_rfl) (fun L0 => v_bin rfl rfl rfl (b_mul (wrap_i64 (by omega) (by omega)))) ?_
          refine h_one 15 rfl (by kernel_rfl) ?_
          refine o_yes rfl rfl rfl ?_
          refine l_f2 ?_
          refine l_f2 ?_
          refine o_call rfl cal10 rfl (learnI (slot := x64) (v := ((3 : Int) * x64)) ok) ?_
          rintro _ _ ⟨wh71, ok71, rfl, rfl⟩
          refine l_nil ?_
          refine q_conv (fun w S => S.perm p1) ?_
          refine q_conv (fun w S => S.perm p1) ?_
          refine q_conv (fun w S => S.perm p2) ?_
          refine h_next ?_
          refine h_take_yes 16 rfl rfl rfl rfl rfl (by kernel_rfl) (by kernel_rfl) (by kernel_rfl) (fun L0 => v_not rfl rfl) ?_
          refine h_eq (t := 72) (v' := .bool false) rfl (show _ = Value.bool false from by rw [hfr]; rfl) ?_
          refine h_take 17 rfl rfl (by kernel_rfl) (by kernel_rfl) (by kernel_rfl) (fun L0 => v_pick_false rfl rfl rfl) ?_
          refine h_done (by kernel_rfl) ?_
          refine q_then ?_
          refine c_false rfl ?_
          refine c_skip ?_
          refine q_then ?_
          refine c_fact (row_cap 0 rfl) ?_
          intro hcap7
          refine c_conv (fun w S => S.perm p2) ?_
          refine c_conv (fun w S => S.perm p2) ?_
          refine c_held [blk k23 (.cells #[.map (some m23), .int .i64 (wh71 : Int)] 53 (0, 0)), mapR kvI vvI m23 (lrn D x64 ((3 : Int) * x64))] (by kernel_rfl) rfl ?_
          refine h_take 0 rfl rfl (by kernel_rfl) (by kernel_rfl) (by kernel_rfl) (fun L0 => v_move rfl rfl) ?_
          refine h_take 1 rfl rfl (by kernel_rfl) (by kernel_rfl) (by kernel_rfl) (fun L0 => v_move rfl rfl) ?_
          refine h_take 2 rfl rfl (by kernel_rfl) (by kernel_rfl) (by kernel_rfl) (fun L0 => v_move rfl rfl) ?_
          refine h_take 3 rfl rfl (by kernel_rfl) (by kernel_rfl) (by kernel_rfl) (fun L0 => v_cut (l' := 0) (h' := (q49 % R.length)) (m := (q49 % R.length)) rfl rfl Try.underlying22 ti3 (.inr ⟨_, _, rfl, icast rfl (by omega), (by omega)⟩) (.inr ⟨_, _, rfl, icast rfl (by omega), (by omega)⟩) (.inl ⟨rfl, rfl⟩)) ?_
          obtain ⟨ys77, ay77, cut77, hys77, hlys77, eay77⟩ : ∃ ys_ ay_, (∀ {L : List Res}, RdS W L eI a7 R → RdS W L eI ay_ ys_) ∧ ys_ = sub R 0 (q49 % R.length) ∧ ys_.length = (q49 % R.length) - 0 ∧ cutA a7 (q49 % R.length) 0 1 = ay_ := ⟨_, _, fun h => rds_cut eI_ok h _ _ _ (by omega), rfl, sub_len (by omega), rfl⟩
          refine h_eq (t := 77) (v' := .slice ay77 ys77.length ((q49 % R.length) - 0)) rfl (by rw [eay77, hlys77]) ?_
          refine h_take 4 rfl rfl (by kernel_rfl) (by kernel_rfl) (by kernel_rfl) (fun L0 => v_move rfl rfl) ?_
          refine h_take 5 rfl rfl (by kernel_rfl) (by kernel_rfl) (by kernel_rfl) (fun L0 => v_move rfl rfl) ?_
          refine h_take 6 rfl rfl (by kernel_rfl) (by kernel_rfl) (by kernel_rfl) (fun L0 => v_bin rfl rfl rfl (b_add (wrap_i64 (by omega) (by omega)))) ?_
          refine h_take 7 rfl rfl (by kernel_rfl) (by kernel_rfl) (by kernel_rfl) (fun L0 => v_cut (l' := ((q49 % R.length) + 1)) (h' := ((R).length)) (m := c7) rfl rfl Try.underlying22 ti3 (.inl ⟨rfl, rfl⟩) (.inl ⟨rfl, rfl, rfl⟩) (.inr ⟨_, _, rfl, icast rfl (by omega), (by omega)⟩)) ?_
          obtain ⟨ys81, ay81, cut81, hys81, hlys81, eay81⟩ : ∃ ys_ ay_, (∀ {L : List Res}, RdS W L eI a7 R → RdS W L eI ay_ ys_) ∧ ys_ = sub R ((q49 % R.length) + 1) ((R).length) ∧ ys_.length = ((R).length) - ((q49 % R.length) + 1) ∧ cutA a7 c7 ((q49 % R.length) + 1) 1 = ay_ := ⟨_, _, fun h => rds_cut eI_ok h _ _ _ (by omega), rfl, sub_len (by omega), rfl⟩
          refine h_eq (t := 81) (v' := .slice ay81 ys81.length (c7 - ((q49 % R.length) + 1))) rfl (by rw [eay81, hlys81]) ?_
          refine h_one 8 rfl (by kernel_rfl) ?_
          refine l_f2 ?_
          refine o_appendAt eI_ok eay77 hys77 (by omega) (by omega) (by omega) rfl rfl rfl Try.underlying22 (cut81 (rds_own eI_ok 0 rfl)) (by show (_ + _) * 8 ≤ _; omega) (by omega) fun a82 c82 => ?_
          refine l_nil ?_
          refine q_conv (fun w S => S.perm p2) ?_
          refine q_conv (fun w S => S.perm p2) ?_
          refine h_next ?_
          refine h_take 9 rfl rfl (by kernel_rfl) (by kernel_rfl) (by kernel_rfl) (fun L0 => v_assign rfl rfl) ?_
          refine h_done (by kernel_rfl) ?_
          refine q_block ?_
          refine q_then ?_
          have e82 : ys77 ++ ys81 = R.take (q49 % R.length) ++ R.drop ((q49 % R.length) + 1) := by rw [hys77, hys81]; exact sub_rest _ _
          refine c_region ?_
          refine o_move rfl rfl ?_
          refine o_bin rfl rfl rfl (b_add (wrap_i64 (by omega) (by omega))) ?_
          refine o_assign rfl rfl ?_
          refine l_nil ?_
          refine q_conv (fun w S => S.perm p2) ?_
          refine q_conv (L' := row eI.T eI.sz a82 (R.take (q49 % R.length) ++ R.drop ((q49 % R.length) + 1)).length c82 (flat eI (R.take (q49 % R.length) ++ R.drop ((q49 % R.length) + 1))) :: _) (fun w S => by rw [e82] at S; exact S) ?_
          exact q_round (R.take (q49 % R.length) ++ R.drop ((q49 % R.length) + 1), j + 1, lrn D x64 (3 * x64), wh71, a82, c82) (by exact ⟨any_next hA hn64 hxk, ok71, by (try dsimp only); simp only [List.length_append, List.length_take, List.length_drop]; omega⟩) (by (try dsimp only); simp only [List.length_append, List.length_take, List.length_drop]; omega) ⟨(by first | rfl | exact vint (by omega)), (by first | rfl | exact vint (by omega)), (by first | rfl | exact vint (by omega)), (by show some (Value.slice _ _ _) = some (Value.slice _ _ _); rw [e82]), (by first | rfl | exact vint (by omega)), trivial⟩ (fun w S => S)
        · -- h4F
          have h4b := h4
          try simp only [decide_eq_true_eq, decide_eq_false_iff_not, Bool.not_eq_eq_eq_not, Bool.not_true, Bool.not_false, Bool.not_eq_true', Bool.not_eq_false', Int.not_lt, Int.not_le, Bool.or_eq_true, Bool.and_eq_true] at h4
          refine c_skip ?_
          refine q_then ?_
          refine c_seq ?_
          have hkl : 0 < R.length := by omega
          refine c_region ?_
          refine o_move rfl rfl ?_
          refine o_index eI_ok rfl rfl rfl Try.underlying22 (by omega) (by omega) (rds_own eI_ok 0 rfl) fun ad54 ead54 => ?_
          obtain ⟨x54, hx54⟩ : ∃ x, (R)[((0 : Int)).toNat]? = some x := ⟨_, List.getElem?_eq_getElem (by omega)⟩
          refine o_load1 rfl rfl Try.underlying3 rfl (rd_sl0 eI_ok ead54 (rds_own eI_ok 0 rfl) hx54 rfl) ?_
          refine o_assign rfl rfl ?_
          refine l_nil ?_
          refine q_then ?_
          refine c_seq ?_
          refine c_seq ?_
          refine c_held [row eI.T eI.sz a7 (R).length c7 (flat eI R)] (by kernel_rfl) rfl ?_
          refine h_take 0 rfl rfl (by kernel_rfl) (by kernel_rfl) (by kernel_rfl) (fun L0 => v_move rfl rfl) ?_
          refine h_take 2 rfl rfl (by kernel_rfl) (by kernel_rfl) (by kernel_rfl) (fun L0 => v_move rfl rfl) ?_
          refine h_one 1 rfl (by kernel_rfl) ?_
          refine l_f2 ?_
          refine l_f2 ?_
          refine o_call rfl cal9 rfl (lenI ok) ?_
          rintro _ _ ⟨rfl, rfl⟩
          refine l_nil ?_
          refine q_conv (fun w S => S.perm p1) ?_
          refine q_conv (fun w S => S.perm p1) ?_
          refine q_conv (fun w S => S.perm p2) ?_
          refine h_next ?_
          have hlow := any_low ok hA hx54
          refine h_take 3 rfl rfl (by kernel_rfl) (by kernel_rfl) (by kernel_rfl) (fun L0 => v_bin rfl rfl rfl b_neq) ?_
          refine h_eq (t := 59) (v' := .bool false) rfl (show _ = Value.bool false from by rw [hlow]; simp) ?_
          refine h_take 4 rfl rfl (by kernel_rfl) (by kernel_rfl) (by kernel_rfl) (fun L0 => v_move rfl rfl) ?_
          refine h_take_yes 5 rfl rfl rfl rfl rfl (by kernel_rfl) (by kernel_rfl) (by kernel_rfl) (fun L0 => v_move rfl rfl) ?_
          refine h_take_yes 6 rfl rfl rfl rfl rfl (by kernel_rfl) (by kernel_rfl) (by kernel_rfl) (fun L0 => v_move rfl rfl) ?_
          refine h_take_yes 7 rfl rfl rfl rfl rfl (by kernel_rfl) (by kernel_rfl) (by kernel_rfl) (fun L0 => v_move rfl rfl) ?_
          refine h_take_yes 8 rfl rfl rfl rfl rfl (by kernel_rfl) (by kernel_rfl) (by kernel_rfl) (fun L0 => v_indexK eI_ok ead54 rfl rfl rfl Try.underlying22 (by omega) (by omega)) ?_
          obtain ⟨x64, hx64⟩ : ∃ x, (R)[((0 : Int)).toNat]? = some x := ⟨_, List.getElem?_eq_getElem (by omega)⟩
          refine h_take_yes 9 rfl rfl rfl rfl rfl (by kernel_rfl) (by kernel_rfl) (by kernel_rfl) (fun L0 => v_load1 rfl rfl Try.underlying3 rfl (rd_sl0 eI_ok ead54 (rds_own eI_ok 0 rfl) hx64 rfl)) ?_
          refine h_take_yes 10 rfl rfl rfl rfl rfl (by kernel_rfl) (by kernel_rfl) (by kernel_rfl) (fun L0 => v_move rfl rfl) ?_
          refine h_take_yes 11 rfl rfl rfl rfl rfl (by kernel_rfl) (by kernel_rfl) (by kernel_rfl) (fun L0 => v_move rfl rfl) ?_
          refine h_take_yes 12 rfl rfl rfl rfl rfl (by kernel_rfl) (by kernel_rfl) (by kernel_rfl) (fun L0 => v_indexK eI_ok ead54 rfl rfl rfl Try.underlying22 (by omega) (by omega)) ?_
          obtain ⟨x68, hx68⟩ : ∃ x, (R)[((0 : Int)).toNat]? = some x := ⟨_, List.getElem?_eq_getElem (by omega)⟩
          have hxk : R[0]? = some x64 := by exact hx64
          have e68 : x64 = x68 := by rw [hx64] at hx68; exact Option.some.inj hx68
          have hxr := hA.inr x64 (List.mem_of_getElem? hxk)
          have hfr := any_fresh hA hn64 hxk
          refine h_take_yes 13 rfl rfl rfl rfl rfl (by kernel_rfl) (by kernel_rfl) (by kernel_rfl) (fun L0 => v_load1 rfl rfl Try.underlying3 rfl (rd_sl0 eI_ok ead54 (rds_own eI_ok 0 rfl) hx68 rfl)) ?_
          refine h_eq (t := 69) (v' := .int .i64 x64) rfl (by rw [e68]) ?_
          refine h_take_yes 14 rfl rfl rfl rfl rfl (by kernel_rfl) (by kernel_rfl) (by kernel_rfl) (fun L0 => v_bin rfl rfl rfl (b_mul (wrap_i64 (by omega) (by omega)))) ?_
          refine h_one 15 rfl (by kernel_rfl) ?_
          refine o_yes rfl rfl rfl ?_
          refine l_f2 ?_
          refine l_f2 ?_
          refine o_call rfl cal10 rfl (learnI (slot := x64) (v := ((3 : Int) * x64)) ok) ?_
          rintro _ _ ⟨wh71, ok71, rfl, rfl⟩
          refine l_nil ?_
          refine q_conv (fun w S => S.perm p1) ?_
          refine q_conv (fun w S => S.perm p1) ?_
          refine q_conv (fun w S => S.perm p2) ?_
          refine h_next ?_
          refine h_take_yes 16 rfl rfl rfl rfl rfl (by kernel_rfl) (by kernel_rfl) (by kernel_rfl) (fun L0 => v_not rfl rfl) ?_
          refine h_eq (t := 72) (v' := .bool false) rfl (show _ = Value.bool false from by rw [hfr]; rfl) ?_
          refine h_take 17 rfl rfl (by kernel_rfl) (by kernel_rfl) (by kernel_rfl) (fun L0 => v_pick_false rfl rfl rfl) ?_
          refine h_done (by kernel_rfl) ?_
          refine q_then ?_
          refine c_false rfl ?_
          refine c_skip ?_
          refine q_then ?_
          refine c_fact (row_cap 0 rfl) ?_
          intro hcap7
          refine c_conv (fun w S => S.perm p2) ?_
          refine c_conv (fun w S => S.perm p2) ?_
          refine c_held [blk k23 (.cells #[.map (some m23), .int .i64 (wh71 : Int)] 53 (0, 0)), mapR kvI vvI m23 (lrn D x64 ((3 : Int) * x64))] (by kernel_rfl) rfl ?_
          refine h_take 0 rfl rfl (by kernel_rfl) (by kernel_rfl) (by kernel_rfl) (fun L0 => v_move rfl rfl) ?_
          refine h_take 1 rfl rfl (by kernel_rfl) (by kernel_rfl) (by kernel_rfl) (fun L0 => v_move rfl rfl) ?_
          refine h_take 2 rfl rfl (by kernel_rfl) (by kernel_rfl) (by kernel_rfl) (fun L0 => v_move rfl rfl) ?_
          refine h_take 3 rfl rfl (by kernel_rfl) (by kernel_rfl) (by kernel_rfl) (fun L0 => v_cut (l' := 0) (h' := 0) (m := 0) rfl rfl Try.underlying22 ti3 (.inr ⟨_, _, rfl, icast rfl (by omega), (by omega)⟩) (.inr ⟨_, _, rfl, icast rfl (by omega), (by omega)⟩) (.inl ⟨rfl, rfl⟩)) ?_
          obtain ⟨ys77, ay77, cut77, hys77, hlys77, eay77⟩ : ∃ ys_ ay_, (∀ {L : List Res}, RdS W L eI a7 R → RdS W L eI ay_ ys_) ∧ ys_ = sub R 0 0 ∧ ys_.length = 0 - 0 ∧ cutA a7 0 0 1 = ay_ := ⟨_, _, fun h => rds_cut eI_ok h _ _ _ (by omega), rfl, sub_len (by omega), rfl⟩
          refine h_eq (t := 77) (v' := .slice ay77 ys77.length (0 - 0)) rfl (by rw [eay77, hlys77]) ?_
          refine h_take 4 rfl rfl (by kernel_rfl) (by kernel_rfl) (by kernel_rfl) (fun L0 => v_move rfl rfl) ?_
          refine h_take 5 rfl rfl (by kernel_rfl) (by kernel_rfl) (by kernel_rfl) (fun L0 => v_move rfl rfl) ?_
          refine h_take 6 rfl rfl (by kernel_rfl) (by kernel_rfl) (by kernel_rfl) (fun L0 => v_bin rfl rfl rfl (b_add (wrap_i64 (by omega) (by omega)))) ?_
          refine h_take 7 rfl rfl (by kernel_rfl) (by kernel_rfl) (by kernel_rfl) (fun L0 => v_cut (l' := (0 + 1)) (h' := ((R).length)) (m := c7) rfl rfl Try.underlying22 ti3 (.inl ⟨rfl, rfl⟩) (.inl ⟨rfl, rfl, rfl⟩) (.inr ⟨_, _, rfl, icast rfl (by omega), (by omega)⟩)) ?_
          obtain ⟨ys81, ay81, cut81, hys81, hlys81, eay81⟩ : ∃ ys_ ay_, (∀ {L : List Res}, RdS W L eI a7 R → RdS W L eI ay_ ys_) ∧ ys_ = sub R (0 + 1) ((R).length) ∧ ys_.length = ((R).length) - (0 + 1) ∧ cutA a7 c7 (0 + 1) 1 = ay_ := ⟨_, _, fun h => rds_cut eI_ok h _ _ _ (by omega), rfl, sub_len (by omega), rfl⟩
          refine h_eq (t := 81) (v' := .slice ay81 ys81.length (c7 - (0 + 1))) rfl (by rw [eay81, hlys81]) ?_
          refine h_one 8 rfl (by kernel_rfl) ?_
          refine l_f2 ?_
          refine o_appendAt eI_ok eay77 hys77 (by omega) (by omega) (by omega) rfl rfl rfl Try.underlying22 (cut81 (rds_own eI_ok 0 rfl)) (by show (_ + _) * 8 ≤ _; omega) (by omega) fun a82 c82 => ?_
          refine l_nil ?_
          refine q_conv (fun w S => S.perm p2) ?_
          refine q_conv (fun w S => S.perm p2) ?_
          refine h_next ?_
          refine h_take 9 rfl rfl (by kernel_rfl) (by kernel_rfl) (by kernel_rfl) (fun L0 => v_assign rfl rfl) ?_
          refine h_done (by kernel_rfl) ?_
          refine q_block ?_
          refine q_then ?_
          have e82 : ys77 ++ ys81 = R.take 0 ++ R.drop (0 + 1) := by rw [hys77, hys81]; exact sub_rest _ _
          refine c_region ?_
          refine o_move rfl rfl ?_
          refine o_bin rfl rfl rfl (b_add (wrap_i64 (by omega) (by omega))) ?_
          refine o_assign rfl rfl ?_
          refine l_nil ?_
          refine q_conv (fun w S => S.perm p2) ?_
          refine q_conv (L' := row eI.T eI.sz a82 (R.take 0 ++ R.drop (0 + 1)).length c82 (flat eI (R.take 0 ++ R.drop (0 + 1))) :: _) (fun w S => by rw [e82] at S; exact S) ?_
          exact q_round (R.take 0 ++ R.drop (0 + 1), j + 1, lrn D x64 (3 * x64), wh71, a82, c82) (by exact ⟨any_next hA hn64 hxk, ok71, by (try dsimp only); simp only [List.length_append, List.length_take, List.length_drop]; omega⟩) (by (try dsimp only); simp only [List.length_append, List.length_take, List.length_drop]; omega) ⟨(by first | rfl | exact vint (by omega)), (by first | rfl | exact vint (by omega)), (by first | rfl | exact vint (by omega)), (by show some (Value.slice _ _ _) = some (Value.slice _ _ _); rw [e82]), (by first | rfl | exact vint (by omega)), trivial⟩ (fun w S => S)
      · -- h3F
        have h3b := h3
        try simp only [decide_eq_true_eq, decide_eq_false_iff_not, Bool.not_eq_eq_eq_not, Bool.not_true, Bool.not_false, Bool.not_eq_true', Bool.not_eq_false', Int.not_lt, Int.not_le, Bool.or_eq_true, Bool.and_eq_true] at h3
        have hA0 : AnyOk (q18 % 65) D [] := (List.eq_nil_of_length_eq_zero (show R.length = 0 by omega)) ▸ hA
        refine c_exit ?_
        refine q_pass_exit ?_
        refine q_pass_exit ?_
        refine q_hit ?_
        refine q_then ?_
        refine c_seq ?_
        refine c_region ?_
        refine o_move rfl rfl ?_
        refine l_f2 ?_
        refine l_f2 ?_
        refine o_call rfl cal11 rfl (fromI (slot := 0) (most := 100) ok) ?_
        rintro _ _ ⟨xs84, a84, c84, hxs84, rfl, rfl⟩
        have hff := any_from hA0 100 0 (by omega) (by omega)
        have hxs84' : xs84 = fromL D ((0 : Nat) : Int) 100 := hxs84
        have hl84 : xs84.length = q18 % 65 := by rw [hxs84']; exact hff.1
        refine o_assign rfl rfl ?_
        refine l_nil ?_
        refine q_then ?_
        refine c_seq ?_
        refine c_seq ?_
        refine c_region ?_
        refine o_move rfl rfl ?_
        refine o_len rfl rfl Try.underlying22 ?_
        refine o_move rfl rfl ?_
        refine l_nil ?_
        refine q_then ?_
        refine c_block ?_
        refine c_loop (α := Nat) (fun z => [(5, .int .i64 ((q18 % 65 : Nat) : Int)), (6, .pointer (some ⟨k23, 0, none⟩)), (12, .slice a84 (xs84).length c84), (85, .slice a84 (xs84).length c84), (86, .int .i64 ((xs84).length : Int)), (87, .int .i64 (z : Int))]) (fun z => row eI.T eI.sz a84 (xs84).length c84 (flat eI xs84) :: blk k23 (.cells #[.map (some m23), .int .i64 (wh : Int)] 53 (0, 0)) :: mapR kvI vvI m23 D :: row eI.T eI.sz a7 (R).length c7 (flat eI R) :: F) (fun z => z ≤ xs84.length) (fun z => xs84.length - z) (0) (by exact Nat.zero_le _) ⟨(by first | rfl | exact vint (by omega)), (by first | rfl | exact vint (by omega)), (by first | rfl | exact vint (by omega)), (by first | rfl | exact vint (by omega)), (by first | rfl | exact vint (by omega)), (by first | rfl | exact vint (by omega)), trivial⟩ (fun w S => S) ?_
        rintro i hi
        try dsimp only at *
        refine c_seq ?_
        refine c_region ?_
        refine o_bin rfl rfl rfl b_lss ?_
        refine l_nil ?_
        refine q_then ?_
        refine c_seq ?_
        refine c_cond rfl (fun h5 => ?_) (fun h5 => ?_)
        · -- h5T
          have h5b := h5
          try simp only [decide_eq_true_eq, decide_eq_false_iff_not, Bool.not_eq_eq_eq_not, Bool.not_true, Bool.not_false, Bool.not_eq_true', Bool.not_eq_false', Int.not_lt, Int.not_le, Bool.or_eq_true, Bool.and_eq_true] at h5
          refine c_skip ?_
          refine q_then ?_
          refine c_seq ?_
          refine c_block ?_
          refine c_seq ?_
          refine c_region ?_
          refine o_move rfl rfl ?_
          refine o_index eI_ok rfl rfl rfl Try.underlying22 (by omega) (by omega) (rds_own eI_ok 0 rfl) fun ad90 ead90 => ?_
          obtain ⟨x90, hx90⟩ : ∃ x, (xs84)[((i : Int)).toNat]? = some x := ⟨_, List.getElem?_eq_getElem (by omega)⟩
          have e90 : x90 = 3 * (i : Int) := by have h9 := hff.2 i x90 (by rw [← hxs84']; rw [Int.toNat_natCast] at hx90; exact hx90); omega
          refine o_load1 rfl rfl Try.underlying3 rfl (rd_sl0 eI_ok ead90 (rds_own eI_ok 0 rfl) hx90 rfl) ?_
          refine o_assign rfl rfl ?_
          refine o_assign rfl rfl ?_
          refine l_nil ?_
          refine q_then ?_
          refine c_seq ?_
          refine c_region ?_
          refine o_move rfl rfl ?_
          refine o_move rfl rfl ?_
          refine o_bin rfl rfl rfl (b_mul (wrap_i64 (by omega) (by omega))) ?_
          refine o_bin rfl rfl rfl b_neq ?_
          refine l_eq (t := 95) (v' := .bool false) rfl (show _ = Value.bool false from by rw [e90]; simp) ?_
          refine l_nil ?_
          refine q_then ?_
          refine c_false rfl ?_
          refine c_skip ?_
          refine q_block ?_
          refine q_then ?_
          refine c_region ?_
          refine o_bin rfl rfl rfl (b_add (wrap_i64 (by omega) (by omega))) ?_
          refine o_move rfl rfl ?_
          refine l_nil ?_
          exact q_round (i + 1) (by (try dsimp only); omega) (by (try dsimp only); omega) ⟨(by first | rfl | exact vint (by omega)), (by first | rfl | exact vint (by omega)), (by first | rfl | exact vint (by omega)), (by first | rfl | exact vint (by omega)), (by first | rfl | exact vint (by omega)), (by first | rfl | exact vint (by omega)), trivial⟩ (fun w S => S)
        · -- h5F
          have h5b := h5
          try simp only [decide_eq_true_eq, decide_eq_false_iff_not, Bool.not_eq_eq_eq_not, Bool.not_true, Bool.not_false, Bool.not_eq_true', Bool.not_eq_false', Int.not_lt, Int.not_le, Bool.or_eq_true, Bool.and_eq_true] at h5
          refine c_exit ?_
          refine q_pass_exit ?_
          refine q_pass_exit ?_
          refine q_hit ?_
          refine q_then ?_
          refine c_seq ?_
          refine c_region ?_
          refine o_move rfl rfl ?_
          refine l_f2 ?_
          refine l_f2 ?_
          refine o_call rfl cal9 rfl (lenI ok) ?_
          rintro _ _ ⟨rfl, rfl⟩
          refine o_move rfl rfl ?_
          refine o_bin rfl rfl rfl b_eql ?_
          refine l_eq (t := 100) (v' := .bool true) rfl (show _ = Value.bool true from by rw [any_wh ok hA0]; simp) ?_
          refine o_move rfl rfl ?_
          refine o_yes rfl rfl rfl ?_
          refine o_move rfl rfl ?_
          refine o_yes rfl rfl rfl ?_
          refine o_len rfl rfl Try.underlying22 ?_
          refine o_yes rfl rfl rfl ?_
          refine o_move rfl rfl ?_
          refine o_yes rfl rfl rfl ?_
          refine o_bin rfl rfl rfl b_eql ?_
          refine l_eq (t := 105) (v' := .bool true) rfl (show _ = Value.bool true from by rw [hl84]; simp) ?_
          refine o_pick_true rfl rfl rfl ?_
          refine o_assign rfl rfl ?_
          refine l_nil ?_
          refine q_then ?_
          refine c_ret ?_
          refine q_conv (fun w S => S.tail) ?_
          refine q_conv (fun w S => S.tail) ?_
          refine q_conv (fun w S => S.tail) ?_
          refine q_conv (fun w S => S.tail) ?_
          exact f_ret (r_one rfl rfl) (⟨rfl, rfl⟩) (fun w S => S)

end Go.Proofs.Ytokphffmbennkaa
