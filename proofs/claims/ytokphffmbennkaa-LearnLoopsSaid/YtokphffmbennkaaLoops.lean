/- Printed by eng.py out of 13/spec.py. -/
import Derived.Test.YtokphffmbennkaaAll
import Derived.Test.YtokphffmbennkaaRef
import Derived.Test.YtokphffmbennkaaOnce
import Derived.Test.YtokphffmbennkaaPlays
import Derived.Test.YtokphffmbennkaaBits
import Derived.Test.YtokphffmbennkaaMem2
set_option linter.unusedVariables false
set_option linter.unusedSimpArgs false
set_option maxRecDepth 10000
namespace Go.Proofs.Ytokphffmbennkaa
open Go.RowKit
theorem known_pre {D : List (Int × ByteArray)} {wh : Nat} {pre : List (Int × ByteArray)} {x : Int × ByteArray} (h : pre ++ [x] <+: known D wh) : x = ((pre.length : Int), (mget D (pre.length : Int)).getD ByteArray.empty) ∧ pre.length < wh := by
  have hl := h.length_le
  simp [known] at hl
  obtain ⟨t, ht⟩ := h
  have h2 : (known D wh)[pre.length]? = some x := by rw [← ht]; simp
  simp [known, show pre.length < wh by omega] at h2
  exact ⟨h2.symm, by omega⟩
set_option maxHeartbeats 1000000 in
theorem loops_ {W : World} {F : List Res} {xs : List Op} {a : Option Addr} {c : Nat} {mo : Int} (hs : SlR W eOp a xs) : CS Try.prog 6 #[.slice a xs.length c, .int .i64 mo] W (F) (fun r L' => r = .bool true ∧ F = L') := by
  refine f_door (l0 := [(0, .slice a xs.length c), (1, .int .i64 mo)]) Try.func6 Try.ntmps6 rfl rfl rfl ?_
  refine c_seq ?_
  refine c_region ?_
  refine o_box rfl rfl fun b3 => ?_
  refine o_alloc rfl ti4 fun b4 => ?_
  refine l_nil ?_
  refine q_then ?_
  refine c_seq ?_
  refine c_seq ?_
  refine c_region ?_
  refine o_call rfl cal7 rfl (speaks_) ?_
  rintro _ _ ⟨rfl, rfl⟩
  refine o_not rfl rfl ?_
  refine l_nil ?_
  refine q_then ?_
  refine c_false rfl ?_
  refine c_skip ?_
  refine q_then ?_
  refine c_seq ?_
  refine c_seq ?_
  refine c_region ?_
  refine o_move rfl rfl ?_
  refine o_len rfl rfl Try.underlying30 ?_
  refine o_bin rfl rfl rfl b_gtr ?_
  refine l_nil ?_
  refine q_then ?_
  refine c_cond rfl (fun h1 => ?_) (fun h1 => ?_)
  · -- h1T
    have h1b := h1
    try simp only [decide_eq_true_eq, decide_eq_false_iff_not, Bool.not_eq_eq_eq_not, Bool.not_true, Bool.not_false, Bool.not_eq_true', Bool.not_eq_false', Int.not_lt, Int.not_le, Bool.or_eq_true, Bool.and_eq_true] at h1
    refine c_seq ?_
    refine c_region ?_
    refine o_store1 rfl rfl rfl ti4 rfl rfl ?_
    refine l_nil ?_
    refine q_then ?_
    refine c_ret ?_
    refine q_pass_ret ?_
    refine f_retq (.inl rfl) (rs_1 rfl (rs_cell rfl Try.underlying4 rfl (rd_mem 0 rfl rfl))) (fun w S => ?_)
    replace S := S.tail
    replace S := S.tail
    exact ⟨_, ⟨rfl, rfl⟩, (fun w S => S) w S⟩
  · -- h1F
    have h1b := h1
    try simp only [decide_eq_true_eq, decide_eq_false_iff_not, Bool.not_eq_eq_eq_not, Bool.not_true, Bool.not_false, Bool.not_eq_true', Bool.not_eq_false', Int.not_lt, Int.not_le, Bool.or_eq_true, Bool.and_eq_true] at h1
    refine c_skip ?_
    refine q_then ?_
    refine c_seq ?_
    refine c_region ?_
    refine o_call rfl cal12 rfl (newS) ?_
    rintro _ _ ⟨k17, m17, rfl, rfl⟩
    refine o_build rfl sp37 ti37 rfl rfl ?_
    refine o_box rfl rfl fun b19 => ?_
    refine l_conv (L' := blk b19 (.cells (rcs kn0 vl0) 37 (0, 0)) :: _) (fun w S => by rw [← rcs0]; exact S) ?_
    refine o_alloc rfl ti33 fun b6 => ?_
    refine o_assign rfl rfl ?_
    refine o_store1 rfl rfl rfl ti33 rfl rfl ?_
    refine l_nil ?_
    refine q_then ?_
    refine c_seq ?_
    refine c_seq ?_
    refine c_region ?_
    refine o_move rfl rfl ?_
    refine o_bin rfl rfl rfl (b_peq Try.underlying31 _) ?_
    refine l_nil ?_
    refine q_then ?_
    refine c_false rfl ?_
    refine c_skip ?_
    refine q_then ?_
    refine c_seq ?_
    refine c_seq ?_
    refine c_region ?_
    refine o_move rfl rfl ?_
    refine o_len rfl rfl Try.underlying30 ?_
    refine o_move rfl rfl ?_
    refine l_nil ?_
    refine q_then ?_
    refine c_block ?_
    refine c_loop (α := Nat × (List (Int × ByteArray)) × Nat × (List Bool) × (List ByteArray)) (fun z => [(3, .pointer (some ⟨b3, 0, none⟩)), (4, .pointer (some ⟨b4, 0, none⟩)), (5, .pointer (some ⟨k17, 0, none⟩)), (6, .pointer (some ⟨b6, 0, none⟩)), (22, .slice a (xs).length c), (23, .int .i64 ((xs).length : Int)), (24, .int .i64 (z.1 : Int))]) (fun z => blk b6 (.cells #[.pointer (some ⟨b19, 0, none⟩)] 33 (0, 0)) :: blk b19 (.cells (rcs z.2.2.2.1 z.2.2.2.2) 37 (0, 0)) :: blk k17 (.cells #[.map (some m17), .int .i64 (z.2.2.1 : Int)] 57 (0, 0)) :: mapR kvI vvS m17 z.2.1 :: blk b4 (.cells #[.bool false] 4 (0, 0)) :: blk b3 (.cells #[.int .i64 mo] 3 (0, 0)) :: F) (fun z => z.1 ≤ xs.length ∧ ChOk z.2.1 z.2.2.1 ∧ RefOk z.2.1 z.2.2.2.1 z.2.2.2.2) (fun z => xs.length - z.1) (0, [], 0, kn0, vl0) (by exact ⟨Nat.zero_le _, chOk_nil, refOk_nil⟩) ⟨(by first | rfl | exact vint (by omega)), (by first | rfl | exact vint (by omega)), (by first | rfl | exact vint (by omega)), (by first | rfl | exact vint (by omega)), (by first | rfl | exact vint (by omega)), (by first | rfl | exact vint (by omega)), (by first | rfl | exact vint (by omega)), trivial⟩ (fun w S => S) ?_
    rintro ⟨i, D, wh, kn, vl⟩ ⟨hi, ok, rok⟩
    try dsimp only at *
    refine c_seq ?_
    refine c_region ?_
    refine o_bin rfl rfl rfl b_lss ?_
    refine l_nil ?_
    refine q_then ?_
    refine c_seq ?_
    refine c_cond rfl (fun h2 => ?_) (fun h2 => ?_)
    · -- h2T
      have h2b := h2
      try simp only [decide_eq_true_eq, decide_eq_false_iff_not, Bool.not_eq_eq_eq_not, Bool.not_true, Bool.not_false, Bool.not_eq_true', Bool.not_eq_false', Int.not_lt, Int.not_le, Bool.or_eq_true, Bool.and_eq_true] at h2
      refine c_skip ?_
      refine q_then ?_
      refine c_seq ?_
      refine c_block ?_
      refine c_seq ?_
      refine c_region ?_
      refine o_index eOp_ok rfl rfl rfl Try.underlying30 (by omega) (by omega) (rds_old hs) fun ad26 ead26 => ?_
      obtain ⟨x26, hx26⟩ : ∃ x, (xs)[((i : Int)).toNat]? = some x := ⟨_, List.getElem?_eq_getElem (by omega)⟩
      refine o_loadn (vs := eOp.cells x26) rfl rfl Try.underlying39 rfl ti39 (rdn_sl eOp_ok ead26 (rds_old hs) hx26) ?_
      refine o_alloc rfl ti39 fun b8 => ?_
      refine o_storen rfl rfl ti39 rfl rfl rfl rfl ?_
      refine l_nil ?_
      refine q_then ?_
      refine c_seq ?_
      refine c_region ?_
      refine o_move rfl rfl ?_
      refine o_fieldAddr (q := ⟨b8, 0, none⟩) rfl rfl Try.underlying39 rfl ti3 rfl ?_
      refine o_load1 rfl rfl Try.underlying3 rfl (rd_mem 0 rfl rfl) ?_
      refine o_fieldAddr (q := ⟨b8, 1, none⟩) rfl rfl Try.underlying39 rfl ti9 rfl ?_
      refine o_load1 rfl rfl Try.underlying9 rfl (rd_mem 0 rfl rfl) ?_
      refine l_f4 ?_
      refine l_f4 ?_
      refine o_call rfl cal13 rfl (learnS ok) ?_
      rintro _ _ ⟨wh33, ok33, rfl, rfl⟩
      refine l_nil ?_
      refine q_then ?_
      refine c_region ?_
      refine o_load1 rfl rfl Try.underlying33 rfl (rd_mem 3 rfl rfl) ?_
      refine o_fieldAddr (q := ⟨b8, 0, none⟩) rfl rfl Try.underlying39 rfl ti3 rfl ?_
      refine o_load1 rfl rfl Try.underlying3 rfl (rd_mem 2 rfl rfl) ?_
      refine o_fieldAddr (q := ⟨b8, 1, none⟩) rfl rfl Try.underlying39 rfl ti9 rfl ?_
      refine o_load1 rfl rfl Try.underlying9 rfl (rd_mem 2 rfl rfl) ?_
      refine l_f4 ?_
      refine o_call rfl cal14 rfl (rlearn rok) ?_
      rintro _ _ ⟨kn39, vl39, rok39, rfl, rfl⟩
      refine l_nil ?_
      refine q_block ?_
      refine q_then ?_
      refine c_region ?_
      refine o_bin rfl rfl rfl (b_add (wrap_i64 (by omega) (by omega))) ?_
      refine o_move rfl rfl ?_
      refine l_nil ?_
      refine q_conv (fun w S => (S.perm p3).tail) ?_
      refine q_conv (fun w S => S.perm p5) ?_
      refine q_conv (fun w S => S.perm p5) ?_
      refine q_conv (fun w S => S.perm p4) ?_
      refine q_conv (fun w S => S.perm p4) ?_
      refine q_conv (fun w S => S.perm p4) ?_
      refine q_conv (fun w S => S.perm p5) ?_
      exact q_round (i + 1, lrn D x26.f_Slot x26.f_Value, wh33, kn39, vl39) (by exact ⟨by omega, ok33, rok39⟩) (by (try dsimp only); omega) ⟨(by first | rfl | exact vint (by omega)), (by first | rfl | exact vint (by omega)), (by first | rfl | exact vint (by omega)), (by first | rfl | exact vint (by omega)), (by first | rfl | exact vint (by omega)), (by first | rfl | exact vint (by omega)), (by first | rfl | exact vint (by omega)), trivial⟩ (fun w S => S)
    · -- h2F
      have h2b := h2
      try simp only [decide_eq_true_eq, decide_eq_false_iff_not, Bool.not_eq_eq_eq_not, Bool.not_true, Bool.not_false, Bool.not_eq_true', Bool.not_eq_false', Int.not_lt, Int.not_le, Bool.or_eq_true, Bool.and_eq_true] at h2
      refine c_exit ?_
      refine q_pass_exit ?_
      refine q_pass_exit ?_
      refine q_hit ?_
      refine q_then ?_
      refine c_seq ?_
      refine c_region ?_
      refine o_alloc rfl ti3 fun b9 => ?_
      refine o_store1 rfl rfl rfl ti3 rfl rfl ?_
      refine l_nil ?_
      refine q_then ?_
      refine c_seq ?_
      refine c_seq ?_
      refine c_region ?_
      refine o_move rfl rfl ?_
      refine o_call rfl cal21 rfl (all_) ?_
      rintro _ _ ⟨bc, rfl, rfl⟩
      refine l_nil ?_
      refine q_then ?_
      refine c_block ?_
      refine c_conv (fun w S => S.perm p3) ?_
      refine c_conv (fun w S => S.perm p2) ?_
      refine c_conv (fun w S => S.perm p3) ?_
      refine c_conv (fun w S => S.perm p6) ?_
      refine c_conv (fun w S => S.perm p7) ?_
      refine c_conv (fun w S => S.perm p7) ?_
      refine c_conv (fun w S => S.perm p7) ?_
      refine c_conv (fun w S => S.perm p7) ?_
      refine c_range (Li := [blk bc (.cells #[.pointer (some ⟨k17, 0, none⟩)] 31 (0, 0)), blk k17 (.cells #[.map (some m17), .int .i64 (wh : Int)] 57 (0, 0)), mapR kvI vvS m17 D]) (L0 := blk b3 (.cells #[.int .i64 mo] 3 (0, 0)) :: blk b4 (.cells #[.bool false] 4 (0, 0)) :: blk b6 (.cells #[.pointer (some ⟨b19, 0, none⟩)] 33 (0, 0)) :: blk b9 (.cells #[.int .i64 0] 3 (0, 0)) :: blk b19 (.cells (rcs kn vl) 37 (0, 0)) :: F) (fun pre L => (pre.length = 0 ∨ (pre.length : Int) ≤ mo) ∧ L = blk b3 (.cells #[.int .i64 mo] 3 (0, 0)) :: blk b4 (.cells #[.bool false] 4 (0, 0)) :: blk b6 (.cells #[.pointer (some ⟨b19, 0, none⟩)] 33 (0, 0)) :: blk b9 (.cells #[.int .i64 (pre.length : Int)] 3 (0, 0)) :: blk b19 (.cells (rcs kn vl) 37 (0, 0)) :: F) (fun c L => (c = (.exit 2) ∧ ∃ n : Nat, ((n = 0 ∨ (n : Int) ≤ mo) ∧ mo ≤ n) ∧ L = blk b3 (.cells #[.int .i64 mo] 3 (0, 0)) :: blk b4 (.cells #[.bool false] 4 (0, 0)) :: blk b6 (.cells #[.pointer (some ⟨b19, 0, none⟩)] 33 (0, 0)) :: blk b9 (.cells #[.int .i64 (n : Int)] 3 (0, 0)) :: blk b19 (.cells (rcs kn vl) 37 (0, 0)) :: F)) rfl rfl cal22 rfl (fun _ => rfl) (all_iter (chOk_le ok)) (fun w S => S) ⟨(.inl rfl), rfl⟩ ?_ ?_ ?_
      · -- round
        rintro kg3 rg3 Dg3 pre x _ hrg3 ⟨hn, rfl⟩ hpre
        try dsimp only at *
        obtain ⟨hx, hxl⟩ := known_pre hpre
        have hw64 := chOk_le ok
        have hx1 : x.1 = (pre.length : Int) := by rw [hx]
        have hx2 : x.2 = (mget D (pre.length : Int)).getD ByteArray.empty := by rw [hx]
        have hsome := ok.all pre.length hxl
        obtain ⟨u, hu⟩ := Option.ne_none_iff_exists'.1 hsome
        have hml : (pre ++ [x]).length = pre.length + 1 := by simp
        refine c_seq ?_
        refine c_region ?_
        refine o_assign rfl rfl ?_
        refine l_nil ?_
        refine q_then ?_
        refine c_region ?_
        refine o_assign rfl rfl ?_
        refine l_nil ?_
        refine q_begin rfl hrg3 ?_
        refine c_block ?_
        refine c_seq ?_
        refine c_seq ?_
        refine c_region ?_
        refine o_load1 rfl rfl Try.underlying3 rfl (rd_mem 8 rfl rfl) ?_
        refine o_load1 rfl rfl Try.underlying3 rfl (rd_mem 5 rfl rfl) ?_
        refine o_bin rfl rfl rfl b_geq ?_
        refine l_nil ?_
        refine q_then ?_
        refine c_cond rfl (fun h4 => ?_) (fun h4 => ?_)
        · -- h4T
          have h4b := h4
          try simp only [decide_eq_true_eq, decide_eq_false_iff_not, Bool.not_eq_eq_eq_not, Bool.not_true, Bool.not_false, Bool.not_eq_true', Bool.not_eq_false', Int.not_lt, Int.not_le, Bool.or_eq_true, Bool.and_eq_true] at h4
          refine c_exit ?_
          refine q_pass_exit ?_
          refine q_miss rfl ?_
          exact q_roundExit (.inr ⟨rfl, _, _, ⟨rfl, pre.length, by exact ⟨hn, by omega⟩, rfl⟩, rfl⟩) (fun w S => S)
        · -- h4F
          have h4b := h4
          try simp only [decide_eq_true_eq, decide_eq_false_iff_not, Bool.not_eq_eq_eq_not, Bool.not_true, Bool.not_false, Bool.not_eq_true', Bool.not_eq_false', Int.not_lt, Int.not_le, Bool.or_eq_true, Bool.and_eq_true] at h4
          refine c_skip ?_
          refine q_then ?_
          refine c_seq ?_
          refine c_seq ?_
          refine c_region ?_
          refine o_move rfl rfl ?_
          refine o_load1 rfl rfl Try.underlying3 rfl (rd_mem 8 rfl rfl) ?_
          refine o_bin rfl rfl rfl b_neq ?_
          refine l_eq (t := 50) (v' := .bool false) rfl (show _ = Value.bool false from by rw [hx1]; simp) ?_
          refine o_move rfl rfl ?_
          refine o_yes rfl rfl rfl ?_
          refine o_move rfl rfl ?_
          refine o_yes rfl rfl rfl ?_
          refine o_bin rfl rfl rfl b_gtr ?_
          refine l_eq (t := 53) (v' := .bool false) rfl (show _ = Value.bool false from by rw [decide_eq_false (by omega)]) ?_
          refine o_pick_false rfl rfl rfl ?_
          refine o_move rfl rfl ?_
          refine o_yes rfl rfl rfl ?_
          refine o_load1 rfl rfl Try.underlying33 rfl (rd_mem 7 rfl rfl) ?_
          refine o_yes rfl rfl rfl ?_
          refine o_move rfl rfl ?_
          refine o_yes rfl rfl rfl ?_
          refine o_nil rfl rfl ?_
          refine o_yes rfl rfl rfl ?_
          refine o_fieldAddr (q := ⟨b19, 0, none⟩) rfl rfl Try.underlying37 rfl ti34 rfl ?_
          refine o_yes rfl rfl rfl ?_
          refine o_indexArr rfl rfl rfl Try.underlying34 ti4 (by omega) (by omega) (Addr.add_mk _ _ _) ?_
          refine o_yes rfl rfl rfl ?_
          refine o_load1 rfl rfl Try.underlying4 rfl (rd_mem 9 rfl (rcs_kn rok.lk (by omega) (by omega))) ?_
          refine l_eq (t := 61) (v' := .bool true) rfl (show _ = Value.bool true from by rw [refOk_is rok (by omega) (by omega), hx1, hu] <;> rfl) ?_
          refine o_yes rfl rfl rfl ?_
          refine o_not rfl rfl ?_
          refine o_pick_false rfl rfl rfl ?_
          refine o_move rfl rfl ?_
          refine o_yes rfl rfl rfl ?_
          refine o_load1 rfl rfl Try.underlying33 rfl (rd_mem 7 rfl rfl) ?_
          refine o_yes rfl rfl rfl ?_
          refine o_move rfl rfl ?_
          refine o_yes rfl rfl rfl ?_
          refine o_nil rfl rfl ?_
          refine o_yes rfl rfl rfl ?_
          refine o_fieldAddr (q := ⟨b19, 64, none⟩) rfl rfl Try.underlying37 rfl ti35 rfl ?_
          refine o_yes rfl rfl rfl ?_
          refine o_indexArr rfl rfl rfl Try.underlying35 ti9 (by omega) (by omega) (Addr.add_mk _ _ _) ?_
          refine o_yes rfl rfl rfl ?_
          refine o_load1 rfl rfl Try.underlying9 rfl (rd_mem 9 rfl (rcs_vl rok.lk rok.lv (by omega) (by omega))) ?_
          refine o_yes rfl rfl rfl ?_
          refine o_move rfl rfl ?_
          refine o_yes rfl rfl rfl ?_
          refine o_bin rfl rfl rfl b_sneq ?_
          refine l_eq (t := 72) (v' := .bool false) rfl (show _ = Value.bool false from by rw [refOk_val rok (by omega) (by omega) (by rw [hx1]; exact hu), hx2, hu]; simp) ?_
          refine o_pick_false rfl rfl rfl ?_
          refine l_nil ?_
          refine q_then ?_
          refine c_false rfl ?_
          refine c_skip ?_
          refine q_then ?_
          refine c_region ?_
          refine o_load1 rfl rfl Try.underlying3 rfl (rd_mem 8 rfl rfl) ?_
          refine o_bin rfl rfl rfl (b_add (wrap_i64 (by omega) (by omega))) ?_
          refine l_f8 ?_
          refine o_store1 rfl rfl rfl ti3 rfl rfl ?_
          refine l_nil ?_
          refine q_block ?_
          refine q_conv (fun w S => S.perm p9) ?_
          refine q_conv (fun w S => S.perm p1) ?_
          refine q_conv (fun w S => S.perm p9) ?_
          refine q_conv (fun w S => S.perm p9) ?_
          refine q_conv (fun w S => S.perm p9) ?_
          refine q_conv (fun w S => S.perm p9) ?_
          refine q_conv (fun w S => S.perm p9) ?_
          refine q_conv (fun w S => S.perm p9) ?_
          refine q_conv (fun w S => S.perm p9) ?_
          refine q_conv (fun w S => S.perm p9) ?_
          exact q_roundOn (.inl ⟨rfl, _, ⟨by right; rw [hml]; omega, rfl⟩, rfl⟩) (fun w S => by rw [show (((pre ++ [x]).length : Nat) : Int) = (pre.length : Int) + 1 by rw [hml]; rfl]; exact S)
      · -- all have come
        rintro dg3 _ ⟨hn, rfl⟩
        try dsimp only at *
        refine q_block ?_
        refine q_then ?_
        refine c_seq ?_
        refine c_conv (fun w S => S.perm p5) ?_
        refine c_conv (fun w S => S.perm p8) ?_
        refine c_conv (fun w S => S.perm p8) ?_
        refine c_conv (fun w S => S.perm p8) ?_
        refine c_conv (fun w S => S.perm p8) ?_
        refine c_conv (fun w S => S.perm p8) ?_
        refine c_conv (fun w S => S.perm p8) ?_
        refine c_conv (fun w S => S.perm p8) ?_
        refine c_conv (fun w S => S.perm p8) ?_
        refine c_held [blk dg3 (.deferred (some [])), blk bc (.cells #[.pointer (some ⟨k17, 0, none⟩)] 31 (0, 0)), blk k17 (.cells #[.map (some m17), .int .i64 (wh : Int)] 57 (0, 0)), mapR kvI vvS m17 D, blk b3 (.cells #[.int .i64 mo] 3 (0, 0)), blk b6 (.cells #[.pointer (some ⟨b19, 0, none⟩)] 33 (0, 0)), blk b9 (.cells #[.int .i64 ((known D wh).length : Int)] 3 (0, 0)), blk b19 (.cells (rcs kn vl) 37 (0, 0))] (by kernel_rfl) rfl ?_
        refine h_take 0 rfl rfl (by kernel_rfl) (by kernel_rfl) (by kernel_rfl) (fun L0 => v_load1 rfl rfl Try.underlying3 rfl (rd_mem 6 rfl rfl)) ?_
        refine h_take 1 rfl rfl (by kernel_rfl) (by kernel_rfl) (by kernel_rfl) (fun L0 => v_load1 rfl rfl Try.underlying33 rfl (rd_mem 5 rfl rfl)) ?_
        refine h_one 2 rfl (by kernel_rfl) ?_
        refine l_f7 ?_
        refine o_call rfl cal16 rfl (rlen rok ok) ?_
        rintro _ _ ⟨rfl, rfl⟩
        refine l_nil ?_
        refine q_conv (fun w S => S.perm p8) ?_
        refine q_conv (fun w S => S.perm p1) ?_
        refine q_conv (fun w S => S.perm p8) ?_
        refine q_conv (fun w S => S.perm p8) ?_
        refine q_conv (fun w S => S.perm p8) ?_
        refine q_conv (fun w S => S.perm p8) ?_
        refine q_conv (fun w S => S.perm p8) ?_
        refine q_conv (fun w S => S.perm p8) ?_
        refine q_conv (fun w S => S.perm p8) ?_
        refine h_next ?_
        refine h_take 3 rfl rfl (by kernel_rfl) (by kernel_rfl) (by kernel_rfl) (fun L0 => v_bin rfl rfl rfl b_eql) ?_
        refine h_eq (t := 79) (v' := .bool true) rfl (show _ = Value.bool true from by rw [show (known D wh).length = wh by simp [known]]; simp) ?_
        refine h_take 4 rfl rfl (by kernel_rfl) (by kernel_rfl) (by kernel_rfl) (fun L0 => v_move rfl rfl) ?_
        refine h_take_no 5 rfl rfl rfl rfl rfl (by kernel_rfl) (by kernel_rfl) (by kernel_rfl) ?_
        refine h_take_no 6 rfl rfl rfl rfl rfl (by kernel_rfl) (by kernel_rfl) (by kernel_rfl) ?_
        refine h_take_no 7 rfl rfl rfl rfl rfl (by kernel_rfl) (by kernel_rfl) (by kernel_rfl) ?_
        refine h_take 8 rfl rfl (by kernel_rfl) (by kernel_rfl) (by kernel_rfl) (fun L0 => v_pick_true rfl rfl rfl) ?_
        refine h_take 9 rfl rfl (by kernel_rfl) (by kernel_rfl) (by kernel_rfl) (fun L0 => v_move rfl rfl) ?_
        refine h_take_no 10 rfl rfl rfl rfl rfl (by kernel_rfl) (by kernel_rfl) (by kernel_rfl) ?_
        refine h_take_no 11 rfl rfl rfl rfl rfl (by kernel_rfl) (by kernel_rfl) (by kernel_rfl) ?_
        refine h_take 12 rfl rfl (by kernel_rfl) (by kernel_rfl) (by kernel_rfl) (fun L0 => v_pick_true rfl rfl rfl) ?_
        refine h_one 13 rfl (by kernel_rfl) ?_
        refine l_f8 ?_
        refine o_store1 rfl rfl rfl ti4 rfl rfl ?_
        refine l_nil ?_
        refine q_conv (fun w S => S.perm p8) ?_
        refine q_conv (fun w S => S.perm p8) ?_
        refine q_conv (fun w S => S.perm p8) ?_
        refine q_conv (fun w S => S.perm p8) ?_
        refine q_conv (fun w S => S.perm p8) ?_
        refine q_conv (fun w S => S.perm p8) ?_
        refine q_conv (fun w S => S.perm p8) ?_
        refine q_conv (fun w S => S.perm p8) ?_
        refine h_next ?_
        refine h_done (by kernel_rfl) ?_
        refine q_then ?_
        refine c_ret ?_
        refine f_retMq [dg3] (.inl rfl) rfl (fun w S => S) (rs_1 rfl (rs_cell rfl Try.underlying4 rfl (rd_mem 7 rfl rfl))) (fun w S => ?_)
        replace S := S.tail
        replace S := S.tail
        replace S := S.tail
        replace S := S.tail
        replace S := S.tail
        replace S := S.tail
        replace S := S.tail
        replace S := S.tail
        exact ⟨_, ⟨rfl, rfl⟩, (fun w S => S) w S⟩
      · -- a round has left
        rintro dg3 cg3 _ (⟨rfl, n, hj, rfl⟩)
        · -- 2
          try dsimp only at *
          refine c_exit ?_
          refine q_hit ?_
          refine q_then ?_
          refine c_seq ?_
          refine c_conv (fun w S => S.perm p5) ?_
          refine c_conv (fun w S => S.perm p8) ?_
          refine c_conv (fun w S => S.perm p8) ?_
          refine c_conv (fun w S => S.perm p8) ?_
          refine c_conv (fun w S => S.perm p8) ?_
          refine c_conv (fun w S => S.perm p8) ?_
          refine c_conv (fun w S => S.perm p8) ?_
          refine c_conv (fun w S => S.perm p8) ?_
          refine c_conv (fun w S => S.perm p8) ?_
          refine c_held [blk dg3 (.deferred (some [])), blk bc (.cells #[.pointer (some ⟨k17, 0, none⟩)] 31 (0, 0)), blk k17 (.cells #[.map (some m17), .int .i64 (wh : Int)] 57 (0, 0)), mapR kvI vvS m17 D, blk b3 (.cells #[.int .i64 mo] 3 (0, 0)), blk b6 (.cells #[.pointer (some ⟨b19, 0, none⟩)] 33 (0, 0)), blk b9 (.cells #[.int .i64 (n : Int)] 3 (0, 0)), blk b19 (.cells (rcs kn vl) 37 (0, 0))] (by kernel_rfl) rfl ?_
          refine h_take 0 rfl rfl (by kernel_rfl) (by kernel_rfl) (by kernel_rfl) (fun L0 => v_load1 rfl rfl Try.underlying3 rfl (rd_mem 6 rfl rfl)) ?_
          refine h_take 1 rfl rfl (by kernel_rfl) (by kernel_rfl) (by kernel_rfl) (fun L0 => v_load1 rfl rfl Try.underlying33 rfl (rd_mem 5 rfl rfl)) ?_
          refine h_one 2 rfl (by kernel_rfl) ?_
          refine l_f7 ?_
          refine o_call rfl cal16 rfl (rlen rok ok) ?_
          rintro _ _ ⟨rfl, rfl⟩
          refine l_nil ?_
          refine q_conv (fun w S => S.perm p8) ?_
          refine q_conv (fun w S => S.perm p1) ?_
          refine q_conv (fun w S => S.perm p8) ?_
          refine q_conv (fun w S => S.perm p8) ?_
          refine q_conv (fun w S => S.perm p8) ?_
          refine q_conv (fun w S => S.perm p8) ?_
          refine q_conv (fun w S => S.perm p8) ?_
          refine q_conv (fun w S => S.perm p8) ?_
          refine q_conv (fun w S => S.perm p8) ?_
          refine h_next ?_
          refine h_take 3 rfl rfl (by kernel_rfl) (by kernel_rfl) (by kernel_rfl) (fun L0 => v_bin rfl rfl rfl b_eql) ?_
          refine h_take 4 rfl rfl (by kernel_rfl) (by kernel_rfl) (by kernel_rfl) (fun L0 => v_move rfl rfl) ?_
          refine h_split (t := 80) rfl (fun h5 => ?_) (fun h5 => ?_)
          · -- h5T
            have h5b := h5
            try simp only [decide_eq_true_eq, decide_eq_false_iff_not, Bool.not_eq_eq_eq_not, Bool.not_true, Bool.not_false, Bool.not_eq_true', Bool.not_eq_false', Int.not_lt, Int.not_le, Bool.or_eq_true, Bool.and_eq_true] at h5
            refine h_take_no 5 rfl rfl rfl rfl rfl (by kernel_rfl) (by kernel_rfl) (by kernel_rfl) ?_
            refine h_take_no 6 rfl rfl rfl rfl rfl (by kernel_rfl) (by kernel_rfl) (by kernel_rfl) ?_
            refine h_take_no 7 rfl rfl rfl rfl rfl (by kernel_rfl) (by kernel_rfl) (by kernel_rfl) ?_
            refine h_take 8 rfl rfl (by kernel_rfl) (by kernel_rfl) (by kernel_rfl) (fun L0 => v_pick_true rfl rfl rfl) ?_
            refine h_take 9 rfl rfl (by kernel_rfl) (by kernel_rfl) (by kernel_rfl) (fun L0 => v_move rfl rfl) ?_
            refine h_take_no 10 rfl rfl rfl rfl rfl (by kernel_rfl) (by kernel_rfl) (by kernel_rfl) ?_
            refine h_take_no 11 rfl rfl rfl rfl rfl (by kernel_rfl) (by kernel_rfl) (by kernel_rfl) ?_
            refine h_take 12 rfl rfl (by kernel_rfl) (by kernel_rfl) (by kernel_rfl) (fun L0 => v_pick_true rfl rfl rfl) ?_
            refine h_one 13 rfl (by kernel_rfl) ?_
            refine l_f8 ?_
            refine o_store1 rfl rfl rfl ti4 rfl rfl ?_
            refine l_nil ?_
            refine q_conv (fun w S => S.perm p8) ?_
            refine q_conv (fun w S => S.perm p8) ?_
            refine q_conv (fun w S => S.perm p8) ?_
            refine q_conv (fun w S => S.perm p8) ?_
            refine q_conv (fun w S => S.perm p8) ?_
            refine q_conv (fun w S => S.perm p8) ?_
            refine q_conv (fun w S => S.perm p8) ?_
            refine q_conv (fun w S => S.perm p8) ?_
            refine h_next ?_
            refine h_done (by kernel_rfl) ?_
            refine q_then ?_
            refine c_ret ?_
            refine f_retMq [dg3] (.inl rfl) rfl (fun w S => S) (rs_1 rfl (rs_cell rfl Try.underlying4 rfl (rd_mem 7 rfl rfl))) (fun w S => ?_)
            replace S := S.tail
            replace S := S.tail
            replace S := S.tail
            replace S := S.tail
            replace S := S.tail
            replace S := S.tail
            replace S := S.tail
            replace S := S.tail
            exact ⟨_, ⟨rfl, rfl⟩, (fun w S => S) w S⟩
          · -- h5F
            have h5b := h5
            try simp only [decide_eq_true_eq, decide_eq_false_iff_not, Bool.not_eq_eq_eq_not, Bool.not_true, Bool.not_false, Bool.not_eq_true', Bool.not_eq_false', Int.not_lt, Int.not_le, Bool.or_eq_true, Bool.and_eq_true] at h5
            refine h_take_yes 5 rfl rfl rfl rfl rfl (by kernel_rfl) (by kernel_rfl) (by kernel_rfl) (fun L0 => v_load1 rfl rfl Try.underlying3 rfl (rd_mem 6 rfl rfl)) ?_
            refine h_take_yes 6 rfl rfl rfl rfl rfl (by kernel_rfl) (by kernel_rfl) (by kernel_rfl) (fun L0 => v_load1 rfl rfl Try.underlying3 rfl (rd_mem 4 rfl rfl)) ?_
            refine h_take_yes 7 rfl rfl rfl rfl rfl (by kernel_rfl) (by kernel_rfl) (by kernel_rfl) (fun L0 => v_bin rfl rfl rfl b_eql) ?_
            refine h_take 8 rfl rfl (by kernel_rfl) (by kernel_rfl) (by kernel_rfl) (fun L0 => v_pick_false rfl rfl rfl) ?_
            refine h_take 9 rfl rfl (by kernel_rfl) (by kernel_rfl) (by kernel_rfl) (fun L0 => v_move rfl rfl) ?_
            refine h_split (t := 85) rfl (fun h6 => ?_) (fun h6 => ?_)
            · -- h6T
              have h6b := h6
              try simp only [decide_eq_true_eq, decide_eq_false_iff_not, Bool.not_eq_eq_eq_not, Bool.not_true, Bool.not_false, Bool.not_eq_true', Bool.not_eq_false', Int.not_lt, Int.not_le, Bool.or_eq_true, Bool.and_eq_true] at h6
              refine h_take_no 10 rfl rfl rfl rfl rfl (by kernel_rfl) (by kernel_rfl) (by kernel_rfl) ?_
              refine h_take_no 11 rfl rfl rfl rfl rfl (by kernel_rfl) (by kernel_rfl) (by kernel_rfl) ?_
              refine h_take 12 rfl rfl (by kernel_rfl) (by kernel_rfl) (by kernel_rfl) (fun L0 => v_pick_true rfl rfl rfl) ?_
              refine h_one 13 rfl (by kernel_rfl) ?_
              refine l_f8 ?_
              refine o_store1 rfl rfl rfl ti4 rfl rfl ?_
              refine l_nil ?_
              refine q_conv (fun w S => S.perm p8) ?_
              refine q_conv (fun w S => S.perm p8) ?_
              refine q_conv (fun w S => S.perm p8) ?_
              refine q_conv (fun w S => S.perm p8) ?_
              refine q_conv (fun w S => S.perm p8) ?_
              refine q_conv (fun w S => S.perm p8) ?_
              refine q_conv (fun w S => S.perm p8) ?_
              refine q_conv (fun w S => S.perm p8) ?_
              refine h_next ?_
              refine h_done (by kernel_rfl) ?_
              refine q_then ?_
              refine c_ret ?_
              refine f_retMq [dg3] (.inl rfl) rfl (fun w S => S) (rs_1 rfl (rs_cell rfl Try.underlying4 rfl (rd_mem 7 rfl rfl))) (fun w S => ?_)
              replace S := S.tail
              replace S := S.tail
              replace S := S.tail
              replace S := S.tail
              replace S := S.tail
              replace S := S.tail
              replace S := S.tail
              replace S := S.tail
              exact ⟨_, ⟨rfl, rfl⟩, (fun w S => S) w S⟩
            · -- h6F
              have h6b := h6
              try simp only [decide_eq_true_eq, decide_eq_false_iff_not, Bool.not_eq_eq_eq_not, Bool.not_true, Bool.not_false, Bool.not_eq_true', Bool.not_eq_false', Int.not_lt, Int.not_le, Bool.or_eq_true, Bool.and_eq_true] at h6
              refine h_take_yes 10 rfl rfl rfl rfl rfl (by kernel_rfl) (by kernel_rfl) (by kernel_rfl) (fun L0 => v_load1 rfl rfl Try.underlying3 rfl (rd_mem 4 rfl rfl)) ?_
              refine h_take_yes 11 rfl rfl rfl rfl rfl (by kernel_rfl) (by kernel_rfl) (by kernel_rfl) (fun L0 => v_bin rfl rfl rfl b_lss) ?_
              refine h_eq (t := 87) (v' := .bool true) rfl (show _ = Value.bool true from by rw [decide_eq_true (by omega)]) ?_
              refine h_take 12 rfl rfl (by kernel_rfl) (by kernel_rfl) (by kernel_rfl) (fun L0 => v_pick_false rfl rfl rfl) ?_
              refine h_one 13 rfl (by kernel_rfl) ?_
              refine l_f8 ?_
              refine o_store1 rfl rfl rfl ti4 rfl rfl ?_
              refine l_nil ?_
              refine q_conv (fun w S => S.perm p8) ?_
              refine q_conv (fun w S => S.perm p8) ?_
              refine q_conv (fun w S => S.perm p8) ?_
              refine q_conv (fun w S => S.perm p8) ?_
              refine q_conv (fun w S => S.perm p8) ?_
              refine q_conv (fun w S => S.perm p8) ?_
              refine q_conv (fun w S => S.perm p8) ?_
              refine q_conv (fun w S => S.perm p8) ?_
              refine h_next ?_
              refine h_done (by kernel_rfl) ?_
              refine q_then ?_
              refine c_ret ?_
              refine f_retMq [dg3] (.inl rfl) rfl (fun w S => S) (rs_1 rfl (rs_cell rfl Try.underlying4 rfl (rd_mem 7 rfl rfl))) (fun w S => ?_)
              replace S := S.tail
              replace S := S.tail
              replace S := S.tail
              replace S := S.tail
              replace S := S.tail
              replace S := S.tail
              replace S := S.tail
              replace S := S.tail
              exact ⟨_, ⟨rfl, rfl⟩, (fun w S => S) w S⟩

end Go.Proofs.Ytokphffmbennkaa
