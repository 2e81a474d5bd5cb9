/- Texts of the proof: Do6, Movesp, Great6, Moves, Args. -/
import Derived.Test.YtnfbjidpiglabaaSMF
namespace Go.Proofs.Ytnfbjidpiglabaa
section
set_option linter.unusedVariables false
set_option linter.unusedSimpArgs false
set_option maxRecDepth 10000
open Go.RowKit Classical
set_option maxHeartbeats 2000000 in
theorem do_ {W : World} {F : List Res} {k m : Nat} {s t : SS} {o : Op} (hs : RdS W F e8 o.f_Value.a o.f_Value.xs) (hk : o.f_Key.size ≤ 500) (hv : o.f_Value.xs.length ≤ 500) (hM : s.M = t.M) (hn : s.n = t.n) (hl : s.xs.length ≤ 100000) : CS Try.prog 16 #[.pointer (some ⟨k, 0, none⟩), .pointer (some ⟨m, 0, none⟩), .agg #[.int .i64 o.f_Kind, .int .i64 o.f_N, .string o.f_Key, .slice o.f_Value.a (o.f_Value.xs).length o.f_Value.c]] W (StR k s :: RfR m t :: F) (fun r L' => ∃ s' t' : SS, Two s t s' t' ∧ r = .bool true ∧ L' = StR k s' :: RfR m t' :: F) := by
 refine f_door (l0 := [(0, .pointer (some ⟨k, 0, none⟩)), (1, .pointer (some ⟨m, 0, none⟩)), (2, .agg #[.int .i64 o.f_Kind, .int .i64 o.f_N, .string o.f_Key, .slice o.f_Value.a (o.f_Value.xs).length o.f_Value.c])]) Try.func16 Try.ntmps16 rfl rfl rfl ?_
 refine c_seq ?_
 refine c_fact (p := OkS s) (fun w S => StR_ok S) fun hok => ?_
 refine c_region ?_
 refine o_box rfl rfl fun b5 => ?_
 refine o_assign rfl rfl ?_
 refine l_nil ?_
 refine q_then ?_
 refine c_seq ?_
 refine c_seq ?_
 refine c_region ?_
 refine o_fieldAddr (q := ⟨b5, 0, none⟩) rfl rfl Try.underlying32 rfl ti3 rfl ?_
 refine o_load1 rfl rfl Try.underlying3 rfl (rd_mem 0 rfl rfl) ?_
 refine o_bin rfl rfl rfl (b_and rfl) ?_
 refine l_nil ?_
 refine q_then ?_
 refine c_block ?_
 refine c_seq ?_
 refine c_region ?_
 refine o_bin rfl rfl rfl b_eql ?_
 refine o_assign rfl rfl ?_
 refine l_nil ?_
 refine q_then ?_
 refine c_cond rfl (fun h1 => ?_) (fun h1 => ?_)
 · -- h1T
  have h1b := h1
  try simp only [decide_eq_true_eq] at h1
  refine c_seq ?_
  refine c_region ?_
  refine o_move rfl rfl ?_
  refine o_fieldAddr (q := ⟨b5, 2, none⟩) rfl rfl Try.underlying32 rfl ti9 rfl ?_
  refine o_load1 rfl rfl Try.underlying9 rfl (rd_mem 0 rfl rfl) ?_
  refine l_f1 ?_
  refine o_call rfl cal12 rfl (rm6_ (k' := o.f_Key) (by omega) (by omega)) ?_
  rintro _ _ ⟨s43, hsn43, hsM43, rfl⟩
  refine l_nil ?_
  refine q_then ?_
  refine c_region ?_
  refine o_move rfl rfl ?_
  refine o_fieldAddr (q := ⟨b5, 2, none⟩) rfl rfl Try.underlying32 rfl ti9 rfl ?_
  refine o_load1 rfl rfl Try.underlying9 rfl (rd_mem 1 rfl rfl) ?_
  refine l_f2 ?_
  refine o_call rfl cal33 rfl (rrm_ (k' := o.f_Key) (by omega) (by have h9 := rows_len hM; rw [M_len] at h9; omega)) ?_
  rintro _ _ ⟨t47, htn47, htM47, rfl⟩
  refine l_nil ?_
  refine q_block ?_
  refine q_then ?_
  refine c_seq ?_
  refine c_region ?_
  refine o_assign rfl rfl ?_
  refine l_nil ?_
  refine q_then ?_
  refine c_ret ?_
  refine q_conv (fun w S => (S.perm p2).tail) ?_
  refine q_conv (fun w S => S.perm p1) ?_
  exact f_ret (r_one rfl rfl) (⟨s43, t47, Two.rm hM hn hsn43 hsM43 htn47 htM47, rfl, rfl⟩) (fun w S => S)
 · -- h1F
  have h1b := h1
  try simp only [decide_eq_false_iff_not, Int.not_lt, Int.not_le] at h1
  refine c_seq ?_
  refine c_seq ?_
  refine c_region ?_
  refine o_bin rfl rfl rfl b_eql ?_
  refine o_assign rfl rfl ?_
  refine l_nil ?_
  refine q_then ?_
  refine c_cond rfl (fun h2 => ?_) (fun h2 => ?_)
  · -- h2T
   have h2b := h2
   try simp only [decide_eq_true_eq] at h2
   refine c_skip ?_
   refine q_then ?_
   refine c_cond rfl (fun h3 => ?_) (fun h3 => ?_)
   · -- h3T
    have h3b := h3
    try simp only [decide_eq_true_eq] at h3
    refine c_seq ?_
    refine c_conv (fun w S => S.perm p2) ?_
    refine c_conv (fun w S => S.perm p2) ?_
    refine c_heldF [StR k s, RfR m t] (blk b5 (.cells #[.int .i64 o.f_Kind, .int .i64 o.f_N, .string o.f_Key, .slice o.f_Value.a (o.f_Value.xs).length o.f_Value.c] 32 (0, 0)) :: F) (by kernel_rfl) ?_
    refine h_take 0 rfl rfl (by kernel_rfl) (by kernel_rfl) (by kernel_rfl) (fun L0 => v_move rfl rfl) ?_
    refine h_take 1 rfl rfl (by kernel_rfl) (by kernel_rfl) (by kernel_rfl) (fun L0 => v_fieldAddr (q := ⟨b5, 2, none⟩) rfl rfl Try.underlying32 rfl ti9 rfl) ?_
    refine h_take 2 rfl rfl (by kernel_rfl) (by kernel_rfl) (by kernel_rfl) (fun L0 => v_load1 rfl rfl Try.underlying9 rfl (rd_mem 0 rfl rfl)) ?_
    refine h_take 3 rfl rfl (by kernel_rfl) (by kernel_rfl) (by kernel_rfl) (fun L0 => v_fieldAddr (q := ⟨b5, 1, none⟩) rfl rfl Try.underlying32 rfl ti3 rfl) ?_
    refine h_take 4 rfl rfl (by kernel_rfl) (by kernel_rfl) (by kernel_rfl) (fun L0 => v_load1 rfl rfl Try.underlying3 rfl (rd_mem 0 rfl rfl)) ?_
    refine h_take 6 rfl rfl (by kernel_rfl) (by kernel_rfl) (by kernel_rfl) (fun L0 => v_move rfl rfl) ?_
    refine h_take 7 rfl rfl (by kernel_rfl) (by kernel_rfl) (by kernel_rfl) (fun L0 => v_fieldAddr (q := ⟨b5, 2, none⟩) rfl rfl Try.underlying32 rfl ti9 rfl) ?_
    refine h_take 8 rfl rfl (by kernel_rfl) (by kernel_rfl) (by kernel_rfl) (fun L0 => v_load1 rfl rfl Try.underlying9 rfl (rd_mem 0 rfl rfl)) ?_
    refine h_take 9 rfl rfl (by kernel_rfl) (by kernel_rfl) (by kernel_rfl) (fun L0 => v_fieldAddr (q := ⟨b5, 1, none⟩) rfl rfl Try.underlying32 rfl ti3 rfl) ?_
    refine h_take 10 rfl rfl (by kernel_rfl) (by kernel_rfl) (by kernel_rfl) (fun L0 => v_load1 rfl rfl Try.underlying3 rfl (rd_mem 0 rfl rfl)) ?_
    refine h_one 5 rfl (by kernel_rfl) ?_
    refine l_conv (L' := StR k s :: RfR m t :: blk b5 (.cells #[.int .i64 o.f_Kind, .int .i64 o.f_N, .string o.f_Key, .slice o.f_Value.a (o.f_Value.xs).length o.f_Value.c] 32 (0, 0)) :: F) (fun w S => S.perm List.perm_append_comm) ?_
    refine o_call rfl cal18 rfl (move6_ (k' := o.f_Key) (h := o.f_N) (by omega) (by omega)) ?_
    rintro _ _ ⟨s56, e56, hsn56, hsM56, rfl, rfl⟩
    refine l_nil ?_
    refine q_conv (L' := (blk b5 (.cells #[.int .i64 o.f_Kind, .int .i64 o.f_N, .string o.f_Key, .slice o.f_Value.a (o.f_Value.xs).length o.f_Value.c] 32 (0, 0)) :: F) ++ [StR k s56, RfR m t]) (fun w S => S.perm (List.perm_append_comm (l₁ := [StR k s56, RfR m t]) (l₂ := blk b5 (.cells #[.int .i64 o.f_Kind, .int .i64 o.f_N, .string o.f_Key, .slice o.f_Value.a (o.f_Value.xs).length o.f_Value.c] 32 (0, 0)) :: F))) ?_
    refine h_next ?_
    refine h_one 11 rfl (by kernel_rfl) ?_
    refine l_conv (L' := StR k s56 :: RfR m t :: blk b5 (.cells #[.int .i64 o.f_Kind, .int .i64 o.f_N, .string o.f_Key, .slice o.f_Value.a (o.f_Value.xs).length o.f_Value.c] 32 (0, 0)) :: F) (fun w S => S.perm List.perm_append_comm) ?_
    refine l_f1 ?_
    refine o_call rfl cal34 rfl (rmove_ (k' := o.f_Key) (h := o.f_N) (by omega) (by have h9 := rows_len hM; rw [M_len] at h9; omega)) ?_
    rintro _ _ ⟨t62, e62, htn62, htM62, rfl, rfl⟩
    refine l_nil ?_
    refine q_conv (L' := (blk b5 (.cells #[.int .i64 o.f_Kind, .int .i64 o.f_N, .string o.f_Key, .slice o.f_Value.a (o.f_Value.xs).length o.f_Value.c] 32 (0, 0)) :: F) ++ [RfR m t62, StR k s56]) (fun w S => S.perm (List.perm_append_comm (l₁ := [RfR m t62, StR k s56]) (l₂ := blk b5 (.cells #[.int .i64 o.f_Kind, .int .i64 o.f_N, .string o.f_Key, .slice o.f_Value.a (o.f_Value.xs).length o.f_Value.c] 32 (0, 0)) :: F))) ?_
    refine h_next ?_
    refine h_take 12 rfl rfl (by kernel_rfl) (by kernel_rfl) (by kernel_rfl) (fun L0 => v_bin rfl rfl rfl b_eql) ?_
    refine h_eq (t := 63) (v' := .bool true) rfl (show _ = Value.bool true from by rw [(Two.move hM hn hsn56 hsM56 htn62 htM62).1]; simp) ?_
    refine h_take 13 rfl rfl (by kernel_rfl) (by kernel_rfl) (by kernel_rfl) (fun L0 => v_assign rfl rfl) ?_
    refine h_done (by kernel_rfl) ?_
    refine q_conv (L' := RfR m t62 :: StR k s56 :: blk b5 (.cells #[.int .i64 o.f_Kind, .int .i64 o.f_N, .string o.f_Key, .slice o.f_Value.a (o.f_Value.xs).length o.f_Value.c] 32 (0, 0)) :: F) (fun w S => S.perm List.perm_append_comm) ?_
    refine q_then ?_
    refine c_ret ?_
    refine q_block_ret ?_
    refine q_pass_ret ?_
    refine q_conv (fun w S => (S.perm p2).tail) ?_
    refine q_conv (fun w S => S.perm p1) ?_
    exact f_ret (r_one rfl rfl) (⟨s56, t62, (Two.move hM hn hsn56 hsM56 htn62 htM62).2, rfl, rfl⟩) (fun w S => S)
   · -- h3F
    have h3b := h3
    try simp only [decide_eq_false_iff_not, Int.not_lt, Int.not_le] at h3
    refine c_seq ?_
    refine c_region ?_
    refine o_bin rfl rfl rfl b_eql ?_
    refine o_assign rfl rfl ?_
    refine l_nil ?_
    refine q_then ?_
    refine c_cond rfl (fun h4 => ?_) (fun h4 => ?_)
    · -- h4T
     have h4b := h4
     try simp only [decide_eq_true_eq] at h4
     refine c_seq ?_
     refine c_region ?_
     refine o_move rfl rfl ?_
     refine o_fieldAddr (q := ⟨b5, 2, none⟩) rfl rfl Try.underlying32 rfl ti9 rfl ?_
     refine o_load1 rfl rfl Try.underlying9 rfl (rd_mem 0 rfl rfl) ?_
     refine o_fieldAddr (q := ⟨b5, 1, none⟩) rfl rfl Try.underlying32 rfl ti3 rfl ?_
     refine o_load1 rfl rfl Try.underlying3 rfl (rd_mem 0 rfl rfl) ?_
     refine l_f1 ?_
     refine o_call rfl cal17 rfl (prange_ (f := o.f_Key) (mo := o.f_N) (by omega)) ?_
     rintro _ _ ⟨ys71, a71, c71, hys71, rfl, rfl⟩
     refine o_assign rfl rfl ?_
     refine l_nil ?_
     refine q_then ?_
     refine c_seq ?_
     refine c_region ?_
     refine o_move rfl rfl ?_
     refine o_move rfl rfl ?_
     refine o_fieldAddr (q := ⟨b5, 2, none⟩) rfl rfl Try.underlying32 rfl ti9 rfl ?_
     refine o_load1 rfl rfl Try.underlying9 rfl (rd_mem 3 rfl rfl) ?_
     refine o_fieldAddr (q := ⟨b5, 1, none⟩) rfl rfl Try.underlying32 rfl ti3 rfl ?_
     refine o_load1 rfl rfl Try.underlying3 rfl (rd_mem 3 rfl rfl) ?_
     refine l_f4 ?_
     refine o_call rfl cal35 rfl (rrange_ (f := o.f_Key) (mo := o.f_N) (by have h9 := rows_len hM; rw [M_len] at h9; omega)) ?_
     rintro _ _ ⟨a78, c78, rfl, rfl⟩
     refine o_call rfl cal20 rfl (same_ (xs := ys71) (ys := (rngI o.f_Key o.f_N t.xs)) (c := c71) (c2 := c78) (rds_own e_Row_ok 2 rfl) (rds_own e_Row_ok 0 rfl) (fun x hx => rds_vals 3 rfl hx) (fun x hx => rds_rf 1 rfl (rngI_in hx)) (by have h9 := rows_len hys71; have h8 := range_len (f := o.f_Key) (mo := o.f_N) (M := s.M); rw [M_len] at h8; omega)) ?_
     rintro _ _ ⟨bb79, hbb79, rfl, rfl⟩
     have hb79 : bb79 = true := hbb79.2 (by rw [hys71, rngI_m, hM]; rfl)
     refine l_eq (t := 79) (v' := .bool true) rfl (by rw [hb79]) ?_
     refine o_assign rfl rfl ?_
     refine l_nil ?_
     refine q_then ?_
     refine c_seq ?_
     refine c_region ?_
     refine o_move rfl rfl ?_
     refine l_f3 ?_
     refine l_f3 ?_
     refine o_call rfl cal24 rfl (spoil_ (ys := ys71) (c := c71) (by have h9 := rows_len hys71; have h8 := range_len (f := o.f_Key) (mo := o.f_N) (M := s.M); rw [M_len] at h8; omega) (vals_small hok fun z hz => by rw [hys71] at hz; exact range_in hz)) ?_
     rintro _ _ rfl
     refine l_nil ?_
     refine q_then ?_
     refine c_seq ?_
     refine c_region ?_
     refine o_move rfl rfl ?_
     refine o_assign rfl rfl ?_
     refine l_nil ?_
     refine q_then ?_
     refine c_ret ?_
     refine q_block_ret ?_
     refine q_pass_ret ?_
     refine q_conv (fun w S => S.tail) ?_
     refine q_conv (fun w S => (S.perm p2).tail) ?_
     refine q_conv (fun w S => S.perm p1) ?_
     exact f_ret (r_one rfl rfl) (⟨s, t, Two.same hM, rfl, rfl⟩) (fun w S => S)
    · -- h4F
     have h4b := h4
     try simp only [decide_eq_false_iff_not, Int.not_lt, Int.not_le] at h4
     refine c_seq ?_
     refine c_region ?_
     refine o_lit e8_ok rfl Try.underlying23 rfl rfl rfl (lit_ok rfl) ([] : List UInt8) rfl rfl fun a14 => ?_
     refine o_fieldAddr (q := ⟨b5, 3, none⟩) rfl rfl Try.underlying32 rfl ti23 rfl ?_
     refine o_load1 rfl rfl Try.underlying23 rfl (rd_mem 1 rfl rfl) ?_
     refine o_append e8_ok rfl rfl rfl Try.underlying23 (rds_c (rds_c (rds_c (rds_c hs)))) (by show (_ + _) * 1 ≤ _; (try simp only [List.length_append, List.length_cons, List.length_nil]); omega) (by (try simp only [List.length_append, List.length_cons, List.length_nil]); omega) fun a17 c17 => ?_
     refine o_assign rfl rfl ?_
     refine l_nil ?_
     refine q_then ?_
     refine c_seq ?_
     refine c_region ?_
     refine o_move rfl rfl ?_
     refine o_fieldAddr (q := ⟨b5, 2, none⟩) rfl rfl Try.underlying32 rfl ti9 rfl ?_
     refine o_load1 rfl rfl Try.underlying9 rfl (rd_mem 1 rfl rfl) ?_
     refine o_move rfl rfl ?_
     refine l_f2 ?_
     refine o_call rfl cal11 rfl (put6_ (k' := o.f_Key) (vs := (([] : List UInt8) ++ o.f_Value.xs)) (av := a17) (cv := c17) (rds_own e8_ok 0 rfl) (by omega) (by rw [List.nil_append]; omega) (by omega)) ?_
     rintro _ _ ⟨s22, hsn22, hsM22, rfl⟩
     refine l_nil ?_
     refine q_then ?_
     refine c_seq ?_
     refine c_region ?_
     refine o_move rfl rfl ?_
     refine o_fieldAddr (q := ⟨b5, 2, none⟩) rfl rfl Try.underlying32 rfl ti9 rfl ?_
     refine o_load1 rfl rfl Try.underlying9 rfl (rd_mem 2 rfl rfl) ?_
     refine o_fieldAddr (q := ⟨b5, 3, none⟩) rfl rfl Try.underlying32 rfl ti23 rfl ?_
     refine o_load1 rfl rfl Try.underlying23 rfl (rd_mem 2 rfl rfl) ?_
     refine l_f3 ?_
     refine o_call rfl cal36 rfl (rput_ (k' := o.f_Key) (vs := o.f_Value.xs) (av := o.f_Value.a) (cv := o.f_Value.c) (rds_c (rds_c (rds_c hs))) (by omega) (by omega) (by have h9 := rows_len hM; rw [M_len] at h9; omega)) ?_
     rintro _ _ ⟨t28, htn28, htM28, rfl⟩
     refine l_nil ?_
     refine q_then ?_
     refine c_seq ?_
     have hna : (([] : List UInt8) ++ o.f_Value.xs).length = o.f_Value.xs.length := by rw [List.nil_append]
     refine c_region ?_
     refine o_move rfl rfl ?_
     refine o_len rfl rfl Try.underlying23 ?_
     refine o_move rfl rfl ?_
     refine l_nil ?_
     refine q_then ?_
     refine c_block ?_
     refine c_loop (α := Nat × (List UInt8)) (fun z => [(9, .slice a17 (z.2).length c17), (30, .int .i64 ((([] : List UInt8) ++ o.f_Value.xs).length : Int)), (31, .int .i64 (z.1 : Int))]) (fun z => RfR m t28 :: StR k s22 :: row e8.T e8.sz a17 (z.2).length c17 (flat e8 z.2) :: blk b5 (.cells #[.int .i64 o.f_Kind, .int .i64 o.f_N, .string o.f_Key, .slice o.f_Value.a (o.f_Value.xs).length o.f_Value.c] 32 (0, 0)) :: F) (fun z => z.1 ≤ o.f_Value.xs.length ∧ z.2.length = o.f_Value.xs.length) (fun z => o.f_Value.xs.length - z.1) (0, ([] : List UInt8) ++ o.f_Value.xs) (by exact ⟨Nat.zero_le _, by simp⟩) ⟨rfl, (by first | rfl | exact vint (by omega)), (by first | rfl | exact vint (by omega)), trivial⟩ (fun w S => S) ?_
     rintro ⟨q, B⟩ ⟨hq, hB⟩
     try dsimp only at *
     refine c_seq ?_
     refine c_region ?_
     refine o_bin rfl rfl rfl b_lss ?_
     refine l_nil ?_
     refine q_then ?_
     refine c_seq ?_
     refine c_cond rfl (fun h5 => ?_) (fun h5 => ?_)
     · -- h5T
      have h5b := h5
      try simp only [decide_eq_true_eq] at h5
      refine c_skip ?_
      refine q_then ?_
      refine c_seq ?_
      refine c_block ?_
      refine c_seq ?_
      refine c_region ?_
      refine o_move rfl rfl ?_
      refine o_assign rfl rfl ?_
      refine l_nil ?_
      refine q_then ?_
      refine c_region ?_
      refine o_move rfl rfl ?_
      refine o_move rfl rfl ?_
      refine o_index e8_ok rfl rfl rfl Try.underlying23 (by omega) (by omega) (rds_own e8_ok 2 rfl) fun ad36 ead36 => ?_
      obtain ⟨x36, hx36⟩ : ∃ x, (B)[((q : Int)).toNat]? = some x := ⟨_, List.getElem?_eq_getElem (by omega)⟩
      refine l_f2 ?_
      refine o_storeRow0 (x1 := (238 : UInt8)) e8_ok ead36 rfl rfl rfl ti5 hx36 rfl ?_
      refine l_nil ?_
      refine q_block ?_
      refine q_then ?_
      refine c_region ?_
      refine o_bin rfl rfl rfl (b_add (wrap_i64 (by omega) (by omega))) ?_
      refine o_move rfl rfl ?_
      refine l_nil ?_
      refine q_conv (fun w S => S.perm p3) ?_
      refine q_conv (fun w S => S.perm p1) ?_
      refine q_conv (fun w S => S.perm p3) ?_
      refine q_conv (fun w S => S.perm p3) ?_
      exact q_round (q + 1, (B).set ((q : Int)).toNat (238 : UInt8)) (by exact ⟨by omega, by rw [List.length_set]; exact hB⟩) (by (try dsimp only); omega) ⟨(by rw [List.length_set]; rfl), (by first | rfl | exact vint (by omega)), (by first | rfl | exact vint (by omega)), trivial⟩ (fun w S => S)
     · -- h5F
      have h5b := h5
      try simp only [decide_eq_false_iff_not, Int.not_lt, Int.not_le] at h5
      refine c_exit ?_
      refine q_pass_exit ?_
      refine q_pass_exit ?_
      refine q_hit ?_
      refine q_block ?_
      refine q_then ?_
      refine c_seq ?_
      refine c_region ?_
      refine o_assign rfl rfl ?_
      refine l_nil ?_
      refine q_then ?_
      refine c_ret ?_
      refine q_conv (fun w S => (S.perm p2).tail) ?_
      refine q_conv (fun w S => (S.perm p2).tail) ?_
      refine q_conv (fun w S => S.perm p1) ?_
      exact f_ret (r_one rfl rfl) (⟨s22, t28, Two.put hM hn hsn22 hsM22 htn28 htM28, rfl, rfl⟩) (fun w S => S)
  · -- h2F
   have h2b := h2
   try simp only [decide_eq_false_iff_not, Int.not_lt, Int.not_le] at h2
   refine c_region ?_
   refine o_bin rfl rfl rfl b_eql ?_
   refine o_assign rfl rfl ?_
   refine l_nil ?_
   refine q_then ?_
   refine c_cond rfl (fun h6 => ?_) (fun h6 => ?_)
   · -- h6T
    have h6b := h6
    try simp only [decide_eq_true_eq] at h6
    refine c_seq ?_
    refine c_conv (fun w S => S.perm p2) ?_
    refine c_conv (fun w S => S.perm p2) ?_
    refine c_heldF [StR k s, RfR m t] (blk b5 (.cells #[.int .i64 o.f_Kind, .int .i64 o.f_N, .string o.f_Key, .slice o.f_Value.a (o.f_Value.xs).length o.f_Value.c] 32 (0, 0)) :: F) (by kernel_rfl) ?_
    refine h_take 0 rfl rfl (by kernel_rfl) (by kernel_rfl) (by kernel_rfl) (fun L0 => v_move rfl rfl) ?_
    refine h_take 1 rfl rfl (by kernel_rfl) (by kernel_rfl) (by kernel_rfl) (fun L0 => v_fieldAddr (q := ⟨b5, 2, none⟩) rfl rfl Try.underlying32 rfl ti9 rfl) ?_
    refine h_take 2 rfl rfl (by kernel_rfl) (by kernel_rfl) (by kernel_rfl) (fun L0 => v_load1 rfl rfl Try.underlying9 rfl (rd_mem 0 rfl rfl)) ?_
    refine h_take 3 rfl rfl (by kernel_rfl) (by kernel_rfl) (by kernel_rfl) (fun L0 => v_fieldAddr (q := ⟨b5, 1, none⟩) rfl rfl Try.underlying32 rfl ti3 rfl) ?_
    refine h_take 4 rfl rfl (by kernel_rfl) (by kernel_rfl) (by kernel_rfl) (fun L0 => v_load1 rfl rfl Try.underlying3 rfl (rd_mem 0 rfl rfl)) ?_
    refine h_take 6 rfl rfl (by kernel_rfl) (by kernel_rfl) (by kernel_rfl) (fun L0 => v_move rfl rfl) ?_
    refine h_take 7 rfl rfl (by kernel_rfl) (by kernel_rfl) (by kernel_rfl) (fun L0 => v_fieldAddr (q := ⟨b5, 2, none⟩) rfl rfl Try.underlying32 rfl ti9 rfl) ?_
    refine h_take 8 rfl rfl (by kernel_rfl) (by kernel_rfl) (by kernel_rfl) (fun L0 => v_load1 rfl rfl Try.underlying9 rfl (rd_mem 0 rfl rfl)) ?_
    refine h_take 9 rfl rfl (by kernel_rfl) (by kernel_rfl) (by kernel_rfl) (fun L0 => v_fieldAddr (q := ⟨b5, 1, none⟩) rfl rfl Try.underlying32 rfl ti3 rfl) ?_
    refine h_take 10 rfl rfl (by kernel_rfl) (by kernel_rfl) (by kernel_rfl) (fun L0 => v_load1 rfl rfl Try.underlying3 rfl (rd_mem 0 rfl rfl)) ?_
    refine h_one 5 rfl (by kernel_rfl) ?_
    refine l_conv (L' := StR k s :: RfR m t :: blk b5 (.cells #[.int .i64 o.f_Kind, .int .i64 o.f_N, .string o.f_Key, .slice o.f_Value.a (o.f_Value.xs).length o.f_Value.c] 32 (0, 0)) :: F) (fun w S => S.perm List.perm_append_comm) ?_
    refine o_call rfl cal18 rfl (move6_ (k' := o.f_Key) (h := o.f_N) (by omega) (by omega)) ?_
    rintro _ _ ⟨s56, e56, hsn56, hsM56, rfl, rfl⟩
    refine l_nil ?_
    refine q_conv (L' := (blk b5 (.cells #[.int .i64 o.f_Kind, .int .i64 o.f_N, .string o.f_Key, .slice o.f_Value.a (o.f_Value.xs).length o.f_Value.c] 32 (0, 0)) :: F) ++ [StR k s56, RfR m t]) (fun w S => S.perm (List.perm_append_comm (l₁ := [StR k s56, RfR m t]) (l₂ := blk b5 (.cells #[.int .i64 o.f_Kind, .int .i64 o.f_N, .string o.f_Key, .slice o.f_Value.a (o.f_Value.xs).length o.f_Value.c] 32 (0, 0)) :: F))) ?_
    refine h_next ?_
    refine h_one 11 rfl (by kernel_rfl) ?_
    refine l_conv (L' := StR k s56 :: RfR m t :: blk b5 (.cells #[.int .i64 o.f_Kind, .int .i64 o.f_N, .string o.f_Key, .slice o.f_Value.a (o.f_Value.xs).length o.f_Value.c] 32 (0, 0)) :: F) (fun w S => S.perm List.perm_append_comm) ?_
    refine l_f1 ?_
    refine o_call rfl cal34 rfl (rmove_ (k' := o.f_Key) (h := o.f_N) (by omega) (by have h9 := rows_len hM; rw [M_len] at h9; omega)) ?_
    rintro _ _ ⟨t62, e62, htn62, htM62, rfl, rfl⟩
    refine l_nil ?_
    refine q_conv (L' := (blk b5 (.cells #[.int .i64 o.f_Kind, .int .i64 o.f_N, .string o.f_Key, .slice o.f_Value.a (o.f_Value.xs).length o.f_Value.c] 32 (0, 0)) :: F) ++ [RfR m t62, StR k s56]) (fun w S => S.perm (List.perm_append_comm (l₁ := [RfR m t62, StR k s56]) (l₂ := blk b5 (.cells #[.int .i64 o.f_Kind, .int .i64 o.f_N, .string o.f_Key, .slice o.f_Value.a (o.f_Value.xs).length o.f_Value.c] 32 (0, 0)) :: F))) ?_
    refine h_next ?_
    refine h_take 12 rfl rfl (by kernel_rfl) (by kernel_rfl) (by kernel_rfl) (fun L0 => v_bin rfl rfl rfl b_eql) ?_
    refine h_eq (t := 63) (v' := .bool true) rfl (show _ = Value.bool true from by rw [(Two.move hM hn hsn56 hsM56 htn62 htM62).1]; simp) ?_
    refine h_take 13 rfl rfl (by kernel_rfl) (by kernel_rfl) (by kernel_rfl) (fun L0 => v_assign rfl rfl) ?_
    refine h_done (by kernel_rfl) ?_
    refine q_conv (L' := RfR m t62 :: StR k s56 :: blk b5 (.cells #[.int .i64 o.f_Kind, .int .i64 o.f_N, .string o.f_Key, .slice o.f_Value.a (o.f_Value.xs).length o.f_Value.c] 32 (0, 0)) :: F) (fun w S => S.perm List.perm_append_comm) ?_
    refine q_then ?_
    refine c_ret ?_
    refine q_block_ret ?_
    refine q_pass_ret ?_
    refine q_conv (fun w S => (S.perm p2).tail) ?_
    refine q_conv (fun w S => S.perm p1) ?_
    exact f_ret (r_one rfl rfl) (⟨s56, t62, (Two.move hM hn hsn56 hsM56 htn62 htM62).2, rfl, rfl⟩) (fun w S => S)
   · -- h6F
    have h6b := h6
    try simp only [decide_eq_false_iff_not, Int.not_lt, Int.not_le] at h6
    refine c_seq ?_
    refine c_region ?_
    refine o_bin rfl rfl rfl b_eql ?_
    refine o_assign rfl rfl ?_
    refine l_nil ?_
    refine q_then ?_
    refine c_cond rfl (fun h7 => ?_) (fun h7 => ?_)
    · -- h7T
     have h7b := h7
     try simp only [decide_eq_true_eq] at h7
     refine c_seq ?_
     refine c_region ?_
     refine o_move rfl rfl ?_
     refine o_fieldAddr (q := ⟨b5, 2, none⟩) rfl rfl Try.underlying32 rfl ti9 rfl ?_
     refine o_load1 rfl rfl Try.underlying9 rfl (rd_mem 0 rfl rfl) ?_
     refine o_fieldAddr (q := ⟨b5, 1, none⟩) rfl rfl Try.underlying32 rfl ti3 rfl ?_
     refine o_load1 rfl rfl Try.underlying3 rfl (rd_mem 0 rfl rfl) ?_
     refine l_f1 ?_
     refine o_call rfl cal17 rfl (prange_ (f := o.f_Key) (mo := o.f_N) (by omega)) ?_
     rintro _ _ ⟨ys71, a71, c71, hys71, rfl, rfl⟩
     refine o_assign rfl rfl ?_
     refine l_nil ?_
     refine q_then ?_
     refine c_seq ?_
     refine c_region ?_
     refine o_move rfl rfl ?_
     refine o_move rfl rfl ?_
     refine o_fieldAddr (q := ⟨b5, 2, none⟩) rfl rfl Try.underlying32 rfl ti9 rfl ?_
     refine o_load1 rfl rfl Try.underlying9 rfl (rd_mem 3 rfl rfl) ?_
     refine o_fieldAddr (q := ⟨b5, 1, none⟩) rfl rfl Try.underlying32 rfl ti3 rfl ?_
     refine o_load1 rfl rfl Try.underlying3 rfl (rd_mem 3 rfl rfl) ?_
     refine l_f4 ?_
     refine o_call rfl cal35 rfl (rrange_ (f := o.f_Key) (mo := o.f_N) (by have h9 := rows_len hM; rw [M_len] at h9; omega)) ?_
     rintro _ _ ⟨a78, c78, rfl, rfl⟩
     refine o_call rfl cal20 rfl (same_ (xs := ys71) (ys := (rngI o.f_Key o.f_N t.xs)) (c := c71) (c2 := c78) (rds_own e_Row_ok 2 rfl) (rds_own e_Row_ok 0 rfl) (fun x hx => rds_vals 3 rfl hx) (fun x hx => rds_rf 1 rfl (rngI_in hx)) (by have h9 := rows_len hys71; have h8 := range_len (f := o.f_Key) (mo := o.f_N) (M := s.M); rw [M_len] at h8; omega)) ?_
     rintro _ _ ⟨bb79, hbb79, rfl, rfl⟩
     have hb79 : bb79 = true := hbb79.2 (by rw [hys71, rngI_m, hM]; rfl)
     refine l_eq (t := 79) (v' := .bool true) rfl (by rw [hb79]) ?_
     refine o_assign rfl rfl ?_
     refine l_nil ?_
     refine q_then ?_
     refine c_seq ?_
     refine c_region ?_
     refine o_move rfl rfl ?_
     refine l_f3 ?_
     refine l_f3 ?_
     refine o_call rfl cal24 rfl (spoil_ (ys := ys71) (c := c71) (by have h9 := rows_len hys71; have h8 := range_len (f := o.f_Key) (mo := o.f_N) (M := s.M); rw [M_len] at h8; omega) (vals_small hok fun z hz => by rw [hys71] at hz; exact range_in hz)) ?_
     rintro _ _ rfl
     refine l_nil ?_
     refine q_then ?_
     refine c_seq ?_
     refine c_region ?_
     refine o_move rfl rfl ?_
     refine o_assign rfl rfl ?_
     refine l_nil ?_
     refine q_then ?_
     refine c_ret ?_
     refine q_block_ret ?_
     refine q_pass_ret ?_
     refine q_conv (fun w S => S.tail) ?_
     refine q_conv (fun w S => (S.perm p2).tail) ?_
     refine q_conv (fun w S => S.perm p1) ?_
     exact f_ret (r_one rfl rfl) (⟨s, t, Two.same hM, rfl, rfl⟩) (fun w S => S)
    · -- h7F
     have h7b := h7
     try simp only [decide_eq_false_iff_not, Int.not_lt, Int.not_le] at h7
     refine c_seq ?_
     refine c_region ?_
     refine o_lit e8_ok rfl Try.underlying23 rfl rfl rfl (lit_ok rfl) ([] : List UInt8) rfl rfl fun a14 => ?_
     refine o_fieldAddr (q := ⟨b5, 3, none⟩) rfl rfl Try.underlying32 rfl ti23 rfl ?_
     refine o_load1 rfl rfl Try.underlying23 rfl (rd_mem 1 rfl rfl) ?_
     refine o_append e8_ok rfl rfl rfl Try.underlying23 (rds_c (rds_c (rds_c (rds_c hs)))) (by show (_ + _) * 1 ≤ _; (try simp only [List.length_append, List.length_cons, List.length_nil]); omega) (by (try simp only [List.length_append, List.length_cons, List.length_nil]); omega) fun a17 c17 => ?_
     refine o_assign rfl rfl ?_
     refine l_nil ?_
     refine q_then ?_
     refine c_seq ?_
     refine c_region ?_
     refine o_move rfl rfl ?_
     refine o_fieldAddr (q := ⟨b5, 2, none⟩) rfl rfl Try.underlying32 rfl ti9 rfl ?_
     refine o_load1 rfl rfl Try.underlying9 rfl (rd_mem 1 rfl rfl) ?_
     refine o_move rfl rfl ?_
     refine l_f2 ?_
     refine o_call rfl cal11 rfl (put6_ (k' := o.f_Key) (vs := (([] : List UInt8) ++ o.f_Value.xs)) (av := a17) (cv := c17) (rds_own e8_ok 0 rfl) (by omega) (by rw [List.nil_append]; omega) (by omega)) ?_
     rintro _ _ ⟨s22, hsn22, hsM22, rfl⟩
     refine l_nil ?_
     refine q_then ?_
     refine c_seq ?_
     refine c_region ?_
     refine o_move rfl rfl ?_
     refine o_fieldAddr (q := ⟨b5, 2, none⟩) rfl rfl Try.underlying32 rfl ti9 rfl ?_
     refine o_load1 rfl rfl Try.underlying9 rfl (rd_mem 2 rfl rfl) ?_
     refine o_fieldAddr (q := ⟨b5, 3, none⟩) rfl rfl Try.underlying32 rfl ti23 rfl ?_
     refine o_load1 rfl rfl Try.underlying23 rfl (rd_mem 2 rfl rfl) ?_
     refine l_f3 ?_
     refine o_call rfl cal36 rfl (rput_ (k' := o.f_Key) (vs := o.f_Value.xs) (av := o.f_Value.a) (cv := o.f_Value.c) (rds_c (rds_c (rds_c hs))) (by omega) (by omega) (by have h9 := rows_len hM; rw [M_len] at h9; omega)) ?_
     rintro _ _ ⟨t28, htn28, htM28, rfl⟩
     refine l_nil ?_
     refine q_then ?_
     refine c_seq ?_
     have hna : (([] : List UInt8) ++ o.f_Value.xs).length = o.f_Value.xs.length := by rw [List.nil_append]
     refine c_region ?_
     refine o_move rfl rfl ?_
     refine o_len rfl rfl Try.underlying23 ?_
     refine o_move rfl rfl ?_
     refine l_nil ?_
     refine q_then ?_
     refine c_block ?_
     refine c_loop (α := Nat × (List UInt8)) (fun z => [(9, .slice a17 (z.2).length c17), (30, .int .i64 ((([] : List UInt8) ++ o.f_Value.xs).length : Int)), (31, .int .i64 (z.1 : Int))]) (fun z => RfR m t28 :: StR k s22 :: row e8.T e8.sz a17 (z.2).length c17 (flat e8 z.2) :: blk b5 (.cells #[.int .i64 o.f_Kind, .int .i64 o.f_N, .string o.f_Key, .slice o.f_Value.a (o.f_Value.xs).length o.f_Value.c] 32 (0, 0)) :: F) (fun z => z.1 ≤ o.f_Value.xs.length ∧ z.2.length = o.f_Value.xs.length) (fun z => o.f_Value.xs.length - z.1) (0, ([] : List UInt8) ++ o.f_Value.xs) (by exact ⟨Nat.zero_le _, by simp⟩) ⟨rfl, (by first | rfl | exact vint (by omega)), (by first | rfl | exact vint (by omega)), trivial⟩ (fun w S => S) ?_
     rintro ⟨q, B⟩ ⟨hq, hB⟩
     try dsimp only at *
     refine c_seq ?_
     refine c_region ?_
     refine o_bin rfl rfl rfl b_lss ?_
     refine l_nil ?_
     refine q_then ?_
     refine c_seq ?_
     refine c_cond rfl (fun h8 => ?_) (fun h8 => ?_)
     · -- h8T
      have h8b := h8
      try simp only [decide_eq_true_eq] at h8
      refine c_skip ?_
      refine q_then ?_
      refine c_seq ?_
      refine c_block ?_
      refine c_seq ?_
      refine c_region ?_
      refine o_move rfl rfl ?_
      refine o_assign rfl rfl ?_
      refine l_nil ?_
      refine q_then ?_
      refine c_region ?_
      refine o_move rfl rfl ?_
      refine o_move rfl rfl ?_
      refine o_index e8_ok rfl rfl rfl Try.underlying23 (by omega) (by omega) (rds_own e8_ok 2 rfl) fun ad36 ead36 => ?_
      obtain ⟨x36, hx36⟩ : ∃ x, (B)[((q : Int)).toNat]? = some x := ⟨_, List.getElem?_eq_getElem (by omega)⟩
      refine l_f2 ?_
      refine o_storeRow0 (x1 := (238 : UInt8)) e8_ok ead36 rfl rfl rfl ti5 hx36 rfl ?_
      refine l_nil ?_
      refine q_block ?_
      refine q_then ?_
      refine c_region ?_
      refine o_bin rfl rfl rfl (b_add (wrap_i64 (by omega) (by omega))) ?_
      refine o_move rfl rfl ?_
      refine l_nil ?_
      refine q_conv (fun w S => S.perm p3) ?_
      refine q_conv (fun w S => S.perm p1) ?_
      refine q_conv (fun w S => S.perm p3) ?_
      refine q_conv (fun w S => S.perm p3) ?_
      exact q_round (q + 1, (B).set ((q : Int)).toNat (238 : UInt8)) (by exact ⟨by omega, by rw [List.length_set]; exact hB⟩) (by (try dsimp only); omega) ⟨(by rw [List.length_set]; rfl), (by first | rfl | exact vint (by omega)), (by first | rfl | exact vint (by omega)), trivial⟩ (fun w S => S)
     · -- h8F
      have h8b := h8
      try simp only [decide_eq_false_iff_not, Int.not_lt, Int.not_le] at h8
      refine c_exit ?_
      refine q_pass_exit ?_
      refine q_pass_exit ?_
      refine q_hit ?_
      refine q_block ?_
      refine q_then ?_
      refine c_seq ?_
      refine c_region ?_
      refine o_assign rfl rfl ?_
      refine l_nil ?_
      refine q_then ?_
      refine c_ret ?_
      refine q_conv (fun w S => (S.perm p2).tail) ?_
      refine q_conv (fun w S => (S.perm p2).tail) ?_
      refine q_conv (fun w S => S.perm p1) ?_
      exact f_ret (r_one rfl rfl) (⟨s22, t28, Two.put hM hn hsn22 hsM22 htn28 htM28, rfl, rfl⟩) (fun w S => S)
end
section
set_option linter.unusedVariables false
set_option linter.unusedSimpArgs false
open Go.RowKit Classical
def hasN (M : Rows) : Nat := (M.filter fun z => z.2.has).length
theorem hasN_le {M : Rows} : hasN M ≤ M.length := List.length_filter_le _ _
theorem hasN_perm {M M' : Rows} (h : M.Perm M') : hasN M = hasN M' := (h.filter _).length_eq
theorem hasN_cons {z : ByteArray × RecM} {M : Rows} : hasN (z :: M) = (if z.2.has = true then 1 else 0) + hasN M := by
  unfold hasN
  cases h : z.2.has with
  | true => rw [List.filter_cons_of_pos (by exact h), if_pos rfl, List.length_cons]; omega
  | false => rw [List.filter_cons_of_neg (by simp [h]), if_neg (by decide)]; omega
theorem ins_perm_del {k : ByteArray} {r : RecM} : ∀ {M : Rows}, Srt Prod.fst strlt M → (insM k r M).Perm ((k, r) :: delM k M)
  | [], _ => by simp [insM, delM, ins, del]
  | y :: ys, hs => by
    have h' := List.pairwise_cons.1 hs
    have gt : strlt k y.1 → ∀ z ∈ ys, ¬ z.1 = k := fun h z hz he => strlt_sto.irr k (by have := strlt_sto.tr h (h'.1 z hz); rw [he] at this; exact this)
    unfold insM delM
    rw [ins]
    by_cases h1 : strlt k y.1
    · rw [if_pos (show strlt ((k, r) : ByteArray × RecM).1 y.1 from h1), del_none fun z hz => by
        rcases List.mem_cons.1 hz with rfl | hz
        · exact fun he => strlt_sto.irr k (by rw [he] at h1; exact h1)
        · exact gt h1 z hz]
    · rw [if_neg (show ¬ strlt ((k, r) : ByteArray × RecM).1 y.1 from h1)]
      by_cases h2 : strlt y.1 k
      · rw [if_pos (show strlt y.1 ((k, r) : ByteArray × RecM).1 from h2)]
        have hne : ¬ y.1 = k := fun he => strlt_sto.irr k (by rw [he] at h2; exact h2)
        have ih := ins_perm_del (k := k) (r := r) h'.2
        unfold insM delM at ih
        have e : del Prod.fst k (y :: ys) = y :: del Prod.fst k ys := by unfold del; rw [List.filter_cons_of_pos (by simpa using hne)]
        rw [e]
        exact (ih.cons y).trans (List.Perm.swap _ _ _)
      · rw [if_neg (show ¬ strlt y.1 ((k, r) : ByteArray × RecM).1 from h2)]
        have he : y.1 = k := (strlt_sto.tri h1 h2).symm
        have e : del Prod.fst k (y :: ys) = ys := by
          unfold del; rw [List.filter_cons_of_neg (by simpa using he)]
          exact del_none fun z hz he2 => strlt_sto.irr k (by have := h'.1 z hz; rw [he, he2] at this; exact this)
        rw [e]
theorem find_perm {k : ByteArray} {M : Rows} {z : ByteArray × RecM} (hs : Srt Prod.fst strlt M) (h : findM k M = some z) : M.Perm (z :: delM k M) := by
  have hk := find_key h
  obtain ⟨i, hi⟩ := List.getElem?_of_mem (List.mem_of_find?_eq_some h)
  have e := take_get hi
  have hs2 := hs
  rw [e] at hs2
  have hp := List.pairwise_append.1 hs2
  have hq := List.pairwise_cons.1 hp.2.1
  have e2 : delM k M = M.take i ++ M.drop (i + 1) := by
    unfold delM
    conv => lhs; rw [e]
    exact del_here hk (fun p hpp he => strlt_sto.irr k (by have := hp.2.2 p hpp z (by simp); rw [he, hk] at this; exact this)) (fun s hss he => strlt_sto.irr k (by have := hq.1 s hss; rw [he, hk] at this; exact this))
  rw [e2]
  conv => lhs; rw [e]
  exact List.perm_middle
theorem hasN_del {n : Int} {k : ByteArray} {M : Rows} (hs : Srt Prod.fst strlt M) : hasN M = (if (lookM n k M).has = true then 1 else 0) + hasN (delM k M) := by
  unfold lookM
  cases h : findM k M with
  | none =>
    have e : delM k M = M := del_none fun z hz he => by
      have := List.find?_eq_none.1 h z hz
      exact this (decide_eq_true he)
    rw [e]
    show _ = (if (r0 n k).has = true then 1 else 0) + _
    simp [r0]
  | some z =>
    rw [hasN_perm (find_perm hs h), hasN_cons]; rfl
theorem hasN_set {n : Int} {k : ByteArray} {r : RecM} {M : Rows} (hs : Srt Prod.fst strlt M) : hasN (setM k r M) + (if (lookM n k M).has = true then 1 else 0) = hasN M + (if r.has = true then 1 else 0) := by
  have h1 := hasN_del (n := n) (k := k) hs
  unfold setM
  split
  · rename_i h
    rw [if_neg (show ¬ r.has = true by rw [h.1]; decide)]; omega
  · rw [hasN_perm (ins_perm_del hs), hasN_cons]
    show (if r.has = true then 1 else 0) + _ + _ = _
    omega
theorem srt_setM {k : ByteArray} {r : RecM} {M : Rows} (h : Srt Prod.fst strlt M) : Srt Prod.fst strlt (setM k r M) := by
  unfold setM
  split
  · exact srt_del h
  · exact srt_ins strlt_sto h
theorem srt_M {xs : List ItA} (h : Srt ItA.f_key strlt xs) : Srt Prod.fst strlt (xs.map proj) := by
  unfold Srt at h ⊢
  exact List.pairwise_map.2 h
def s0 : ByteArray := ⟨#[]⟩
theorem not_lt0 {k : ByteArray} : ¬ strlt k s0 := fun h => by
  unfold strlt slt at h
  cases hk : k.data.toList <;> rw [hk] at h <;> simp [s0, Go.Op.bytesLess] at h
theorem range_all {M : Rows} (hl : M.length ≤ 1000) : rangeM s0 1000 M = M.filter fun z => z.2.has := by
  unfold rangeM
  have e : (fun z : ByteArray × RecM => decide (¬ strlt z.1 s0) && z.2.has) = fun z => z.2.has := by
    funext z; rw [decide_eq_true not_lt0, Bool.true_and]
  rw [e]
  exact List.take_of_length_le (Nat.le_trans (List.length_filter_le _ _) hl)
/-- The rows of a script so far. -/
structure Script (n : Int) (i : Nat) (s t : SS) : Prop where
  n1 : s.n = n
  n2 : t.n = n
  M : s.M = t.M
  len : s.xs.length ≤ i
  cnt : Cnt i s.M
theorem Script.start {n : Int} {s t : SS} (h1 : s = ⟨n, []⟩) (h2 : t = ⟨n, []⟩) : Script n 0 s t := by
  subst h1 h2
  exact ⟨rfl, rfl, rfl, Nat.le_refl _, Int.le_refl _, fun z hz => by simp [SS.M] at hz⟩
theorem Script.on {n : Int} {i : Nat} {s t s' t' : SS} (h : Script n i s t) (h2 : Two s t s' t') : Script n (i + 1) s' t' :=
  ⟨h2.n1.trans h.n1, h2.n2.trans h.n2, h2.M, by have := h2.len; have := h.len; omega, by have := h2.cnt _ h.cnt; rw [Int.natCast_add]; exact this⟩
theorem Script.eq {n : Int} {i : Nat} {s t : SS} (h : Script n i s t) : s.n = t.n := h.n1.trans h.n2.symm
/-- A key is moved, gets a value, loses it. -/
structure Moved (n : Int) (k : ByteArray) (h : Int) (r : RecM) (s1 s2 s3 s4 : SS) : Prop where
  at1 : lookM n k s1.M = r
  at2 : lookM n k s2.M = { r with home := h, count := r.count + 1 }
  at3 : lookM n k s3.M = { r with has := true, val := [110, 101, 119], home := h, count := r.count + 1 }
  at4 : lookM n k s4.M = { r with has := false, val := [], home := h, count := r.count + 1 }
  num : (hasN s4.M : Int) = (hasN s1.M : Int) - (if r.has = true then 1 else 0)
  len : s4.xs.length ≤ s1.xs.length + 3
theorem Moved.mk' {k : ByteArray} {h : Int} {s1 s2 s3 s4 : SS} {t1 : SS} {i : Nat} (hS : Script 3 i s1 t1) (hs : Srt ItA.f_key strlt t1.xs) (h0 : OkS s1) (n2 : s2.n = s1.n) (h2 : moveM s1.n k h s1.M = (0, s2.M)) (n3 : s3.n = s2.n) (h3 : s3.M = putM s2.n k [110, 101, 119] s2.M) (n4 : s4.n = s3.n) (h4 : s4.M = rmM s3.n k s3.M) : Moved 3 k h (lookM 3 k s1.M) s1 s2 s3 s4 := by
  have hsM : Srt Prod.fst strlt s1.M := by rw [hS.M]; exact srt_M hs
  have e1 := hS.n1
  rw [n3, n2, e1] at h4
  rw [n2, e1] at h3
  have hl1 := h0.look k
  rw [e1] at hl1
  have hc0 := hl1.c0
  rcases move_cases h2 with ⟨h5, _⟩ | ⟨h5, _⟩ | ⟨_, h5, _, _⟩
  · cases h5
  · cases h5
  · rw [e1] at h5
    have a2 : lookM 3 k s2.M = { lookM 3 k s1.M with home := h, count := (lookM 3 k s1.M).count + 1 } := by
      rw [h5]; exact look_set (.inr (by show ¬ (lookM 3 k s1.M).count + 1 = 0; omega))
    have a3 : lookM 3 k s3.M = { lookM 3 k s1.M with has := true, val := [110, 101, 119], home := h, count := (lookM 3 k s1.M).count + 1 } := by
      rw [h3]; unfold putM; rw [look_set (.inl rfl), a2]
    have a4 : lookM 3 k s4.M = { lookM 3 k s1.M with has := false, val := [], home := h, count := (lookM 3 k s1.M).count + 1 } := by
      rw [h4]; unfold rmM; rw [look_set (.inr (by rw [a3]; show ¬ (lookM 3 k s1.M).count + 1 = 0; omega)), a3]
    have s2s : Srt Prod.fst strlt s2.M := by rw [h5]; exact srt_setM hsM
    have s3s : Srt Prod.fst strlt s3.M := by rw [h3]; exact srt_setM s2s
    have c2 := hasN_set (n := 3) (k := k) (r := { lookM 3 k s1.M with home := h, count := (lookM 3 k s1.M).count + 1 }) hsM
    rw [← h5] at c2
    have c3 : hasN s3.M + (if (lookM 3 k s2.M).has = true then 1 else 0) = hasN s2.M + 1 := by rw [h3]; exact hasN_set (n := 3) (k := k) s2s
    have c4 : hasN s4.M + (if (lookM 3 k s3.M).has = true then 1 else 0) = hasN s3.M + 0 := by rw [h4]; exact hasN_set (n := 3) (k := k) s3s
    rw [a3] at c4
    rw [a2] at c3
    simp only [if_true] at c4 c3 c2
    refine ⟨rfl, a2, a3, a4, ?_, ?_⟩
    · split <;> rename_i hh <;> simp only [hh] at c2 c3 <;> simp at c2 c3 <;> omega
    · have l2 := move_len h2
      have l3 : s3.M.length ≤ s2.M.length + 1 := by rw [h3]; exact set_len
      have l4 : s4.M.length ≤ s3.M.length + 1 := by rw [h4]; exact set_len
      simp only [M_len] at l2 l3 l4
      omega
/-- Fields of a record with known contents. -/
theorem rec_of {v : Rec} {r : RecM} (h : v.m = r) : v.f_Has = r.has ∧ v.f_Value.xs = r.val ∧ v.f_Home = r.home ∧ v.f_Count = r.count := by
  subst h; exact ⟨rfl, rfl, rfl, rfl⟩
theorem Moved.recs {k : ByteArray} {h : Int} {r : RecM} {s1 s2 s3 s4 : SS} {a b c d : Rec} (m : Moved 3 k h r s1 s2 s3 s4) (v1 : a.m = r) (v2 : b.m = lookM 3 k s2.M) (v3 : c.m = lookM 3 k s3.M) (v4 : d.m = lookM 3 k s4.M) :
    (b.f_Home = h ∧ b.f_Count = a.f_Count + 1 ∧ b.f_Has = a.f_Has ∧ b.f_Value.xs = a.f_Value.xs) ∧ (c.f_Home = h ∧ c.f_Count = b.f_Count) ∧ (d.f_Home = h ∧ d.f_Count = b.f_Count ∧ d.f_Has = false) ∧ (hasN s4.M : Int) = (hasN s1.M : Int) - (if a.f_Has = true then 1 else 0) := by
  have e2 := v2.trans m.at2
  have e3 := v3.trans m.at3
  have e4 := v4.trans m.at4
  have n := m.num
  subst v1
  obtain ⟨b1, b2, b3, b4⟩ := rec_of e2
  obtain ⟨c1, c2, c3, c4⟩ := rec_of e3
  obtain ⟨d1, d2, d3, d4⟩ := rec_of e4
  exact ⟨⟨b3, b4, b1, b2⟩, ⟨c3, c4.trans b4.symm⟩, ⟨d3, d4.trans b4.symm, d1⟩, n⟩
theorem move_no {k : ByteArray} {h e : Int} {i : Nat} {s t s2 : SS} (hS : Script 3 i s t) (hi : i ≤ 1000) (h2 : moveM s.n k h s.M = (e, s2.M)) (he : ¬ e = 0) : e = 1 ∧ s2.M = s.M ∧ (h < 0 ∨ 3 ≤ h) := by
  rcases move_cases h2 with ⟨h3, h4, h5⟩ | ⟨h3, h4, h5⟩ | ⟨h3, _⟩
  · exact ⟨h3, h4, by rw [← hS.n1]; exact h5⟩
  · have := hS.cnt.look (n := s.n) (k := k)
    rw [h5] at this
    unfold maxU at this; omega
  · exact absurd h3 he
theorem range_num {ys : List ItA} {M : Rows} (h : ys.map proj = rangeM s0 1000 M) (hl : M.length ≤ 1000) : ys.length = hasN M := by
  rw [range_all hl] at h
  have := congrArg List.length h
  rw [List.length_map] at this; exact this
end
section
set_option linter.unusedVariables false
set_option linter.unusedSimpArgs false
set_option maxRecDepth 10000
open Go.RowKit Classical
theorem speaks_ {W : World} {F : List Res}  : CS Try.prog 8 #[] W (F) (fun r L' => r = .bool true ∧ F = L') := by
 refine f_door (l0 := []) Try.func8 Try.ntmps8 rfl rfl rfl ?_
 refine c_seq ?_
 refine c_region ?_
 refine o_assign rfl rfl ?_
 refine l_nil ?_
 refine q_then ?_
 refine c_seq ?_
 refine c_region ?_
 refine o_call rfl cal10 rfl (new_ (n := 3) (by decide) (by decide)) ?_
 rintro _ _ ⟨k6, rfl, rfl⟩
 refine o_move rfl rfl ?_
 refine o_extract rfl rfl rfl ?_
 refine o_extract rfl rfl rfl ?_
 refine o_assign rfl rfl ?_
 refine o_assign rfl rfl ?_
 refine l_nil ?_
 refine q_then ?_
 refine c_seq ?_
 refine c_seq ?_
 refine c_region ?_
 refine o_move rfl rfl ?_
 refine o_bin rfl rfl rfl (b_peq Try.underlying26 _) ?_
 refine o_move rfl rfl ?_
 refine o_yes rfl rfl rfl ?_
 refine o_move rfl rfl ?_
 refine o_yes rfl rfl rfl ?_
 refine o_bin rfl rfl rfl b_neq ?_
 refine o_pick_false rfl rfl rfl ?_
 refine l_nil ?_
 refine q_then ?_
 refine c_false rfl ?_
 refine c_skip ?_
 refine q_then ?_
 refine c_seq ?_
 refine c_region ?_
 refine o_move rfl rfl ?_
 refine o_call rfl cal18 rfl (move6_ (k' := ⟨#[97]⟩) (h := 2) (show s97.size ≤ 1000000 by decide) (by decide)) ?_
 rintro _ _ ⟨s16, e16, hsn16, hsM16, rfl, rfl⟩
 obtain ⟨he16, hm16⟩ := spMove rfl hsM16
 refine o_assign rfl rfl ?_
 refine l_nil ?_
 refine q_then ?_
 refine c_seq ?_
 refine c_region ?_
 refine o_move rfl rfl ?_
 refine o_call rfl cal13 rfl (get_ (k' := ⟨#[97]⟩) (show s97.size ≤ 1000000 by decide)) ?_
 rintro _ _ ⟨v18, hv18, rfl, rfl⟩
 rw [show s16.n = 3 from hsn16] at hv18
 have hv18b := hv18.trans hm16
 have hq1 : v18.f_Has = false := congrArg RecM.has hv18b
 have hq2 : v18.f_Home = 2 := congrArg RecM.home hv18b
 have hq3 : v18.f_Count = 1 := congrArg RecM.count hv18b
 refine o_alloc rfl ti36 fun b4 => ?_
 refine o_storen rfl rfl ti36 rfl rfl rfl rfl ?_
 refine l_nil ?_
 refine q_then ?_
 refine c_seq ?_
 refine c_region ?_
 refine o_call rfl cal14 rfl (default_ (k := ⟨#[97]⟩) (n := 3) (show s97.size ≤ 1000000 by decide)) ?_
 rintro _ _ ⟨rfl, rfl⟩
 refine o_bin rfl rfl rfl b_eql ?_
 refine l_eq (t := 20) (v' := .bool true) rfl (show _ = Value.bool true from by rw [show dflt ⟨#[97]⟩ 3 = 1 from d97]; first | done | rfl) ?_
 refine o_move rfl rfl ?_
 refine o_yes rfl rfl rfl ?_
 refine o_move rfl rfl ?_
 refine o_yes rfl rfl rfl ?_
 refine o_bin rfl rfl rfl b_eql ?_
 refine l_eq (t := 23) (v' := .bool true) rfl (show _ = Value.bool true from by rw [he16]; first | done | rfl) ?_
 refine o_pick_true rfl rfl rfl ?_
 refine o_move rfl rfl ?_
 refine o_yes rfl rfl rfl ?_
 refine o_fieldAddr (q := ⟨b4, 2, none⟩) rfl rfl Try.underlying36 rfl ti3 rfl ?_
 refine o_yes rfl rfl rfl ?_
 refine o_load1 rfl rfl Try.underlying3 rfl (rd_mem 0 rfl rfl) ?_
 refine o_yes rfl rfl rfl ?_
 refine o_bin rfl rfl rfl b_eql ?_
 refine l_eq (t := 28) (v' := .bool true) rfl (show _ = Value.bool true from by rw [hq2]; first | done | rfl) ?_
 refine o_pick_true rfl rfl rfl ?_
 refine o_move rfl rfl ?_
 refine o_yes rfl rfl rfl ?_
 refine o_fieldAddr (q := ⟨b4, 3, none⟩) rfl rfl Try.underlying36 rfl ti34 rfl ?_
 refine o_yes rfl rfl rfl ?_
 refine o_load1 rfl rfl Try.underlying34 rfl (rd_mem 0 rfl rfl) ?_
 refine o_yes rfl rfl rfl ?_
 refine o_bin rfl rfl rfl b_eql ?_
 refine l_eq (t := 33) (v' := .bool true) rfl (show _ = Value.bool true from by rw [hq3]; first | done | rfl) ?_
 refine o_pick_true rfl rfl rfl ?_
 refine o_move rfl rfl ?_
 refine o_yes rfl rfl rfl ?_
 refine o_fieldAddr (q := ⟨b4, 0, none⟩) rfl rfl Try.underlying36 rfl ti4 rfl ?_
 refine o_yes rfl rfl rfl ?_
 refine o_load1 rfl rfl Try.underlying4 rfl (rd_mem 0 rfl rfl) ?_
 refine o_yes rfl rfl rfl ?_
 refine o_not rfl rfl ?_
 refine l_eq (t := 38) (v' := .bool true) rfl (show _ = Value.bool true from by rw [hq1]; first | done | rfl) ?_
 refine o_pick_true rfl rfl rfl ?_
 refine o_assign rfl rfl ?_
 refine l_nil ?_
 refine q_then ?_
 refine c_ret ?_
 refine q_conv (fun w S => S.tail) ?_
 refine q_conv (fun w S => S.tail) ?_
 refine q_conv (fun w S => S.tail) ?_
 exact f_ret (r_one rfl rfl) (⟨rfl, rfl⟩) (fun w S => S)
theorem great_ {W : World} {F : List Res} {os : List Op} {a : Option Addr} {c : Nat} (hs : SlR W e_Op a os) (hv : ∀ o ∈ os, SlR W e8 o.f_Value.a o.f_Value.xs)  : CS Try.prog 9 #[.slice a (os).length c] W (F) (fun r L' => ∃ b : Bool, (b = false → GoodOps os) ∧ r = .bool b ∧ F = L') := by
 refine f_door (l0 := [(0, .slice a (os).length c)]) Try.func9 Try.ntmps9 rfl rfl rfl ?_
 refine c_seq ?_
 refine c_region ?_
 refine o_assign rfl rfl ?_
 refine l_nil ?_
 refine q_then ?_
 refine c_seq ?_
 refine c_seq ?_
 refine c_region ?_
 refine o_move rfl rfl ?_
 refine o_len rfl rfl Try.underlying22 ?_
 refine o_bin rfl rfl rfl b_gtr ?_
 refine l_nil ?_
 refine q_then ?_
 refine c_cond rfl (fun h1 => ?_) (fun h1 => ?_)
 · -- h1T
  have h1b := h1
  try simp only [decide_eq_true_eq] at h1
  refine c_seq ?_
  refine c_region ?_
  refine o_assign rfl rfl ?_
  refine l_nil ?_
  refine q_then ?_
  refine c_ret ?_
  refine q_pass_ret ?_
  exact f_ret (r_one rfl rfl) (⟨true, (fun h9 => by cases h9), rfl, rfl⟩) (fun w S => S)
 · -- h1F
  have h1b := h1
  try simp only [decide_eq_false_iff_not, Int.not_lt, Int.not_le] at h1
  refine c_skip ?_
  refine q_then ?_
  refine c_seq ?_
  refine c_seq ?_
  refine c_region ?_
  refine o_move rfl rfl ?_
  refine o_len rfl rfl Try.underlying22 ?_
  refine o_move rfl rfl ?_
  refine l_nil ?_
  refine q_then ?_
  refine c_block ?_
  refine c_loop (α := Nat) (fun z => [(8, .slice a (os).length c), (9, .int .i64 ((os).length : Int)), (10, .int .i64 (z : Int))]) (fun z => F) (fun z => z ≤ os.length ∧ ∀ o ∈ os.take z, o.f_Key.size ≤ 500 ∧ o.f_Value.xs.length ≤ 500) (fun z => os.length - z) (0) (by exact ⟨Nat.zero_le _, fun o ho => by simp at ho⟩) ⟨(by first | rfl | exact vint (by omega)), (by first | rfl | exact vint (by omega)), (by first | rfl | exact vint (by omega)), trivial⟩ (fun w S => S) ?_
  rintro i ⟨hi, hal⟩
  try dsimp only at *
  refine c_seq ?_
  refine c_region ?_
  refine o_bin rfl rfl rfl b_lss ?_
  refine l_nil ?_
  refine q_then ?_
  refine c_seq ?_
  refine c_cond rfl (fun h2 => ?_) (fun h2 => ?_)
  · -- h2T
   have h2b := h2
   try simp only [decide_eq_true_eq] at h2
   refine c_skip ?_
   refine q_then ?_
   refine c_seq ?_
   refine c_block ?_
   refine c_seq ?_
   refine c_region ?_
   refine o_index e_Op_ok rfl rfl rfl Try.underlying22 (by omega) (by omega) (rds_old hs) fun ad12 ead12 => ?_
   obtain ⟨x12, hx12⟩ : ∃ x, (os)[((i : Int)).toNat]? = some x := ⟨_, List.getElem?_eq_getElem (by omega)⟩
   refine o_loadn (vs := e_Op.cells x12) rfl rfl Try.underlying32 rfl ti32 (rdn_sl e_Op_ok ead12 (rds_old hs) hx12) ?_
   refine o_alloc rfl ti32 fun b4 => ?_
   refine o_storen rfl rfl ti32 rfl rfl rfl rfl ?_
   refine l_nil ?_
   refine q_then ?_
   refine c_seq ?_
   refine c_region ?_
   refine o_fieldAddr (q := ⟨b4, 2, none⟩) rfl rfl Try.underlying32 rfl ti9 rfl ?_
   refine o_load1 rfl rfl Try.underlying9 rfl (rd_mem 0 rfl rfl) ?_
   refine o_lenStr rfl rfl Try.underlying9 ?_
   refine o_bin rfl rfl rfl b_gtr ?_
   refine o_move rfl rfl ?_
   refine l_split (t := 18) rfl (fun h3 => ?_) (fun h3 => ?_)
   · -- h3T
    have h3b := h3
    try simp only [decide_eq_true_eq] at h3
    refine o_no rfl rfl rfl rfl ?_
    refine o_no rfl rfl rfl rfl ?_
    refine o_no rfl rfl rfl rfl ?_
    refine o_no rfl rfl rfl rfl ?_
    refine o_pick_true rfl rfl rfl ?_
    refine l_nil ?_
    refine q_then ?_
    refine c_true rfl ?_
    refine c_seq ?_
    refine c_region ?_
    refine o_assign rfl rfl ?_
    refine l_nil ?_
    refine q_then ?_
    refine c_ret ?_
    refine q_block_ret ?_
    refine q_pass_ret ?_
    refine q_pass_ret ?_
    refine q_block_ret ?_
    refine q_pass_ret ?_
    refine q_conv (fun w S => S.tail) ?_
    exact f_ret (r_one rfl rfl) (⟨true, (fun h9 => by cases h9), rfl, rfl⟩) (fun w S => S)
   · -- h3F
    have h3b := h3
    try simp only [decide_eq_false_iff_not, Int.not_lt, Int.not_le] at h3
    refine o_yes rfl rfl rfl ?_
    refine o_fieldAddr (q := ⟨b4, 3, none⟩) rfl rfl Try.underlying32 rfl ti23 rfl ?_
    refine o_yes rfl rfl rfl ?_
    refine o_load1 rfl rfl Try.underlying23 rfl (rd_mem 0 rfl rfl) ?_
    refine o_yes rfl rfl rfl ?_
    refine o_len rfl rfl Try.underlying23 ?_
    refine o_yes rfl rfl rfl ?_
    refine o_bin rfl rfl rfl b_gtr ?_
    refine o_pick_false rfl rfl rfl ?_
    refine l_nil ?_
    refine q_then ?_
    refine c_cond rfl (fun h4 => ?_) (fun h4 => ?_)
    · -- h4T
     have h4b := h4
     try simp only [decide_eq_true_eq] at h4
     refine c_seq ?_
     refine c_region ?_
     refine o_assign rfl rfl ?_
     refine l_nil ?_
     refine q_then ?_
     refine c_ret ?_
     refine q_block_ret ?_
     refine q_pass_ret ?_
     refine q_pass_ret ?_
     refine q_block_ret ?_
     refine q_pass_ret ?_
     refine q_conv (fun w S => S.tail) ?_
     exact f_ret (r_one rfl rfl) (⟨true, (fun h9 => by cases h9), rfl, rfl⟩) (fun w S => S)
    · -- h4F
     have h4b := h4
     try simp only [decide_eq_false_iff_not, Int.not_lt, Int.not_le] at h4
     refine c_skip ?_
     refine q_block ?_
     refine q_then ?_
     refine c_region ?_
     refine o_bin rfl rfl rfl (b_add (wrap_i64 (by omega) (by omega))) ?_
     refine o_move rfl rfl ?_
     refine l_nil ?_
     refine q_conv (fun w S => S.tail) ?_
     exact q_round (i + 1) (by exact ⟨by omega, fun o ho => by rw [take_snoc' (show os[i]? = some x12 from hx12)] at ho; rcases List.mem_append.1 ho with ho | ho; exact hal o ho; obtain rfl : o = x12 := (by simpa using ho); exact ⟨by omega, by omega⟩⟩) (by (try dsimp only); omega) ⟨(by first | rfl | exact vint (by omega)), (by first | rfl | exact vint (by omega)), (by first | rfl | exact vint (by omega)), trivial⟩ (fun w S => S)
  · -- h2F
   have h2b := h2
   try simp only [decide_eq_false_iff_not, Int.not_lt, Int.not_le] at h2
   refine c_exit ?_
   refine q_pass_exit ?_
   refine q_pass_exit ?_
   refine q_hit ?_
   refine q_then ?_
   refine c_seq ?_
   refine c_region ?_
   refine o_assign rfl rfl ?_
   refine l_nil ?_
   refine q_then ?_
   refine c_ret ?_
   exact f_ret (r_one rfl rfl) (⟨false, (fun _ => ⟨by omega, fun o ho => hal o (by rw [List.take_of_length_le (by omega)]; exact ho)⟩), rfl, rfl⟩) (fun w S => S)
end
section
set_option linter.unusedVariables false
set_option linter.unusedSimpArgs false
set_option maxRecDepth 10000
open Go.RowKit Classical
set_option maxHeartbeats 4000000 in
theorem moves_law {W : World} {F : List Res} {os : List Op} {a : Option Addr} {c : Nat} (hs : SlR W e_Op a os) (hv : ∀ o ∈ os, SlR W e8 o.f_Value.a o.f_Value.xs) {k' : ByteArray} {h : Int} : CS Try.prog 4 #[.slice a (os).length c, .string k', .int .i64 h] W (F) (fun r L' => r = .bool true ∧ F = L') := by
 refine f_door (l0 := [(0, .slice a (os).length c), (1, .string k'), (2, .int .i64 h)]) Try.func4 Try.ntmps4 rfl rfl rfl ?_
 refine c_seq ?_
 refine c_region ?_
 refine o_assign rfl rfl ?_
 refine l_nil ?_
 refine q_then ?_
 refine c_seq ?_
 refine c_seq ?_
 refine c_region ?_
 refine o_call rfl cal8 rfl (speaks_) ?_
 rintro _ _ ⟨rfl, rfl⟩
 refine o_not rfl rfl ?_
 refine l_nil ?_
 refine q_then ?_
 refine c_false rfl ?_
 refine c_skip ?_
 refine q_then ?_
 refine c_seq ?_
 refine c_seq ?_
 refine c_region ?_
 refine o_move rfl rfl ?_
 refine o_call rfl cal9 rfl (great_ (os := os) (c := c) hs hv) ?_
 rintro _ _ ⟨g22, hgd22, rfl, rfl⟩
 refine o_move rfl rfl ?_
 refine l_split (t := 23) rfl (fun h1 => ?_) (fun h1 => ?_)
 · -- h1T
  have h1b := h1
  try simp only [decide_eq_true_eq, decide_eq_false_iff_not, Bool.not_eq_eq_eq_not, Bool.not_true, Bool.not_false, Bool.not_eq_true', Bool.not_eq_false', Int.not_lt, Int.not_le, Bool.or_eq_true, Bool.and_eq_true] at h1
  refine o_no rfl rfl rfl rfl ?_
  refine o_no rfl rfl rfl rfl ?_
  refine o_no rfl rfl rfl rfl ?_
  refine o_pick_true rfl rfl rfl ?_
  refine l_nil ?_
  refine q_then ?_
  refine c_true rfl ?_
  refine c_seq ?_
  refine c_region ?_
  refine o_assign rfl rfl ?_
  refine l_nil ?_
  refine q_then ?_
  refine c_ret ?_
  refine q_pass_ret ?_
  exact f_ret (r_one rfl rfl) (⟨rfl, rfl⟩) (fun w S => S)
 · -- h1F
  have h1b := h1
  try simp only [decide_eq_true_eq, decide_eq_false_iff_not, Bool.not_eq_eq_eq_not, Bool.not_true, Bool.not_false, Bool.not_eq_true', Bool.not_eq_false', Int.not_lt, Int.not_le, Bool.or_eq_true, Bool.and_eq_true] at h1
  refine o_yes rfl rfl rfl ?_
  refine o_move rfl rfl ?_
  refine o_yes rfl rfl rfl ?_
  refine o_lenStr rfl rfl Try.underlying9 ?_
  refine o_yes rfl rfl rfl ?_
  refine o_bin rfl rfl rfl b_gtr ?_
  refine o_pick_false rfl rfl rfl ?_
  refine l_nil ?_
  refine q_then ?_
  refine c_cond rfl (fun h2 => ?_) (fun h2 => ?_)
  · -- h2T
   have h2b := h2
   try simp only [decide_eq_true_eq] at h2
   refine c_seq ?_
   refine c_region ?_
   refine o_assign rfl rfl ?_
   refine l_nil ?_
   refine q_then ?_
   refine c_ret ?_
   refine q_pass_ret ?_
   exact f_ret (r_one rfl rfl) (⟨rfl, rfl⟩) (fun w S => S)
  · -- h2F
   have h2b := h2
   try simp only [decide_eq_false_iff_not, Int.not_lt, Int.not_le] at h2
   refine c_skip ?_
   refine q_then ?_
   refine c_seq ?_
   have hgo := hgd22 (by assumption)
   have hlen := hgo.len
   refine c_region ?_
   refine o_call rfl cal10 rfl (new_ (n := 3) (by decide) (by decide)) ?_
   rintro _ _ ⟨k29, rfl, rfl⟩
   refine o_move rfl rfl ?_
   refine o_extract rfl rfl rfl ?_
   refine o_extract rfl rfl rfl ?_
   refine o_assign rfl rfl ?_
   refine o_assign rfl rfl ?_
   refine l_nil ?_
   refine q_then ?_
   refine c_seq ?_
   refine c_seq ?_
   refine c_region ?_
   refine o_move rfl rfl ?_
   refine o_bin rfl rfl rfl (b_peq Try.underlying26 _) ?_
   refine l_nil ?_
   refine q_then ?_
   refine c_false rfl ?_
   refine c_skip ?_
   refine q_then ?_
   refine c_seq ?_
   refine c_region ?_
   refine o_call rfl cal15 rfl (rnew_ (n := 3) (by decide) (by decide)) ?_
   rintro _ _ ⟨m34, rfl, rfl⟩
   refine o_assign rfl rfl ?_
   refine l_nil ?_
   refine q_then ?_
   refine c_seq ?_
   refine c_seq ?_
   refine c_region ?_
   refine o_move rfl rfl ?_
   refine o_len rfl rfl Try.underlying22 ?_
   refine o_move rfl rfl ?_
   refine l_nil ?_
   refine q_then ?_
   refine c_block ?_
   refine c_loop (α := Nat × SS × SS) (fun z => [(1, .string k'), (2, .int .i64 h), (7, .pointer (some ⟨k29, 0, none⟩)), (9, .pointer (some ⟨m34, 0, none⟩)), (35, .slice a (os).length c), (36, .int .i64 ((os).length : Int)), (37, .int .i64 (z.1 : Int))]) (fun z => RfR m34 z.2.2 :: StR k29 z.2.1 :: F) (fun z => z.1 ≤ os.length ∧ Script 3 z.1 z.2.1 z.2.2) (fun z => os.length - z.1) (0, (⟨3, []⟩ : SS), (⟨3, []⟩ : SS)) (by exact ⟨Nat.zero_le _, Script.start rfl rfl⟩) ⟨(by first | rfl | exact vint (by omega)), (by first | rfl | exact vint (by omega)), (by first | rfl | exact vint (by omega)), (by first | rfl | exact vint (by omega)), (by first | rfl | exact vint (by omega)), (by first | rfl | exact vint (by omega)), (by first | rfl | exact vint (by omega)), trivial⟩ (fun w S => S) ?_
   rintro ⟨i, sl, tl⟩ ⟨hi, hsc⟩
   try dsimp only at *
   refine c_seq ?_
   refine c_region ?_
   refine o_bin rfl rfl rfl b_lss ?_
   refine l_nil ?_
   refine q_then ?_
   refine c_seq ?_
   refine c_cond rfl (fun h3 => ?_) (fun h3 => ?_)
   · -- h3T
    have h3b := h3
    try simp only [decide_eq_true_eq] at h3
    refine c_skip ?_
    refine q_then ?_
    refine c_seq ?_
    refine c_block ?_
    refine c_seq ?_
    refine c_region ?_
    refine o_index e_Op_ok rfl rfl rfl Try.underlying22 (by omega) (by omega) (rds_c (rds_c (rds_old hs))) fun ad39 ead39 => ?_
    obtain ⟨x39, hx39⟩ : ∃ x, (os)[((i : Int)).toNat]? = some x := ⟨_, List.getElem?_eq_getElem (by omega)⟩
    refine o_loadn (vs := e_Op.cells x39) rfl rfl Try.underlying32 rfl ti32 (rdn_sl e_Op_ok ead39 (rds_c (rds_c (rds_old hs))) hx39) ?_
    refine o_alloc rfl ti32 fun b11 => ?_
    refine o_storen rfl rfl ti32 rfl rfl rfl rfl ?_
    refine l_nil ?_
    refine q_then ?_
    refine c_region ?_
    refine o_move rfl rfl ?_
    refine o_move rfl rfl ?_
    refine o_loadn (vs := [_, _, _, _]) rfl rfl Try.underlying32 rfl ti32 (rdn_lit 0 rfl rfl) ?_
    refine l_f1 ?_
    refine l_f2 ?_
    refine o_call rfl cal16 rfl (do_ (o := x39) (rds_old (hv x39 (List.mem_of_getElem? hx39))) (hgo.all x39 (List.mem_of_getElem? hx39)).1 (hgo.all x39 (List.mem_of_getElem? hx39)).2 hsc.M hsc.eq (by have h9 := hsc.len; omega)) ?_
    rintro _ _ ⟨s44, t44, htw44, rfl, rfl⟩
    refine l_nil ?_
    refine q_block ?_
    refine q_then ?_
    refine c_region ?_
    refine o_bin rfl rfl rfl (b_add (wrap_i64 (by omega) (by omega))) ?_
    refine o_move rfl rfl ?_
    refine l_nil ?_
    refine q_conv (fun w S => (S.perm p2).tail) ?_
    refine q_conv (fun w S => S.perm p1) ?_
    exact q_round (i + 1, s44, t44) (by exact ⟨by omega, hsc.on htw44⟩) (by (try dsimp only); omega) ⟨(by first | rfl | exact vint (by omega)), (by first | rfl | exact vint (by omega)), (by first | rfl | exact vint (by omega)), (by first | rfl | exact vint (by omega)), (by first | rfl | exact vint (by omega)), (by first | rfl | exact vint (by omega)), (by first | rfl | exact vint (by omega)), trivial⟩ (fun w S => S)
   · -- h3F
    have h3b := h3
    try simp only [decide_eq_false_iff_not, Int.not_lt, Int.not_le] at h3
    refine c_exit ?_
    refine q_pass_exit ?_
    refine q_pass_exit ?_
    refine q_hit ?_
    refine q_then ?_
    refine c_seq ?_
    refine c_fact (p := OkS tl ∧ Srt ItA.f_key strlt tl.xs) (fun w S => RfR_ok S) fun hokr => ?_
    refine c_conv (fun w S => S.perm p1) ?_
    refine c_fact (p := OkS sl) (fun w S => StR_ok S) fun hok => ?_
    have hc0 := (hok.look k').c0
    have hcn := hsc.cnt.look (n := sl.n) (k := k')
    refine c_region ?_
    refine o_move rfl rfl ?_
    refine o_move rfl rfl ?_
    refine o_call rfl cal13 rfl (get_ (k' := k') (by omega)) ?_
    rintro _ _ ⟨v48, hv48, rfl, rfl⟩
    rw [← hv48] at hc0 hcn
    simp only [Rec.m] at hc0 hcn
    refine o_move rfl rfl ?_
    refine l_f1 ?_
    refine o_call rfl cal17 rfl (prange_ (f := ByteArray.empty) (mo := 1000) (by have h9 := hsc.len; omega)) ?_
    rintro _ _ ⟨ys50, a50, c50, hys50, rfl, rfl⟩
    have hyl50 : ys50.length ≤ 1000 := by rw [range_num hys50 (by rw [M_len]; have h6 := hsc.len; omega)]; have h9 := hasN_le (M := sl.M); rw [M_len] at h9; have h6 := hsc.len; omega
    refine o_len rfl rfl Try.underlying43 ?_
    refine o_alloc rfl ti36 fun b12 => ?_
    refine o_storen rfl rfl ti36 rfl rfl rfl rfl ?_
    refine o_assign rfl rfl ?_
    refine l_nil ?_
    refine q_then ?_
    refine c_seq ?_
    refine c_region ?_
    refine o_move rfl rfl ?_
    refine o_move rfl rfl ?_
    refine o_move rfl rfl ?_
    refine l_f3 ?_
    refine o_call rfl cal18 rfl (move6_ (k' := k') (h := h) (by omega) (by have h9 := hsc.len; omega)) ?_
    rintro _ _ ⟨s55, e55, hsn55, hsM55, rfl, rfl⟩
    have hl55 : s55.xs.length ≤ sl.xs.length + 1 := by have h9 := move_len hsM55; rwa [M_len, M_len] at h9
    refine o_assign rfl rfl ?_
    refine l_nil ?_
    refine q_then ?_
    refine c_seq ?_
    refine c_region ?_
    refine o_move rfl rfl ?_
    refine o_move rfl rfl ?_
    refine o_call rfl cal13 rfl (get_ (k' := k') (by omega)) ?_
    rintro _ _ ⟨v58, hv58, rfl, rfl⟩
    refine o_alloc rfl ti36 fun b15 => ?_
    refine o_storen rfl rfl ti36 rfl rfl rfl rfl ?_
    refine l_nil ?_
    refine q_then ?_
    refine c_seq ?_
    refine c_seq ?_
    refine c_region ?_
    refine o_move rfl rfl ?_
    refine o_bin rfl rfl rfl b_neq ?_
    refine l_nil ?_
    refine q_then ?_
    refine c_cond rfl (fun h4 => ?_) (fun h4 => ?_)
    · -- h4T
     have h4b := h4
     try simp only [Bool.not_eq_true', decide_eq_false_iff_not, Int.not_lt, Int.not_le] at h4
     refine c_seq ?_
     have hcs := move_no hsc (by omega) hsM55 (by assumption)
     refine c_region ?_
     refine o_move rfl rfl ?_
     refine o_bin rfl rfl rfl b_lss ?_
     refine o_move rfl rfl ?_
     refine l_split (t := 63) rfl (fun h5 => ?_) (fun h5 => ?_)
     · -- h5T
      have h5b := h5
      try simp only [decide_eq_true_eq] at h5
      refine o_no rfl rfl rfl rfl ?_
      refine o_no rfl rfl rfl rfl ?_
      refine o_pick_true rfl rfl rfl ?_
      refine o_move rfl rfl ?_
      refine o_yes rfl rfl rfl ?_
      refine o_move rfl rfl ?_
      refine o_yes rfl rfl rfl ?_
      refine o_bin rfl rfl rfl b_eql ?_
      refine l_eq (t := 69) (v' := .bool true) rfl (show _ = Value.bool true from by rw [hcs.1]; first | done | rfl) ?_
      refine o_pick_true rfl rfl rfl ?_
      refine o_move rfl rfl ?_
      refine o_yes rfl rfl rfl ?_
      refine o_loadn (vs := [_, _, _, _]) rfl rfl Try.underlying36 rfl ti36 (rdn_lit 3 rfl rfl) ?_
      refine o_yes rfl rfl rfl ?_
      refine o_loadn (vs := [_, _, _, _]) rfl rfl Try.underlying36 rfl ti36 (rdn_lit 0 rfl rfl) ?_
      refine o_yes rfl rfl rfl ?_
      refine o_call rfl cal19 rfl (srec_ (a := v48) (b := v58) (rds_own e8_ok 6 rfl) (rds_own e8_ok 1 rfl)) ?_
      rintro _ _ ⟨bb74, hbb74, rfl, rfl⟩
      have hb74 : bb74 = true := hbb74.2 (by rw [hv48, hv58, hsn55, hcs.2.1])
      refine l_eq (t := 74) (v' := .bool true) rfl (by rw [hb74]) ?_
      refine o_pick_true rfl rfl rfl ?_
      refine o_assign rfl rfl ?_
      refine l_nil ?_
      refine q_then ?_
      refine c_ret ?_
      refine q_pass_ret ?_
      refine q_conv (fun w S => S.tail) ?_
      refine q_conv (fun w S => S.tail) ?_
      refine q_conv (fun w S => S.tail) ?_
      refine q_conv (fun w S => S.tail) ?_
      refine q_conv (fun w S => S.tail) ?_
      refine q_conv (fun w S => S.tail) ?_
      refine q_conv (fun w S => S.tail) ?_
      refine q_conv (fun w S => S.tail) ?_
      exact f_ret (r_one rfl rfl) (⟨rfl, rfl⟩) (fun w S => S)
     · -- h5F
      have h5b := h5
      try simp only [decide_eq_false_iff_not, Int.not_lt, Int.not_le] at h5
      refine o_yes rfl rfl rfl ?_
      refine o_move rfl rfl ?_
      refine o_yes rfl rfl rfl ?_
      refine o_bin rfl rfl rfl b_gtr ?_
      refine l_eq (t := 65) (v' := .bool true) rfl (show _ = Value.bool true from by rw [decide_eq_true (by omega)]) ?_
      refine o_pick_false rfl rfl rfl ?_
      refine o_move rfl rfl ?_
      refine o_yes rfl rfl rfl ?_
      refine o_move rfl rfl ?_
      refine o_yes rfl rfl rfl ?_
      refine o_bin rfl rfl rfl b_eql ?_
      refine l_eq (t := 69) (v' := .bool true) rfl (show _ = Value.bool true from by rw [hcs.1]; first | done | rfl) ?_
      refine o_pick_true rfl rfl rfl ?_
      refine o_move rfl rfl ?_
      refine o_yes rfl rfl rfl ?_
      refine o_loadn (vs := [_, _, _, _]) rfl rfl Try.underlying36 rfl ti36 (rdn_lit 3 rfl rfl) ?_
      refine o_yes rfl rfl rfl ?_
      refine o_loadn (vs := [_, _, _, _]) rfl rfl Try.underlying36 rfl ti36 (rdn_lit 0 rfl rfl) ?_
      refine o_yes rfl rfl rfl ?_
      refine o_call rfl cal19 rfl (srec_ (a := v48) (b := v58) (rds_own e8_ok 6 rfl) (rds_own e8_ok 1 rfl)) ?_
      rintro _ _ ⟨bb74, hbb74, rfl, rfl⟩
      have hb74 : bb74 = true := hbb74.2 (by rw [hv48, hv58, hsn55, hcs.2.1])
      refine l_eq (t := 74) (v' := .bool true) rfl (by rw [hb74]) ?_
      refine o_pick_true rfl rfl rfl ?_
      refine o_assign rfl rfl ?_
      refine l_nil ?_
      refine q_then ?_
      refine c_ret ?_
      refine q_pass_ret ?_
      refine q_conv (fun w S => S.tail) ?_
      refine q_conv (fun w S => S.tail) ?_
      refine q_conv (fun w S => S.tail) ?_
      refine q_conv (fun w S => S.tail) ?_
      refine q_conv (fun w S => S.tail) ?_
      refine q_conv (fun w S => S.tail) ?_
      refine q_conv (fun w S => S.tail) ?_
      refine q_conv (fun w S => S.tail) ?_
      exact f_ret (r_one rfl rfl) (⟨rfl, rfl⟩) (fun w S => S)
    · -- h4F
     have h4b := h4
     try simp only [Bool.not_eq_false', decide_eq_true_eq] at h4
     refine c_skip ?_
     refine q_then ?_
     refine c_seq ?_
     have he0 : e55 = 0 := by assumption
     refine c_region ?_
     refine o_move rfl rfl ?_
     refine o_move rfl rfl ?_
     refine o_lit e8_ok rfl Try.underlying23 rfl rfl rfl (lit_ok rfl) [(110 : UInt8), (101 : UInt8), (119 : UInt8)] rfl rfl fun a78 => ?_
     refine o_mark e8_ok (by simp) rfl rfl Try.underlying23 Try.underlying5 ?_
     refine l_f3 ?_
     refine o_call rfl cal11 rfl (put6_ (k' := k') (vs := [(110 : UInt8), (101 : UInt8), (119 : UInt8)]) (av := a78) (cv := 3) (rds_mrow e8_ok 0 rfl) (by omega) (by decide) (by have h9 := hsc.len; omega)) ?_
     rintro _ _ ⟨s80, hsn80, hsM80, rfl⟩
     have hl80 : s80.xs.length ≤ s55.xs.length + 1 := by rw [← M_len, ← M_len, hsM80]; exact set_len
     refine l_nil ?_
     refine q_then ?_
     refine c_seq ?_
     refine c_region ?_
     refine o_move rfl rfl ?_
     refine o_move rfl rfl ?_
     refine o_call rfl cal13 rfl (get_ (k' := k') (by omega)) ?_
     rintro _ _ ⟨v83, hv83, rfl, rfl⟩
     refine o_alloc rfl ti36 fun b16 => ?_
     refine o_storen rfl rfl ti36 rfl rfl rfl rfl ?_
     refine l_nil ?_
     refine q_then ?_
     refine c_seq ?_
     refine c_region ?_
     refine o_move rfl rfl ?_
     refine o_move rfl rfl ?_
     refine l_f2 ?_
     refine o_call rfl cal12 rfl (rm6_ (k' := k') (by omega) (by have h9 := hsc.len; omega)) ?_
     rintro _ _ ⟨s86, hsn86, hsM86, rfl⟩
     have hl86 : s86.xs.length ≤ s80.xs.length + 1 := by rw [← M_len, ← M_len, hsM86]; exact set_len
     refine l_nil ?_
     refine q_then ?_
     refine c_seq ?_
     refine c_region ?_
     refine o_move rfl rfl ?_
     refine o_move rfl rfl ?_
     refine o_call rfl cal13 rfl (get_ (k' := k') (by omega)) ?_
     rintro _ _ ⟨v89, hv89, rfl, rfl⟩
     refine o_alloc rfl ti36 fun b17 => ?_
     refine o_storen rfl rfl ti36 rfl rfl rfl rfl ?_
     refine l_nil ?_
     refine q_then ?_
     refine c_seq ?_
     obtain ⟨⟨b1, b2, b3, b4⟩, ⟨c1, c2⟩, ⟨d1, d2, d3⟩, hnum⟩ := (Moved.mk' hsc hokr.2 hok hsn55 (by rw [← he0]; exact hsM55) hsn80 hsM80 hsn86 hsM86).recs (a := v48) (b := v58) (c := v83) (d := v89) (by rw [hv48, hsc.n1]) (by rw [hv58, hsn55, hsc.n1]) (by rw [hv83, hsn80, hsn55, hsc.n1]) (by rw [hv89, hsn86, hsn80, hsn55, hsc.n1])
     refine c_region ?_
     refine o_move rfl rfl ?_
     refine o_assign rfl rfl ?_
     refine l_nil ?_
     refine q_then ?_
     refine c_seq ?_
     refine c_seq ?_
     refine c_region ?_
     refine o_fieldAddr (q := ⟨b12, 0, none⟩) rfl rfl Try.underlying36 rfl ti4 rfl ?_
     refine o_load1 rfl rfl Try.underlying4 rfl (rd_mem 8 rfl rfl) ?_
     refine l_nil ?_
     refine q_then ?_
     refine c_cond rfl (fun h6 => ?_) (fun h6 => ?_)
     · -- h6T
      have h6b := h6
      try simp only [decide_eq_true_eq, decide_eq_false_iff_not, Bool.not_eq_eq_eq_not, Bool.not_true, Bool.not_false, Bool.not_eq_true', Bool.not_eq_false', Int.not_lt, Int.not_le, Bool.or_eq_true, Bool.and_eq_true] at h6
      refine c_region ?_
      refine o_move rfl rfl ?_
      refine o_bin rfl rfl rfl (b_sub (wrap_i64 (by omega) (by omega))) ?_
      refine o_assign rfl rfl ?_
      refine l_nil ?_
      refine q_then ?_
      refine c_seq ?_
      refine c_region ?_
      refine o_fieldAddr (q := ⟨b15, 2, none⟩) rfl rfl Try.underlying36 rfl ti3 rfl ?_
      refine o_load1 rfl rfl Try.underlying3 rfl (rd_mem 6 rfl rfl) ?_
      refine o_move rfl rfl ?_
      refine o_bin rfl rfl rfl b_eql ?_
      refine l_eq (t := 98) (v' := .bool true) rfl (show _ = Value.bool true from by rw [b1]; simp) ?_
      refine o_move rfl rfl ?_
      refine o_yes rfl rfl rfl ?_
      refine o_fieldAddr (q := ⟨b15, 3, none⟩) rfl rfl Try.underlying36 rfl ti34 rfl ?_
      refine o_yes rfl rfl rfl ?_
      refine o_load1 rfl rfl Try.underlying34 rfl (rd_mem 6 rfl rfl) ?_
      refine o_yes rfl rfl rfl ?_
      refine o_fieldAddr (q := ⟨b12, 3, none⟩) rfl rfl Try.underlying36 rfl ti34 rfl ?_
      refine o_yes rfl rfl rfl ?_
      refine o_load1 rfl rfl Try.underlying34 rfl (rd_mem 8 rfl rfl) ?_
      refine o_yes rfl rfl rfl ?_
      refine o_bin rfl rfl rfl (b_add (wrap_u64 (by omega) (by omega))) ?_
      refine o_yes rfl rfl rfl ?_
      refine o_bin rfl rfl rfl b_eql ?_
      refine l_eq (t := 105) (v' := .bool true) rfl (show _ = Value.bool true from by rw [b2]; simp) ?_
      refine o_pick_true rfl rfl rfl ?_
      refine o_move rfl rfl ?_
      refine o_yes rfl rfl rfl ?_
      refine o_fieldAddr (q := ⟨b15, 0, none⟩) rfl rfl Try.underlying36 rfl ti4 rfl ?_
      refine o_yes rfl rfl rfl ?_
      refine o_load1 rfl rfl Try.underlying4 rfl (rd_mem 6 rfl rfl) ?_
      refine o_yes rfl rfl rfl ?_
      refine o_fieldAddr (q := ⟨b12, 0, none⟩) rfl rfl Try.underlying36 rfl ti4 rfl ?_
      refine o_yes rfl rfl rfl ?_
      refine o_load1 rfl rfl Try.underlying4 rfl (rd_mem 8 rfl rfl) ?_
      refine o_yes rfl rfl rfl ?_
      refine o_bin rfl rfl rfl (b_beq Try.underlying4 _ _) ?_
      refine l_eq (t := 112) (v' := .bool true) rfl (show _ = Value.bool true from by rw [b3]; simp) ?_
      refine o_pick_true rfl rfl rfl ?_
      refine o_move rfl rfl ?_
      refine o_yes rfl rfl rfl ?_
      refine o_fieldAddr (q := ⟨b15, 1, none⟩) rfl rfl Try.underlying36 rfl ti23 rfl ?_
      refine o_yes rfl rfl rfl ?_
      refine o_load1 rfl rfl Try.underlying23 rfl (rd_mem 6 rfl rfl) ?_
      refine o_yes rfl rfl rfl ?_
      refine o_bytesStr (e := e8) rfl rfl rfl Try.underlying23 Try.underlying5 Try.underlying9 (rds_own e8_ok 7 rfl) ?_
      refine o_yes rfl rfl rfl ?_
      refine o_fieldAddr (q := ⟨b12, 1, none⟩) rfl rfl Try.underlying36 rfl ti23 rfl ?_
      refine o_yes rfl rfl rfl ?_
      refine o_load1 rfl rfl Try.underlying23 rfl (rd_mem 8 rfl rfl) ?_
      refine o_yes rfl rfl rfl ?_
      refine o_bytesStr (e := e8) rfl rfl rfl Try.underlying23 Try.underlying5 Try.underlying9 (rds_own e8_ok 11 rfl) ?_
      refine o_yes rfl rfl rfl ?_
      refine o_bin rfl rfl rfl b_seql ?_
      refine l_eq (t := 121) (v' := .bool true) rfl (show _ = Value.bool true from by rw [decide_eq_true (by rw [b4])]) ?_
      refine o_pick_true rfl rfl rfl ?_
      refine o_move rfl rfl ?_
      refine o_yes rfl rfl rfl ?_
      refine o_fieldAddr (q := ⟨b16, 2, none⟩) rfl rfl Try.underlying36 rfl ti3 rfl ?_
      refine o_yes rfl rfl rfl ?_
      refine o_load1 rfl rfl Try.underlying3 rfl (rd_mem 3 rfl rfl) ?_
      refine o_yes rfl rfl rfl ?_
      refine o_move rfl rfl ?_
      refine o_yes rfl rfl rfl ?_
      refine o_bin rfl rfl rfl b_eql ?_
      refine l_eq (t := 127) (v' := .bool true) rfl (show _ = Value.bool true from by rw [c1]; simp) ?_
      refine o_pick_true rfl rfl rfl ?_
      refine o_move rfl rfl ?_
      refine o_yes rfl rfl rfl ?_
      refine o_fieldAddr (q := ⟨b16, 3, none⟩) rfl rfl Try.underlying36 rfl ti34 rfl ?_
      refine o_yes rfl rfl rfl ?_
      refine o_load1 rfl rfl Try.underlying34 rfl (rd_mem 3 rfl rfl) ?_
      refine o_yes rfl rfl rfl ?_
      refine o_fieldAddr (q := ⟨b15, 3, none⟩) rfl rfl Try.underlying36 rfl ti34 rfl ?_
      refine o_yes rfl rfl rfl ?_
      refine o_load1 rfl rfl Try.underlying34 rfl (rd_mem 6 rfl rfl) ?_
      refine o_yes rfl rfl rfl ?_
      refine o_bin rfl rfl rfl b_eql ?_
      refine l_eq (t := 134) (v' := .bool true) rfl (show _ = Value.bool true from by rw [c2]; simp) ?_
      refine o_pick_true rfl rfl rfl ?_
      refine o_move rfl rfl ?_
      refine o_yes rfl rfl rfl ?_
      refine o_fieldAddr (q := ⟨b17, 2, none⟩) rfl rfl Try.underlying36 rfl ti3 rfl ?_
      refine o_yes rfl rfl rfl ?_
      refine o_load1 rfl rfl Try.underlying3 rfl (rd_mem 0 rfl rfl) ?_
      refine o_yes rfl rfl rfl ?_
      refine o_move rfl rfl ?_
      refine o_yes rfl rfl rfl ?_
      refine o_bin rfl rfl rfl b_eql ?_
      refine l_eq (t := 140) (v' := .bool true) rfl (show _ = Value.bool true from by rw [d1]; simp) ?_
      refine o_pick_true rfl rfl rfl ?_
      refine o_move rfl rfl ?_
      refine o_yes rfl rfl rfl ?_
      refine o_fieldAddr (q := ⟨b17, 3, none⟩) rfl rfl Try.underlying36 rfl ti34 rfl ?_
      refine o_yes rfl rfl rfl ?_
      refine o_load1 rfl rfl Try.underlying34 rfl (rd_mem 0 rfl rfl) ?_
      refine o_yes rfl rfl rfl ?_
      refine o_fieldAddr (q := ⟨b15, 3, none⟩) rfl rfl Try.underlying36 rfl ti34 rfl ?_
      refine o_yes rfl rfl rfl ?_
      refine o_load1 rfl rfl Try.underlying34 rfl (rd_mem 6 rfl rfl) ?_
      refine o_yes rfl rfl rfl ?_
      refine o_bin rfl rfl rfl b_eql ?_
      refine l_eq (t := 147) (v' := .bool true) rfl (show _ = Value.bool true from by rw [d2]; simp) ?_
      refine o_pick_true rfl rfl rfl ?_
      refine o_move rfl rfl ?_
      refine o_yes rfl rfl rfl ?_
      refine o_fieldAddr (q := ⟨b17, 0, none⟩) rfl rfl Try.underlying36 rfl ti4 rfl ?_
      refine o_yes rfl rfl rfl ?_
      refine o_load1 rfl rfl Try.underlying4 rfl (rd_mem 0 rfl rfl) ?_
      refine o_yes rfl rfl rfl ?_
      refine o_not rfl rfl ?_
      refine l_eq (t := 152) (v' := .bool true) rfl (show _ = Value.bool true from by rw [d3]; first | done | rfl) ?_
      refine o_pick_true rfl rfl rfl ?_
      refine o_move rfl rfl ?_
      refine o_yes rfl rfl rfl ?_
      refine o_move rfl rfl ?_
      refine o_yes rfl rfl rfl ?_
      refine l_f2 ?_
      refine o_call rfl cal17 rfl (prange_ (f := ByteArray.empty) (mo := 1000) (by have h9 := hsc.len; omega)) ?_
      rintro _ _ ⟨ys156, a156, c156, hys156, rfl, rfl⟩
      refine o_yes rfl rfl rfl ?_
      refine o_len rfl rfl Try.underlying43 ?_
      refine o_yes rfl rfl rfl ?_
      refine o_move rfl rfl ?_
      refine o_yes rfl rfl rfl ?_
      refine o_bin rfl rfl rfl b_eql ?_
      refine l_eq (t := 159) (v' := .bool true) rfl (show _ = Value.bool true from by rw [decide_eq_true (by have h9 := hnum; have h8 := range_num hys50 (by rw [M_len]; have h6 := hsc.len; omega); have h7 := range_num hys156 (by rw [M_len]; have h6 := hsc.len; omega); rw [h8, h7]; first | (rw [if_pos (by assumption)] at h9; omega) | (rw [if_neg (by rw [show v48.f_Has = false by assumption]; decide)] at h9; omega))]) ?_
      refine o_pick_true rfl rfl rfl ?_
      refine o_assign rfl rfl ?_
      refine l_nil ?_
      refine q_then ?_
      refine c_ret ?_
      refine q_conv (fun w S => S.tail) ?_
      refine q_conv (fun w S => S.tail) ?_
      refine q_conv (fun w S => S.tail) ?_
      refine q_conv (fun w S => S.tail) ?_
      refine q_conv (fun w S => S.tail) ?_
      refine q_conv (fun w S => S.tail) ?_
      refine q_conv (fun w S => S.tail) ?_
      refine q_conv (fun w S => S.tail) ?_
      refine q_conv (fun w S => S.tail) ?_
      refine q_conv (fun w S => S.tail) ?_
      refine q_conv (fun w S => S.tail) ?_
      refine q_conv (fun w S => S.tail) ?_
      refine q_conv (fun w S => S.tail) ?_
      refine q_conv (fun w S => S.tail) ?_
      refine q_conv (fun w S => S.tail) ?_
      exact f_ret (r_one rfl rfl) (⟨rfl, rfl⟩) (fun w S => S)
     · -- h6F
      have h6b := h6
      try simp only [decide_eq_true_eq, decide_eq_false_iff_not, Bool.not_eq_eq_eq_not, Bool.not_true, Bool.not_false, Bool.not_eq_true', Bool.not_eq_false', Int.not_lt, Int.not_le, Bool.or_eq_true, Bool.and_eq_true] at h6
      refine c_skip ?_
      refine q_then ?_
      refine c_seq ?_
      refine c_region ?_
      refine o_fieldAddr (q := ⟨b15, 2, none⟩) rfl rfl Try.underlying36 rfl ti3 rfl ?_
      refine o_load1 rfl rfl Try.underlying3 rfl (rd_mem 6 rfl rfl) ?_
      refine o_move rfl rfl ?_
      refine o_bin rfl rfl rfl b_eql ?_
      refine l_eq (t := 98) (v' := .bool true) rfl (show _ = Value.bool true from by rw [b1]; simp) ?_
      refine o_move rfl rfl ?_
      refine o_yes rfl rfl rfl ?_
      refine o_fieldAddr (q := ⟨b15, 3, none⟩) rfl rfl Try.underlying36 rfl ti34 rfl ?_
      refine o_yes rfl rfl rfl ?_
      refine o_load1 rfl rfl Try.underlying34 rfl (rd_mem 6 rfl rfl) ?_
      refine o_yes rfl rfl rfl ?_
      refine o_fieldAddr (q := ⟨b12, 3, none⟩) rfl rfl Try.underlying36 rfl ti34 rfl ?_
      refine o_yes rfl rfl rfl ?_
      refine o_load1 rfl rfl Try.underlying34 rfl (rd_mem 8 rfl rfl) ?_
      refine o_yes rfl rfl rfl ?_
      refine o_bin rfl rfl rfl (b_add (wrap_u64 (by omega) (by omega))) ?_
      refine o_yes rfl rfl rfl ?_
      refine o_bin rfl rfl rfl b_eql ?_
      refine l_eq (t := 105) (v' := .bool true) rfl (show _ = Value.bool true from by rw [b2]; simp) ?_
      refine o_pick_true rfl rfl rfl ?_
      refine o_move rfl rfl ?_
      refine o_yes rfl rfl rfl ?_
      refine o_fieldAddr (q := ⟨b15, 0, none⟩) rfl rfl Try.underlying36 rfl ti4 rfl ?_
      refine o_yes rfl rfl rfl ?_
      refine o_load1 rfl rfl Try.underlying4 rfl (rd_mem 6 rfl rfl) ?_
      refine o_yes rfl rfl rfl ?_
      refine o_fieldAddr (q := ⟨b12, 0, none⟩) rfl rfl Try.underlying36 rfl ti4 rfl ?_
      refine o_yes rfl rfl rfl ?_
      refine o_load1 rfl rfl Try.underlying4 rfl (rd_mem 8 rfl rfl) ?_
      refine o_yes rfl rfl rfl ?_
      refine o_bin rfl rfl rfl (b_beq Try.underlying4 _ _) ?_
      refine l_eq (t := 112) (v' := .bool true) rfl (show _ = Value.bool true from by rw [b3]; simp) ?_
      refine o_pick_true rfl rfl rfl ?_
      refine o_move rfl rfl ?_
      refine o_yes rfl rfl rfl ?_
      refine o_fieldAddr (q := ⟨b15, 1, none⟩) rfl rfl Try.underlying36 rfl ti23 rfl ?_
      refine o_yes rfl rfl rfl ?_
      refine o_load1 rfl rfl Try.underlying23 rfl (rd_mem 6 rfl rfl) ?_
      refine o_yes rfl rfl rfl ?_
      refine o_bytesStr (e := e8) rfl rfl rfl Try.underlying23 Try.underlying5 Try.underlying9 (rds_own e8_ok 7 rfl) ?_
      refine o_yes rfl rfl rfl ?_
      refine o_fieldAddr (q := ⟨b12, 1, none⟩) rfl rfl Try.underlying36 rfl ti23 rfl ?_
      refine o_yes rfl rfl rfl ?_
      refine o_load1 rfl rfl Try.underlying23 rfl (rd_mem 8 rfl rfl) ?_
      refine o_yes rfl rfl rfl ?_
      refine o_bytesStr (e := e8) rfl rfl rfl Try.underlying23 Try.underlying5 Try.underlying9 (rds_own e8_ok 11 rfl) ?_
      refine o_yes rfl rfl rfl ?_
      refine o_bin rfl rfl rfl b_seql ?_
      refine l_eq (t := 121) (v' := .bool true) rfl (show _ = Value.bool true from by rw [decide_eq_true (by rw [b4])]) ?_
      refine o_pick_true rfl rfl rfl ?_
      refine o_move rfl rfl ?_
      refine o_yes rfl rfl rfl ?_
      refine o_fieldAddr (q := ⟨b16, 2, none⟩) rfl rfl Try.underlying36 rfl ti3 rfl ?_
      refine o_yes rfl rfl rfl ?_
      refine o_load1 rfl rfl Try.underlying3 rfl (rd_mem 3 rfl rfl) ?_
      refine o_yes rfl rfl rfl ?_
      refine o_move rfl rfl ?_
      refine o_yes rfl rfl rfl ?_
      refine o_bin rfl rfl rfl b_eql ?_
      refine l_eq (t := 127) (v' := .bool true) rfl (show _ = Value.bool true from by rw [c1]; simp) ?_
      refine o_pick_true rfl rfl rfl ?_
      refine o_move rfl rfl ?_
      refine o_yes rfl rfl rfl ?_
      refine o_fieldAddr (q := ⟨b16, 3, none⟩) rfl rfl Try.underlying36 rfl ti34 rfl ?_
      refine o_yes rfl rfl rfl ?_
      refine o_load1 rfl rfl Try.underlying34 rfl (rd_mem 3 rfl rfl) ?_
      refine o_yes rfl rfl rfl ?_
      refine o_fieldAddr (q := ⟨b15, 3, none⟩) rfl rfl Try.underlying36 rfl ti34 rfl ?_
      refine o_yes rfl rfl rfl ?_
      refine o_load1 rfl rfl Try.underlying34 rfl (rd_mem 6 rfl rfl) ?_
      refine o_yes rfl rfl rfl ?_
      refine o_bin rfl rfl rfl b_eql ?_
      refine l_eq (t := 134) (v' := .bool true) rfl (show _ = Value.bool true from by rw [c2]; simp) ?_
      refine o_pick_true rfl rfl rfl ?_
      refine o_move rfl rfl ?_
      refine o_yes rfl rfl rfl ?_
      refine o_fieldAddr (q := ⟨b17, 2, none⟩) rfl rfl Try.underlying36 rfl ti3 rfl ?_
      refine o_yes rfl rfl rfl ?_
      refine o_load1 rfl rfl Try.underlying3 rfl (rd_mem 0 rfl rfl) ?_
      refine o_yes rfl rfl rfl ?_
      refine o_move rfl rfl ?_
      refine o_yes rfl rfl rfl ?_
      refine o_bin rfl rfl rfl b_eql ?_
      refine l_eq (t := 140) (v' := .bool true) rfl (show _ = Value.bool true from by rw [d1]; simp) ?_
      refine o_pick_true rfl rfl rfl ?_
      refine o_move rfl rfl ?_
      refine o_yes rfl rfl rfl ?_
      refine o_fieldAddr (q := ⟨b17, 3, none⟩) rfl rfl Try.underlying36 rfl ti34 rfl ?_
      refine o_yes rfl rfl rfl ?_
      refine o_load1 rfl rfl Try.underlying34 rfl (rd_mem 0 rfl rfl) ?_
      refine o_yes rfl rfl rfl ?_
      refine o_fieldAddr (q := ⟨b15, 3, none⟩) rfl rfl Try.underlying36 rfl ti34 rfl ?_
      refine o_yes rfl rfl rfl ?_
      refine o_load1 rfl rfl Try.underlying34 rfl (rd_mem 6 rfl rfl) ?_
      refine o_yes rfl rfl rfl ?_
      refine o_bin rfl rfl rfl b_eql ?_
      refine l_eq (t := 147) (v' := .bool true) rfl (show _ = Value.bool true from by rw [d2]; simp) ?_
      refine o_pick_true rfl rfl rfl ?_
      refine o_move rfl rfl ?_
      refine o_yes rfl rfl rfl ?_
      refine o_fieldAddr (q := ⟨b17, 0, none⟩) rfl rfl Try.underlying36 rfl ti4 rfl ?_
      refine o_yes rfl rfl rfl ?_
      refine o_load1 rfl rfl Try.underlying4 rfl (rd_mem 0 rfl rfl) ?_
      refine o_yes rfl rfl rfl ?_
      refine o_not rfl rfl ?_
      refine l_eq (t := 152) (v' := .bool true) rfl (show _ = Value.bool true from by rw [d3]; first | done | rfl) ?_
      refine o_pick_true rfl rfl rfl ?_
      refine o_move rfl rfl ?_
      refine o_yes rfl rfl rfl ?_
      refine o_move rfl rfl ?_
      refine o_yes rfl rfl rfl ?_
      refine l_f2 ?_
      refine o_call rfl cal17 rfl (prange_ (f := ByteArray.empty) (mo := 1000) (by have h9 := hsc.len; omega)) ?_
      rintro _ _ ⟨ys156, a156, c156, hys156, rfl, rfl⟩
      refine o_yes rfl rfl rfl ?_
      refine o_len rfl rfl Try.underlying43 ?_
      refine o_yes rfl rfl rfl ?_
      refine o_move rfl rfl ?_
      refine o_yes rfl rfl rfl ?_
      refine o_bin rfl rfl rfl b_eql ?_
      refine l_eq (t := 159) (v' := .bool true) rfl (show _ = Value.bool true from by rw [decide_eq_true (by have h9 := hnum; have h8 := range_num hys50 (by rw [M_len]; have h6 := hsc.len; omega); have h7 := range_num hys156 (by rw [M_len]; have h6 := hsc.len; omega); rw [h8, h7]; first | (rw [if_pos (by assumption)] at h9; omega) | (rw [if_neg (by rw [show v48.f_Has = false by assumption]; decide)] at h9; omega))]) ?_
      refine o_pick_true rfl rfl rfl ?_
      refine o_assign rfl rfl ?_
      refine l_nil ?_
      refine q_then ?_
      refine c_ret ?_
      refine q_conv (fun w S => S.tail) ?_
      refine q_conv (fun w S => S.tail) ?_
      refine q_conv (fun w S => S.tail) ?_
      refine q_conv (fun w S => S.tail) ?_
      refine q_conv (fun w S => S.tail) ?_
      refine q_conv (fun w S => S.tail) ?_
      refine q_conv (fun w S => S.tail) ?_
      refine q_conv (fun w S => S.tail) ?_
      refine q_conv (fun w S => S.tail) ?_
      refine q_conv (fun w S => S.tail) ?_
      refine q_conv (fun w S => S.tail) ?_
      refine q_conv (fun w S => S.tail) ?_
      refine q_conv (fun w S => S.tail) ?_
      refine q_conv (fun w S => S.tail) ?_
      refine q_conv (fun w S => S.tail) ?_
      exact f_ret (r_one rfl rfl) (⟨rfl, rfl⟩) (fun w S => S)
end
section
set_option linter.unusedVariables false
set_option linter.unusedSimpArgs false
set_option maxRecDepth 10000
open Go.RowKit
theorem list4 (cs : List Value) (h : cs.length = 4) : ∃ c0 c1 c2 c3, cs = [c0, c1, c2, c3] := by
  match cs, h with
  | [c0, c1, c2, c3], _ => exact ⟨c0, c1, c2, c3, rfl⟩
def G_Op (W : World) (x : Op) : Prop := (Lit.int .i64 x.f_Kind).wf = true ∧ (Lit.int .i64 x.f_N).wf = true ∧ x.f_Key.size ≤ maxLen ∧ SlGood W e8 (fun _ : UInt8 => True) x.f_Value
theorem opens_Op (W : World) : Opens Try.prog W 32 e_Op.cells (G_Op W) where
  op := fun enc fuel cs y h => by
    obtain ⟨ys0, n0, _, _, hl0, hlen0, hf0⟩ := DataW.trod_struct Try.underlying32 h
    rw [cellsOf_ti ti32] at hl0
    obtain ⟨c0, c1, c2, c3, rfl⟩ := list4 cs hl0
    obtain ⟨z1, hz1⟩ : ∃ z, DataW.trod enc Try.prog W 0 (fun _ => true) true n0 3 [c0] = some z := by
      have hq : DataW.trod enc Try.prog W 0 (fun _ => true) true n0 3 (List.take (Try.prog.cellsOf 3) (List.drop 0 [c0, c1, c2, c3])) = ys0[0]? := hf0 0 _ rfl
      rw [cellsOf_ti ti3] at hq
      obtain ⟨z, hz⟩ : ∃ z, ys0[0]? = some z := ⟨_, List.getElem?_eq_getElem (by rw [hlen0]; decide)⟩
      exact ⟨z, by simpa [hz] using hq⟩
    obtain ⟨x2, e2, g2⟩ := (opens_int (W := W) Try.underlying3).op enc _ _ _ hz1
    simp only [List.cons.injEq, and_true] at e2
    obtain ⟨z3, hz3⟩ : ∃ z, DataW.trod enc Try.prog W 0 (fun _ => true) true n0 3 [c1] = some z := by
      have hq : DataW.trod enc Try.prog W 0 (fun _ => true) true n0 3 (List.take (Try.prog.cellsOf 3) (List.drop 1 [c0, c1, c2, c3])) = ys0[1]? := hf0 1 _ rfl
      rw [cellsOf_ti ti3] at hq
      obtain ⟨z, hz⟩ : ∃ z, ys0[1]? = some z := ⟨_, List.getElem?_eq_getElem (by rw [hlen0]; decide)⟩
      exact ⟨z, by simpa [hz] using hq⟩
    obtain ⟨x4, e4, g4⟩ := (opens_int (W := W) Try.underlying3).op enc _ _ _ hz3
    simp only [List.cons.injEq, and_true] at e4
    obtain ⟨z5, hz5⟩ : ∃ z, DataW.trod enc Try.prog W 0 (fun _ => true) true n0 9 [c2] = some z := by
      have hq : DataW.trod enc Try.prog W 0 (fun _ => true) true n0 9 (List.take (Try.prog.cellsOf 9) (List.drop 2 [c0, c1, c2, c3])) = ys0[2]? := hf0 2 _ rfl
      rw [cellsOf_ti ti9] at hq
      obtain ⟨z, hz⟩ : ∃ z, ys0[2]? = some z := ⟨_, List.getElem?_eq_getElem (by rw [hlen0]; decide)⟩
      exact ⟨z, by simpa [hz] using hq⟩
    obtain ⟨x6, e6, g6⟩ := (opens_str (W := W) Try.underlying9).op enc _ _ _ hz5
    simp only [List.cons.injEq, and_true] at e6
    obtain ⟨z7, hz7⟩ : ∃ z, DataW.trod enc Try.prog W 0 (fun _ => true) true n0 23 [c3] = some z := by
      have hq : DataW.trod enc Try.prog W 0 (fun _ => true) true n0 23 (List.take (Try.prog.cellsOf 23) (List.drop 3 [c0, c1, c2, c3])) = ys0[3]? := hf0 3 _ rfl
      rw [cellsOf_ti ti23] at hq
      obtain ⟨z, hz⟩ : ∃ z, ys0[3]? = some z := ⟨_, List.getElem?_eq_getElem (by rw [hlen0]; decide)⟩
      exact ⟨z, by simpa [hz] using hq⟩
    obtain ⟨x8, e8, g8⟩ := (opens_slice (W := W) e8_ok Try.underlying23 (opens_u8 (W := W) Try.underlying5)).op enc _ _ _ hz7
    simp only [List.cons.injEq, and_true] at e8
    subst e2
    subst e4
    subst e6
    subst e8
    exact ⟨⟨x2, x4, x6, x8⟩, rfl, ⟨g2, g4, g6, g8⟩⟩
end
end Go.Proofs.Ytnfbjidpiglabaa
