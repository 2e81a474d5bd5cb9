/- Texts of the proof: Do6, Movesp, Pagesp, Great6, Bits, Pages, Args. -/
import Derived.Test.YtnfbjidpiglabaaSPF
namespace Go.Proofs.Ytnfbjidpiglabaa
section
set_option linter.unusedVariables false
set_option linter.unusedSimpArgs false
set_option maxRecDepth 10000
open Go.RowKit Classical
set_option maxHeartbeats 2000000 in
theorem do_ {W : World} {F : List Res} {k m : Nat} {s t : SS} {o : Op} (hs : RdS W F e8 o.f_Value.a o.f_Value.xs) (hk : o.f_Key.size ≤ 500) (hv : o.f_Value.xs.length ≤ 500) (hM : s.M = t.M) (hn : s.n = t.n) (hl : s.xs.length ≤ 100000) : CS Try.prog 16 #[.pointer (some ⟨k, 0, none⟩), .pointer (some ⟨m, 0, none⟩), .agg #[.int .i64 o.f_Kind, .int .i64 o.f_N, .string o.f_Key, .slice o.f_Value.a (o.f_Value.xs).length o.f_Value.c]] W (StR k s :: RfR m t :: F) (fun r L' => ∃ s' t' : SS, Two o.f_Key s t s' t' ∧ r = .bool true ∧ L' = StR k s' :: RfR m t' :: F) := by
 refine f_door (l0 := [(0, .pointer (some ⟨k, 0, none⟩)), (1, .pointer (some ⟨m, 0, none⟩)), (2, .agg #[.int .i64 o.f_Kind, .int .i64 o.f_N, .string o.f_Key, .slice o.f_Value.a (o.f_Value.xs).length o.f_Value.c])]) Try.func16 Try.ntmps16 rfl rfl rfl ?_
 refine c_seq ?_
 refine c_fact (p := OkS s) (fun w S => StR_ok S) fun hok => ?_
 refine c_region ?_
 refine o_box rfl rfl fun b5 => ?_
 refine o_assign rfl rfl ?_
 refine l_nil ?_
 refine q_then ?_
 refine c_seq ?_
 refine c_seq ?_
 refine c_region ?_
 refine o_fieldAddr (q := ⟨b5, 0, none⟩) rfl rfl Try.underlying32 rfl ti3 rfl ?_
 refine o_load1 rfl rfl Try.underlying3 rfl (rd_mem 0 rfl rfl) ?_
 refine o_bin rfl rfl rfl (b_and rfl) ?_
 refine l_nil ?_
 refine q_then ?_
 refine c_block ?_
 refine c_seq ?_
 refine c_region ?_
 refine o_bin rfl rfl rfl b_eql ?_
 refine o_assign rfl rfl ?_
 refine l_nil ?_
 refine q_then ?_
 refine c_cond rfl (fun h1 => ?_) (fun h1 => ?_)
 · -- h1T
  have h1b := h1
  try simp only [decide_eq_true_eq] at h1
  refine c_seq ?_
  refine c_region ?_
  refine o_move rfl rfl ?_
  refine o_fieldAddr (q := ⟨b5, 2, none⟩) rfl rfl Try.underlying32 rfl ti9 rfl ?_
  refine o_load1 rfl rfl Try.underlying9 rfl (rd_mem 0 rfl rfl) ?_
  refine l_f1 ?_
  refine o_call rfl cal12 rfl (rm6_ (k' := o.f_Key) (by omega) (by omega)) ?_
  rintro _ _ ⟨s43, hsn43, hsM43, rfl⟩
  refine l_nil ?_
  refine q_then ?_
  refine c_region ?_
  refine o_move rfl rfl ?_
  refine o_fieldAddr (q := ⟨b5, 2, none⟩) rfl rfl Try.underlying32 rfl ti9 rfl ?_
  refine o_load1 rfl rfl Try.underlying9 rfl (rd_mem 1 rfl rfl) ?_
  refine l_f2 ?_
  refine o_call rfl cal33 rfl (rrm_ (k' := o.f_Key) (by omega) (by have h9 := rows_len hM; rw [M_len] at h9; omega)) ?_
  rintro _ _ ⟨t47, htn47, htM47, rfl⟩
  refine l_nil ?_
  refine q_block ?_
  refine q_then ?_
  refine c_seq ?_
  refine c_region ?_
  refine o_assign rfl rfl ?_
  refine l_nil ?_
  refine q_then ?_
  refine c_ret ?_
  refine q_conv (fun w S => (S.perm p2).tail) ?_
  refine q_conv (fun w S => S.perm p1) ?_
  exact f_ret (r_one rfl rfl) (⟨s43, t47, Two.rm hM hn hsn43 hsM43 htn47 htM47, rfl, rfl⟩) (fun w S => S)
 · -- h1F
  have h1b := h1
  try simp only [decide_eq_false_iff_not, Int.not_lt, Int.not_le] at h1
  refine c_seq ?_
  refine c_seq ?_
  refine c_region ?_
  refine o_bin rfl rfl rfl b_eql ?_
  refine o_assign rfl rfl ?_
  refine l_nil ?_
  refine q_then ?_
  refine c_cond rfl (fun h2 => ?_) (fun h2 => ?_)
  · -- h2T
   have h2b := h2
   try simp only [decide_eq_true_eq] at h2
   refine c_skip ?_
   refine q_then ?_
   refine c_cond rfl (fun h3 => ?_) (fun h3 => ?_)
   · -- h3T
    have h3b := h3
    try simp only [decide_eq_true_eq] at h3
    refine c_seq ?_
    refine c_conv (fun w S => S.perm p2) ?_
    refine c_conv (fun w S => S.perm p2) ?_
    refine c_heldF [StR k s, RfR m t] (blk b5 (.cells #[.int .i64 o.f_Kind, .int .i64 o.f_N, .string o.f_Key, .slice o.f_Value.a (o.f_Value.xs).length o.f_Value.c] 32 (0, 0)) :: F) (by kernel_rfl) ?_
    refine h_take 0 rfl rfl (by kernel_rfl) (by kernel_rfl) (by kernel_rfl) (fun L0 => v_move rfl rfl) ?_
    refine h_take 1 rfl rfl (by kernel_rfl) (by kernel_rfl) (by kernel_rfl) (fun L0 => v_fieldAddr (q := ⟨b5, 2, none⟩) rfl rfl Try.underlying32 rfl ti9 rfl) ?_
    refine h_take 2 rfl rfl (by kernel_rfl) (by kernel_rfl) (by kernel_rfl) (fun L0 => v_load1 rfl rfl Try.underlying9 rfl (rd_mem 0 rfl rfl)) ?_
    refine h_take 3 rfl rfl (by kernel_rfl) (by kernel_rfl) (by kernel_rfl) (fun L0 => v_fieldAddr (q := ⟨b5, 1, none⟩) rfl rfl Try.underlying32 rfl ti3 rfl) ?_
    refine h_take 4 rfl rfl (by kernel_rfl) (by kernel_rfl) (by kernel_rfl) (fun L0 => v_load1 rfl rfl Try.underlying3 rfl (rd_mem 0 rfl rfl)) ?_
    refine h_take 6 rfl rfl (by kernel_rfl) (by kernel_rfl) (by kernel_rfl) (fun L0 => v_move rfl rfl) ?_
    refine h_take 7 rfl rfl (by kernel_rfl) (by kernel_rfl) (by kernel_rfl) (fun L0 => v_fieldAddr (q := ⟨b5, 2, none⟩) rfl rfl Try.underlying32 rfl ti9 rfl) ?_
    refine h_take 8 rfl rfl (by kernel_rfl) (by kernel_rfl) (by kernel_rfl) (fun L0 => v_load1 rfl rfl Try.underlying9 rfl (rd_mem 0 rfl rfl)) ?_
    refine h_take 9 rfl rfl (by kernel_rfl) (by kernel_rfl) (by kernel_rfl) (fun L0 => v_fieldAddr (q := ⟨b5, 1, none⟩) rfl rfl Try.underlying32 rfl ti3 rfl) ?_
    refine h_take 10 rfl rfl (by kernel_rfl) (by kernel_rfl) (by kernel_rfl) (fun L0 => v_load1 rfl rfl Try.underlying3 rfl (rd_mem 0 rfl rfl)) ?_
    refine h_one 5 rfl (by kernel_rfl) ?_
    refine l_conv (L' := StR k s :: RfR m t :: blk b5 (.cells #[.int .i64 o.f_Kind, .int .i64 o.f_N, .string o.f_Key, .slice o.f_Value.a (o.f_Value.xs).length o.f_Value.c] 32 (0, 0)) :: F) (fun w S => S.perm List.perm_append_comm) ?_
    refine o_call rfl cal18 rfl (move6_ (k' := o.f_Key) (h := o.f_N) (by omega) (by omega)) ?_
    rintro _ _ ⟨s56, e56, hsn56, hsM56, rfl, rfl⟩
    refine l_nil ?_
    refine q_conv (L' := (blk b5 (.cells #[.int .i64 o.f_Kind, .int .i64 o.f_N, .string o.f_Key, .slice o.f_Value.a (o.f_Value.xs).length o.f_Value.c] 32 (0, 0)) :: F) ++ [StR k s56, RfR m t]) (fun w S => S.perm (List.perm_append_comm (l₁ := [StR k s56, RfR m t]) (l₂ := blk b5 (.cells #[.int .i64 o.f_Kind, .int .i64 o.f_N, .string o.f_Key, .slice o.f_Value.a (o.f_Value.xs).length o.f_Value.c] 32 (0, 0)) :: F))) ?_
    refine h_next ?_
    refine h_one 11 rfl (by kernel_rfl) ?_
    refine l_conv (L' := StR k s56 :: RfR m t :: blk b5 (.cells #[.int .i64 o.f_Kind, .int .i64 o.f_N, .string o.f_Key, .slice o.f_Value.a (o.f_Value.xs).length o.f_Value.c] 32 (0, 0)) :: F) (fun w S => S.perm List.perm_append_comm) ?_
    refine l_f1 ?_
    refine o_call rfl cal34 rfl (rmove_ (k' := o.f_Key) (h := o.f_N) (by omega) (by have h9 := rows_len hM; rw [M_len] at h9; omega)) ?_
    rintro _ _ ⟨t62, e62, htn62, htM62, rfl, rfl⟩
    refine l_nil ?_
    refine q_conv (L' := (blk b5 (.cells #[.int .i64 o.f_Kind, .int .i64 o.f_N, .string o.f_Key, .slice o.f_Value.a (o.f_Value.xs).length o.f_Value.c] 32 (0, 0)) :: F) ++ [RfR m t62, StR k s56]) (fun w S => S.perm (List.perm_append_comm (l₁ := [RfR m t62, StR k s56]) (l₂ := blk b5 (.cells #[.int .i64 o.f_Kind, .int .i64 o.f_N, .string o.f_Key, .slice o.f_Value.a (o.f_Value.xs).length o.f_Value.c] 32 (0, 0)) :: F))) ?_
    refine h_next ?_
    refine h_take 12 rfl rfl (by kernel_rfl) (by kernel_rfl) (by kernel_rfl) (fun L0 => v_bin rfl rfl rfl b_eql) ?_
    refine h_eq (t := 63) (v' := .bool true) rfl (show _ = Value.bool true from by rw [(Two.move hM hn hsn56 hsM56 htn62 htM62).1]; simp) ?_
    refine h_take 13 rfl rfl (by kernel_rfl) (by kernel_rfl) (by kernel_rfl) (fun L0 => v_assign rfl rfl) ?_
    refine h_done (by kernel_rfl) ?_
    refine q_conv (L' := RfR m t62 :: StR k s56 :: blk b5 (.cells #[.int .i64 o.f_Kind, .int .i64 o.f_N, .string o.f_Key, .slice o.f_Value.a (o.f_Value.xs).length o.f_Value.c] 32 (0, 0)) :: F) (fun w S => S.perm List.perm_append_comm) ?_
    refine q_then ?_
    refine c_ret ?_
    refine q_block_ret ?_
    refine q_pass_ret ?_
    refine q_conv (fun w S => (S.perm p2).tail) ?_
    refine q_conv (fun w S => S.perm p1) ?_
    exact f_ret (r_one rfl rfl) (⟨s56, t62, (Two.move hM hn hsn56 hsM56 htn62 htM62).2, rfl, rfl⟩) (fun w S => S)
   · -- h3F
    have h3b := h3
    try simp only [decide_eq_false_iff_not, Int.not_lt, Int.not_le] at h3
    refine c_seq ?_
    refine c_region ?_
    refine o_bin rfl rfl rfl b_eql ?_
    refine o_assign rfl rfl ?_
    refine l_nil ?_
    refine q_then ?_
    refine c_cond rfl (fun h4 => ?_) (fun h4 => ?_)
    · -- h4T
     have h4b := h4
     try simp only [decide_eq_true_eq] at h4
     refine c_seq ?_
     refine c_region ?_
     refine o_move rfl rfl ?_
     refine o_fieldAddr (q := ⟨b5, 2, none⟩) rfl rfl Try.underlying32 rfl ti9 rfl ?_
     refine o_load1 rfl rfl Try.underlying9 rfl (rd_mem 0 rfl rfl) ?_
     refine o_fieldAddr (q := ⟨b5, 1, none⟩) rfl rfl Try.underlying32 rfl ti3 rfl ?_
     refine o_load1 rfl rfl Try.underlying3 rfl (rd_mem 0 rfl rfl) ?_
     refine l_f1 ?_
     refine o_call rfl cal17 rfl (prange_ (f := o.f_Key) (mo := o.f_N) (by omega)) ?_
     rintro _ _ ⟨ys71, a71, c71, hys71, rfl, rfl⟩
     refine o_assign rfl rfl ?_
     refine l_nil ?_
     refine q_then ?_
     refine c_seq ?_
     refine c_region ?_
     refine o_move rfl rfl ?_
     refine o_move rfl rfl ?_
     refine o_fieldAddr (q := ⟨b5, 2, none⟩) rfl rfl Try.underlying32 rfl ti9 rfl ?_
     refine o_load1 rfl rfl Try.underlying9 rfl (rd_mem 3 rfl rfl) ?_
     refine o_fieldAddr (q := ⟨b5, 1, none⟩) rfl rfl Try.underlying32 rfl ti3 rfl ?_
     refine o_load1 rfl rfl Try.underlying3 rfl (rd_mem 3 rfl rfl) ?_
     refine l_f4 ?_
     refine o_call rfl cal35 rfl (rrange_ (f := o.f_Key) (mo := o.f_N) (by have h9 := rows_len hM; rw [M_len] at h9; omega)) ?_
     rintro _ _ ⟨a78, c78, rfl, rfl⟩
     refine o_call rfl cal20 rfl (same_ (xs := ys71) (ys := (rngI o.f_Key o.f_N t.xs)) (c := c71) (c2 := c78) (rds_own e_Row_ok 2 rfl) (rds_own e_Row_ok 0 rfl) (fun x hx => rds_vals 3 rfl hx) (fun x hx => rds_rf 1 rfl (rngI_in hx)) (by have h9 := rows_len hys71; have h8 := range_len (f := o.f_Key) (mo := o.f_N) (M := s.M); rw [M_len] at h8; omega)) ?_
     rintro _ _ ⟨bb79, hbb79, rfl, rfl⟩
     have hb79 : bb79 = true := hbb79.2 (by rw [hys71, rngI_m, hM]; rfl)
     refine l_eq (t := 79) (v' := .bool true) rfl (by rw [hb79]) ?_
     refine o_assign rfl rfl ?_
     refine l_nil ?_
     refine q_then ?_
     refine c_seq ?_
     refine c_region ?_
     refine o_move rfl rfl ?_
     refine l_f3 ?_
     refine l_f3 ?_
     refine o_call rfl cal24 rfl (spoil_ (ys := ys71) (c := c71) (by have h9 := rows_len hys71; have h8 := range_len (f := o.f_Key) (mo := o.f_N) (M := s.M); rw [M_len] at h8; omega) (vals_small hok fun z hz => by rw [hys71] at hz; exact range_in hz)) ?_
     rintro _ _ rfl
     refine l_nil ?_
     refine q_then ?_
     refine c_seq ?_
     refine c_region ?_
     refine o_move rfl rfl ?_
     refine o_assign rfl rfl ?_
     refine l_nil ?_
     refine q_then ?_
     refine c_ret ?_
     refine q_block_ret ?_
     refine q_pass_ret ?_
     refine q_conv (fun w S => S.tail) ?_
     refine q_conv (fun w S => (S.perm p2).tail) ?_
     refine q_conv (fun w S => S.perm p1) ?_
     exact f_ret (r_one rfl rfl) (⟨s, t, Two.same hM, rfl, rfl⟩) (fun w S => S)
    · -- h4F
     have h4b := h4
     try simp only [decide_eq_false_iff_not, Int.not_lt, Int.not_le] at h4
     refine c_seq ?_
     refine c_region ?_
     refine o_lit e8_ok rfl Try.underlying23 rfl rfl rfl (lit_ok rfl) ([] : List UInt8) rfl rfl fun a14 => ?_
     refine o_fieldAddr (q := ⟨b5, 3, none⟩) rfl rfl Try.underlying32 rfl ti23 rfl ?_
     refine o_load1 rfl rfl Try.underlying23 rfl (rd_mem 1 rfl rfl) ?_
     refine o_append e8_ok rfl rfl rfl Try.underlying23 (rds_c (rds_c (rds_c (rds_c hs)))) (by show (_ + _) * 1 ≤ _; (try simp only [List.length_append, List.length_cons, List.length_nil]); omega) (by (try simp only [List.length_append, List.length_cons, List.length_nil]); omega) fun a17 c17 => ?_
     refine o_assign rfl rfl ?_
     refine l_nil ?_
     refine q_then ?_
     refine c_seq ?_
     refine c_region ?_
     refine o_move rfl rfl ?_
     refine o_fieldAddr (q := ⟨b5, 2, none⟩) rfl rfl Try.underlying32 rfl ti9 rfl ?_
     refine o_load1 rfl rfl Try.underlying9 rfl (rd_mem 1 rfl rfl) ?_
     refine o_move rfl rfl ?_
     refine l_f2 ?_
     refine o_call rfl cal11 rfl (put6_ (k' := o.f_Key) (vs := (([] : List UInt8) ++ o.f_Value.xs)) (av := a17) (cv := c17) (rds_own e8_ok 0 rfl) (by omega) (by rw [List.nil_append]; omega) (by omega)) ?_
     rintro _ _ ⟨s22, hsn22, hsM22, rfl⟩
     refine l_nil ?_
     refine q_then ?_
     refine c_seq ?_
     refine c_region ?_
     refine o_move rfl rfl ?_
     refine o_fieldAddr (q := ⟨b5, 2, none⟩) rfl rfl Try.underlying32 rfl ti9 rfl ?_
     refine o_load1 rfl rfl Try.underlying9 rfl (rd_mem 2 rfl rfl) ?_
     refine o_fieldAddr (q := ⟨b5, 3, none⟩) rfl rfl Try.underlying32 rfl ti23 rfl ?_
     refine o_load1 rfl rfl Try.underlying23 rfl (rd_mem 2 rfl rfl) ?_
     refine l_f3 ?_
     refine o_call rfl cal36 rfl (rput_ (k' := o.f_Key) (vs := o.f_Value.xs) (av := o.f_Value.a) (cv := o.f_Value.c) (rds_c (rds_c (rds_c hs))) (by omega) (by omega) (by have h9 := rows_len hM; rw [M_len] at h9; omega)) ?_
     rintro _ _ ⟨t28, htn28, htM28, rfl⟩
     refine l_nil ?_
     refine q_then ?_
     refine c_seq ?_
     have hna : (([] : List UInt8) ++ o.f_Value.xs).length = o.f_Value.xs.length := by rw [List.nil_append]
     refine c_region ?_
     refine o_move rfl rfl ?_
     refine o_len rfl rfl Try.underlying23 ?_
     refine o_move rfl rfl ?_
     refine l_nil ?_
     refine q_then ?_
     refine c_block ?_
     refine c_loop (α := Nat × (List UInt8)) (fun z => [(9, .slice a17 (z.2).length c17), (30, .int .i64 ((([] : List UInt8) ++ o.f_Value.xs).length : Int)), (31, .int .i64 (z.1 : Int))]) (fun z => RfR m t28 :: StR k s22 :: row e8.T e8.sz a17 (z.2).length c17 (flat e8 z.2) :: blk b5 (.cells #[.int .i64 o.f_Kind, .int .i64 o.f_N, .string o.f_Key, .slice o.f_Value.a (o.f_Value.xs).length o.f_Value.c] 32 (0, 0)) :: F) (fun z => z.1 ≤ o.f_Value.xs.length ∧ z.2.length = o.f_Value.xs.length) (fun z => o.f_Value.xs.length - z.1) (0, ([] : List UInt8) ++ o.f_Value.xs) (by exact ⟨Nat.zero_le _, by simp⟩) ⟨rfl, (by first | rfl | exact vint (by omega)), (by first | rfl | exact vint (by omega)), trivial⟩ (fun w S => S) ?_
     rintro ⟨q, B⟩ ⟨hq, hB⟩
     try dsimp only at *
     refine c_seq ?_
     refine c_region ?_
     refine o_bin rfl rfl rfl b_lss ?_
     refine l_nil ?_
     refine q_then ?_
     refine c_seq ?_
     refine c_cond rfl (fun h5 => ?_) (fun h5 => ?_)
     · -- h5T
      have h5b := h5
      try simp only [decide_eq_true_eq] at h5
      refine c_skip ?_
      refine q_then ?_
      refine c_seq ?_
      refine c_block ?_
      refine c_seq ?_
      refine c_region ?_
      refine o_move rfl rfl ?_
      refine o_assign rfl rfl ?_
      refine l_nil ?_
      refine q_then ?_
      refine c_region ?_
      refine o_move rfl rfl ?_
      refine o_move rfl rfl ?_
      refine o_index e8_ok rfl rfl rfl Try.underlying23 (by omega) (by omega) (rds_own e8_ok 2 rfl) fun ad36 ead36 => ?_
      obtain ⟨x36, hx36⟩ : ∃ x, (B)[((q : Int)).toNat]? = some x := ⟨_, List.getElem?_eq_getElem (by omega)⟩
      refine l_f2 ?_
      refine o_storeRow0 (x1 := (238 : UInt8)) e8_ok ead36 rfl rfl rfl ti5 hx36 rfl ?_
      refine l_nil ?_
      refine q_block ?_
      refine q_then ?_
      refine c_region ?_
      refine o_bin rfl rfl rfl (b_add (wrap_i64 (by omega) (by omega))) ?_
      refine o_move rfl rfl ?_
      refine l_nil ?_
      refine q_conv (fun w S => S.perm p3) ?_
      refine q_conv (fun w S => S.perm p1) ?_
      refine q_conv (fun w S => S.perm p3) ?_
      refine q_conv (fun w S => S.perm p3) ?_
      exact q_round (q + 1, (B).set ((q : Int)).toNat (238 : UInt8)) (by exact ⟨by omega, by rw [List.length_set]; exact hB⟩) (by (try dsimp only); omega) ⟨(by rw [List.length_set]; rfl), (by first | rfl | exact vint (by omega)), (by first | rfl | exact vint (by omega)), trivial⟩ (fun w S => S)
     · -- h5F
      have h5b := h5
      try simp only [decide_eq_false_iff_not, Int.not_lt, Int.not_le] at h5
      refine c_exit ?_
      refine q_pass_exit ?_
      refine q_pass_exit ?_
      refine q_hit ?_
      refine q_block ?_
      refine q_then ?_
      refine c_seq ?_
      refine c_region ?_
      refine o_assign rfl rfl ?_
      refine l_nil ?_
      refine q_then ?_
      refine c_ret ?_
      refine q_conv (fun w S => (S.perm p2).tail) ?_
      refine q_conv (fun w S => (S.perm p2).tail) ?_
      refine q_conv (fun w S => S.perm p1) ?_
      exact f_ret (r_one rfl rfl) (⟨s22, t28, Two.put hM hn hsn22 hsM22 htn28 htM28, rfl, rfl⟩) (fun w S => S)
  · -- h2F
   have h2b := h2
   try simp only [decide_eq_false_iff_not, Int.not_lt, Int.not_le] at h2
   refine c_region ?_
   refine o_bin rfl rfl rfl b_eql ?_
   refine o_assign rfl rfl ?_
   refine l_nil ?_
   refine q_then ?_
   refine c_cond rfl (fun h6 => ?_) (fun h6 => ?_)
   · -- h6T
    have h6b := h6
    try simp only [decide_eq_true_eq] at h6
    refine c_seq ?_
    refine c_conv (fun w S => S.perm p2) ?_
    refine c_conv (fun w S => S.perm p2) ?_
    refine c_heldF [StR k s, RfR m t] (blk b5 (.cells #[.int .i64 o.f_Kind, .int .i64 o.f_N, .string o.f_Key, .slice o.f_Value.a (o.f_Value.xs).length o.f_Value.c] 32 (0, 0)) :: F) (by kernel_rfl) ?_
    refine h_take 0 rfl rfl (by kernel_rfl) (by kernel_rfl) (by kernel_rfl) (fun L0 => v_move rfl rfl) ?_
    refine h_take 1 rfl rfl (by kernel_rfl) (by kernel_rfl) (by kernel_rfl) (fun L0 => v_fieldAddr (q := ⟨b5, 2, none⟩) rfl rfl Try.underlying32 rfl ti9 rfl) ?_
    refine h_take 2 rfl rfl (by kernel_rfl) (by kernel_rfl) (by kernel_rfl) (fun L0 => v_load1 rfl rfl Try.underlying9 rfl (rd_mem 0 rfl rfl)) ?_
    refine h_take 3 rfl rfl (by kernel_rfl) (by kernel_rfl) (by kernel_rfl) (fun L0 => v_fieldAddr (q := ⟨b5, 1, none⟩) rfl rfl Try.underlying32 rfl ti3 rfl) ?_
    refine h_take 4 rfl rfl (by kernel_rfl) (by kernel_rfl) (by kernel_rfl) (fun L0 => v_load1 rfl rfl Try.underlying3 rfl (rd_mem 0 rfl rfl)) ?_
    refine h_take 6 rfl rfl (by kernel_rfl) (by kernel_rfl) (by kernel_rfl) (fun L0 => v_move rfl rfl) ?_
    refine h_take 7 rfl rfl (by kernel_rfl) (by kernel_rfl) (by kernel_rfl) (fun L0 => v_fieldAddr (q := ⟨b5, 2, none⟩) rfl rfl Try.underlying32 rfl ti9 rfl) ?_
    refine h_take 8 rfl rfl (by kernel_rfl) (by kernel_rfl) (by kernel_rfl) (fun L0 => v_load1 rfl rfl Try.underlying9 rfl (rd_mem 0 rfl rfl)) ?_
    refine h_take 9 rfl rfl (by kernel_rfl) (by kernel_rfl) (by kernel_rfl) (fun L0 => v_fieldAddr (q := ⟨b5, 1, none⟩) rfl rfl Try.underlying32 rfl ti3 rfl) ?_
    refine h_take 10 rfl rfl (by kernel_rfl) (by kernel_rfl) (by kernel_rfl) (fun L0 => v_load1 rfl rfl Try.underlying3 rfl (rd_mem 0 rfl rfl)) ?_
    refine h_one 5 rfl (by kernel_rfl) ?_
    refine l_conv (L' := StR k s :: RfR m t :: blk b5 (.cells #[.int .i64 o.f_Kind, .int .i64 o.f_N, .string o.f_Key, .slice o.f_Value.a (o.f_Value.xs).length o.f_Value.c] 32 (0, 0)) :: F) (fun w S => S.perm List.perm_append_comm) ?_
    refine o_call rfl cal18 rfl (move6_ (k' := o.f_Key) (h := o.f_N) (by omega) (by omega)) ?_
    rintro _ _ ⟨s56, e56, hsn56, hsM56, rfl, rfl⟩
    refine l_nil ?_
    refine q_conv (L' := (blk b5 (.cells #[.int .i64 o.f_Kind, .int .i64 o.f_N, .string o.f_Key, .slice o.f_Value.a (o.f_Value.xs).length o.f_Value.c] 32 (0, 0)) :: F) ++ [StR k s56, RfR m t]) (fun w S => S.perm (List.perm_append_comm (l₁ := [StR k s56, RfR m t]) (l₂ := blk b5 (.cells #[.int .i64 o.f_Kind, .int .i64 o.f_N, .string o.f_Key, .slice o.f_Value.a (o.f_Value.xs).length o.f_Value.c] 32 (0, 0)) :: F))) ?_
    refine h_next ?_
    refine h_one 11 rfl (by kernel_rfl) ?_
    refine l_conv (L' := StR k s56 :: RfR m t :: blk b5 (.cells #[.int .i64 o.f_Kind, .int .i64 o.f_N, .string o.f_Key, .slice o.f_Value.a (o.f_Value.xs).length o.f_Value.c] 32 (0, 0)) :: F) (fun w S => S.perm List.perm_append_comm) ?_
    refine l_f1 ?_
    refine o_call rfl cal34 rfl (rmove_ (k' := o.f_Key) (h := o.f_N) (by omega) (by have h9 := rows_len hM; rw [M_len] at h9; omega)) ?_
    rintro _ _ ⟨t62, e62, htn62, htM62, rfl, rfl⟩
    refine l_nil ?_
    refine q_conv (L' := (blk b5 (.cells #[.int .i64 o.f_Kind, .int .i64 o.f_N, .string o.f_Key, .slice o.f_Value.a (o.f_Value.xs).length o.f_Value.c] 32 (0, 0)) :: F) ++ [RfR m t62, StR k s56]) (fun w S => S.perm (List.perm_append_comm (l₁ := [RfR m t62, StR k s56]) (l₂ := blk b5 (.cells #[.int .i64 o.f_Kind, .int .i64 o.f_N, .string o.f_Key, .slice o.f_Value.a (o.f_Value.xs).length o.f_Value.c] 32 (0, 0)) :: F))) ?_
    refine h_next ?_
    refine h_take 12 rfl rfl (by kernel_rfl) (by kernel_rfl) (by kernel_rfl) (fun L0 => v_bin rfl rfl rfl b_eql) ?_
    refine h_eq (t := 63) (v' := .bool true) rfl (show _ = Value.bool true from by rw [(Two.move hM hn hsn56 hsM56 htn62 htM62).1]; simp) ?_
    refine h_take 13 rfl rfl (by kernel_rfl) (by kernel_rfl) (by kernel_rfl) (fun L0 => v_assign rfl rfl) ?_
    refine h_done (by kernel_rfl) ?_
    refine q_conv (L' := RfR m t62 :: StR k s56 :: blk b5 (.cells #[.int .i64 o.f_Kind, .int .i64 o.f_N, .string o.f_Key, .slice o.f_Value.a (o.f_Value.xs).length o.f_Value.c] 32 (0, 0)) :: F) (fun w S => S.perm List.perm_append_comm) ?_
    refine q_then ?_
    refine c_ret ?_
    refine q_block_ret ?_
    refine q_pass_ret ?_
    refine q_conv (fun w S => (S.perm p2).tail) ?_
    refine q_conv (fun w S => S.perm p1) ?_
    exact f_ret (r_one rfl rfl) (⟨s56, t62, (Two.move hM hn hsn56 hsM56 htn62 htM62).2, rfl, rfl⟩) (fun w S => S)
   · -- h6F
    have h6b := h6
    try simp only [decide_eq_false_iff_not, Int.not_lt, Int.not_le] at h6
    refine c_seq ?_
    refine c_region ?_
    refine o_bin rfl rfl rfl b_eql ?_
    refine o_assign rfl rfl ?_
    refine l_nil ?_
    refine q_then ?_
    refine c_cond rfl (fun h7 => ?_) (fun h7 => ?_)
    · -- h7T
     have h7b := h7
     try simp only [decide_eq_true_eq] at h7
     refine c_seq ?_
     refine c_region ?_
     refine o_move rfl rfl ?_
     refine o_fieldAddr (q := ⟨b5, 2, none⟩) rfl rfl Try.underlying32 rfl ti9 rfl ?_
     refine o_load1 rfl rfl Try.underlying9 rfl (rd_mem 0 rfl rfl) ?_
     refine o_fieldAddr (q := ⟨b5, 1, none⟩) rfl rfl Try.underlying32 rfl ti3 rfl ?_
     refine o_load1 rfl rfl Try.underlying3 rfl (rd_mem 0 rfl rfl) ?_
     refine l_f1 ?_
     refine o_call rfl cal17 rfl (prange_ (f := o.f_Key) (mo := o.f_N) (by omega)) ?_
     rintro _ _ ⟨ys71, a71, c71, hys71, rfl, rfl⟩
     refine o_assign rfl rfl ?_
     refine l_nil ?_
     refine q_then ?_
     refine c_seq ?_
     refine c_region ?_
     refine o_move rfl rfl ?_
     refine o_move rfl rfl ?_
     refine o_fieldAddr (q := ⟨b5, 2, none⟩) rfl rfl Try.underlying32 rfl ti9 rfl ?_
     refine o_load1 rfl rfl Try.underlying9 rfl (rd_mem 3 rfl rfl) ?_
     refine o_fieldAddr (q := ⟨b5, 1, none⟩) rfl rfl Try.underlying32 rfl ti3 rfl ?_
     refine o_load1 rfl rfl Try.underlying3 rfl (rd_mem 3 rfl rfl) ?_
     refine l_f4 ?_
     refine o_call rfl cal35 rfl (rrange_ (f := o.f_Key) (mo := o.f_N) (by have h9 := rows_len hM; rw [M_len] at h9; omega)) ?_
     rintro _ _ ⟨a78, c78, rfl, rfl⟩
     refine o_call rfl cal20 rfl (same_ (xs := ys71) (ys := (rngI o.f_Key o.f_N t.xs)) (c := c71) (c2 := c78) (rds_own e_Row_ok 2 rfl) (rds_own e_Row_ok 0 rfl) (fun x hx => rds_vals 3 rfl hx) (fun x hx => rds_rf 1 rfl (rngI_in hx)) (by have h9 := rows_len hys71; have h8 := range_len (f := o.f_Key) (mo := o.f_N) (M := s.M); rw [M_len] at h8; omega)) ?_
     rintro _ _ ⟨bb79, hbb79, rfl, rfl⟩
     have hb79 : bb79 = true := hbb79.2 (by rw [hys71, rngI_m, hM]; rfl)
     refine l_eq (t := 79) (v' := .bool true) rfl (by rw [hb79]) ?_
     refine o_assign rfl rfl ?_
     refine l_nil ?_
     refine q_then ?_
     refine c_seq ?_
     refine c_region ?_
     refine o_move rfl rfl ?_
     refine l_f3 ?_
     refine l_f3 ?_
     refine o_call rfl cal24 rfl (spoil_ (ys := ys71) (c := c71) (by have h9 := rows_len hys71; have h8 := range_len (f := o.f_Key) (mo := o.f_N) (M := s.M); rw [M_len] at h8; omega) (vals_small hok fun z hz => by rw [hys71] at hz; exact range_in hz)) ?_
     rintro _ _ rfl
     refine l_nil ?_
     refine q_then ?_
     refine c_seq ?_
     refine c_region ?_
     refine o_move rfl rfl ?_
     refine o_assign rfl rfl ?_
     refine l_nil ?_
     refine q_then ?_
     refine c_ret ?_
     refine q_block_ret ?_
     refine q_pass_ret ?_
     refine q_conv (fun w S => S.tail) ?_
     refine q_conv (fun w S => (S.perm p2).tail) ?_
     refine q_conv (fun w S => S.perm p1) ?_
     exact f_ret (r_one rfl rfl) (⟨s, t, Two.same hM, rfl, rfl⟩) (fun w S => S)
    · -- h7F
     have h7b := h7
     try simp only [decide_eq_false_iff_not, Int.not_lt, Int.not_le] at h7
     refine c_seq ?_
     refine c_region ?_
     refine o_lit e8_ok rfl Try.underlying23 rfl rfl rfl (lit_ok rfl) ([] : List UInt8) rfl rfl fun a14 => ?_
     refine o_fieldAddr (q := ⟨b5, 3, none⟩) rfl rfl Try.underlying32 rfl ti23 rfl ?_
     refine o_load1 rfl rfl Try.underlying23 rfl (rd_mem 1 rfl rfl) ?_
     refine o_append e8_ok rfl rfl rfl Try.underlying23 (rds_c (rds_c (rds_c (rds_c hs)))) (by show (_ + _) * 1 ≤ _; (try simp only [List.length_append, List.length_cons, List.length_nil]); omega) (by (try simp only [List.length_append, List.length_cons, List.length_nil]); omega) fun a17 c17 => ?_
     refine o_assign rfl rfl ?_
     refine l_nil ?_
     refine q_then ?_
     refine c_seq ?_
     refine c_region ?_
     refine o_move rfl rfl ?_
     refine o_fieldAddr (q := ⟨b5, 2, none⟩) rfl rfl Try.underlying32 rfl ti9 rfl ?_
     refine o_load1 rfl rfl Try.underlying9 rfl (rd_mem 1 rfl rfl) ?_
     refine o_move rfl rfl ?_
     refine l_f2 ?_
     refine o_call rfl cal11 rfl (put6_ (k' := o.f_Key) (vs := (([] : List UInt8) ++ o.f_Value.xs)) (av := a17) (cv := c17) (rds_own e8_ok 0 rfl) (by omega) (by rw [List.nil_append]; omega) (by omega)) ?_
     rintro _ _ ⟨s22, hsn22, hsM22, rfl⟩
     refine l_nil ?_
     refine q_then ?_
     refine c_seq ?_
     refine c_region ?_
     refine o_move rfl rfl ?_
     refine o_fieldAddr (q := ⟨b5, 2, none⟩) rfl rfl Try.underlying32 rfl ti9 rfl ?_
     refine o_load1 rfl rfl Try.underlying9 rfl (rd_mem 2 rfl rfl) ?_
     refine o_fieldAddr (q := ⟨b5, 3, none⟩) rfl rfl Try.underlying32 rfl ti23 rfl ?_
     refine o_load1 rfl rfl Try.underlying23 rfl (rd_mem 2 rfl rfl) ?_
     refine l_f3 ?_
     refine o_call rfl cal36 rfl (rput_ (k' := o.f_Key) (vs := o.f_Value.xs) (av := o.f_Value.a) (cv := o.f_Value.c) (rds_c (rds_c (rds_c hs))) (by omega) (by omega) (by have h9 := rows_len hM; rw [M_len] at h9; omega)) ?_
     rintro _ _ ⟨t28, htn28, htM28, rfl⟩
     refine l_nil ?_
     refine q_then ?_
     refine c_seq ?_
     have hna : (([] : List UInt8) ++ o.f_Value.xs).length = o.f_Value.xs.length := by rw [List.nil_append]
     refine c_region ?_
     refine o_move rfl rfl ?_
     refine o_len rfl rfl Try.underlying23 ?_
     refine o_move rfl rfl ?_
     refine l_nil ?_
     refine q_then ?_
     refine c_block ?_
     refine c_loop (α := Nat × (List UInt8)) (fun z => [(9, .slice a17 (z.2).length c17), (30, .int .i64 ((([] : List UInt8) ++ o.f_Value.xs).length : Int)), (31, .int .i64 (z.1 : Int))]) (fun z => RfR m t28 :: StR k s22 :: row e8.T e8.sz a17 (z.2).length c17 (flat e8 z.2) :: blk b5 (.cells #[.int .i64 o.f_Kind, .int .i64 o.f_N, .string o.f_Key, .slice o.f_Value.a (o.f_Value.xs).length o.f_Value.c] 32 (0, 0)) :: F) (fun z => z.1 ≤ o.f_Value.xs.length ∧ z.2.length = o.f_Value.xs.length) (fun z => o.f_Value.xs.length - z.1) (0, ([] : List UInt8) ++ o.f_Value.xs) (by exact ⟨Nat.zero_le _, by simp⟩) ⟨rfl, (by first | rfl | exact vint (by omega)), (by first | rfl | exact vint (by omega)), trivial⟩ (fun w S => S) ?_
     rintro ⟨q, B⟩ ⟨hq, hB⟩
     try dsimp only at *
     refine c_seq ?_
     refine c_region ?_
     refine o_bin rfl rfl rfl b_lss ?_
     refine l_nil ?_
     refine q_then ?_
     refine c_seq ?_
     refine c_cond rfl (fun h8 => ?_) (fun h8 => ?_)
     · -- h8T
      have h8b := h8
      try simp only [decide_eq_true_eq] at h8
      refine c_skip ?_
      refine q_then ?_
      refine c_seq ?_
      refine c_block ?_
      refine c_seq ?_
      refine c_region ?_
      refine o_move rfl rfl ?_
      refine o_assign rfl rfl ?_
      refine l_nil ?_
      refine q_then ?_
      refine c_region ?_
      refine o_move rfl rfl ?_
      refine o_move rfl rfl ?_
      refine o_index e8_ok rfl rfl rfl Try.underlying23 (by omega) (by omega) (rds_own e8_ok 2 rfl) fun ad36 ead36 => ?_
      obtain ⟨x36, hx36⟩ : ∃ x, (B)[((q : Int)).toNat]? = some x := ⟨_, List.getElem?_eq_getElem (by omega)⟩
      refine l_f2 ?_
      refine o_storeRow0 (x1 := (238 : UInt8)) e8_ok ead36 rfl rfl rfl ti5 hx36 rfl ?_
      refine l_nil ?_
      refine q_block ?_
      refine q_then ?_
      refine c_region ?_
      refine o_bin rfl rfl rfl (b_add (wrap_i64 (by omega) (by omega))) ?_
      refine o_move rfl rfl ?_
      refine l_nil ?_
      refine q_conv (fun w S => S.perm p3) ?_
      refine q_conv (fun w S => S.perm p1) ?_
      refine q_conv (fun w S => S.perm p3) ?_
      refine q_conv (fun w S => S.perm p3) ?_
      exact q_round (q + 1, (B).set ((q : Int)).toNat (238 : UInt8)) (by exact ⟨by omega, by rw [List.length_set]; exact hB⟩) (by (try dsimp only); omega) ⟨(by rw [List.length_set]; rfl), (by first | rfl | exact vint (by omega)), (by first | rfl | exact vint (by omega)), trivial⟩ (fun w S => S)
     · -- h8F
      have h8b := h8
      try simp only [decide_eq_false_iff_not, Int.not_lt, Int.not_le] at h8
      refine c_exit ?_
      refine q_pass_exit ?_
      refine q_pass_exit ?_
      refine q_hit ?_
      refine q_block ?_
      refine q_then ?_
      refine c_seq ?_
      refine c_region ?_
      refine o_assign rfl rfl ?_
      refine l_nil ?_
      refine q_then ?_
      refine c_ret ?_
      refine q_conv (fun w S => (S.perm p2).tail) ?_
      refine q_conv (fun w S => (S.perm p2).tail) ?_
      refine q_conv (fun w S => S.perm p1) ?_
      exact f_ret (r_one rfl rfl) (⟨s22, t28, Two.put hM hn hsn22 hsM22 htn28 htM28, rfl, rfl⟩) (fun w S => S)
end
section
set_option linter.unusedVariables false
set_option linter.unusedSimpArgs false
open Go.RowKit Classical
theorem srt_M {xs : List ItA} (h : Srt ItA.f_key strlt xs) : Srt Prod.fst strlt (xs.map proj) := by
  unfold Srt at h ⊢
  exact List.pairwise_map.2 h
def s0 : ByteArray := ⟨#[]⟩
theorem not_lt0 {k : ByteArray} : ¬ strlt k s0 := fun h => by
  unfold strlt slt at h
  cases hk : k.data.toList <;> rw [hk] at h <;> simp [s0, Go.Op.bytesLess] at h
theorem range_all {M : Rows} (hl : M.length ≤ 1000) : rangeM s0 1000 M = M.filter fun z => z.2.has := by
  unfold rangeM
  have e : (fun z : ByteArray × RecM => decide (¬ strlt z.1 s0) && z.2.has) = fun z => z.2.has := by
    funext z; rw [decide_eq_true not_lt0, Bool.true_and]
  rw [e]
  exact List.take_of_length_le (Nat.le_trans (List.length_filter_le _ _) hl)
/-- The rows of a script so far. -/
structure Script (n : Int) (i : Nat) (s t : SS) : Prop where
  n1 : s.n = n
  n2 : t.n = n
  M : s.M = t.M
  len : s.xs.length ≤ i
  cnt : Cnt i s.M
  key : ∀ z ∈ s.M, z.1.size ≤ 500
theorem Script.start {n : Int} {s t : SS} (h1 : s = ⟨n, []⟩) (h2 : t = ⟨n, []⟩) : Script n 0 s t := by
  subst h1 h2
  exact ⟨rfl, rfl, rfl, Nat.le_refl _, ⟨Int.le_refl _, fun z hz => by simp [SS.M] at hz⟩, fun z hz => by simp [SS.M] at hz⟩
theorem Script.on {n : Int} {i : Nat} {s t s' t' : SS} {k : ByteArray} (h : Script n i s t) (h2 : Two k s t s' t') (hk : k.size ≤ 500) : Script n (i + 1) s' t' :=
  ⟨h2.n1.trans h.n1, h2.n2.trans h.n2, h2.M, by have := h2.len; have := h.len; omega, by have := h2.cnt _ h.cnt; rw [Int.natCast_add]; exact this, fun z hz => by
    rcases h2.key z hz with rfl | ⟨y, hy, h3⟩
    · exact hk
    · rw [← h3]; exact h.key y hy⟩
theorem Script.eq {n : Int} {i : Nat} {s t : SS} (h : Script n i s t) : s.n = t.n := h.n1.trans h.n2.symm
end
section
set_option linter.unusedVariables false
set_option linter.unusedSimpArgs false
open Go.RowKit Classical
theorem b_sadd {P : Program} {t : TypeId} {x y : Operand} {s u : ByteArray} (h : s.size + u.size ≤ 1000000) : BinV P .add t x y (.string s) (.string u) (.string (s ++ u)) := fun w => by
  simp [eqGuard, binOp, Op.stringOp]
  omega
theorem bl_snoc : ∀ {a b : List UInt8}, Go.Op.bytesLess a (b ++ [0]) = !Go.Op.bytesLess b a
  | [], [] => rfl
  | [], y :: b => by simp [Go.Op.bytesLess]
  | x :: a, [] => by
    have h : ¬ x < 0 := by rw [UInt8.lt_iff_toNat_lt]; simp
    cases a <;> simp [Go.Op.bytesLess, h]
  | x :: a, y :: b => by
    have ih := bl_snoc (a := a) (b := b)
    show (decide (x < y) || (x == y && Go.Op.bytesLess a (b ++ [0]))) = !(decide (y < x) || (y == x && Go.Op.bytesLess b a))
    rw [ih]
    by_cases h1 : x = y
    · subst h1
      have hx : ¬ x < x := by rw [UInt8.lt_iff_toNat_lt]; omega
      simp [hx]
    · have h2 : ¬ y = x := fun h => h1 h.symm
      have h4 : ¬ x.toNat = y.toNat := fun h => h1 (UInt8.toNat_inj.1 h)
      by_cases h3 : x < y
      · have h5 : ¬ y < x := by rw [UInt8.lt_iff_toNat_lt] at h3 ⊢; omega
        simp [h1, h2, h3, h5]
      · have h5 : y < x := by rw [UInt8.lt_iff_toNat_lt] at h3 ⊢; omega
        simp [h1, h2, h3, h5]
def z0 : ByteArray := ⟨#[0]⟩
theorem lt_snoc {y k : ByteArray} : strlt y (k ++ z0) ↔ ¬ strlt k y := by
  unfold strlt slt
  have e : (k ++ z0).data.toList = k.data.toList ++ [0] := by simp [z0]
  rw [e, bl_snoc]
  cases Go.Op.bytesLess k.data.toList y.data.toList <;> simp
/-- Keys with values. -/
def hasR (M : Rows) : Rows := M.filter fun z => z.2.has
noncomputable def fromR (f : ByteArray) (A : Rows) : Rows := A.filter fun z => decide (¬ strlt z.1 f)
theorem range_from {f : ByteArray} {n : Int} {M : Rows} : rangeM f n M = (fromR f (hasR M)).take n.toNat := by
  unfold rangeM fromR hasR
  rw [List.filter_filter]
theorem from_0 {A : Rows} : fromR s0 A = A := by
  unfold fromR
  exact List.filter_eq_self.2 fun z _ => decide_eq_true not_lt0
theorem from_next {A : Rows} {j : Nat} {z : ByteArray × RecM} (hs : Srt Prod.fst strlt A) (h : A[j]? = some z) : fromR (z.1 ++ z0) A = A.drop (j + 1) := by
  have e := take_get h
  have hs2 := hs
  rw [e] at hs2
  have hp := List.pairwise_append.1 hs2
  have hq := List.pairwise_cons.1 hp.2.1
  unfold fromR
  conv => lhs; rw [e]
  rw [List.filter_append, List.filter_eq_nil_iff.2 fun y hy => by
    have h1 : ¬ strlt z.1 y.1 := fun h2 => strlt_sto.irr _ (strlt_sto.tr h2 (hp.2.2 y hy z (by simp)))
    rw [decide_eq_false (fun h3 => h3 (lt_snoc.2 h1))]; decide]
  rw [List.filter_cons_of_neg (by rw [decide_eq_false (fun h3 => h3 (lt_snoc.2 (strlt_sto.irr z.1)))]; decide), List.nil_append]
  exact List.filter_eq_self.2 fun y hy => decide_eq_true fun h3 => lt_snoc.1 h3 (hq.1 y hy)
/-- The pages so far. -/
structure Pages (A : Rows) (c : Nat) (f : ByteArray) (O : List ItA) : Prop where
  is : O.map proj = A.take c
  rest : fromR f A = A.drop c
  le : c ≤ A.length
theorem Pages.start {A : Rows} : Pages A 0 s0 [] := ⟨by simp, by rw [from_0, List.drop_zero], Nat.zero_le _⟩
theorem Pages.page {M : Rows} {c n : Nat} {f : ByteArray} {O P : List ItA} (h : Pages (hasR M) c f O) (hP : P.map proj = rangeM f (n : Int) M) : P.map proj = ((hasR M).drop c).take n := by
  rw [hP, range_from, h.rest]; rfl
theorem Pages.le' {M : Rows} {c n : Nat} {f : ByteArray} {O P : List ItA} (h : Pages (hasR M) c f O) (hP : P.map proj = rangeM f (n : Int) M) : P.length ≤ n := by
  have := congrArg List.length (h.page hP)
  rw [List.length_map, List.length_take] at this; omega
theorem Pages.done {M : Rows} {c n : Nat} {f : ByteArray} {O P : List ItA} (h : Pages (hasR M) c f O) (hP : P.map proj = rangeM f (n : Int) M) (hl : P.length < n) : (O ++ P).map proj = hasR M := by
  have h1 := h.page hP
  have h2 := congrArg List.length h1
  rw [List.length_map, List.length_take] at h2
  rw [List.map_append, h.is, h1, List.take_of_length_le (i := n) (by omega), List.take_append_drop]
theorem Pages.on {M : Rows} {c n : Nat} {f : ByteArray} {O P : List ItA} {y : ItA} (hs : Srt Prod.fst strlt M) (h : Pages (hasR M) c f O) (hP : P.map proj = rangeM f (n : Int) M) (hn : 1 ≤ n) (hl : n ≤ P.length) (hy : P[P.length - 1]? = some y) : Pages (hasR M) (c + n) (y.f_key ++ z0) (O ++ P) := by
  have h1 := h.page hP
  have h2 := congrArg List.length h1
  rw [List.length_map, List.length_take, List.length_drop] at h2
  have hle := h.le
  refine ⟨by rw [List.map_append, h.is, h1, List.take_add], ?_, by omega⟩
  have h3 : (hasR M)[c + n - 1]? = some (proj y) := by
    have h4 : (P.map proj)[P.length - 1]? = some (proj y) := by rw [List.getElem?_map, hy]; rfl
    rw [h1, List.getElem?_take_of_lt (by omega), List.getElem?_drop] at h4
    rw [show c + n - 1 = c + (P.length - 1) by omega]; exact h4
  have h5 := from_next (A := hasR M) (List.Pairwise.filter _ hs) h3
  rw [show c + n - 1 + 1 = c + n by omega] at h5
  exact h5
theorem Pages.bd {n : Int} {i : Nat} {s t : SS} {c : Nat} {f : ByteArray} {O : List ItA} (hS : Script n i s t) (h : Pages (hasR s.M) c f O) : c ≤ i ∧ O.length ≤ i := by
  have h1 := h.le
  have h2 : (hasR s.M).length ≤ s.M.length := List.length_filter_le _ _
  rw [M_len] at h2
  have h3 := hS.len
  have h4 := congrArg List.length h.is
  rw [List.length_map, List.length_take] at h4
  omega
section
variable {W w : World} {L : List Res}
theorem Sat.vals_cat {xs ys : List ItA} (S : Sat W w (vals xs :: vals ys :: L)) : Sat W w (vals (xs ++ ys) :: L) := by
  unfold vals at S ⊢
  rw [List.map_append]
  have h : Sat W w (vals xs :: vals ys :: L) := S
  exact Sat.unflat (Ls := xs.map vR ++ ys.map vR) (by
    rw [List.append_assoc]
    have h1 : Sat W w (xs.map vR ++ (stars (ys.map vR) :: L)) := Sat.flat (Ls := xs.map vR) S
    have h2 : Sat W w (stars (ys.map vR) :: (xs.map vR ++ L)) := h1.perm List.perm_middle
    have h3 : Sat W w (ys.map vR ++ (xs.map vR ++ L)) := Sat.flat (Ls := ys.map vR) h2
    exact h3.perm (by rw [← List.append_assoc, ← List.append_assoc]; exact List.perm_append_comm.append_right L))
end
end
section
set_option linter.unusedVariables false
set_option linter.unusedSimpArgs false
set_option maxRecDepth 10000
open Go.RowKit Classical
theorem speaks_ {W : World} {F : List Res}  : CS Try.prog 8 #[] W (F) (fun r L' => r = .bool true ∧ F = L') := by
 refine f_door (l0 := []) Try.func8 Try.ntmps8 rfl rfl rfl ?_
 refine c_seq ?_
 refine c_region ?_
 refine o_assign rfl rfl ?_
 refine l_nil ?_
 refine q_then ?_
 refine c_seq ?_
 refine c_region ?_
 refine o_call rfl cal10 rfl (new_ (n := 3) (by decide) (by decide)) ?_
 rintro _ _ ⟨k6, rfl, rfl⟩
 refine o_move rfl rfl ?_
 refine o_extract rfl rfl rfl ?_
 refine o_extract rfl rfl rfl ?_
 refine o_assign rfl rfl ?_
 refine o_assign rfl rfl ?_
 refine l_nil ?_
 refine q_then ?_
 refine c_seq ?_
 refine c_seq ?_
 refine c_region ?_
 refine o_move rfl rfl ?_
 refine o_bin rfl rfl rfl (b_peq Try.underlying26 _) ?_
 refine o_move rfl rfl ?_
 refine o_yes rfl rfl rfl ?_
 refine o_move rfl rfl ?_
 refine o_yes rfl rfl rfl ?_
 refine o_bin rfl rfl rfl b_neq ?_
 refine o_pick_false rfl rfl rfl ?_
 refine l_nil ?_
 refine q_then ?_
 refine c_false rfl ?_
 refine c_skip ?_
 refine q_then ?_
 refine c_seq ?_
 refine c_region ?_
 refine o_move rfl rfl ?_
 refine o_call rfl cal18 rfl (move6_ (k' := ⟨#[97]⟩) (h := 2) (show s97.size ≤ 1000000 by decide) (by decide)) ?_
 rintro _ _ ⟨s16, e16, hsn16, hsM16, rfl, rfl⟩
 obtain ⟨he16, hm16⟩ := spMove rfl hsM16
 refine o_assign rfl rfl ?_
 refine l_nil ?_
 refine q_then ?_
 refine c_seq ?_
 refine c_region ?_
 refine o_move rfl rfl ?_
 refine o_call rfl cal13 rfl (get_ (k' := ⟨#[97]⟩) (show s97.size ≤ 1000000 by decide)) ?_
 rintro _ _ ⟨v18, hv18, rfl, rfl⟩
 rw [show s16.n = 3 from hsn16] at hv18
 have hv18b := hv18.trans hm16
 have hq1 : v18.f_Has = false := congrArg RecM.has hv18b
 have hq2 : v18.f_Home = 2 := congrArg RecM.home hv18b
 have hq3 : v18.f_Count = 1 := congrArg RecM.count hv18b
 refine o_alloc rfl ti36 fun b4 => ?_
 refine o_storen rfl rfl ti36 rfl rfl rfl rfl ?_
 refine l_nil ?_
 refine q_then ?_
 refine c_seq ?_
 refine c_region ?_
 refine o_call rfl cal14 rfl (default_ (k := ⟨#[97]⟩) (n := 3) (show s97.size ≤ 1000000 by decide)) ?_
 rintro _ _ ⟨rfl, rfl⟩
 refine o_bin rfl rfl rfl b_eql ?_
 refine l_eq (t := 20) (v' := .bool true) rfl (show _ = Value.bool true from by rw [show dflt ⟨#[97]⟩ 3 = 1 from d97]; first | done | rfl) ?_
 refine o_move rfl rfl ?_
 refine o_yes rfl rfl rfl ?_
 refine o_move rfl rfl ?_
 refine o_yes rfl rfl rfl ?_
 refine o_bin rfl rfl rfl b_eql ?_
 refine l_eq (t := 23) (v' := .bool true) rfl (show _ = Value.bool true from by rw [he16]; first | done | rfl) ?_
 refine o_pick_true rfl rfl rfl ?_
 refine o_move rfl rfl ?_
 refine o_yes rfl rfl rfl ?_
 refine o_fieldAddr (q := ⟨b4, 2, none⟩) rfl rfl Try.underlying36 rfl ti3 rfl ?_
 refine o_yes rfl rfl rfl ?_
 refine o_load1 rfl rfl Try.underlying3 rfl (rd_mem 0 rfl rfl) ?_
 refine o_yes rfl rfl rfl ?_
 refine o_bin rfl rfl rfl b_eql ?_
 refine l_eq (t := 28) (v' := .bool true) rfl (show _ = Value.bool true from by rw [hq2]; first | done | rfl) ?_
 refine o_pick_true rfl rfl rfl ?_
 refine o_move rfl rfl ?_
 refine o_yes rfl rfl rfl ?_
 refine o_fieldAddr (q := ⟨b4, 3, none⟩) rfl rfl Try.underlying36 rfl ti34 rfl ?_
 refine o_yes rfl rfl rfl ?_
 refine o_load1 rfl rfl Try.underlying34 rfl (rd_mem 0 rfl rfl) ?_
 refine o_yes rfl rfl rfl ?_
 refine o_bin rfl rfl rfl b_eql ?_
 refine l_eq (t := 33) (v' := .bool true) rfl (show _ = Value.bool true from by rw [hq3]; first | done | rfl) ?_
 refine o_pick_true rfl rfl rfl ?_
 refine o_move rfl rfl ?_
 refine o_yes rfl rfl rfl ?_
 refine o_fieldAddr (q := ⟨b4, 0, none⟩) rfl rfl Try.underlying36 rfl ti4 rfl ?_
 refine o_yes rfl rfl rfl ?_
 refine o_load1 rfl rfl Try.underlying4 rfl (rd_mem 0 rfl rfl) ?_
 refine o_yes rfl rfl rfl ?_
 refine o_not rfl rfl ?_
 refine l_eq (t := 38) (v' := .bool true) rfl (show _ = Value.bool true from by rw [hq1]; first | done | rfl) ?_
 refine o_pick_true rfl rfl rfl ?_
 refine o_assign rfl rfl ?_
 refine l_nil ?_
 refine q_then ?_
 refine c_ret ?_
 refine q_conv (fun w S => S.tail) ?_
 refine q_conv (fun w S => S.tail) ?_
 refine q_conv (fun w S => S.tail) ?_
 exact f_ret (r_one rfl rfl) (⟨rfl, rfl⟩) (fun w S => S)
theorem great_ {W : World} {F : List Res} {os : List Op} {a : Option Addr} {c : Nat} (hs : SlR W e_Op a os) (hv : ∀ o ∈ os, SlR W e8 o.f_Value.a o.f_Value.xs)  : CS Try.prog 9 #[.slice a (os).length c] W (F) (fun r L' => ∃ b : Bool, (b = false → GoodOps os) ∧ r = .bool b ∧ F = L') := by
 refine f_door (l0 := [(0, .slice a (os).length c)]) Try.func9 Try.ntmps9 rfl rfl rfl ?_
 refine c_seq ?_
 refine c_region ?_
 refine o_assign rfl rfl ?_
 refine l_nil ?_
 refine q_then ?_
 refine c_seq ?_
 refine c_seq ?_
 refine c_region ?_
 refine o_move rfl rfl ?_
 refine o_len rfl rfl Try.underlying22 ?_
 refine o_bin rfl rfl rfl b_gtr ?_
 refine l_nil ?_
 refine q_then ?_
 refine c_cond rfl (fun h1 => ?_) (fun h1 => ?_)
 · -- h1T
  have h1b := h1
  try simp only [decide_eq_true_eq] at h1
  refine c_seq ?_
  refine c_region ?_
  refine o_assign rfl rfl ?_
  refine l_nil ?_
  refine q_then ?_
  refine c_ret ?_
  refine q_pass_ret ?_
  exact f_ret (r_one rfl rfl) (⟨true, (fun h9 => by cases h9), rfl, rfl⟩) (fun w S => S)
 · -- h1F
  have h1b := h1
  try simp only [decide_eq_false_iff_not, Int.not_lt, Int.not_le] at h1
  refine c_skip ?_
  refine q_then ?_
  refine c_seq ?_
  refine c_seq ?_
  refine c_region ?_
  refine o_move rfl rfl ?_
  refine o_len rfl rfl Try.underlying22 ?_
  refine o_move rfl rfl ?_
  refine l_nil ?_
  refine q_then ?_
  refine c_block ?_
  refine c_loop (α := Nat) (fun z => [(8, .slice a (os).length c), (9, .int .i64 ((os).length : Int)), (10, .int .i64 (z : Int))]) (fun z => F) (fun z => z ≤ os.length ∧ ∀ o ∈ os.take z, o.f_Key.size ≤ 500 ∧ o.f_Value.xs.length ≤ 500) (fun z => os.length - z) (0) (by exact ⟨Nat.zero_le _, fun o ho => by simp at ho⟩) ⟨(by first | rfl | exact vint (by omega)), (by first | rfl | exact vint (by omega)), (by first | rfl | exact vint (by omega)), trivial⟩ (fun w S => S) ?_
  rintro i ⟨hi, hal⟩
  try dsimp only at *
  refine c_seq ?_
  refine c_region ?_
  refine o_bin rfl rfl rfl b_lss ?_
  refine l_nil ?_
  refine q_then ?_
  refine c_seq ?_
  refine c_cond rfl (fun h2 => ?_) (fun h2 => ?_)
  · -- h2T
   have h2b := h2
   try simp only [decide_eq_true_eq] at h2
   refine c_skip ?_
   refine q_then ?_
   refine c_seq ?_
   refine c_block ?_
   refine c_seq ?_
   refine c_region ?_
   refine o_index e_Op_ok rfl rfl rfl Try.underlying22 (by omega) (by omega) (rds_old hs) fun ad12 ead12 => ?_
   obtain ⟨x12, hx12⟩ : ∃ x, (os)[((i : Int)).toNat]? = some x := ⟨_, List.getElem?_eq_getElem (by omega)⟩
   refine o_loadn (vs := e_Op.cells x12) rfl rfl Try.underlying32 rfl ti32 (rdn_sl e_Op_ok ead12 (rds_old hs) hx12) ?_
   refine o_alloc rfl ti32 fun b4 => ?_
   refine o_storen rfl rfl ti32 rfl rfl rfl rfl ?_
   refine l_nil ?_
   refine q_then ?_
   refine c_seq ?_
   refine c_region ?_
   refine o_fieldAddr (q := ⟨b4, 2, none⟩) rfl rfl Try.underlying32 rfl ti9 rfl ?_
   refine o_load1 rfl rfl Try.underlying9 rfl (rd_mem 0 rfl rfl) ?_
   refine o_lenStr rfl rfl Try.underlying9 ?_
   refine o_bin rfl rfl rfl b_gtr ?_
   refine o_move rfl rfl ?_
   refine l_split (t := 18) rfl (fun h3 => ?_) (fun h3 => ?_)
   · -- h3T
    have h3b := h3
    try simp only [decide_eq_true_eq] at h3
    refine o_no rfl rfl rfl rfl ?_
    refine o_no rfl rfl rfl rfl ?_
    refine o_no rfl rfl rfl rfl ?_
    refine o_no rfl rfl rfl rfl ?_
    refine o_pick_true rfl rfl rfl ?_
    refine l_nil ?_
    refine q_then ?_
    refine c_true rfl ?_
    refine c_seq ?_
    refine c_region ?_
    refine o_assign rfl rfl ?_
    refine l_nil ?_
    refine q_then ?_
    refine c_ret ?_
    refine q_block_ret ?_
    refine q_pass_ret ?_
    refine q_pass_ret ?_
    refine q_block_ret ?_
    refine q_pass_ret ?_
    refine q_conv (fun w S => S.tail) ?_
    exact f_ret (r_one rfl rfl) (⟨true, (fun h9 => by cases h9), rfl, rfl⟩) (fun w S => S)
   · -- h3F
    have h3b := h3
    try simp only [decide_eq_false_iff_not, Int.not_lt, Int.not_le] at h3
    refine o_yes rfl rfl rfl ?_
    refine o_fieldAddr (q := ⟨b4, 3, none⟩) rfl rfl Try.underlying32 rfl ti23 rfl ?_
    refine o_yes rfl rfl rfl ?_
    refine o_load1 rfl rfl Try.underlying23 rfl (rd_mem 0 rfl rfl) ?_
    refine o_yes rfl rfl rfl ?_
    refine o_len rfl rfl Try.underlying23 ?_
    refine o_yes rfl rfl rfl ?_
    refine o_bin rfl rfl rfl b_gtr ?_
    refine o_pick_false rfl rfl rfl ?_
    refine l_nil ?_
    refine q_then ?_
    refine c_cond rfl (fun h4 => ?_) (fun h4 => ?_)
    · -- h4T
     have h4b := h4
     try simp only [decide_eq_true_eq] at h4
     refine c_seq ?_
     refine c_region ?_
     refine o_assign rfl rfl ?_
     refine l_nil ?_
     refine q_then ?_
     refine c_ret ?_
     refine q_block_ret ?_
     refine q_pass_ret ?_
     refine q_pass_ret ?_
     refine q_block_ret ?_
     refine q_pass_ret ?_
     refine q_conv (fun w S => S.tail) ?_
     exact f_ret (r_one rfl rfl) (⟨true, (fun h9 => by cases h9), rfl, rfl⟩) (fun w S => S)
    · -- h4F
     have h4b := h4
     try simp only [decide_eq_false_iff_not, Int.not_lt, Int.not_le] at h4
     refine c_skip ?_
     refine q_block ?_
     refine q_then ?_
     refine c_region ?_
     refine o_bin rfl rfl rfl (b_add (wrap_i64 (by omega) (by omega))) ?_
     refine o_move rfl rfl ?_
     refine l_nil ?_
     refine q_conv (fun w S => S.tail) ?_
     exact q_round (i + 1) (by exact ⟨by omega, fun o ho => by rw [take_snoc' (show os[i]? = some x12 from hx12)] at ho; rcases List.mem_append.1 ho with ho | ho; exact hal o ho; obtain rfl : o = x12 := (by simpa using ho); exact ⟨by omega, by omega⟩⟩) (by (try dsimp only); omega) ⟨(by first | rfl | exact vint (by omega)), (by first | rfl | exact vint (by omega)), (by first | rfl | exact vint (by omega)), trivial⟩ (fun w S => S)
  · -- h2F
   have h2b := h2
   try simp only [decide_eq_false_iff_not, Int.not_lt, Int.not_le] at h2
   refine c_exit ?_
   refine q_pass_exit ?_
   refine q_pass_exit ?_
   refine q_hit ?_
   refine q_then ?_
   refine c_seq ?_
   refine c_region ?_
   refine o_assign rfl rfl ?_
   refine l_nil ?_
   refine q_then ?_
   refine c_ret ?_
   exact f_ret (r_one rfl rfl) (⟨false, (fun _ => ⟨by omega, fun o ho => hal o (by rw [List.take_of_length_le (by omega)]; exact ho)⟩), rfl, rfl⟩) (fun w S => S)
end
section
set_option linter.unusedVariables false
set_option linter.unusedSimpArgs false
open Go.RowKit
theorem bofnat (n : Nat) : BitVec.ofInt 64 (n : Int) = BitVec.ofNat 64 n := by
  apply BitVec.eq_of_toNat_eq
  simp
/-- x & m: some number up to m. -/
theorem band64 (k : Int) (m : Nat) (hm : m < 4611686018427387904) : ∃ q : Nat, q ≤ m ∧ ibits .and .i64 k (m : Int) = (q : Int) := by
  have h : (BitVec.ofInt 64 k &&& BitVec.ofInt 64 (m : Int)).toNat ≤ m := by
    rw [bofnat, BitVec.toNat_and, BitVec.toNat_ofNat, Nat.mod_eq_of_lt (by omega)]
    exact Nat.and_le_right
  refine ⟨(BitVec.ofInt 64 k &&& BitVec.ofInt 64 (m : Int)).toNat, h, ?_⟩
  show IntKind.i64.wrap _ = _
  exact wrap_i64 (by show (_ : Int) ≤ ((BitVec.ofInt 64 k &&& BitVec.ofInt 64 (m : Int)).toNat : Int); omega) (by show ((BitVec.ofInt 64 k &&& BitVec.ofInt 64 (m : Int)).toNat : Int) ≤ _; omega)
end
section
set_option linter.unusedVariables false
set_option linter.unusedSimpArgs false
set_option maxRecDepth 10000
open Go.RowKit Classical
set_option maxHeartbeats 4000000 in
theorem pages_law {W : World} {F : List Res} {os : List Op} {a : Option Addr} {c : Nat} (hs : SlR W e_Op a os) (hv : ∀ o ∈ os, SlR W e8 o.f_Value.a o.f_Value.xs) {mo : Int} : CS Try.prog 5 #[.slice a (os).length c, .int .i64 mo] W (F) (fun r L' => r = .bool true ∧ F = L') := by
 refine f_door (l0 := [(0, .slice a (os).length c), (1, .int .i64 mo)]) Try.func5 Try.ntmps5 rfl rfl rfl ?_
 refine c_seq ?_
 refine c_region ?_
 refine o_assign rfl rfl ?_
 refine l_nil ?_
 refine q_then ?_
 refine c_seq ?_
 refine c_seq ?_
 refine c_region ?_
 refine o_call rfl cal8 rfl (speaks_) ?_
 rintro _ _ ⟨rfl, rfl⟩
 refine o_not rfl rfl ?_
 refine l_nil ?_
 refine q_then ?_
 refine c_false rfl ?_
 refine c_skip ?_
 refine q_then ?_
 refine c_seq ?_
 refine c_seq ?_
 refine c_region ?_
 refine o_move rfl rfl ?_
 refine o_call rfl cal9 rfl (great_ (os := os) (c := c) hs hv) ?_
 rintro _ _ ⟨g18, hgd18, rfl, rfl⟩
 refine l_nil ?_
 refine q_then ?_
 refine c_cond rfl (fun h1 => ?_) (fun h1 => ?_)
 · -- h1T
  have h1b := h1
  try simp only [decide_eq_true_eq, decide_eq_false_iff_not, Bool.not_eq_eq_eq_not, Bool.not_true, Bool.not_false, Bool.not_eq_true', Bool.not_eq_false', Int.not_lt, Int.not_le, Bool.or_eq_true, Bool.and_eq_true] at h1
  refine c_seq ?_
  refine c_region ?_
  refine o_assign rfl rfl ?_
  refine l_nil ?_
  refine q_then ?_
  refine c_ret ?_
  refine q_pass_ret ?_
  exact f_ret (r_one rfl rfl) (⟨rfl, rfl⟩) (fun w S => S)
 · -- h1F
  have h1b := h1
  try simp only [decide_eq_true_eq, decide_eq_false_iff_not, Bool.not_eq_eq_eq_not, Bool.not_true, Bool.not_false, Bool.not_eq_true', Bool.not_eq_false', Int.not_lt, Int.not_le, Bool.or_eq_true, Bool.and_eq_true] at h1
  refine c_skip ?_
  refine q_then ?_
  refine c_seq ?_
  have hgo := hgd18 (by assumption)
  have hlen := hgo.len
  refine c_region ?_
  refine o_call rfl cal10 rfl (new_ (n := 2) (by decide) (by decide)) ?_
  rintro _ _ ⟨k20, rfl, rfl⟩
  refine o_move rfl rfl ?_
  refine o_extract rfl rfl rfl ?_
  refine o_extract rfl rfl rfl ?_
  refine o_assign rfl rfl ?_
  refine o_assign rfl rfl ?_
  refine l_nil ?_
  refine q_then ?_
  refine c_seq ?_
  refine c_seq ?_
  refine c_region ?_
  refine o_move rfl rfl ?_
  refine o_bin rfl rfl rfl (b_peq Try.underlying26 _) ?_
  refine l_nil ?_
  refine q_then ?_
  refine c_false rfl ?_
  refine c_skip ?_
  refine q_then ?_
  refine c_seq ?_
  refine c_region ?_
  refine o_call rfl cal15 rfl (rnew_ (n := 2) (by decide) (by decide)) ?_
  rintro _ _ ⟨m25, rfl, rfl⟩
  refine o_assign rfl rfl ?_
  refine l_nil ?_
  refine q_then ?_
  refine c_seq ?_
  refine c_seq ?_
  refine c_region ?_
  refine o_move rfl rfl ?_
  refine o_len rfl rfl Try.underlying22 ?_
  refine o_move rfl rfl ?_
  refine l_nil ?_
  refine q_then ?_
  refine c_block ?_
  refine c_loop (α := Nat × SS × SS) (fun z => [(1, .int .i64 mo), (5, .pointer (some ⟨k20, 0, none⟩)), (7, .pointer (some ⟨m25, 0, none⟩)), (26, .slice a (os).length c), (27, .int .i64 ((os).length : Int)), (28, .int .i64 (z.1 : Int))]) (fun z => RfR m25 z.2.2 :: StR k20 z.2.1 :: F) (fun z => z.1 ≤ os.length ∧ Script 2 z.1 z.2.1 z.2.2) (fun z => os.length - z.1) (0, (⟨2, []⟩ : SS), (⟨2, []⟩ : SS)) (by exact ⟨Nat.zero_le _, Script.start rfl rfl⟩) ⟨(by first | rfl | exact vint (by omega)), (by first | rfl | exact vint (by omega)), (by first | rfl | exact vint (by omega)), (by first | rfl | exact vint (by omega)), (by first | rfl | exact vint (by omega)), (by first | rfl | exact vint (by omega)), trivial⟩ (fun w S => S) ?_
  rintro ⟨i, sl, tl⟩ ⟨hi, hsc⟩
  try dsimp only at *
  refine c_seq ?_
  refine c_region ?_
  refine o_bin rfl rfl rfl b_lss ?_
  refine l_nil ?_
  refine q_then ?_
  refine c_seq ?_
  refine c_cond rfl (fun h2 => ?_) (fun h2 => ?_)
  · -- h2T
   have h2b := h2
   try simp only [decide_eq_true_eq] at h2
   refine c_skip ?_
   refine q_then ?_
   refine c_seq ?_
   refine c_block ?_
   refine c_seq ?_
   refine c_region ?_
   refine o_index e_Op_ok rfl rfl rfl Try.underlying22 (by omega) (by omega) (rds_c (rds_c (rds_old hs))) fun ad30 ead30 => ?_
   obtain ⟨x30, hx30⟩ : ∃ x, (os)[((i : Int)).toNat]? = some x := ⟨_, List.getElem?_eq_getElem (by omega)⟩
   refine o_loadn (vs := e_Op.cells x30) rfl rfl Try.underlying32 rfl ti32 (rdn_sl e_Op_ok ead30 (rds_c (rds_c (rds_old hs))) hx30) ?_
   refine o_alloc rfl ti32 fun b9 => ?_
   refine o_storen rfl rfl ti32 rfl rfl rfl rfl ?_
   refine l_nil ?_
   refine q_then ?_
   refine c_region ?_
   refine o_move rfl rfl ?_
   refine o_move rfl rfl ?_
   refine o_loadn (vs := [_, _, _, _]) rfl rfl Try.underlying32 rfl ti32 (rdn_lit 0 rfl rfl) ?_
   refine l_f1 ?_
   refine l_f2 ?_
   refine o_call rfl cal16 rfl (do_ (o := x30) (rds_old (hv x30 (List.mem_of_getElem? hx30))) (hgo.all x30 (List.mem_of_getElem? hx30)).1 (hgo.all x30 (List.mem_of_getElem? hx30)).2 hsc.M hsc.eq (by have h9 := hsc.len; omega)) ?_
   rintro _ _ ⟨s35, t35, htw35, rfl, rfl⟩
   refine l_nil ?_
   refine q_block ?_
   refine q_then ?_
   refine c_region ?_
   refine o_bin rfl rfl rfl (b_add (wrap_i64 (by omega) (by omega))) ?_
   refine o_move rfl rfl ?_
   refine l_nil ?_
   refine q_conv (fun w S => (S.perm p2).tail) ?_
   refine q_conv (fun w S => S.perm p1) ?_
   exact q_round (i + 1, s35, t35) (by exact ⟨by omega, hsc.on htw35 (hgo.all x30 (List.mem_of_getElem? hx30)).1⟩) (by (try dsimp only); omega) ⟨(by first | rfl | exact vint (by omega)), (by first | rfl | exact vint (by omega)), (by first | rfl | exact vint (by omega)), (by first | rfl | exact vint (by omega)), (by first | rfl | exact vint (by omega)), (by first | rfl | exact vint (by omega)), trivial⟩ (fun w S => S)
  · -- h2F
   have h2b := h2
   try simp only [decide_eq_false_iff_not, Int.not_lt, Int.not_le] at h2
   refine c_exit ?_
   refine q_pass_exit ?_
   refine q_pass_exit ?_
   refine q_hit ?_
   refine q_then ?_
   refine c_seq ?_
   refine c_fact (p := OkS tl ∧ Srt ItA.f_key strlt tl.xs) (fun w S => RfR_ok S) fun hokr => ?_
   have hsM : Srt Prod.fst strlt sl.M := by rw [hsc.M]; exact srt_M hokr.2
   refine c_region ?_
   refine o_move rfl rfl ?_
   refine o_bin rfl rfl rfl (b_and rfl) ?_
   obtain ⟨q38, hq38, eq38⟩ := band64 mo 7 (by omega)
   refine l_eq (t := 38) (v' := .int .i64 (q38 : Int)) rfl (by first | exact congrArg _ eq38) ?_
   refine o_bin rfl rfl rfl (b_add (wrap_i64 (by omega) (by omega))) ?_
   obtain ⟨nn, hnn⟩ : ∃ nn : Nat, (nn : Int) = 1 + (q38 : Int) := ⟨1 + q38, by omega⟩
   refine l_eq (t := 39) (v' := .int .i64 (nn : Int)) rfl (by rw [hnn]) ?_
   refine o_lit e_Row_ok rfl Try.underlying43 rfl rfl rfl (lit_ok rfl) ([] : List ItA) rfl rfl fun a40 => ?_
   refine o_assign rfl rfl ?_
   refine o_assign rfl rfl ?_
   refine o_assign rfl rfl ?_
   refine l_nil ?_
   refine q_then ?_
   refine c_seq ?_
   refine c_seq ?_
   refine c_conv (L' := vals ([] : List ItA) :: _) (fun w S => Sat.vals_nil S) ?_
   refine c_region ?_
   refine o_assign rfl rfl ?_
   refine l_nil ?_
   refine q_then ?_
   refine c_block ?_
   refine c_loop (α := Nat × Nat × (List ItA) × ByteArray × (Option Addr) × Nat) (fun z => [(5, .pointer (some ⟨k20, 0, none⟩)), (10, .int .i64 (nn : Int)), (11, .string z.2.2.2.1), (12, .slice z.2.2.2.2.1 (z.2.2.1).length z.2.2.2.2.2), (13, .int .i64 (z.1 : Int))]) (fun z => vals z.2.2.1 :: row e_Row.T e_Row.sz z.2.2.2.2.1 (z.2.2.1).length z.2.2.2.2.2 (flat e_Row z.2.2.1) :: RfR m25 tl :: StR k20 sl :: F) (fun z => z.1 ≤ z.2.1 ∧ Pages (hasR sl.M) z.2.1 z.2.2.2.1 z.2.2.1) (fun z => 200 - z.1) (0, 0, ([] : List ItA), s0, a40, 0) (by exact ⟨Nat.le_refl _, Pages.start⟩) ⟨(by first | rfl | exact vint (by omega)), (by first | rfl | exact vint (by omega)), (by first | rfl | exact vint (by omega)), (by first | rfl | exact vint (by omega)), (by first | rfl | exact vint (by omega)), trivial⟩ (fun w S => S) ?_
   rintro ⟨tn, c2, O, f, ao, co⟩ ⟨htc, hpg⟩
   try dsimp only at *
   refine c_seq ?_
   refine c_seq ?_
   have hbd := hpg.bd hsc
   refine c_region ?_
   refine o_move rfl rfl ?_
   refine o_bin rfl rfl rfl b_lss ?_
   refine l_eq (t := 42) (v' := .bool true) rfl (show _ = Value.bool true from by rw [decide_eq_true (by omega)]) ?_
   refine l_nil ?_
   refine q_then ?_
   refine c_true rfl ?_
   refine c_skip ?_
   refine q_then ?_
   refine c_seq ?_
   refine c_block ?_
   refine c_seq ?_
   refine c_region ?_
   refine o_move rfl rfl ?_
   refine o_move rfl rfl ?_
   refine o_move rfl rfl ?_
   refine l_f3 ?_
   refine o_call rfl cal17 rfl (prange_ (f := f) (mo := (nn : Int)) (by have h9 := hsc.len; omega)) ?_
   rintro _ _ ⟨ys48, a48, c48, hys48, rfl, rfl⟩
   have hyl := hpg.le' hys48
   refine o_assign rfl rfl ?_
   refine l_nil ?_
   refine q_then ?_
   refine c_seq ?_
   refine c_region ?_
   refine o_move rfl rfl ?_
   refine o_move rfl rfl ?_
   refine l_f4 ?_
   refine o_append e_Row_ok rfl rfl rfl Try.underlying43 (rds_own e_Row_ok 1 rfl) (by show (_ + _) * 64 ≤ _; (try simp only [List.length_append, List.length_cons, List.length_nil]); omega) (by (try simp only [List.length_append, List.length_cons, List.length_nil]); omega) fun a51 c51 => ?_
   refine o_assign rfl rfl ?_
   refine l_nil ?_
   refine q_then ?_
   refine c_seq ?_
   refine c_seq ?_
   refine c_conv (fun w S => S.perm p5) ?_
   refine c_conv (fun w S => S.perm p4) ?_
   refine c_conv (fun w S => S.perm p3) ?_
   refine c_conv (fun w S => S.perm p3) ?_
   refine c_conv (fun w S => S.perm p4) ?_
   refine c_conv (fun w S => S.perm p5) ?_
   refine c_conv (L' := vals (O ++ ys48) :: _) (fun w S => Sat.vals_cat S) ?_
   refine c_region ?_
   refine o_move rfl rfl ?_
   refine o_len rfl rfl Try.underlying43 ?_
   refine o_move rfl rfl ?_
   refine o_bin rfl rfl rfl b_gtr ?_
   refine l_eq (t := 55) (v' := .bool false) rfl (show _ = Value.bool false from by rw [decide_eq_false (by omega)]) ?_
   refine l_nil ?_
   refine q_then ?_
   refine c_false rfl ?_
   refine c_skip ?_
   refine q_then ?_
   refine c_seq ?_
   refine c_seq ?_
   refine c_region ?_
   refine o_move rfl rfl ?_
   refine o_len rfl rfl Try.underlying43 ?_
   refine o_move rfl rfl ?_
   refine o_bin rfl rfl rfl b_lss ?_
   refine l_nil ?_
   refine q_then ?_
   refine c_cond rfl (fun h3 => ?_) (fun h3 => ?_)
   · -- h3T
    have h3b := h3
    try simp only [decide_eq_true_eq] at h3
    refine c_exit ?_
    refine q_pass_exit ?_
    refine q_miss rfl ?_
    refine q_pass_exit ?_
    refine q_pass_exit ?_
    refine q_hit ?_
    refine q_then ?_
    refine c_seq ?_
    refine c_region ?_
    refine o_move rfl rfl ?_
    refine o_move rfl rfl ?_
    refine l_f3 ?_
    refine o_call rfl cal17 rfl (prange_ (f := ByteArray.empty) (mo := 1000) (by have h9 := hsc.len; omega)) ?_
    rintro _ _ ⟨ys70, a70, c70, hys70, rfl, rfl⟩
    refine o_call rfl cal20 rfl (same_ (xs := (O ++ ys48)) (ys := ys70) (c := c51) (c2 := c70) (rds_own e_Row_ok 4 rfl) (rds_own e_Row_ok 0 rfl) (fun x hx => rds_vals 3 rfl hx) (fun x hx => rds_vals 1 rfl hx) (by rw [List.length_append]; omega)) ?_
    rintro _ _ ⟨bb71, hbb71, rfl, rfl⟩
    have hb71 : bb71 = true := hbb71.2 ((hpg.done hys48 (by omega)).trans (hys70.trans (range_all (by rw [M_len]; have h9 := hsc.len; omega))).symm)
    refine l_eq (t := 71) (v' := .bool true) rfl (by rw [hb71]) ?_
    refine o_assign rfl rfl ?_
    refine l_nil ?_
    refine q_then ?_
    refine c_ret ?_
    refine q_conv (fun w S => S.tail) ?_
    refine q_conv (fun w S => S.tail) ?_
    refine q_conv (fun w S => S.tail) ?_
    refine q_conv (fun w S => S.tail) ?_
    refine q_conv (fun w S => S.tail) ?_
    refine q_conv (fun w S => S.tail) ?_
    refine q_conv (fun w S => S.tail) ?_
    exact f_ret (r_one rfl rfl) (⟨rfl, rfl⟩) (fun w S => S)
   · -- h3F
    have h3b := h3
    try simp only [decide_eq_false_iff_not, Int.not_lt, Int.not_le] at h3
    refine c_skip ?_
    refine q_then ?_
    refine c_region ?_
    refine o_move rfl rfl ?_
    refine o_move rfl rfl ?_
    refine o_len rfl rfl Try.underlying43 ?_
    refine o_bin rfl rfl rfl (b_sub (show IntKind.i64.wrap ((ys48.length : Int) - 1) = ((ys48.length - 1 : Nat) : Int) from by rw [wrap_i64 (by omega) (by omega)]; omega)) ?_
    refine o_index e_Row_ok rfl rfl rfl Try.underlying43 (by omega) (by omega) (rds_own e_Row_ok 2 rfl) fun ad64 ead64 => ?_
    obtain ⟨x64, hx64⟩ : ∃ x, (ys48)[(((ys48.length - 1 : Nat) : Int)).toNat]? = some x := ⟨_, List.getElem?_eq_getElem (by omega)⟩
    have hkz : x64.f_key.size ≤ 500 := hsc.key (proj x64) (range_in (by rw [← hys48]; exact List.mem_map.2 ⟨x64, List.mem_of_getElem? hx64, rfl⟩))
    refine o_fieldAddr rfl rfl Try.underlying49 rfl ti9 (Addr.add_add' _ _ _) ?_
    refine o_load1 rfl rfl Try.underlying9 rfl (rd_sl e_Row_ok ead64 (rds_own e_Row_ok 2 rfl) hx64 rfl) ?_
    refine o_bin rfl rfl rfl (b_sadd (by have h9 : (⟨#[0]⟩ : ByteArray).size = 1 := rfl; omega)) ?_
    refine o_assign rfl rfl ?_
    refine l_nil ?_
    refine q_block ?_
    refine q_then ?_
    refine c_region ?_
    refine o_move rfl rfl ?_
    refine o_bin rfl rfl rfl (b_add (wrap_i64 (by omega) (by omega))) ?_
    refine o_assign rfl rfl ?_
    refine l_nil ?_
    refine q_conv (fun w S => (S.perm p2).tail) ?_
    refine q_conv (fun w S => S.perm p2) ?_
    refine q_conv (fun w S => S.perm p3) ?_
    refine q_conv (fun w S => S.perm p3) ?_
    refine q_conv (fun w S => S.perm p3) ?_
    exact q_round (tn + 1, c2 + nn, O ++ ys48, x64.f_key ++ ⟨#[0]⟩, a51, c51) (by exact ⟨by dsimp only; omega, hpg.on hsM hys48 (by omega) (by omega) (show ys48[ys48.length - 1]? = some x64 from hx64)⟩) (by (try dsimp only); omega) ⟨(by first | rfl | exact vint (by omega)), (by first | rfl | exact vint (by omega)), (by first | rfl | exact vint (by omega)), (by first | rfl | exact vint (by omega)), (by first | rfl | exact vint (by omega)), trivial⟩ (fun w S => S)
end
section
set_option linter.unusedVariables false
set_option linter.unusedSimpArgs false
set_option maxRecDepth 10000
open Go.RowKit
theorem list4 (cs : List Value) (h : cs.length = 4) : ∃ c0 c1 c2 c3, cs = [c0, c1, c2, c3] := by
  match cs, h with
  | [c0, c1, c2, c3], _ => exact ⟨c0, c1, c2, c3, rfl⟩
def G_Op (W : World) (x : Op) : Prop := (Lit.int .i64 x.f_Kind).wf = true ∧ (Lit.int .i64 x.f_N).wf = true ∧ x.f_Key.size ≤ maxLen ∧ SlGood W e8 (fun _ : UInt8 => True) x.f_Value
theorem opens_Op (W : World) : Opens Try.prog W 32 e_Op.cells (G_Op W) where
  op := fun enc fuel cs y h => by
    obtain ⟨ys0, n0, _, _, hl0, hlen0, hf0⟩ := DataW.trod_struct Try.underlying32 h
    rw [cellsOf_ti ti32] at hl0
    obtain ⟨c0, c1, c2, c3, rfl⟩ := list4 cs hl0
    obtain ⟨z1, hz1⟩ : ∃ z, DataW.trod enc Try.prog W 0 (fun _ => true) true n0 3 [c0] = some z := by
      have hq : DataW.trod enc Try.prog W 0 (fun _ => true) true n0 3 (List.take (Try.prog.cellsOf 3) (List.drop 0 [c0, c1, c2, c3])) = ys0[0]? := hf0 0 _ rfl
      rw [cellsOf_ti ti3] at hq
      obtain ⟨z, hz⟩ : ∃ z, ys0[0]? = some z := ⟨_, List.getElem?_eq_getElem (by rw [hlen0]; decide)⟩
      exact ⟨z, by simpa [hz] using hq⟩
    obtain ⟨x2, e2, g2⟩ := (opens_int (W := W) Try.underlying3).op enc _ _ _ hz1
    simp only [List.cons.injEq, and_true] at e2
    obtain ⟨z3, hz3⟩ : ∃ z, DataW.trod enc Try.prog W 0 (fun _ => true) true n0 3 [c1] = some z := by
      have hq : DataW.trod enc Try.prog W 0 (fun _ => true) true n0 3 (List.take (Try.prog.cellsOf 3) (List.drop 1 [c0, c1, c2, c3])) = ys0[1]? := hf0 1 _ rfl
      rw [cellsOf_ti ti3] at hq
      obtain ⟨z, hz⟩ : ∃ z, ys0[1]? = some z := ⟨_, List.getElem?_eq_getElem (by rw [hlen0]; decide)⟩
      exact ⟨z, by simpa [hz] using hq⟩
    obtain ⟨x4, e4, g4⟩ := (opens_int (W := W) Try.underlying3).op enc _ _ _ hz3
    simp only [List.cons.injEq, and_true] at e4
    obtain ⟨z5, hz5⟩ : ∃ z, DataW.trod enc Try.prog W 0 (fun _ => true) true n0 9 [c2] = some z := by
      have hq : DataW.trod enc Try.prog W 0 (fun _ => true) true n0 9 (List.take (Try.prog.cellsOf 9) (List.drop 2 [c0, c1, c2, c3])) = ys0[2]? := hf0 2 _ rfl
      rw [cellsOf_ti ti9] at hq
      obtain ⟨z, hz⟩ : ∃ z, ys0[2]? = some z := ⟨_, List.getElem?_eq_getElem (by rw [hlen0]; decide)⟩
      exact ⟨z, by simpa [hz] using hq⟩
    obtain ⟨x6, e6, g6⟩ := (opens_str (W := W) Try.underlying9).op enc _ _ _ hz5
    simp only [List.cons.injEq, and_true] at e6
    obtain ⟨z7, hz7⟩ : ∃ z, DataW.trod enc Try.prog W 0 (fun _ => true) true n0 23 [c3] = some z := by
      have hq : DataW.trod enc Try.prog W 0 (fun _ => true) true n0 23 (List.take (Try.prog.cellsOf 23) (List.drop 3 [c0, c1, c2, c3])) = ys0[3]? := hf0 3 _ rfl
      rw [cellsOf_ti ti23] at hq
      obtain ⟨z, hz⟩ : ∃ z, ys0[3]? = some z := ⟨_, List.getElem?_eq_getElem (by rw [hlen0]; decide)⟩
      exact ⟨z, by simpa [hz] using hq⟩
    obtain ⟨x8, e8, g8⟩ := (opens_slice (W := W) e8_ok Try.underlying23 (opens_u8 (W := W) Try.underlying5)).op enc _ _ _ hz7
    simp only [List.cons.injEq, and_true] at e8
    subst e2
    subst e4
    subst e6
    subst e8
    exact ⟨⟨x2, x4, x6, x8⟩, rfl, ⟨g2, g4, g6, g8⟩⟩
end
end Go.Proofs.Ytnfbjidpiglabaa
