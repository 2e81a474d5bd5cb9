/- Texts of the proof: LastL, Args. -/
import Derived.Test.YtnfbjidpiglabaaSLE
namespace Go.Proofs.Ytnfbjidpiglabaa
section
set_option linter.unusedVariables false
set_option linter.unusedSimpArgs false
set_option maxRecDepth 10000
open Go.RowKit Classical
set_option maxHeartbeats 2000000 in
theorem last_law {W : World} {F : List Res} {os : List Op} {a : Option Addr} {c : Nat} (hs : SlR W e_Op a os) (hv : ∀ o ∈ os, SlR W e8 o.f_Value.a o.f_Value.xs) {k' : ByteArray} {vs : List UInt8} {av : Option Addr} {cv : Nat} (hw : SlR W e8 av vs) : CS Try.prog 3 #[.slice a (os).length c, .string k', .slice av (vs).length cv] W (F) (fun r L' => r = .bool true ∧ F = L') := by
 refine f_door (l0 := [(0, .slice a (os).length c), (1, .string k'), (2, .slice av (vs).length cv)]) Try.func3 Try.ntmps3 rfl rfl rfl ?_
 refine c_seq ?_
 refine c_region ?_
 refine o_assign rfl rfl ?_
 refine l_nil ?_
 refine q_then ?_
 refine c_seq ?_
 refine c_seq ?_
 refine c_region ?_
 refine o_call rfl cal8 rfl (speaks_) ?_
 rintro _ _ ⟨rfl, rfl⟩
 refine o_not rfl rfl ?_
 refine l_nil ?_
 refine q_then ?_
 refine c_false rfl ?_
 refine c_skip ?_
 refine q_then ?_
 refine c_seq ?_
 refine c_seq ?_
 refine c_region ?_
 refine o_move rfl rfl ?_
 refine o_call rfl cal9 rfl (great_ (os := os) (c := c) hs hv) ?_
 rintro _ _ ⟨g15, hgd15, rfl, rfl⟩
 refine o_move rfl rfl ?_
 refine l_split (t := 16) rfl (fun h1 => ?_) (fun h1 => ?_)
 · -- h1T
  have h1b := h1
  try simp only [decide_eq_true_eq, decide_eq_false_iff_not, Bool.not_eq_eq_eq_not, Bool.not_true, Bool.not_false, Bool.not_eq_true', Bool.not_eq_false', Int.not_lt, Int.not_le, Bool.or_eq_true, Bool.and_eq_true] at h1
  refine o_no rfl rfl rfl rfl ?_
  refine o_no rfl rfl rfl rfl ?_
  refine o_no rfl rfl rfl rfl ?_
  refine o_pick_true rfl rfl rfl ?_
  refine o_move rfl rfl ?_
  refine o_no rfl rfl rfl rfl ?_
  refine o_no rfl rfl rfl rfl ?_
  refine o_no rfl rfl rfl rfl ?_
  refine o_pick_true rfl rfl rfl ?_
  refine l_nil ?_
  refine q_then ?_
  refine c_true rfl ?_
  refine c_seq ?_
  refine c_region ?_
  refine o_assign rfl rfl ?_
  refine l_nil ?_
  refine q_then ?_
  refine c_ret ?_
  refine q_pass_ret ?_
  exact f_ret (r_one rfl rfl) (⟨rfl, rfl⟩) (fun w S => S)
 · -- h1F
  have h1b := h1
  try simp only [decide_eq_true_eq, decide_eq_false_iff_not, Bool.not_eq_eq_eq_not, Bool.not_true, Bool.not_false, Bool.not_eq_true', Bool.not_eq_false', Int.not_lt, Int.not_le, Bool.or_eq_true, Bool.and_eq_true] at h1
  refine o_yes rfl rfl rfl ?_
  refine o_move rfl rfl ?_
  refine o_yes rfl rfl rfl ?_
  refine o_lenStr rfl rfl Try.underlying9 ?_
  refine o_yes rfl rfl rfl ?_
  refine o_bin rfl rfl rfl b_gtr ?_
  refine o_pick_false rfl rfl rfl ?_
  refine o_move rfl rfl ?_
  refine l_split (t := 21) rfl (fun h2 => ?_) (fun h2 => ?_)
  · -- h2T
   have h2b := h2
   try simp only [decide_eq_true_eq] at h2
   refine o_no rfl rfl rfl rfl ?_
   refine o_no rfl rfl rfl rfl ?_
   refine o_no rfl rfl rfl rfl ?_
   refine o_pick_true rfl rfl rfl ?_
   refine l_nil ?_
   refine q_then ?_
   refine c_true rfl ?_
   refine c_seq ?_
   refine c_region ?_
   refine o_assign rfl rfl ?_
   refine l_nil ?_
   refine q_then ?_
   refine c_ret ?_
   refine q_pass_ret ?_
   exact f_ret (r_one rfl rfl) (⟨rfl, rfl⟩) (fun w S => S)
  · -- h2F
   have h2b := h2
   try simp only [decide_eq_false_iff_not, Int.not_lt, Int.not_le] at h2
   refine o_yes rfl rfl rfl ?_
   refine o_move rfl rfl ?_
   refine o_yes rfl rfl rfl ?_
   refine o_len rfl rfl Try.underlying23 ?_
   refine o_yes rfl rfl rfl ?_
   refine o_bin rfl rfl rfl b_gtr ?_
   refine o_pick_false rfl rfl rfl ?_
   refine l_nil ?_
   refine q_then ?_
   refine c_cond rfl (fun h3 => ?_) (fun h3 => ?_)
   · -- h3T
    have h3b := h3
    try simp only [decide_eq_true_eq] at h3
    refine c_seq ?_
    refine c_region ?_
    refine o_assign rfl rfl ?_
    refine l_nil ?_
    refine q_then ?_
    refine c_ret ?_
    refine q_pass_ret ?_
    exact f_ret (r_one rfl rfl) (⟨rfl, rfl⟩) (fun w S => S)
   · -- h3F
    have h3b := h3
    try simp only [decide_eq_false_iff_not, Int.not_lt, Int.not_le] at h3
    refine c_skip ?_
    refine q_then ?_
    refine c_seq ?_
    have hgo := hgd15 (by assumption)
    have hlen := hgo.len
    refine c_region ?_
    refine o_call rfl cal10 rfl (new_ (n := 3) (by decide) (by decide)) ?_
    rintro _ _ ⟨k27, rfl, rfl⟩
    refine o_move rfl rfl ?_
    refine o_extract rfl rfl rfl ?_
    refine o_extract rfl rfl rfl ?_
    refine o_assign rfl rfl ?_
    refine o_assign rfl rfl ?_
    refine l_nil ?_
    refine q_then ?_
    refine c_seq ?_
    refine c_seq ?_
    refine c_region ?_
    refine o_move rfl rfl ?_
    refine o_bin rfl rfl rfl (b_peq Try.underlying26 _) ?_
    refine l_nil ?_
    refine q_then ?_
    refine c_false rfl ?_
    refine c_skip ?_
    refine q_then ?_
    refine c_seq ?_
    refine c_region ?_
    refine o_move rfl rfl ?_
    refine o_move rfl rfl ?_
    refine o_move rfl rfl ?_
    refine o_call rfl cal11 rfl (put6_ (k' := k') (vs := vs) (av := av) (cv := cv) (rds_old hw) (by omega) (by omega) (by decide)) ?_
    rintro _ _ ⟨s35, hsn35, hsM35, rfl⟩
    refine l_nil ?_
    refine q_then ?_
    refine c_seq ?_
    refine c_seq ?_
    refine c_region ?_
    refine o_move rfl rfl ?_
    refine o_len rfl rfl Try.underlying22 ?_
    refine o_move rfl rfl ?_
    refine l_nil ?_
    refine q_then ?_
    refine c_block ?_
    refine c_loop (α := Nat × SS) (fun z => [(1, .string k'), (2, .slice av (vs).length cv), (7, .pointer (some ⟨k27, 0, none⟩)), (36, .slice a (os).length c), (37, .int .i64 ((os).length : Int)), (38, .int .i64 (z.1 : Int))]) (fun z => StR k27 z.2 :: F) (fun z => z.1 ≤ os.length ∧ LastOk k' vs z.1 z.2) (fun z => os.length - z.1) (0, s35) (by exact ⟨Nat.zero_le _, LastOk.start rfl hsn35 hsM35⟩) ⟨(by first | rfl | exact vint (by omega)), (by first | rfl | exact vint (by omega)), (by first | rfl | exact vint (by omega)), (by first | rfl | exact vint (by omega)), (by first | rfl | exact vint (by omega)), (by first | rfl | exact vint (by omega)), trivial⟩ (fun w S => S) ?_
    rintro ⟨i, sl⟩ ⟨hi, hls⟩
    try dsimp only at *
    refine c_seq ?_
    refine c_region ?_
    refine o_bin rfl rfl rfl b_lss ?_
    refine l_nil ?_
    refine q_then ?_
    refine c_seq ?_
    refine c_cond rfl (fun h4 => ?_) (fun h4 => ?_)
    · -- h4T
     have h4b := h4
     try simp only [decide_eq_true_eq] at h4
     refine c_skip ?_
     refine q_then ?_
     refine c_seq ?_
     refine c_block ?_
     refine c_seq ?_
     refine c_region ?_
     refine o_index e_Op_ok rfl rfl rfl Try.underlying22 (by omega) (by omega) (rds_c (rds_old hs)) fun ad40 ead40 => ?_
     obtain ⟨x40, hx40⟩ : ∃ x, (os)[((i : Int)).toNat]? = some x := ⟨_, List.getElem?_eq_getElem (by omega)⟩
     refine o_loadn (vs := e_Op.cells x40) rfl rfl Try.underlying32 rfl ti32 (rdn_sl e_Op_ok ead40 (rds_c (rds_old hs)) hx40) ?_
     refine o_alloc rfl ti32 fun b10 => ?_
     refine o_storen rfl rfl ti32 rfl rfl rfl rfl ?_
     refine l_nil ?_
     refine q_then ?_
     refine c_seq ?_
     refine c_seq ?_
     refine c_region ?_
     refine o_fieldAddr (q := ⟨b10, 2, none⟩) rfl rfl Try.underlying32 rfl ti9 rfl ?_
     refine o_load1 rfl rfl Try.underlying9 rfl (rd_mem 0 rfl rfl) ?_
     refine o_move rfl rfl ?_
     refine o_bin rfl rfl rfl b_seql ?_
     refine l_nil ?_
     refine q_then ?_
     refine c_cond rfl (fun h5 => ?_) (fun h5 => ?_)
     · -- h5T
      have h5b := h5
      try simp only [decide_eq_true_eq] at h5
      refine c_exit ?_
      refine q_pass_exit ?_
      refine q_hit ?_
      refine q_then ?_
      refine c_region ?_
      refine o_bin rfl rfl rfl (b_add (wrap_i64 (by omega) (by omega))) ?_
      refine o_move rfl rfl ?_
      refine l_nil ?_
      refine q_conv (fun w S => S.tail) ?_
      exact q_round (i + 1, sl) (by exact ⟨by omega, hls.skip⟩) (by (try dsimp only); omega) ⟨(by first | rfl | exact vint (by omega)), (by first | rfl | exact vint (by omega)), (by first | rfl | exact vint (by omega)), (by first | rfl | exact vint (by omega)), (by first | rfl | exact vint (by omega)), (by first | rfl | exact vint (by omega)), trivial⟩ (fun w S => S)
     · -- h5F
      have h5b := h5
      try simp only [decide_eq_false_iff_not, Int.not_lt, Int.not_le] at h5
      refine c_skip ?_
      refine q_then ?_
      refine c_seq ?_
      refine c_region ?_
      refine o_fieldAddr (q := ⟨b10, 0, none⟩) rfl rfl Try.underlying32 rfl ti3 rfl ?_
      refine o_load1 rfl rfl Try.underlying3 rfl (rd_mem 0 rfl rfl) ?_
      refine o_bin rfl rfl rfl (b_and rfl) ?_
      refine o_bin rfl rfl rfl b_eql ?_
      refine l_nil ?_
      refine q_then ?_
      refine c_cond rfl (fun h6 => ?_) (fun h6 => ?_)
      · -- h6T
       have h6b := h6
       try simp only [decide_eq_true_eq] at h6
       refine c_region ?_
       refine o_move rfl rfl ?_
       refine o_fieldAddr (q := ⟨b10, 2, none⟩) rfl rfl Try.underlying32 rfl ti9 rfl ?_
       refine o_load1 rfl rfl Try.underlying9 rfl (rd_mem 0 rfl rfl) ?_
       refine l_f1 ?_
       refine o_call rfl cal12 rfl (rm6_ (k' := x40.f_Key) (by have h9 := (hgo.all x40 (List.mem_of_getElem? hx40)).1; omega) (by have h9 := hls.len; have h8 := hgo.len; omega)) ?_
       rintro _ _ ⟨s53, hsn53, hsM53, rfl⟩
       refine l_nil ?_
       refine q_block ?_
       refine q_then ?_
       refine c_region ?_
       refine o_bin rfl rfl rfl (b_add (wrap_i64 (by omega) (by omega))) ?_
       refine o_move rfl rfl ?_
       refine l_nil ?_
       refine q_conv (fun w S => (S.perm p1).tail) ?_
       exact q_round (i + 1, s53) (by exact ⟨by omega, hls.rm (by assumption) hsn53 hsM53⟩) (by (try dsimp only); omega) ⟨(by first | rfl | exact vint (by omega)), (by first | rfl | exact vint (by omega)), (by first | rfl | exact vint (by omega)), (by first | rfl | exact vint (by omega)), (by first | rfl | exact vint (by omega)), (by first | rfl | exact vint (by omega)), trivial⟩ (fun w S => S)
      · -- h6F
       have h6b := h6
       try simp only [decide_eq_false_iff_not, Int.not_lt, Int.not_le] at h6
       refine c_region ?_
       refine o_move rfl rfl ?_
       refine o_fieldAddr (q := ⟨b10, 2, none⟩) rfl rfl Try.underlying32 rfl ti9 rfl ?_
       refine o_load1 rfl rfl Try.underlying9 rfl (rd_mem 0 rfl rfl) ?_
       refine o_fieldAddr (q := ⟨b10, 3, none⟩) rfl rfl Try.underlying32 rfl ti23 rfl ?_
       refine o_load1 rfl rfl Try.underlying23 rfl (rd_mem 0 rfl rfl) ?_
       refine l_f1 ?_
       refine o_call rfl cal11 rfl (put6_ (k' := x40.f_Key) (vs := x40.f_Value.xs) (av := x40.f_Value.a) (cv := x40.f_Value.c) (rds_old (hv x40 (List.mem_of_getElem? hx40))) (by have h9 := (hgo.all x40 (List.mem_of_getElem? hx40)).1; omega) (by have h9 := (hgo.all x40 (List.mem_of_getElem? hx40)).2; omega) (by have h9 := hls.len; have h8 := hgo.len; omega)) ?_
       rintro _ _ ⟨s59, hsn59, hsM59, rfl⟩
       refine l_nil ?_
       refine q_block ?_
       refine q_then ?_
       refine c_region ?_
       refine o_bin rfl rfl rfl (b_add (wrap_i64 (by omega) (by omega))) ?_
       refine o_move rfl rfl ?_
       refine l_nil ?_
       refine q_conv (fun w S => (S.perm p1).tail) ?_
       exact q_round (i + 1, s59) (by exact ⟨by omega, hls.put (by assumption) hsn59 hsM59⟩) (by (try dsimp only); omega) ⟨(by first | rfl | exact vint (by omega)), (by first | rfl | exact vint (by omega)), (by first | rfl | exact vint (by omega)), (by first | rfl | exact vint (by omega)), (by first | rfl | exact vint (by omega)), (by first | rfl | exact vint (by omega)), trivial⟩ (fun w S => S)
    · -- h4F
     have h4b := h4
     try simp only [decide_eq_false_iff_not, Int.not_lt, Int.not_le] at h4
     refine c_exit ?_
     refine q_pass_exit ?_
     refine q_pass_exit ?_
     refine q_hit ?_
     refine q_then ?_
     refine c_seq ?_
     refine c_region ?_
     refine o_move rfl rfl ?_
     refine o_move rfl rfl ?_
     refine o_call rfl cal13 rfl (get_ (k' := k') (by omega)) ?_
     rintro _ _ ⟨v63, hv63, rfl, rfl⟩
     obtain ⟨q1, q2, q3, q4⟩ := hls.get hv63
     refine o_alloc rfl ti36 fun b11 => ?_
     refine o_storen rfl rfl ti36 rfl rfl rfl rfl ?_
     refine l_nil ?_
     refine q_then ?_
     refine c_seq ?_
     refine c_region ?_
     refine o_move rfl rfl ?_
     refine o_move rfl rfl ?_
     refine l_f2 ?_
     refine o_call rfl cal12 rfl (rm6_ (k' := k') (by omega) (by have h9 := hls.len; have h8 := hgo.len; omega)) ?_
     rintro _ _ ⟨s66, hsn66, hsM66, rfl⟩
     refine l_nil ?_
     refine q_then ?_
     refine c_seq ?_
     refine c_obj ?_
     rintro t_1 ok_1
     refine c_conv (L' := blk k27 (.cells #[.int .i64 s66.n, .pointer (some ⟨t_1, 0, none⟩)] 65 (0, 0)) :: treeR e_ItA eN99 103 105 ItA.f_key strlt t_1 s66.xs :: vals s66.xs :: _) (fun w S => S) ?_
     refine c_conv (fun w S => S.perm p2) ?_
     refine c_conv (fun w S => S.perm p2) ?_
     refine c_conv (fun w S => S.perm p2) ?_
     refine c_conv (fun w S => S.perm p4) ?_
     refine c_conv (fun w S => S.perm p4) ?_
     refine c_conv (fun w S => S.perm p1) ?_
     refine c_conv (fun w S => S.perm p1) ?_
     refine c_conv (fun w S => S.perm p4) ?_
     refine c_conv (fun w S => S.perm p4) ?_
     refine c_conv (fun w S => S.perm p4) ?_
     refine c_heldF [blk k27 (.cells #[.int .i64 s66.n, .pointer (some ⟨t_1, 0, none⟩)] 65 (0, 0)), treeR e_ItA eN99 103 105 ItA.f_key strlt t_1 s66.xs, vals s66.xs] (blk b11 (.cells #[.bool v63.f_Has, .slice v63.f_Value.a (v63.f_Value.xs).length v63.f_Value.c, .int .i64 v63.f_Home, .int .u64 v63.f_Count] 36 (0, 0)) :: row e8.T e8.sz v63.f_Value.a (v63.f_Value.xs).length v63.f_Value.c (flat e8 v63.f_Value.xs) :: F) (by kernel_rfl) ?_
     refine h_take 0 rfl rfl (by kernel_rfl) (by kernel_rfl) (by kernel_rfl) (fun L0 => v_fieldAddr (q := ⟨b11, 0, none⟩) rfl rfl Try.underlying36 rfl ti4 rfl) ?_
     refine h_take 1 rfl rfl (by kernel_rfl) (by kernel_rfl) (by kernel_rfl) (fun L0 => v_load1 rfl rfl Try.underlying4 rfl (rd_mem 0 rfl rfl)) ?_
     refine h_eq (t := 68) (v' := .bool true) rfl (by rw [q1] <;> rfl) ?_
     refine h_take 2 rfl rfl (by kernel_rfl) (by kernel_rfl) (by kernel_rfl) (fun L0 => v_move rfl rfl) ?_
     refine h_take_yes 3 rfl rfl rfl rfl rfl (by kernel_rfl) (by kernel_rfl) (by kernel_rfl) (fun L0 => v_fieldAddr (q := ⟨b11, 1, none⟩) rfl rfl Try.underlying36 rfl ti23 rfl) ?_
     refine h_take_yes 4 rfl rfl rfl rfl rfl (by kernel_rfl) (by kernel_rfl) (by kernel_rfl) (fun L0 => v_load1 rfl rfl Try.underlying23 rfl (rd_mem 0 rfl rfl)) ?_
     refine h_take_yes 5 rfl rfl rfl rfl rfl (by kernel_rfl) (by kernel_rfl) (by kernel_rfl) (fun L0 => v_bytesStr (e := e8) rfl rfl rfl Try.underlying23 Try.underlying5 Try.underlying9 (rds_own e8_ok 1 rfl)) ?_
     refine h_take_yes 6 rfl rfl rfl rfl rfl (by kernel_rfl) (by kernel_rfl) (by kernel_rfl) (fun L0 => v_move rfl rfl) ?_
     refine h_take_yes 7 rfl rfl rfl rfl rfl (by kernel_rfl) (by kernel_rfl) (by kernel_rfl) (fun L0 => v_bytesStr (e := e8) rfl rfl rfl Try.underlying23 Try.underlying5 Try.underlying9 (rds_app (rds_c (rds_c (rds_old hw))))) ?_
     refine h_take_yes 8 rfl rfl rfl rfl rfl (by kernel_rfl) (by kernel_rfl) (by kernel_rfl) (fun L0 => v_bin rfl rfl rfl b_seql) ?_
     refine h_eq (t := 75) (v' := .bool true) rfl (show _ = Value.bool true from by rw [decide_eq_true (by rw [q2])]) ?_
     refine h_take 9 rfl rfl (by kernel_rfl) (by kernel_rfl) (by kernel_rfl) (fun L0 => v_pick_true rfl rfl rfl) ?_
     refine h_take 10 rfl rfl (by kernel_rfl) (by kernel_rfl) (by kernel_rfl) (fun L0 => v_move rfl rfl) ?_
     refine h_take_yes 11 rfl rfl rfl rfl rfl (by kernel_rfl) (by kernel_rfl) (by kernel_rfl) (fun L0 => v_fieldAddr (q := ⟨b11, 3, none⟩) rfl rfl Try.underlying36 rfl ti34 rfl) ?_
     refine h_take_yes 12 rfl rfl rfl rfl rfl (by kernel_rfl) (by kernel_rfl) (by kernel_rfl) (fun L0 => v_load1 rfl rfl Try.underlying34 rfl (rd_mem 0 rfl rfl)) ?_
     refine h_take_yes 13 rfl rfl rfl rfl rfl (by kernel_rfl) (by kernel_rfl) (by kernel_rfl) (fun L0 => v_bin rfl rfl rfl b_eql) ?_
     refine h_eq (t := 80) (v' := .bool true) rfl (show _ = Value.bool true from by rw [q4]; first | done | rfl) ?_
     refine h_take 14 rfl rfl (by kernel_rfl) (by kernel_rfl) (by kernel_rfl) (fun L0 => v_pick_true rfl rfl rfl) ?_
     refine h_take 15 rfl rfl (by kernel_rfl) (by kernel_rfl) (by kernel_rfl) (fun L0 => v_move rfl rfl) ?_
     refine h_take_yes 16 rfl rfl rfl rfl rfl (by kernel_rfl) (by kernel_rfl) (by kernel_rfl) (fun L0 => v_fieldAddr (q := ⟨b11, 2, none⟩) rfl rfl Try.underlying36 rfl ti3 rfl) ?_
     refine h_take_yes 17 rfl rfl rfl rfl rfl (by kernel_rfl) (by kernel_rfl) (by kernel_rfl) (fun L0 => v_load1 rfl rfl Try.underlying3 rfl (rd_mem 0 rfl rfl)) ?_
     refine h_take_yes 18 rfl rfl rfl rfl rfl (by kernel_rfl) (by kernel_rfl) (by kernel_rfl) (fun L0 => v_move rfl rfl) ?_
     refine h_one 19 rfl (by kernel_rfl) ?_
     refine l_conv (L' := blk k27 (.cells #[.int .i64 s66.n, .pointer (some ⟨t_1, 0, none⟩)] 65 (0, 0)) :: treeR e_ItA eN99 103 105 ItA.f_key strlt t_1 s66.xs :: vals s66.xs :: blk b11 (.cells #[.bool v63.f_Has, .slice v63.f_Value.a (v63.f_Value.xs).length v63.f_Value.c, .int .i64 v63.f_Home, .int .u64 v63.f_Count] 36 (0, 0)) :: row e8.T e8.sz v63.f_Value.a (v63.f_Value.xs).length v63.f_Value.c (flat e8 v63.f_Value.xs) :: F) (fun w S => S.perm List.perm_append_comm) ?_
     refine o_yes rfl rfl rfl ?_
     refine o_call rfl cal14 rfl (default_ (k := k') (n := 3) (by omega)) ?_
     rintro _ _ ⟨rfl, rfl⟩
     refine l_nil ?_
     refine q_conv (L' := (blk b11 (.cells #[.bool v63.f_Has, .slice v63.f_Value.a (v63.f_Value.xs).length v63.f_Value.c, .int .i64 v63.f_Home, .int .u64 v63.f_Count] 36 (0, 0)) :: row e8.T e8.sz v63.f_Value.a (v63.f_Value.xs).length v63.f_Value.c (flat e8 v63.f_Value.xs) :: F) ++ [blk k27 (.cells #[.int .i64 s66.n, .pointer (some ⟨t_1, 0, none⟩)] 65 (0, 0)), treeR e_ItA eN99 103 105 ItA.f_key strlt t_1 s66.xs, vals s66.xs]) (fun w S => S.perm (List.perm_append_comm (l₁ := [blk k27 (.cells #[.int .i64 s66.n, .pointer (some ⟨t_1, 0, none⟩)] 65 (0, 0)), treeR e_ItA eN99 103 105 ItA.f_key strlt t_1 s66.xs, vals s66.xs]) (l₂ := blk b11 (.cells #[.bool v63.f_Has, .slice v63.f_Value.a (v63.f_Value.xs).length v63.f_Value.c, .int .i64 v63.f_Home, .int .u64 v63.f_Count] 36 (0, 0)) :: row e8.T e8.sz v63.f_Value.a (v63.f_Value.xs).length v63.f_Value.c (flat e8 v63.f_Value.xs) :: F))) ?_
     refine h_next ?_
     refine h_take_yes 20 rfl rfl rfl rfl rfl (by kernel_rfl) (by kernel_rfl) (by kernel_rfl) (fun L0 => v_bin rfl rfl rfl b_eql) ?_
     refine h_eq (t := 87) (v' := .bool true) rfl (show _ = Value.bool true from by rw [q3]; simp) ?_
     refine h_take 21 rfl rfl (by kernel_rfl) (by kernel_rfl) (by kernel_rfl) (fun L0 => v_pick_true rfl rfl rfl) ?_
     refine h_take 22 rfl rfl (by kernel_rfl) (by kernel_rfl) (by kernel_rfl) (fun L0 => v_move rfl rfl) ?_
     refine h_take_yes 23 rfl rfl rfl rfl rfl (by kernel_rfl) (by kernel_rfl) (by kernel_rfl) (fun L0 => v_move rfl rfl) ?_
     refine h_take_yes 24 rfl rfl rfl rfl rfl (by kernel_rfl) (by kernel_rfl) (by kernel_rfl) (fun L0 => v_move rfl rfl) ?_
     refine h_one 25 rfl (by kernel_rfl) ?_
     refine l_conv (L' := blk k27 (.cells #[.int .i64 s66.n, .pointer (some ⟨t_1, 0, none⟩)] 65 (0, 0)) :: treeR e_ItA eN99 103 105 ItA.f_key strlt t_1 s66.xs :: vals s66.xs :: blk b11 (.cells #[.bool v63.f_Has, .slice v63.f_Value.a (v63.f_Value.xs).length v63.f_Value.c, .int .i64 v63.f_Home, .int .u64 v63.f_Count] 36 (0, 0)) :: row e8.T e8.sz v63.f_Value.a (v63.f_Value.xs).length v63.f_Value.c (flat e8 v63.f_Value.xs) :: F) (fun w S => S.perm List.perm_append_comm) ?_
     refine o_yes rfl rfl rfl ?_
     refine l_conv (L' := StR k27 s66 :: _) (fun w S => Sat.obj_mk t_1 ok_1 S) ?_
     refine o_call rfl cal13 rfl (get_ (k' := k') (by omega)) ?_
     rintro _ _ ⟨v92, hv92, rfl, rfl⟩
     refine l_nil ?_
     refine q_conv (L' := (blk b11 (.cells #[.bool v63.f_Has, .slice v63.f_Value.a (v63.f_Value.xs).length v63.f_Value.c, .int .i64 v63.f_Home, .int .u64 v63.f_Count] 36 (0, 0)) :: row e8.T e8.sz v63.f_Value.a (v63.f_Value.xs).length v63.f_Value.c (flat e8 v63.f_Value.xs) :: F) ++ [row e8.T e8.sz v92.f_Value.a (v92.f_Value.xs).length v92.f_Value.c (flat e8 v92.f_Value.xs), StR k27 s66]) (fun w S => S.perm (List.perm_append_comm (l₁ := [row e8.T e8.sz v92.f_Value.a (v92.f_Value.xs).length v92.f_Value.c (flat e8 v92.f_Value.xs), StR k27 s66]) (l₂ := blk b11 (.cells #[.bool v63.f_Has, .slice v63.f_Value.a (v63.f_Value.xs).length v63.f_Value.c, .int .i64 v63.f_Home, .int .u64 v63.f_Count] 36 (0, 0)) :: row e8.T e8.sz v63.f_Value.a (v63.f_Value.xs).length v63.f_Value.c (flat e8 v63.f_Value.xs) :: F))) ?_
     refine h_next ?_
     have q5 := hls.gone hsn66 hsM66 hv92
     refine h_take_yes 26 rfl rfl rfl rfl rfl (by kernel_rfl) (by kernel_rfl) (by kernel_rfl) (fun L0 => v_field1 rfl rfl Try.underlying36 rfl Try.underlying4 rfl rfl) ?_
     refine h_take_yes 27 rfl rfl rfl rfl rfl (by kernel_rfl) (by kernel_rfl) (by kernel_rfl) (fun L0 => v_not rfl rfl) ?_
     refine h_eq (t := 94) (v' := .bool true) rfl (show _ = Value.bool true from by rw [q5]; first | done | rfl) ?_
     refine h_take 28 rfl rfl (by kernel_rfl) (by kernel_rfl) (by kernel_rfl) (fun L0 => v_pick_true rfl rfl rfl) ?_
     refine h_take 29 rfl rfl (by kernel_rfl) (by kernel_rfl) (by kernel_rfl) (fun L0 => v_assign rfl rfl) ?_
     refine h_done (by kernel_rfl) ?_
     refine q_conv (L' := row e8.T e8.sz v92.f_Value.a (v92.f_Value.xs).length v92.f_Value.c (flat e8 v92.f_Value.xs) :: StR k27 s66 :: blk b11 (.cells #[.bool v63.f_Has, .slice v63.f_Value.a (v63.f_Value.xs).length v63.f_Value.c, .int .i64 v63.f_Home, .int .u64 v63.f_Count] 36 (0, 0)) :: row e8.T e8.sz v63.f_Value.a (v63.f_Value.xs).length v63.f_Value.c (flat e8 v63.f_Value.xs) :: F) (fun w S => S.perm List.perm_append_comm) ?_
     refine q_then ?_
     refine c_ret ?_
     refine q_conv (fun w S => S.tail) ?_
     refine q_conv (fun w S => S.tail) ?_
     refine q_conv (fun w S => S.tail) ?_
     refine q_conv (fun w S => S.tail) ?_
     exact f_ret (r_one rfl rfl) (⟨rfl, rfl⟩) (fun w S => S)
end
section
set_option linter.unusedVariables false
set_option linter.unusedSimpArgs false
set_option maxRecDepth 10000
open Go.RowKit
theorem list4 (cs : List Value) (h : cs.length = 4) : ∃ c0 c1 c2 c3, cs = [c0, c1, c2, c3] := by
  match cs, h with
  | [c0, c1, c2, c3], _ => exact ⟨c0, c1, c2, c3, rfl⟩
def G_Op (W : World) (x : Op) : Prop := (Lit.int .i64 x.f_Kind).wf = true ∧ (Lit.int .i64 x.f_N).wf = true ∧ x.f_Key.size ≤ maxLen ∧ SlGood W e8 (fun _ : UInt8 => True) x.f_Value
theorem opens_Op (W : World) : Opens Try.prog W 32 e_Op.cells (G_Op W) where
  op := fun enc fuel cs y h => by
    obtain ⟨ys0, n0, _, _, hl0, hlen0, hf0⟩ := DataW.trod_struct Try.underlying32 h
    rw [cellsOf_ti ti32] at hl0
    obtain ⟨c0, c1, c2, c3, rfl⟩ := list4 cs hl0
    obtain ⟨z1, hz1⟩ : ∃ z, DataW.trod enc Try.prog W 0 (fun _ => true) true n0 3 [c0] = some z := by
      have hq : DataW.trod enc Try.prog W 0 (fun _ => true) true n0 3 (List.take (Try.prog.cellsOf 3) (List.drop 0 [c0, c1, c2, c3])) = ys0[0]? := hf0 0 _ rfl
      rw [cellsOf_ti ti3] at hq
      obtain ⟨z, hz⟩ : ∃ z, ys0[0]? = some z := ⟨_, List.getElem?_eq_getElem (by rw [hlen0]; decide)⟩
      exact ⟨z, by simpa [hz] using hq⟩
    obtain ⟨x2, e2, g2⟩ := (opens_int (W := W) Try.underlying3).op enc _ _ _ hz1
    simp only [List.cons.injEq, and_true] at e2
    obtain ⟨z3, hz3⟩ : ∃ z, DataW.trod enc Try.prog W 0 (fun _ => true) true n0 3 [c1] = some z := by
      have hq : DataW.trod enc Try.prog W 0 (fun _ => true) true n0 3 (List.take (Try.prog.cellsOf 3) (List.drop 1 [c0, c1, c2, c3])) = ys0[1]? := hf0 1 _ rfl
      rw [cellsOf_ti ti3] at hq
      obtain ⟨z, hz⟩ : ∃ z, ys0[1]? = some z := ⟨_, List.getElem?_eq_getElem (by rw [hlen0]; decide)⟩
      exact ⟨z, by simpa [hz] using hq⟩
    obtain ⟨x4, e4, g4⟩ := (opens_int (W := W) Try.underlying3).op enc _ _ _ hz3
    simp only [List.cons.injEq, and_true] at e4
    obtain ⟨z5, hz5⟩ : ∃ z, DataW.trod enc Try.prog W 0 (fun _ => true) true n0 9 [c2] = some z := by
      have hq : DataW.trod enc Try.prog W 0 (fun _ => true) true n0 9 (List.take (Try.prog.cellsOf 9) (List.drop 2 [c0, c1, c2, c3])) = ys0[2]? := hf0 2 _ rfl
      rw [cellsOf_ti ti9] at hq
      obtain ⟨z, hz⟩ : ∃ z, ys0[2]? = some z := ⟨_, List.getElem?_eq_getElem (by rw [hlen0]; decide)⟩
      exact ⟨z, by simpa [hz] using hq⟩
    obtain ⟨x6, e6, g6⟩ := (opens_str (W := W) Try.underlying9).op enc _ _ _ hz5
    simp only [List.cons.injEq, and_true] at e6
    obtain ⟨z7, hz7⟩ : ∃ z, DataW.trod enc Try.prog W 0 (fun _ => true) true n0 23 [c3] = some z := by
      have hq : DataW.trod enc Try.prog W 0 (fun _ => true) true n0 23 (List.take (Try.prog.cellsOf 23) (List.drop 3 [c0, c1, c2, c3])) = ys0[3]? := hf0 3 _ rfl
      rw [cellsOf_ti ti23] at hq
      obtain ⟨z, hz⟩ : ∃ z, ys0[3]? = some z := ⟨_, List.getElem?_eq_getElem (by rw [hlen0]; decide)⟩
      exact ⟨z, by simpa [hz] using hq⟩
    obtain ⟨x8, e8, g8⟩ := (opens_slice (W := W) e8_ok Try.underlying23 (opens_u8 (W := W) Try.underlying5)).op enc _ _ _ hz7
    simp only [List.cons.injEq, and_true] at e8
    subst e2
    subst e4
    subst e6
    subst e8
    exact ⟨⟨x2, x4, x6, x8⟩, rfl, ⟨g2, g4, g6, g8⟩⟩
end
end Go.Proofs.Ytnfbjidpiglabaa
