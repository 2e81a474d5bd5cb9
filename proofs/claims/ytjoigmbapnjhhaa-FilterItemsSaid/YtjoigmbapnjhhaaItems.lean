/- Printed by eng2.py out of 14/spec.py. -/
import Derived.Test.YtjoigmbapnjhhaaSpeaks
set_option linter.unusedVariables false
set_option linter.unusedSimpArgs false
set_option maxRecDepth 10000
namespace Go.Proofs.Ytjoigmbapnjhhaa
open Go.RowKit Classical
set_option maxHeartbeats 4000000 in
theorem items_ {W : World} {F : List Res} {g : Int} {log : List Item} {a : Option Addr} {c : Nat} (hs : RdS W F e_Item a log) (ho : ∀ x ∈ log, OrdR W F x.ord) (hn : log.length ≤ c ∧ c ≤ 9223372036854775807) : CS Try.prog 4 #[.int .i64 g, .slice a log.length c] W (F) (fun r L' => r = .bool true ∧ F = L') := by
 refine f_door (l0 := [(0, .int .i64 g), (1, .slice a log.length c)]) Try.func4 Try.ntmps4 rfl rfl rfl ?_
 refine c_seq ?_
 refine c_region ?_
 refine o_assign rfl rfl ?_
 refine l_nil ?_
 refine q_then ?_
 refine c_seq ?_
 refine c_seq ?_
 refine c_region ?_
 refine o_call rfl cal8 rfl (speaks_) ?_
 rintro _ _ ⟨rfl, rfl⟩
 refine o_not rfl rfl ?_
 refine l_nil ?_
 refine q_then ?_
 refine c_false rfl ?_
 refine c_skip ?_
 refine q_then ?_
 refine c_seq ?_
 refine c_seq ?_
 refine c_region ?_
 refine o_move rfl rfl ?_
 refine o_call rfl cal9 rfl (great_ hs (fun x hx => (ho x hx)) (by omega)) ?_
 rintro _ _ ⟨g14, hg14, rfl, rfl⟩
 refine o_move rfl rfl ?_
 refine l_split (t := 15) rfl (fun h1 => ?_) (fun h1 => ?_)
 · -- h1T
  have h1b := h1
  try simp only [decide_eq_true_eq, decide_eq_false_iff_not, Bool.not_eq_eq_eq_not, Bool.not_true, Bool.not_false, Bool.not_eq_true', Bool.not_eq_false', Int.not_lt, Int.not_le, Bool.or_eq_true, Bool.and_eq_true] at h1
  refine o_no rfl rfl rfl rfl ?_
  refine o_no rfl rfl rfl rfl ?_
  refine o_pick_true rfl rfl rfl ?_
  refine o_move rfl rfl ?_
  refine o_no rfl rfl rfl rfl ?_
  refine o_no rfl rfl rfl rfl ?_
  refine o_pick_true rfl rfl rfl ?_
  refine l_nil ?_
  refine q_then ?_
  refine c_true rfl ?_
  refine c_seq ?_
  refine c_region ?_
  refine o_assign rfl rfl ?_
  refine l_nil ?_
  refine q_then ?_
  refine c_ret ?_
  refine q_pass_ret ?_
  exact f_ret (r_one rfl rfl) (⟨rfl, rfl⟩) (fun w S => S)
 · -- h1F
  have h1b := h1
  try simp only [decide_eq_true_eq, decide_eq_false_iff_not, Bool.not_eq_eq_eq_not, Bool.not_true, Bool.not_false, Bool.not_eq_true', Bool.not_eq_false', Int.not_lt, Int.not_le, Bool.or_eq_true, Bool.and_eq_true] at h1
  refine o_yes rfl rfl rfl ?_
  refine o_move rfl rfl ?_
  refine o_yes rfl rfl rfl ?_
  refine o_bin rfl rfl rfl b_lss ?_
  refine o_pick_false rfl rfl rfl ?_
  refine o_move rfl rfl ?_
  refine l_split (t := 19) rfl (fun h2 => ?_) (fun h2 => ?_)
  · -- h2T
   have h2b := h2
   try simp only [decide_eq_true_eq] at h2
   refine o_no rfl rfl rfl rfl ?_
   refine o_no rfl rfl rfl rfl ?_
   refine o_pick_true rfl rfl rfl ?_
   refine l_nil ?_
   refine q_then ?_
   refine c_true rfl ?_
   refine c_seq ?_
   refine c_region ?_
   refine o_assign rfl rfl ?_
   refine l_nil ?_
   refine q_then ?_
   refine c_ret ?_
   refine q_pass_ret ?_
   exact f_ret (r_one rfl rfl) (⟨rfl, rfl⟩) (fun w S => S)
  · -- h2F
   have h2b := h2
   try simp only [decide_eq_false_iff_not, Int.not_lt, Int.not_le] at h2
   refine o_yes rfl rfl rfl ?_
   refine o_move rfl rfl ?_
   refine o_yes rfl rfl rfl ?_
   refine o_bin rfl rfl rfl b_gtr ?_
   refine o_pick_false rfl rfl rfl ?_
   refine l_nil ?_
   refine q_then ?_
   refine c_cond rfl (fun h3 => ?_) (fun h3 => ?_)
   · -- h3T
    have h3b := h3
    try simp only [decide_eq_true_eq] at h3
    refine c_seq ?_
    refine c_region ?_
    refine o_assign rfl rfl ?_
    refine l_nil ?_
    refine q_then ?_
    refine c_ret ?_
    refine q_pass_ret ?_
    exact f_ret (r_one rfl rfl) (⟨rfl, rfl⟩) (fun w S => S)
   · -- h3F
    have h3b := h3
    try simp only [decide_eq_false_iff_not, Int.not_lt, Int.not_le] at h3
    refine c_skip ?_
    refine q_then ?_
    refine c_seq ?_
    have hsm := hg14 (by assumption)
    have hl40 := hsm.1
    have hmk : ∀ x ∈ log, x.ord.f_Marks.xs.length ≤ 1000000 := fun x hx => by have := (hsm.2 x hx).m; omega
    refine c_region ?_
    refine o_move rfl rfl ?_
    refine o_call rfl cal10 rfl (region_ (g := g)) ?_
    rintro _ _ ⟨b24, rfl, rfl⟩
    refine o_assign rfl rfl ?_
    refine l_nil ?_
    refine q_then ?_
    refine c_seq ?_
    refine c_seq ?_
    refine c_region ?_
    refine o_move rfl rfl ?_
    refine o_bin rfl rfl rfl (b_peq Try.underlying25 _) ?_
    refine l_nil ?_
    refine q_then ?_
    refine c_false rfl ?_
    refine c_skip ?_
    refine q_then ?_
    refine c_seq ?_
    refine c_seq ?_
    refine c_region ?_
    refine o_move rfl rfl ?_
    refine o_len rfl rfl Try.underlying22 ?_
    refine o_move rfl rfl ?_
    refine l_nil ?_
    refine q_then ?_
    refine c_block ?_
    refine c_loop (α := Nat × FS) (fun z => [(0, .int .i64 g), (1, .slice a (log).length c), (5, .pointer (some ⟨b24, 0, none⟩)), (27, .slice a (log).length c), (28, .int .i64 ((log).length : Int)), (29, .int .i64 (z.1 : Int))]) (fun z => FltR b24 z.2 :: F) (fun z => z.1 ≤ log.length ∧ Vw z.2 g (lastOf g (log.take z.1)) (runs g (log.take z.1))) (fun z => log.length - z.1) (0, ⟨g, -1, []⟩) (by exact ⟨Nat.zero_le _, Vw.new g⟩) ⟨(by first | rfl | exact vint (by omega)), (by first | rfl | exact vint (by omega)), (by first | rfl | exact vint (by omega)), (by first | rfl | exact vint (by omega)), (by first | rfl | exact vint (by omega)), (by first | rfl | exact vint (by omega)), trivial⟩ (fun w S => S) ?_
    rintro ⟨i, s⟩ ⟨hi, hvw⟩
    try dsimp only at *
    refine c_seq ?_
    refine c_region ?_
    refine o_bin rfl rfl rfl b_lss ?_
    refine l_nil ?_
    refine q_then ?_
    refine c_seq ?_
    refine c_cond rfl (fun h4 => ?_) (fun h4 => ?_)
    · -- h4T
     have h4b := h4
     try simp only [decide_eq_true_eq] at h4
     refine c_skip ?_
     refine q_then ?_
     refine c_seq ?_
     refine c_block ?_
     refine c_seq ?_
     refine c_region ?_
     refine o_move rfl rfl ?_
     refine o_index e_Item_ok rfl rfl rfl Try.underlying22 (by omega) (by omega) (rds_c hs) fun ad32 ead32 => ?_
     obtain ⟨x32, hx32⟩ : ∃ x, (log)[((i : Int)).toNat]? = some x := ⟨_, List.getElem?_eq_getElem (by omega)⟩
     refine o_loadn (vs := e_Item.cells x32) rfl rfl Try.underlying41 rfl ti41 (rdn_sl e_Item_ok ead32 (rds_c hs) hx32) ?_
     refine o_alloc rfl ti41 fun b7 => ?_
     refine o_assign rfl rfl ?_
     refine o_storen rfl rfl ti41 rfl rfl rfl rfl ?_
     refine l_nil ?_
     refine q_then ?_
     refine c_seq ?_
     refine c_region ?_
     refine o_fieldAddr (q := ⟨b7, 2, none⟩) rfl rfl Try.underlying41 rfl ti39 rfl ?_
     refine o_fieldAddr (q := ⟨b7, 2, none⟩) rfl rfl Try.underlying39 rfl ti32 rfl ?_
     refine o_loadn (vs := [_, _, _, _]) rfl rfl Try.underlying32 rfl ti32 (rdn_lit 0 rfl rfl) ?_
     refine o_alloc rfl ti32 fun b8 => ?_
     refine o_storen rfl rfl ti32 rfl rfl rfl rfl ?_
     refine l_nil ?_
     refine q_then ?_
     refine c_seq ?_
     refine c_region ?_
     refine o_assign rfl rfl ?_
     refine l_nil ?_
     refine q_then ?_
     refine c_seq ?_
     refine c_seq ?_
     refine c_region ?_
     refine o_assign rfl rfl ?_
     refine l_nil ?_
     refine q_then ?_
     refine c_block ?_
     refine c_loop (α := Nat × Bool) (fun z => [(0, .int .i64 g), (1, .slice a (log).length c), (5, .pointer (some ⟨b24, 0, none⟩)), (6, .int .i64 (i : Int)), (7, .pointer (some ⟨b7, 0, none⟩)), (8, .pointer (some ⟨b8, 0, none⟩)), (9, .bool z.2), (10, .int .i64 (z.1 : Int)), (27, .slice a (log).length c), (28, .int .i64 ((log).length : Int)), (29, .int .i64 (i : Int))]) (fun z => blk b8 (.cells #[.int .i64 x32.ord.f_Tag_Id_Node, .int .u64 x32.ord.f_Tag_Id_Epoch, .int .u64 x32.ord.f_Tag_Id_Seq, .int .i64 x32.ord.f_Tag_Try] 32 (0, 0)) :: blk b7 (.cells #[.int .i64 x32.f_Kind, .int .i64 x32.f_Index, .int .i64 x32.ord.f_Tag_Id_Node, .int .u64 x32.ord.f_Tag_Id_Epoch, .int .u64 x32.ord.f_Tag_Id_Seq, .int .i64 x32.ord.f_Tag_Try, .int .i64 x32.ord.f_Txn_Kind, .slice x32.ord.f_Txn_Reads.a (x32.ord.f_Txn_Reads.xs).length x32.ord.f_Txn_Reads.c, .slice x32.ord.f_Txn_Writes.a (x32.ord.f_Txn_Writes.xs).length x32.ord.f_Txn_Writes.c, .slice x32.ord.f_Txn_Ops.a (x32.ord.f_Txn_Ops.xs).length x32.ord.f_Txn_Ops.c, .int .i64 x32.ord.f_Txn_To, .slice x32.ord.f_Marks.a (x32.ord.f_Marks.xs).length x32.ord.f_Marks.c] 41 (0, 0)) :: FltR b24 s :: F) (fun z => z.1 ≤ i ∧ (z.2 = true ↔ ∃ k, k < z.1 ∧ HadP g log x32.ord.tag k)) (fun z => i - z.1) (0, false) (by exact ⟨Nat.zero_le _, by simp⟩) ⟨(by first | rfl | exact vint (by omega)), (by first | rfl | exact vint (by omega)), (by first | rfl | exact vint (by omega)), (by first | rfl | exact vint (by omega)), (by first | rfl | exact vint (by omega)), (by first | rfl | exact vint (by omega)), (by first | rfl | exact vint (by omega)), (by first | rfl | exact vint (by omega)), (by first | rfl | exact vint (by omega)), (by first | rfl | exact vint (by omega)), (by first | rfl | exact vint (by omega)), trivial⟩ (fun w S => S) ?_
     rintro ⟨j, hd⟩ ⟨hj, hhd⟩
     try dsimp only at *
     refine c_seq ?_
     refine c_seq ?_
     refine c_region ?_
     refine o_move rfl rfl ?_
     refine o_move rfl rfl ?_
     refine o_bin rfl rfl rfl b_lss ?_
     refine l_nil ?_
     refine q_then ?_
     refine c_cond rfl (fun h5 => ?_) (fun h5 => ?_)
     · -- h5T
      have h5b := h5
      try simp only [decide_eq_true_eq] at h5
      refine c_skip ?_
      refine q_then ?_
      refine c_seq ?_
      refine c_block ?_
      refine c_fact (p := ∃ ad, a = some ad) (rds_some (e := e_Item) (xs := log) (rds_c (rds_c (rds_c hs))) (by intro h0; have h00 := congrArg List.length h0; simp only [List.length_nil] at h00; omega)) ?_
      rintro ⟨adx, eadx⟩
      refine c_heldF [] (blk b8 (.cells #[.int .i64 x32.ord.f_Tag_Id_Node, .int .u64 x32.ord.f_Tag_Id_Epoch, .int .u64 x32.ord.f_Tag_Id_Seq, .int .i64 x32.ord.f_Tag_Try] 32 (0, 0)) :: blk b7 (.cells #[.int .i64 x32.f_Kind, .int .i64 x32.f_Index, .int .i64 x32.ord.f_Tag_Id_Node, .int .u64 x32.ord.f_Tag_Id_Epoch, .int .u64 x32.ord.f_Tag_Id_Seq, .int .i64 x32.ord.f_Tag_Try, .int .i64 x32.ord.f_Txn_Kind, .slice x32.ord.f_Txn_Reads.a (x32.ord.f_Txn_Reads.xs).length x32.ord.f_Txn_Reads.c, .slice x32.ord.f_Txn_Writes.a (x32.ord.f_Txn_Writes.xs).length x32.ord.f_Txn_Writes.c, .slice x32.ord.f_Txn_Ops.a (x32.ord.f_Txn_Ops.xs).length x32.ord.f_Txn_Ops.c, .int .i64 x32.ord.f_Txn_To, .slice x32.ord.f_Marks.a (x32.ord.f_Marks.xs).length x32.ord.f_Marks.c] 41 (0, 0)) :: FltR b24 s :: F) (by kernel_rfl) ?_
      refine h_take 0 rfl rfl (by kernel_rfl) (by kernel_rfl) (by kernel_rfl) (fun L0 => v_move rfl rfl) ?_
      refine h_take 1 rfl rfl (by kernel_rfl) (by kernel_rfl) (by kernel_rfl) (fun L0 => v_move rfl rfl) ?_
      refine h_split (t := 43) rfl (fun h6 => ?_) (fun h6 => ?_)
      · -- h6T
       have h6b := h6
       try simp only [decide_eq_true_eq, decide_eq_false_iff_not, Bool.not_eq_eq_eq_not, Bool.not_true, Bool.not_false, Bool.not_eq_true', Bool.not_eq_false', Int.not_lt, Int.not_le, Bool.or_eq_true, Bool.and_eq_true] at h6
       refine h_take_no 2 rfl rfl rfl rfl rfl (by kernel_rfl) (by kernel_rfl) (by kernel_rfl) ?_
       refine h_take_no 3 rfl rfl rfl rfl rfl (by kernel_rfl) (by kernel_rfl) (by kernel_rfl) ?_
       refine h_take_no 4 rfl rfl rfl rfl rfl (by kernel_rfl) (by kernel_rfl) (by kernel_rfl) ?_
       refine h_take_no 5 rfl rfl rfl rfl rfl (by kernel_rfl) (by kernel_rfl) (by kernel_rfl) ?_
       refine h_take_no 6 rfl rfl rfl rfl rfl (by kernel_rfl) (by kernel_rfl) (by kernel_rfl) ?_
       refine h_take_no 7 rfl rfl rfl rfl rfl (by kernel_rfl) (by kernel_rfl) (by kernel_rfl) ?_
       refine h_take_no 8 rfl rfl rfl rfl rfl (by kernel_rfl) (by kernel_rfl) (by kernel_rfl) ?_
       refine h_take_no 9 rfl rfl rfl rfl rfl (by kernel_rfl) (by kernel_rfl) (by kernel_rfl) ?_
       refine h_take_no 10 rfl rfl rfl rfl rfl (by kernel_rfl) (by kernel_rfl) (by kernel_rfl) ?_
       refine h_take_no 11 rfl rfl rfl rfl rfl (by kernel_rfl) (by kernel_rfl) (by kernel_rfl) ?_
       refine h_take_no 12 rfl rfl rfl rfl rfl (by kernel_rfl) (by kernel_rfl) (by kernel_rfl) ?_
       refine h_take_no 13 rfl rfl rfl rfl rfl (by kernel_rfl) (by kernel_rfl) (by kernel_rfl) ?_
       refine h_take_no 14 rfl rfl rfl rfl rfl (by kernel_rfl) (by kernel_rfl) (by kernel_rfl) ?_
       refine h_take_no 15 rfl rfl rfl rfl rfl (by kernel_rfl) (by kernel_rfl) (by kernel_rfl) ?_
       refine h_take_no 16 rfl rfl rfl rfl rfl (by kernel_rfl) (by kernel_rfl) (by kernel_rfl) ?_
       refine h_take_no 17 rfl rfl rfl rfl rfl (by kernel_rfl) (by kernel_rfl) (by kernel_rfl) ?_
       refine h_take_no 18 rfl rfl rfl rfl rfl (by kernel_rfl) (by kernel_rfl) (by kernel_rfl) ?_
       refine h_take_no 19 rfl rfl rfl rfl rfl (by kernel_rfl) (by kernel_rfl) (by kernel_rfl) ?_
       refine h_take_no 20 rfl rfl rfl rfl rfl (by kernel_rfl) (by kernel_rfl) (by kernel_rfl) ?_
       refine h_take_no 21 rfl rfl rfl rfl rfl (by kernel_rfl) (by kernel_rfl) (by kernel_rfl) ?_
       refine h_take_no 22 rfl rfl rfl rfl rfl (by kernel_rfl) (by kernel_rfl) (by kernel_rfl) ?_
       refine h_take_no 23 rfl rfl rfl rfl rfl (by kernel_rfl) (by kernel_rfl) (by kernel_rfl) ?_
       refine h_take 24 rfl rfl (by kernel_rfl) (by kernel_rfl) (by kernel_rfl) (fun L0 => v_pick_true rfl rfl rfl) ?_
       refine h_take 25 rfl rfl (by kernel_rfl) (by kernel_rfl) (by kernel_rfl) (fun L0 => v_assign rfl rfl) ?_
       refine h_done (by kernel_rfl) ?_
       refine q_conv (L' := blk b8 (.cells #[.int .i64 x32.ord.f_Tag_Id_Node, .int .u64 x32.ord.f_Tag_Id_Epoch, .int .u64 x32.ord.f_Tag_Id_Seq, .int .i64 x32.ord.f_Tag_Try] 32 (0, 0)) :: blk b7 (.cells #[.int .i64 x32.f_Kind, .int .i64 x32.f_Index, .int .i64 x32.ord.f_Tag_Id_Node, .int .u64 x32.ord.f_Tag_Id_Epoch, .int .u64 x32.ord.f_Tag_Id_Seq, .int .i64 x32.ord.f_Tag_Try, .int .i64 x32.ord.f_Txn_Kind, .slice x32.ord.f_Txn_Reads.a (x32.ord.f_Txn_Reads.xs).length x32.ord.f_Txn_Reads.c, .slice x32.ord.f_Txn_Writes.a (x32.ord.f_Txn_Writes.xs).length x32.ord.f_Txn_Writes.c, .slice x32.ord.f_Txn_Ops.a (x32.ord.f_Txn_Ops.xs).length x32.ord.f_Txn_Ops.c, .int .i64 x32.ord.f_Txn_To, .slice x32.ord.f_Marks.a (x32.ord.f_Marks.xs).length x32.ord.f_Marks.c] 41 (0, 0)) :: FltR b24 s :: F) (fun w S => S.perm List.perm_append_comm) ?_
       refine q_block ?_
       refine q_then ?_
       refine c_region ?_
       refine o_move rfl rfl ?_
       refine o_bin rfl rfl rfl (b_add (wrap_i64 (by omega) (by omega))) ?_
       refine o_assign rfl rfl ?_
       refine l_nil ?_
       exact q_round (j + 1, true) (by exact ⟨by omega, had_on hhd (by first | (simp_all; done) | (rw [hadP hx46]; (try simp only [e53] at *); simp_all; done) | (rw [hadP hx46]; (try simp only [e53] at *); grind))⟩) (by (try dsimp only); omega) ⟨(by first | rfl | exact vint (by omega)), (by first | rfl | exact vint (by omega)), (by first | rfl | exact vint (by omega)), (by first | rfl | exact vint (by omega)), (by first | rfl | exact vint (by omega)), (by first | rfl | exact vint (by omega)), (by first | rfl | exact vint (by omega)), (by first | rfl | exact vint (by omega)), (by first | rfl | exact vint (by omega)), (by first | rfl | exact vint (by omega)), (by first | rfl | exact vint (by omega)), trivial⟩ (fun w S => S)
      · -- h6F
       have h6b := h6
       try simp only [decide_eq_true_eq, decide_eq_false_iff_not, Bool.not_eq_eq_eq_not, Bool.not_true, Bool.not_false, Bool.not_eq_true', Bool.not_eq_false', Int.not_lt, Int.not_le, Bool.or_eq_true, Bool.and_eq_true] at h6
       refine h_take_yes 2 rfl rfl rfl rfl rfl (by kernel_rfl) (by kernel_rfl) (by kernel_rfl) (fun L0 => v_move rfl rfl) ?_
       refine h_take_yes 3 rfl rfl rfl rfl rfl (by kernel_rfl) (by kernel_rfl) (by kernel_rfl) (fun L0 => v_move rfl rfl) ?_
       refine h_take_yes 4 rfl rfl rfl rfl rfl (by kernel_rfl) (by kernel_rfl) (by kernel_rfl) (fun L0 => v_indexK e_Item_ok eadx rfl rfl rfl Try.underlying22 (by omega) (by omega)) ?_
       obtain ⟨x46, hx46⟩ : ∃ x, (log)[((j : Int)).toNat]? = some x := ⟨_, List.getElem?_eq_getElem (by omega)⟩
       refine h_take_yes 5 rfl rfl rfl rfl rfl (by kernel_rfl) (by kernel_rfl) (by kernel_rfl) (fun L0 => v_fieldAddr rfl rfl Try.underlying41 rfl ti3 (Addr.add_add' _ _ _)) ?_
       refine h_take_yes 6 rfl rfl rfl rfl rfl (by kernel_rfl) (by kernel_rfl) (by kernel_rfl) (fun L0 => v_load1 rfl rfl Try.underlying3 rfl (rd_sl e_Item_ok eadx (rds_app (rds_c (rds_c (rds_c hs)))) hx46 rfl)) ?_
       refine h_take_yes 7 rfl rfl rfl rfl rfl (by kernel_rfl) (by kernel_rfl) (by kernel_rfl) (fun L0 => v_bin rfl rfl rfl b_eql) ?_
       refine h_take_yes 8 rfl rfl rfl rfl rfl (by kernel_rfl) (by kernel_rfl) (by kernel_rfl) (fun L0 => v_move rfl rfl) ?_
       refine h_split (t := 50) rfl (fun h7 => ?_) (fun h7 => ?_)
       · -- h7T
        have h7b := h7
        try simp only [decide_eq_true_eq] at h7
        refine h_take_yes 9 rfl rfl rfl rfl rfl (by kernel_rfl) (by kernel_rfl) (by kernel_rfl) (fun L0 => v_move rfl rfl) ?_
        refine h_take_yes 10 rfl rfl rfl rfl rfl (by kernel_rfl) (by kernel_rfl) (by kernel_rfl) (fun L0 => v_move rfl rfl) ?_
        refine h_take_yes 11 rfl rfl rfl rfl rfl (by kernel_rfl) (by kernel_rfl) (by kernel_rfl) (fun L0 => v_indexK e_Item_ok eadx rfl rfl rfl Try.underlying22 (by omega) (by omega)) ?_
        obtain ⟨x53, hx53⟩ : ∃ x, (log)[((j : Int)).toNat]? = some x := ⟨_, List.getElem?_eq_getElem (by omega)⟩
        have e53 : x53 = x46 := by rw [hx46] at hx53; exact (Option.some.inj hx53).symm
        refine h_take_yes 12 rfl rfl rfl rfl rfl (by kernel_rfl) (by kernel_rfl) (by kernel_rfl) (fun L0 => v_fieldAddr rfl rfl Try.underlying41 rfl ti39 (Addr.add_add' _ _ _)) ?_
        refine h_take_yes 13 rfl rfl rfl rfl rfl (by kernel_rfl) (by kernel_rfl) (by kernel_rfl) (fun L0 => v_fieldAddr rfl rfl Try.underlying39 rfl ti32 (Addr.add_add' _ _ _)) ?_
        refine h_take_yes 14 rfl rfl rfl rfl rfl (by kernel_rfl) (by kernel_rfl) (by kernel_rfl) (fun L0 => v_loadn (vs := [.int .i64 x53.ord.f_Tag_Id_Node, .int .u64 x53.ord.f_Tag_Id_Epoch, .int .u64 x53.ord.f_Tag_Id_Seq, .int .i64 x53.ord.f_Tag_Try]) rfl rfl Try.underlying32 rfl ti32 (rdn_slo (n := 4) e_Item_ok eadx (rds_app (rds_c (rds_c (rds_c hs)))) hx53 rfl)) ?_
        refine h_take_yes 15 rfl rfl rfl rfl rfl (by kernel_rfl) (by kernel_rfl) (by kernel_rfl) (fun L0 => v_loadn (vs := [_, _, _, _]) rfl rfl Try.underlying32 rfl ti32 (rdn_lit 0 rfl rfl)) ?_
        refine h_take_yes 16 rfl rfl rfl rfl rfl (by kernel_rfl) (by kernel_rfl) (by kernel_rfl) (fun L0 => v_bin rfl rfl rfl (b_eqlS32 ⟨x53.ord.f_Tag_Id_Node, x53.ord.f_Tag_Id_Epoch, x53.ord.f_Tag_Id_Seq, x53.ord.f_Tag_Try⟩ ⟨x32.ord.f_Tag_Id_Node, x32.ord.f_Tag_Id_Epoch, x32.ord.f_Tag_Id_Seq, x32.ord.f_Tag_Try⟩)) ?_
        refine h_take_yes 17 rfl rfl rfl rfl rfl (by kernel_rfl) (by kernel_rfl) (by kernel_rfl) (fun L0 => v_pick_true rfl rfl rfl) ?_
        refine h_take_yes 18 rfl rfl rfl rfl rfl (by kernel_rfl) (by kernel_rfl) (by kernel_rfl) (fun L0 => v_move rfl rfl) ?_
        refine h_split (t := 60) rfl (fun h8 => ?_) (fun h8 => ?_)
        · -- h8T
         have h8b := h8
         try simp only [decide_eq_true_eq] at h8
         refine h_take_yes 19 rfl rfl rfl rfl rfl (by kernel_rfl) (by kernel_rfl) (by kernel_rfl) (fun L0 => v_move rfl rfl) ?_
         refine h_take_yes 20 rfl rfl rfl rfl rfl (by kernel_rfl) (by kernel_rfl) (by kernel_rfl) (fun L0 => v_move rfl rfl) ?_
         refine h_take_yes 21 rfl rfl rfl rfl rfl (by kernel_rfl) (by kernel_rfl) (by kernel_rfl) (fun L0 => v_move rfl rfl) ?_
         refine h_one 22 rfl (by kernel_rfl) ?_
         refine l_conv (L' := blk b8 (.cells #[.int .i64 x32.ord.f_Tag_Id_Node, .int .u64 x32.ord.f_Tag_Id_Epoch, .int .u64 x32.ord.f_Tag_Id_Seq, .int .i64 x32.ord.f_Tag_Try] 32 (0, 0)) :: blk b7 (.cells #[.int .i64 x32.f_Kind, .int .i64 x32.f_Index, .int .i64 x32.ord.f_Tag_Id_Node, .int .u64 x32.ord.f_Tag_Id_Epoch, .int .u64 x32.ord.f_Tag_Id_Seq, .int .i64 x32.ord.f_Tag_Try, .int .i64 x32.ord.f_Txn_Kind, .slice x32.ord.f_Txn_Reads.a (x32.ord.f_Txn_Reads.xs).length x32.ord.f_Txn_Reads.c, .slice x32.ord.f_Txn_Writes.a (x32.ord.f_Txn_Writes.xs).length x32.ord.f_Txn_Writes.c, .slice x32.ord.f_Txn_Ops.a (x32.ord.f_Txn_Ops.xs).length x32.ord.f_Txn_Ops.c, .int .i64 x32.ord.f_Txn_To, .slice x32.ord.f_Marks.a (x32.ord.f_Marks.xs).length x32.ord.f_Marks.c] 41 (0, 0)) :: FltR b24 s :: F) (fun w S => S.perm List.perm_append_comm) ?_
         refine o_yes rfl rfl rfl ?_
         refine o_call rfl cal13 rfl (counts_ j (rds_c (rds_c (rds_c hs))) (fun x hx => (OrdR.c (OrdR.c (OrdR.c (ho x hx))))) hmk (by omega) (by omega) (by omega)) ?_
         rintro _ _ ⟨rfl, rfl⟩
         refine l_nil ?_
         refine q_conv (L' := (blk b8 (.cells #[.int .i64 x32.ord.f_Tag_Id_Node, .int .u64 x32.ord.f_Tag_Id_Epoch, .int .u64 x32.ord.f_Tag_Id_Seq, .int .i64 x32.ord.f_Tag_Try] 32 (0, 0)) :: blk b7 (.cells #[.int .i64 x32.f_Kind, .int .i64 x32.f_Index, .int .i64 x32.ord.f_Tag_Id_Node, .int .u64 x32.ord.f_Tag_Id_Epoch, .int .u64 x32.ord.f_Tag_Id_Seq, .int .i64 x32.ord.f_Tag_Try, .int .i64 x32.ord.f_Txn_Kind, .slice x32.ord.f_Txn_Reads.a (x32.ord.f_Txn_Reads.xs).length x32.ord.f_Txn_Reads.c, .slice x32.ord.f_Txn_Writes.a (x32.ord.f_Txn_Writes.xs).length x32.ord.f_Txn_Writes.c, .slice x32.ord.f_Txn_Ops.a (x32.ord.f_Txn_Ops.xs).length x32.ord.f_Txn_Ops.c, .int .i64 x32.ord.f_Txn_To, .slice x32.ord.f_Marks.a (x32.ord.f_Marks.xs).length x32.ord.f_Marks.c] 41 (0, 0)) :: FltR b24 s :: F) ++ []) (fun w S => S.perm (List.perm_append_comm (l₁ := []) (l₂ := blk b8 (.cells #[.int .i64 x32.ord.f_Tag_Id_Node, .int .u64 x32.ord.f_Tag_Id_Epoch, .int .u64 x32.ord.f_Tag_Id_Seq, .int .i64 x32.ord.f_Tag_Try] 32 (0, 0)) :: blk b7 (.cells #[.int .i64 x32.f_Kind, .int .i64 x32.f_Index, .int .i64 x32.ord.f_Tag_Id_Node, .int .u64 x32.ord.f_Tag_Id_Epoch, .int .u64 x32.ord.f_Tag_Id_Seq, .int .i64 x32.ord.f_Tag_Try, .int .i64 x32.ord.f_Txn_Kind, .slice x32.ord.f_Txn_Reads.a (x32.ord.f_Txn_Reads.xs).length x32.ord.f_Txn_Reads.c, .slice x32.ord.f_Txn_Writes.a (x32.ord.f_Txn_Writes.xs).length x32.ord.f_Txn_Writes.c, .slice x32.ord.f_Txn_Ops.a (x32.ord.f_Txn_Ops.xs).length x32.ord.f_Txn_Ops.c, .int .i64 x32.ord.f_Txn_To, .slice x32.ord.f_Marks.a (x32.ord.f_Marks.xs).length x32.ord.f_Marks.c] 41 (0, 0)) :: FltR b24 s :: F))) ?_
         refine h_next ?_
         refine h_take_yes 23 rfl rfl rfl rfl rfl (by kernel_rfl) (by kernel_rfl) (by kernel_rfl) (fun L0 => v_pick_true rfl rfl rfl) ?_
         refine h_take 24 rfl rfl (by kernel_rfl) (by kernel_rfl) (by kernel_rfl) (fun L0 => v_pick_false rfl rfl rfl) ?_
         refine h_take 25 rfl rfl (by kernel_rfl) (by kernel_rfl) (by kernel_rfl) (fun L0 => v_assign rfl rfl) ?_
         refine h_done (by kernel_rfl) ?_
         refine q_conv (L' := blk b8 (.cells #[.int .i64 x32.ord.f_Tag_Id_Node, .int .u64 x32.ord.f_Tag_Id_Epoch, .int .u64 x32.ord.f_Tag_Id_Seq, .int .i64 x32.ord.f_Tag_Try] 32 (0, 0)) :: blk b7 (.cells #[.int .i64 x32.f_Kind, .int .i64 x32.f_Index, .int .i64 x32.ord.f_Tag_Id_Node, .int .u64 x32.ord.f_Tag_Id_Epoch, .int .u64 x32.ord.f_Tag_Id_Seq, .int .i64 x32.ord.f_Tag_Try, .int .i64 x32.ord.f_Txn_Kind, .slice x32.ord.f_Txn_Reads.a (x32.ord.f_Txn_Reads.xs).length x32.ord.f_Txn_Reads.c, .slice x32.ord.f_Txn_Writes.a (x32.ord.f_Txn_Writes.xs).length x32.ord.f_Txn_Writes.c, .slice x32.ord.f_Txn_Ops.a (x32.ord.f_Txn_Ops.xs).length x32.ord.f_Txn_Ops.c, .int .i64 x32.ord.f_Txn_To, .slice x32.ord.f_Marks.a (x32.ord.f_Marks.xs).length x32.ord.f_Marks.c] 41 (0, 0)) :: FltR b24 s :: F) (fun w S => S.perm List.perm_append_comm) ?_
         refine q_block ?_
         refine q_then ?_
         refine c_region ?_
         refine o_move rfl rfl ?_
         refine o_bin rfl rfl rfl (b_add (wrap_i64 (by omega) (by omega))) ?_
         refine o_assign rfl rfl ?_
         refine l_nil ?_
         exact q_round (j + 1, decide (Cnts g log j)) (by exact ⟨by omega, had_on hhd (by first | (simp_all; done) | (rw [hadP hx46]; (try simp only [e53] at *); simp_all; done) | (rw [hadP hx46]; (try simp only [e53] at *); grind))⟩) (by (try dsimp only); omega) ⟨(by first | rfl | exact vint (by omega)), (by first | rfl | exact vint (by omega)), (by first | rfl | exact vint (by omega)), (by first | rfl | exact vint (by omega)), (by first | rfl | exact vint (by omega)), (by first | rfl | exact vint (by omega)), (by first | rfl | exact vint (by omega)), (by first | rfl | exact vint (by omega)), (by first | rfl | exact vint (by omega)), (by first | rfl | exact vint (by omega)), (by first | rfl | exact vint (by omega)), trivial⟩ (fun w S => S)
        · -- h8F
         have h8b := h8
         try simp only [decide_eq_false_iff_not, Int.not_lt, Int.not_le] at h8
         refine h_take_no 19 rfl rfl rfl rfl rfl (by kernel_rfl) (by kernel_rfl) (by kernel_rfl) ?_
         refine h_take_no 20 rfl rfl rfl rfl rfl (by kernel_rfl) (by kernel_rfl) (by kernel_rfl) ?_
         refine h_take_no 21 rfl rfl rfl rfl rfl (by kernel_rfl) (by kernel_rfl) (by kernel_rfl) ?_
         refine h_take_no 22 rfl rfl rfl rfl rfl (by kernel_rfl) (by kernel_rfl) (by kernel_rfl) ?_
         refine h_take_yes 23 rfl rfl rfl rfl rfl (by kernel_rfl) (by kernel_rfl) (by kernel_rfl) (fun L0 => v_pick_false rfl rfl rfl) ?_
         refine h_take 24 rfl rfl (by kernel_rfl) (by kernel_rfl) (by kernel_rfl) (fun L0 => v_pick_false rfl rfl rfl) ?_
         refine h_take 25 rfl rfl (by kernel_rfl) (by kernel_rfl) (by kernel_rfl) (fun L0 => v_assign rfl rfl) ?_
         refine h_done (by kernel_rfl) ?_
         refine q_conv (L' := blk b8 (.cells #[.int .i64 x32.ord.f_Tag_Id_Node, .int .u64 x32.ord.f_Tag_Id_Epoch, .int .u64 x32.ord.f_Tag_Id_Seq, .int .i64 x32.ord.f_Tag_Try] 32 (0, 0)) :: blk b7 (.cells #[.int .i64 x32.f_Kind, .int .i64 x32.f_Index, .int .i64 x32.ord.f_Tag_Id_Node, .int .u64 x32.ord.f_Tag_Id_Epoch, .int .u64 x32.ord.f_Tag_Id_Seq, .int .i64 x32.ord.f_Tag_Try, .int .i64 x32.ord.f_Txn_Kind, .slice x32.ord.f_Txn_Reads.a (x32.ord.f_Txn_Reads.xs).length x32.ord.f_Txn_Reads.c, .slice x32.ord.f_Txn_Writes.a (x32.ord.f_Txn_Writes.xs).length x32.ord.f_Txn_Writes.c, .slice x32.ord.f_Txn_Ops.a (x32.ord.f_Txn_Ops.xs).length x32.ord.f_Txn_Ops.c, .int .i64 x32.ord.f_Txn_To, .slice x32.ord.f_Marks.a (x32.ord.f_Marks.xs).length x32.ord.f_Marks.c] 41 (0, 0)) :: FltR b24 s :: F) (fun w S => S.perm List.perm_append_comm) ?_
         refine q_block ?_
         refine q_then ?_
         refine c_region ?_
         refine o_move rfl rfl ?_
         refine o_bin rfl rfl rfl (b_add (wrap_i64 (by omega) (by omega))) ?_
         refine o_assign rfl rfl ?_
         refine l_nil ?_
         exact q_round (j + 1, false) (by exact ⟨by omega, had_on hhd (by first | (simp_all; done) | (rw [hadP hx46]; (try simp only [e53] at *); simp_all; done) | (rw [hadP hx46]; (try simp only [e53] at *); grind))⟩) (by (try dsimp only); omega) ⟨(by first | rfl | exact vint (by omega)), (by first | rfl | exact vint (by omega)), (by first | rfl | exact vint (by omega)), (by first | rfl | exact vint (by omega)), (by first | rfl | exact vint (by omega)), (by first | rfl | exact vint (by omega)), (by first | rfl | exact vint (by omega)), (by first | rfl | exact vint (by omega)), (by first | rfl | exact vint (by omega)), (by first | rfl | exact vint (by omega)), (by first | rfl | exact vint (by omega)), trivial⟩ (fun w S => S)
       · -- h7F
        have h7b := h7
        try simp only [decide_eq_false_iff_not, Int.not_lt, Int.not_le] at h7
        refine h_take_no 9 rfl rfl rfl rfl rfl (by kernel_rfl) (by kernel_rfl) (by kernel_rfl) ?_
        refine h_take_no 10 rfl rfl rfl rfl rfl (by kernel_rfl) (by kernel_rfl) (by kernel_rfl) ?_
        refine h_take_no 11 rfl rfl rfl rfl rfl (by kernel_rfl) (by kernel_rfl) (by kernel_rfl) ?_
        refine h_take_no 12 rfl rfl rfl rfl rfl (by kernel_rfl) (by kernel_rfl) (by kernel_rfl) ?_
        refine h_take_no 13 rfl rfl rfl rfl rfl (by kernel_rfl) (by kernel_rfl) (by kernel_rfl) ?_
        refine h_take_no 14 rfl rfl rfl rfl rfl (by kernel_rfl) (by kernel_rfl) (by kernel_rfl) ?_
        refine h_take_no 15 rfl rfl rfl rfl rfl (by kernel_rfl) (by kernel_rfl) (by kernel_rfl) ?_
        refine h_take_no 16 rfl rfl rfl rfl rfl (by kernel_rfl) (by kernel_rfl) (by kernel_rfl) ?_
        refine h_take_yes 17 rfl rfl rfl rfl rfl (by kernel_rfl) (by kernel_rfl) (by kernel_rfl) (fun L0 => v_pick_false rfl rfl rfl) ?_
        refine h_take_yes 18 rfl rfl rfl rfl rfl (by kernel_rfl) (by kernel_rfl) (by kernel_rfl) (fun L0 => v_move rfl rfl) ?_
        refine h_take_no 19 rfl rfl rfl rfl rfl (by kernel_rfl) (by kernel_rfl) (by kernel_rfl) ?_
        refine h_take_no 20 rfl rfl rfl rfl rfl (by kernel_rfl) (by kernel_rfl) (by kernel_rfl) ?_
        refine h_take_no 21 rfl rfl rfl rfl rfl (by kernel_rfl) (by kernel_rfl) (by kernel_rfl) ?_
        refine h_take_no 22 rfl rfl rfl rfl rfl (by kernel_rfl) (by kernel_rfl) (by kernel_rfl) ?_
        refine h_take_yes 23 rfl rfl rfl rfl rfl (by kernel_rfl) (by kernel_rfl) (by kernel_rfl) (fun L0 => v_pick_false rfl rfl rfl) ?_
        refine h_take 24 rfl rfl (by kernel_rfl) (by kernel_rfl) (by kernel_rfl) (fun L0 => v_pick_false rfl rfl rfl) ?_
        refine h_take 25 rfl rfl (by kernel_rfl) (by kernel_rfl) (by kernel_rfl) (fun L0 => v_assign rfl rfl) ?_
        refine h_done (by kernel_rfl) ?_
        refine q_conv (L' := blk b8 (.cells #[.int .i64 x32.ord.f_Tag_Id_Node, .int .u64 x32.ord.f_Tag_Id_Epoch, .int .u64 x32.ord.f_Tag_Id_Seq, .int .i64 x32.ord.f_Tag_Try] 32 (0, 0)) :: blk b7 (.cells #[.int .i64 x32.f_Kind, .int .i64 x32.f_Index, .int .i64 x32.ord.f_Tag_Id_Node, .int .u64 x32.ord.f_Tag_Id_Epoch, .int .u64 x32.ord.f_Tag_Id_Seq, .int .i64 x32.ord.f_Tag_Try, .int .i64 x32.ord.f_Txn_Kind, .slice x32.ord.f_Txn_Reads.a (x32.ord.f_Txn_Reads.xs).length x32.ord.f_Txn_Reads.c, .slice x32.ord.f_Txn_Writes.a (x32.ord.f_Txn_Writes.xs).length x32.ord.f_Txn_Writes.c, .slice x32.ord.f_Txn_Ops.a (x32.ord.f_Txn_Ops.xs).length x32.ord.f_Txn_Ops.c, .int .i64 x32.ord.f_Txn_To, .slice x32.ord.f_Marks.a (x32.ord.f_Marks.xs).length x32.ord.f_Marks.c] 41 (0, 0)) :: FltR b24 s :: F) (fun w S => S.perm List.perm_append_comm) ?_
        refine q_block ?_
        refine q_then ?_
        refine c_region ?_
        refine o_move rfl rfl ?_
        refine o_bin rfl rfl rfl (b_add (wrap_i64 (by omega) (by omega))) ?_
        refine o_assign rfl rfl ?_
        refine l_nil ?_
        exact q_round (j + 1, false) (by exact ⟨by omega, had_on hhd (by first | (simp_all; done) | (rw [hadP hx46]; (try simp only [e53] at *); simp_all; done) | (rw [hadP hx46]; (try simp only [e53] at *); grind))⟩) (by (try dsimp only); omega) ⟨(by first | rfl | exact vint (by omega)), (by first | rfl | exact vint (by omega)), (by first | rfl | exact vint (by omega)), (by first | rfl | exact vint (by omega)), (by first | rfl | exact vint (by omega)), (by first | rfl | exact vint (by omega)), (by first | rfl | exact vint (by omega)), (by first | rfl | exact vint (by omega)), (by first | rfl | exact vint (by omega)), (by first | rfl | exact vint (by omega)), (by first | rfl | exact vint (by omega)), trivial⟩ (fun w S => S)
     · -- h5F
      have h5b := h5
      try simp only [decide_eq_false_iff_not, Int.not_lt, Int.not_le] at h5
      refine c_exit ?_
      refine q_pass_exit ?_
      refine q_pass_exit ?_
      refine q_hit ?_
      refine q_then ?_
      refine c_seq ?_
      have hgr : ∀ (ys : List Item), ys = sub log 0 i → lastOf g ys = lastOf g (log.take i) := fun ys h9 => by rw [h9, sub_take]
      have hruns := runs_le g (log.take i) x32.ord.tag
      have hhas : (hd = true) ↔ 0 < cnt s.seen x32.ord.tag := by (rw [hvw.cnt, hhd, show j = i by omega, had_iff]; omega)
      have hvo := vw_on hl40 hvw hx32
      refine c_conv (fun w S => S.perm p1) ?_
      refine c_conv (fun w S => S.perm p1) ?_
      refine c_conv (fun w S => S.perm p2) ?_
      refine c_heldF [FltR b24 s] (blk b8 (.cells #[.int .i64 x32.ord.f_Tag_Id_Node, .int .u64 x32.ord.f_Tag_Id_Epoch, .int .u64 x32.ord.f_Tag_Id_Seq, .int .i64 x32.ord.f_Tag_Try] 32 (0, 0)) :: blk b7 (.cells #[.int .i64 x32.f_Kind, .int .i64 x32.f_Index, .int .i64 x32.ord.f_Tag_Id_Node, .int .u64 x32.ord.f_Tag_Id_Epoch, .int .u64 x32.ord.f_Tag_Id_Seq, .int .i64 x32.ord.f_Tag_Try, .int .i64 x32.ord.f_Txn_Kind, .slice x32.ord.f_Txn_Reads.a (x32.ord.f_Txn_Reads.xs).length x32.ord.f_Txn_Reads.c, .slice x32.ord.f_Txn_Writes.a (x32.ord.f_Txn_Writes.xs).length x32.ord.f_Txn_Writes.c, .slice x32.ord.f_Txn_Ops.a (x32.ord.f_Txn_Ops.xs).length x32.ord.f_Txn_Ops.c, .int .i64 x32.ord.f_Txn_To, .slice x32.ord.f_Marks.a (x32.ord.f_Marks.xs).length x32.ord.f_Marks.c] 41 (0, 0)) :: F) (by kernel_rfl) ?_
      refine h_take 0 rfl rfl (by kernel_rfl) (by kernel_rfl) (by kernel_rfl) (fun L0 => v_move rfl rfl) ?_
      refine h_take 1 rfl rfl (by kernel_rfl) (by kernel_rfl) (by kernel_rfl) (fun L0 => v_loadn (vs := [_, _, _, _]) rfl rfl Try.underlying32 rfl ti32 (rdn_lit 0 rfl rfl)) ?_
      refine h_take 3 rfl rfl (by kernel_rfl) (by kernel_rfl) (by kernel_rfl) (fun L0 => v_move rfl rfl) ?_
      refine h_one 2 rfl (by kernel_rfl) ?_
      refine l_conv (L' := FltR b24 s :: blk b8 (.cells #[.int .i64 x32.ord.f_Tag_Id_Node, .int .u64 x32.ord.f_Tag_Id_Epoch, .int .u64 x32.ord.f_Tag_Id_Seq, .int .i64 x32.ord.f_Tag_Try] 32 (0, 0)) :: blk b7 (.cells #[.int .i64 x32.f_Kind, .int .i64 x32.f_Index, .int .i64 x32.ord.f_Tag_Id_Node, .int .u64 x32.ord.f_Tag_Id_Epoch, .int .u64 x32.ord.f_Tag_Id_Seq, .int .i64 x32.ord.f_Tag_Try, .int .i64 x32.ord.f_Txn_Kind, .slice x32.ord.f_Txn_Reads.a (x32.ord.f_Txn_Reads.xs).length x32.ord.f_Txn_Reads.c, .slice x32.ord.f_Txn_Writes.a (x32.ord.f_Txn_Writes.xs).length x32.ord.f_Txn_Writes.c, .slice x32.ord.f_Txn_Ops.a (x32.ord.f_Txn_Ops.xs).length x32.ord.f_Txn_Ops.c, .int .i64 x32.ord.f_Txn_To, .slice x32.ord.f_Marks.a (x32.ord.f_Marks.xs).length x32.ord.f_Marks.c] 41 (0, 0)) :: F) (fun w S => S.perm List.perm_append_comm) ?_
      refine o_call rfl cal14 rfl (fhas_ (tg := x32.ord.tag)) ?_
      rintro _ _ ⟨rfl, rfl⟩
      refine l_nil ?_
      refine q_conv (L' := (blk b8 (.cells #[.int .i64 x32.ord.f_Tag_Id_Node, .int .u64 x32.ord.f_Tag_Id_Epoch, .int .u64 x32.ord.f_Tag_Id_Seq, .int .i64 x32.ord.f_Tag_Try] 32 (0, 0)) :: blk b7 (.cells #[.int .i64 x32.f_Kind, .int .i64 x32.f_Index, .int .i64 x32.ord.f_Tag_Id_Node, .int .u64 x32.ord.f_Tag_Id_Epoch, .int .u64 x32.ord.f_Tag_Id_Seq, .int .i64 x32.ord.f_Tag_Try, .int .i64 x32.ord.f_Txn_Kind, .slice x32.ord.f_Txn_Reads.a (x32.ord.f_Txn_Reads.xs).length x32.ord.f_Txn_Reads.c, .slice x32.ord.f_Txn_Writes.a (x32.ord.f_Txn_Writes.xs).length x32.ord.f_Txn_Writes.c, .slice x32.ord.f_Txn_Ops.a (x32.ord.f_Txn_Ops.xs).length x32.ord.f_Txn_Ops.c, .int .i64 x32.ord.f_Txn_To, .slice x32.ord.f_Marks.a (x32.ord.f_Marks.xs).length x32.ord.f_Marks.c] 41 (0, 0)) :: F) ++ [FltR b24 s]) (fun w S => S.perm (List.perm_append_comm (l₁ := [FltR b24 s]) (l₂ := blk b8 (.cells #[.int .i64 x32.ord.f_Tag_Id_Node, .int .u64 x32.ord.f_Tag_Id_Epoch, .int .u64 x32.ord.f_Tag_Id_Seq, .int .i64 x32.ord.f_Tag_Try] 32 (0, 0)) :: blk b7 (.cells #[.int .i64 x32.f_Kind, .int .i64 x32.f_Index, .int .i64 x32.ord.f_Tag_Id_Node, .int .u64 x32.ord.f_Tag_Id_Epoch, .int .u64 x32.ord.f_Tag_Id_Seq, .int .i64 x32.ord.f_Tag_Try, .int .i64 x32.ord.f_Txn_Kind, .slice x32.ord.f_Txn_Reads.a (x32.ord.f_Txn_Reads.xs).length x32.ord.f_Txn_Reads.c, .slice x32.ord.f_Txn_Writes.a (x32.ord.f_Txn_Writes.xs).length x32.ord.f_Txn_Writes.c, .slice x32.ord.f_Txn_Ops.a (x32.ord.f_Txn_Ops.xs).length x32.ord.f_Txn_Ops.c, .int .i64 x32.ord.f_Txn_To, .slice x32.ord.f_Marks.a (x32.ord.f_Marks.xs).length x32.ord.f_Marks.c] 41 (0, 0)) :: F))) ?_
      refine h_next ?_
      refine h_take 4 rfl rfl (by kernel_rfl) (by kernel_rfl) (by kernel_rfl) (fun L0 => v_bin rfl rfl rfl (b_bne Try.underlying4 _ _)) ?_
      refine h_eq (t := 71) (v' := .bool false) rfl (show _ = Value.bool false from by (cases hd <;> simp_all)) ?_
      refine h_take 5 rfl rfl (by kernel_rfl) (by kernel_rfl) (by kernel_rfl) (fun L0 => v_move rfl rfl) ?_
      refine h_take_yes 6 rfl rfl rfl rfl rfl (by kernel_rfl) (by kernel_rfl) (by kernel_rfl) (fun L0 => v_move rfl rfl) ?_
      refine h_take_yes 8 rfl rfl rfl rfl rfl (by kernel_rfl) (by kernel_rfl) (by kernel_rfl) (fun L0 => v_move rfl rfl) ?_
      refine h_take_yes 9 rfl rfl rfl rfl rfl (by kernel_rfl) (by kernel_rfl) (by kernel_rfl) (fun L0 => v_move rfl rfl) ?_
      refine h_take_yes 10 rfl rfl rfl rfl rfl (by kernel_rfl) (by kernel_rfl) (by kernel_rfl) (fun L0 => v_move rfl rfl) ?_
      refine h_take_yes 11 rfl rfl rfl rfl rfl (by kernel_rfl) (by kernel_rfl) (by kernel_rfl) (fun L0 => v_cut (l' := 0) (h' := i) (m := c) rfl rfl Try.underlying22 ti41 (.inl ⟨rfl, rfl⟩) (.inr ⟨_, _, rfl, icast rfl (by omega), (by omega)⟩) (.inl ⟨rfl, rfl⟩)) ?_
      obtain ⟨ys78, ay78, cut78, hys78, hlys78, eay78⟩ : ∃ ys_ ay_, (∀ {L : List Res}, RdS W L e_Item a log → RdS W L e_Item ay_ ys_) ∧ ys_ = sub log 0 i ∧ ys_.length = i - 0 ∧ cutA a c 0 12 = ay_ := ⟨_, _, fun h => rds_cut e_Item_ok h _ _ _ (by omega), rfl, sub_len (by omega), rfl⟩
      refine h_eq (t := 78) (v' := .slice ay78 ys78.length (c - 0)) rfl (by rw [eay78, hlys78]) ?_
      refine h_one 7 rfl (by kernel_rfl) ?_
      refine l_conv (L' := FltR b24 s :: blk b8 (.cells #[.int .i64 x32.ord.f_Tag_Id_Node, .int .u64 x32.ord.f_Tag_Id_Epoch, .int .u64 x32.ord.f_Tag_Id_Seq, .int .i64 x32.ord.f_Tag_Try] 32 (0, 0)) :: blk b7 (.cells #[.int .i64 x32.f_Kind, .int .i64 x32.f_Index, .int .i64 x32.ord.f_Tag_Id_Node, .int .u64 x32.ord.f_Tag_Id_Epoch, .int .u64 x32.ord.f_Tag_Id_Seq, .int .i64 x32.ord.f_Tag_Try, .int .i64 x32.ord.f_Txn_Kind, .slice x32.ord.f_Txn_Reads.a (x32.ord.f_Txn_Reads.xs).length x32.ord.f_Txn_Reads.c, .slice x32.ord.f_Txn_Writes.a (x32.ord.f_Txn_Writes.xs).length x32.ord.f_Txn_Writes.c, .slice x32.ord.f_Txn_Ops.a (x32.ord.f_Txn_Ops.xs).length x32.ord.f_Txn_Ops.c, .int .i64 x32.ord.f_Txn_To, .slice x32.ord.f_Marks.a (x32.ord.f_Marks.xs).length x32.ord.f_Marks.c] 41 (0, 0)) :: F) (fun w S => S.perm List.perm_append_comm) ?_
      refine o_yes rfl rfl rfl ?_
      refine o_call rfl cal12 rfl (flast_) ?_
      rintro _ _ ⟨rfl, rfl⟩
      refine l_nil ?_
      refine q_conv (L' := (blk b8 (.cells #[.int .i64 x32.ord.f_Tag_Id_Node, .int .u64 x32.ord.f_Tag_Id_Epoch, .int .u64 x32.ord.f_Tag_Id_Seq, .int .i64 x32.ord.f_Tag_Try] 32 (0, 0)) :: blk b7 (.cells #[.int .i64 x32.f_Kind, .int .i64 x32.f_Index, .int .i64 x32.ord.f_Tag_Id_Node, .int .u64 x32.ord.f_Tag_Id_Epoch, .int .u64 x32.ord.f_Tag_Id_Seq, .int .i64 x32.ord.f_Tag_Try, .int .i64 x32.ord.f_Txn_Kind, .slice x32.ord.f_Txn_Reads.a (x32.ord.f_Txn_Reads.xs).length x32.ord.f_Txn_Reads.c, .slice x32.ord.f_Txn_Writes.a (x32.ord.f_Txn_Writes.xs).length x32.ord.f_Txn_Writes.c, .slice x32.ord.f_Txn_Ops.a (x32.ord.f_Txn_Ops.xs).length x32.ord.f_Txn_Ops.c, .int .i64 x32.ord.f_Txn_To, .slice x32.ord.f_Marks.a (x32.ord.f_Marks.xs).length x32.ord.f_Marks.c] 41 (0, 0)) :: F) ++ [FltR b24 s]) (fun w S => S.perm (List.perm_append_comm (l₁ := [FltR b24 s]) (l₂ := blk b8 (.cells #[.int .i64 x32.ord.f_Tag_Id_Node, .int .u64 x32.ord.f_Tag_Id_Epoch, .int .u64 x32.ord.f_Tag_Id_Seq, .int .i64 x32.ord.f_Tag_Try] 32 (0, 0)) :: blk b7 (.cells #[.int .i64 x32.f_Kind, .int .i64 x32.f_Index, .int .i64 x32.ord.f_Tag_Id_Node, .int .u64 x32.ord.f_Tag_Id_Epoch, .int .u64 x32.ord.f_Tag_Id_Seq, .int .i64 x32.ord.f_Tag_Try, .int .i64 x32.ord.f_Txn_Kind, .slice x32.ord.f_Txn_Reads.a (x32.ord.f_Txn_Reads.xs).length x32.ord.f_Txn_Reads.c, .slice x32.ord.f_Txn_Writes.a (x32.ord.f_Txn_Writes.xs).length x32.ord.f_Txn_Writes.c, .slice x32.ord.f_Txn_Ops.a (x32.ord.f_Txn_Ops.xs).length x32.ord.f_Txn_Ops.c, .int .i64 x32.ord.f_Txn_To, .slice x32.ord.f_Marks.a (x32.ord.f_Marks.xs).length x32.ord.f_Marks.c] 41 (0, 0)) :: F))) ?_
      refine h_next ?_
      refine h_one 12 rfl (by kernel_rfl) ?_
      refine l_conv (L' := FltR b24 s :: blk b8 (.cells #[.int .i64 x32.ord.f_Tag_Id_Node, .int .u64 x32.ord.f_Tag_Id_Epoch, .int .u64 x32.ord.f_Tag_Id_Seq, .int .i64 x32.ord.f_Tag_Try] 32 (0, 0)) :: blk b7 (.cells #[.int .i64 x32.f_Kind, .int .i64 x32.f_Index, .int .i64 x32.ord.f_Tag_Id_Node, .int .u64 x32.ord.f_Tag_Id_Epoch, .int .u64 x32.ord.f_Tag_Id_Seq, .int .i64 x32.ord.f_Tag_Try, .int .i64 x32.ord.f_Txn_Kind, .slice x32.ord.f_Txn_Reads.a (x32.ord.f_Txn_Reads.xs).length x32.ord.f_Txn_Reads.c, .slice x32.ord.f_Txn_Writes.a (x32.ord.f_Txn_Writes.xs).length x32.ord.f_Txn_Writes.c, .slice x32.ord.f_Txn_Ops.a (x32.ord.f_Txn_Ops.xs).length x32.ord.f_Txn_Ops.c, .int .i64 x32.ord.f_Txn_To, .slice x32.ord.f_Marks.a (x32.ord.f_Marks.xs).length x32.ord.f_Marks.c] 41 (0, 0)) :: F) (fun w S => S.perm List.perm_append_comm) ?_
      refine o_yes rfl rfl rfl ?_
      refine o_call rfl cal15 rfl (rlast_ (log := ys78) (g := g) (cut78 (rds_c (rds_c (rds_c hs)))) (fun x hx => (OrdR.c (OrdR.c (OrdR.c (ho x (sub_mem'' (by rw [hys78] at hx; exact hx))))))) (fun x hx => hmk x (sub_mem'' (by rw [hys78] at hx; exact hx))) (by omega)) ?_
      rintro _ _ ⟨rfl, rfl⟩
      refine l_nil ?_
      refine q_conv (L' := (blk b8 (.cells #[.int .i64 x32.ord.f_Tag_Id_Node, .int .u64 x32.ord.f_Tag_Id_Epoch, .int .u64 x32.ord.f_Tag_Id_Seq, .int .i64 x32.ord.f_Tag_Try] 32 (0, 0)) :: blk b7 (.cells #[.int .i64 x32.f_Kind, .int .i64 x32.f_Index, .int .i64 x32.ord.f_Tag_Id_Node, .int .u64 x32.ord.f_Tag_Id_Epoch, .int .u64 x32.ord.f_Tag_Id_Seq, .int .i64 x32.ord.f_Tag_Try, .int .i64 x32.ord.f_Txn_Kind, .slice x32.ord.f_Txn_Reads.a (x32.ord.f_Txn_Reads.xs).length x32.ord.f_Txn_Reads.c, .slice x32.ord.f_Txn_Writes.a (x32.ord.f_Txn_Writes.xs).length x32.ord.f_Txn_Writes.c, .slice x32.ord.f_Txn_Ops.a (x32.ord.f_Txn_Ops.xs).length x32.ord.f_Txn_Ops.c, .int .i64 x32.ord.f_Txn_To, .slice x32.ord.f_Marks.a (x32.ord.f_Marks.xs).length x32.ord.f_Marks.c] 41 (0, 0)) :: F) ++ [FltR b24 s]) (fun w S => S.perm (List.perm_append_comm (l₁ := [FltR b24 s]) (l₂ := blk b8 (.cells #[.int .i64 x32.ord.f_Tag_Id_Node, .int .u64 x32.ord.f_Tag_Id_Epoch, .int .u64 x32.ord.f_Tag_Id_Seq, .int .i64 x32.ord.f_Tag_Try] 32 (0, 0)) :: blk b7 (.cells #[.int .i64 x32.f_Kind, .int .i64 x32.f_Index, .int .i64 x32.ord.f_Tag_Id_Node, .int .u64 x32.ord.f_Tag_Id_Epoch, .int .u64 x32.ord.f_Tag_Id_Seq, .int .i64 x32.ord.f_Tag_Try, .int .i64 x32.ord.f_Txn_Kind, .slice x32.ord.f_Txn_Reads.a (x32.ord.f_Txn_Reads.xs).length x32.ord.f_Txn_Reads.c, .slice x32.ord.f_Txn_Writes.a (x32.ord.f_Txn_Writes.xs).length x32.ord.f_Txn_Writes.c, .slice x32.ord.f_Txn_Ops.a (x32.ord.f_Txn_Ops.xs).length x32.ord.f_Txn_Ops.c, .int .i64 x32.ord.f_Txn_To, .slice x32.ord.f_Marks.a (x32.ord.f_Marks.xs).length x32.ord.f_Marks.c] 41 (0, 0)) :: F))) ?_
      refine h_next ?_
      refine h_take_yes 13 rfl rfl rfl rfl rfl (by kernel_rfl) (by kernel_rfl) (by kernel_rfl) (fun L0 => v_bin rfl rfl rfl b_neq) ?_
      refine h_eq (t := 80) (v' := .bool false) rfl (show _ = Value.bool false from by rw [hgr ys78 hys78, hvw.last]; simp) ?_
      refine h_take 14 rfl rfl (by kernel_rfl) (by kernel_rfl) (by kernel_rfl) (fun L0 => v_pick_false rfl rfl rfl) ?_
      refine h_take 15 rfl rfl (by kernel_rfl) (by kernel_rfl) (by kernel_rfl) (fun L0 => v_move rfl rfl) ?_
      refine h_take_yes 16 rfl rfl rfl rfl rfl (by kernel_rfl) (by kernel_rfl) (by kernel_rfl) (fun L0 => v_move rfl rfl) ?_
      refine h_take_yes 17 rfl rfl rfl rfl rfl (by kernel_rfl) (by kernel_rfl) (by kernel_rfl) (fun L0 => v_loadn (vs := [_, _, _, _, _, _, _, _, _, _, _, _]) rfl rfl Try.underlying41 rfl ti41 (rdn_lit 1 rfl rfl)) ?_
      refine h_take_yes 19 rfl rfl rfl rfl rfl (by kernel_rfl) (by kernel_rfl) (by kernel_rfl) (fun L0 => v_move rfl rfl) ?_
      refine h_take_yes 20 rfl rfl rfl rfl rfl (by kernel_rfl) (by kernel_rfl) (by kernel_rfl) (fun L0 => v_move rfl rfl) ?_
      refine h_take_yes 21 rfl rfl rfl rfl rfl (by kernel_rfl) (by kernel_rfl) (by kernel_rfl) (fun L0 => v_move rfl rfl) ?_
      refine h_one 18 rfl (by kernel_rfl) ?_
      refine l_conv (L' := FltR b24 s :: blk b8 (.cells #[.int .i64 x32.ord.f_Tag_Id_Node, .int .u64 x32.ord.f_Tag_Id_Epoch, .int .u64 x32.ord.f_Tag_Id_Seq, .int .i64 x32.ord.f_Tag_Try] 32 (0, 0)) :: blk b7 (.cells #[.int .i64 x32.f_Kind, .int .i64 x32.f_Index, .int .i64 x32.ord.f_Tag_Id_Node, .int .u64 x32.ord.f_Tag_Id_Epoch, .int .u64 x32.ord.f_Tag_Id_Seq, .int .i64 x32.ord.f_Tag_Try, .int .i64 x32.ord.f_Txn_Kind, .slice x32.ord.f_Txn_Reads.a (x32.ord.f_Txn_Reads.xs).length x32.ord.f_Txn_Reads.c, .slice x32.ord.f_Txn_Writes.a (x32.ord.f_Txn_Writes.xs).length x32.ord.f_Txn_Writes.c, .slice x32.ord.f_Txn_Ops.a (x32.ord.f_Txn_Ops.xs).length x32.ord.f_Txn_Ops.c, .int .i64 x32.ord.f_Txn_To, .slice x32.ord.f_Marks.a (x32.ord.f_Marks.xs).length x32.ord.f_Marks.c] 41 (0, 0)) :: F) (fun w S => S.perm List.perm_append_comm) ?_
      refine o_yes rfl rfl rfl ?_
      refine o_call rfl cal11 rfl (fitem_ (x := x32) (OrdR.c (OrdR.c (ho x32 (List.mem_of_getElem? hx32)))) (hmk x32 (List.mem_of_getElem? hx32))) ?_
      rintro _ _ ⟨rfl, rfl⟩
      refine l_nil ?_
      refine q_conv (L' := (blk b8 (.cells #[.int .i64 x32.ord.f_Tag_Id_Node, .int .u64 x32.ord.f_Tag_Id_Epoch, .int .u64 x32.ord.f_Tag_Id_Seq, .int .i64 x32.ord.f_Tag_Try] 32 (0, 0)) :: blk b7 (.cells #[.int .i64 x32.f_Kind, .int .i64 x32.f_Index, .int .i64 x32.ord.f_Tag_Id_Node, .int .u64 x32.ord.f_Tag_Id_Epoch, .int .u64 x32.ord.f_Tag_Id_Seq, .int .i64 x32.ord.f_Tag_Try, .int .i64 x32.ord.f_Txn_Kind, .slice x32.ord.f_Txn_Reads.a (x32.ord.f_Txn_Reads.xs).length x32.ord.f_Txn_Reads.c, .slice x32.ord.f_Txn_Writes.a (x32.ord.f_Txn_Writes.xs).length x32.ord.f_Txn_Writes.c, .slice x32.ord.f_Txn_Ops.a (x32.ord.f_Txn_Ops.xs).length x32.ord.f_Txn_Ops.c, .int .i64 x32.ord.f_Txn_To, .slice x32.ord.f_Marks.a (x32.ord.f_Marks.xs).length x32.ord.f_Marks.c] 41 (0, 0)) :: F) ++ [FltR b24 ((s.item x32).2)]) (fun w S => S.perm (List.perm_append_comm (l₁ := [FltR b24 ((s.item x32).2)]) (l₂ := blk b8 (.cells #[.int .i64 x32.ord.f_Tag_Id_Node, .int .u64 x32.ord.f_Tag_Id_Epoch, .int .u64 x32.ord.f_Tag_Id_Seq, .int .i64 x32.ord.f_Tag_Try] 32 (0, 0)) :: blk b7 (.cells #[.int .i64 x32.f_Kind, .int .i64 x32.f_Index, .int .i64 x32.ord.f_Tag_Id_Node, .int .u64 x32.ord.f_Tag_Id_Epoch, .int .u64 x32.ord.f_Tag_Id_Seq, .int .i64 x32.ord.f_Tag_Try, .int .i64 x32.ord.f_Txn_Kind, .slice x32.ord.f_Txn_Reads.a (x32.ord.f_Txn_Reads.xs).length x32.ord.f_Txn_Reads.c, .slice x32.ord.f_Txn_Writes.a (x32.ord.f_Txn_Writes.xs).length x32.ord.f_Txn_Writes.c, .slice x32.ord.f_Txn_Ops.a (x32.ord.f_Txn_Ops.xs).length x32.ord.f_Txn_Ops.c, .int .i64 x32.ord.f_Txn_To, .slice x32.ord.f_Marks.a (x32.ord.f_Marks.xs).length x32.ord.f_Marks.c] 41 (0, 0)) :: F))) ?_
      refine h_next ?_
      refine h_one 22 rfl (by kernel_rfl) ?_
      refine l_conv (L' := FltR b24 ((s.item x32).2) :: blk b8 (.cells #[.int .i64 x32.ord.f_Tag_Id_Node, .int .u64 x32.ord.f_Tag_Id_Epoch, .int .u64 x32.ord.f_Tag_Id_Seq, .int .i64 x32.ord.f_Tag_Try] 32 (0, 0)) :: blk b7 (.cells #[.int .i64 x32.f_Kind, .int .i64 x32.f_Index, .int .i64 x32.ord.f_Tag_Id_Node, .int .u64 x32.ord.f_Tag_Id_Epoch, .int .u64 x32.ord.f_Tag_Id_Seq, .int .i64 x32.ord.f_Tag_Try, .int .i64 x32.ord.f_Txn_Kind, .slice x32.ord.f_Txn_Reads.a (x32.ord.f_Txn_Reads.xs).length x32.ord.f_Txn_Reads.c, .slice x32.ord.f_Txn_Writes.a (x32.ord.f_Txn_Writes.xs).length x32.ord.f_Txn_Writes.c, .slice x32.ord.f_Txn_Ops.a (x32.ord.f_Txn_Ops.xs).length x32.ord.f_Txn_Ops.c, .int .i64 x32.ord.f_Txn_To, .slice x32.ord.f_Marks.a (x32.ord.f_Marks.xs).length x32.ord.f_Marks.c] 41 (0, 0)) :: F) (fun w S => S.perm List.perm_append_comm) ?_
      refine o_yes rfl rfl rfl ?_
      refine o_call rfl cal13 rfl (counts_ i (rds_c (rds_c (rds_c hs))) (fun x hx => (OrdR.c (OrdR.c (OrdR.c (ho x hx))))) hmk (by omega) (by omega) (by omega)) ?_
      rintro _ _ ⟨rfl, rfl⟩
      refine l_nil ?_
      refine q_conv (L' := (blk b8 (.cells #[.int .i64 x32.ord.f_Tag_Id_Node, .int .u64 x32.ord.f_Tag_Id_Epoch, .int .u64 x32.ord.f_Tag_Id_Seq, .int .i64 x32.ord.f_Tag_Try] 32 (0, 0)) :: blk b7 (.cells #[.int .i64 x32.f_Kind, .int .i64 x32.f_Index, .int .i64 x32.ord.f_Tag_Id_Node, .int .u64 x32.ord.f_Tag_Id_Epoch, .int .u64 x32.ord.f_Tag_Id_Seq, .int .i64 x32.ord.f_Tag_Try, .int .i64 x32.ord.f_Txn_Kind, .slice x32.ord.f_Txn_Reads.a (x32.ord.f_Txn_Reads.xs).length x32.ord.f_Txn_Reads.c, .slice x32.ord.f_Txn_Writes.a (x32.ord.f_Txn_Writes.xs).length x32.ord.f_Txn_Writes.c, .slice x32.ord.f_Txn_Ops.a (x32.ord.f_Txn_Ops.xs).length x32.ord.f_Txn_Ops.c, .int .i64 x32.ord.f_Txn_To, .slice x32.ord.f_Marks.a (x32.ord.f_Marks.xs).length x32.ord.f_Marks.c] 41 (0, 0)) :: F) ++ [FltR b24 ((s.item x32).2)]) (fun w S => S.perm (List.perm_append_comm (l₁ := [FltR b24 ((s.item x32).2)]) (l₂ := blk b8 (.cells #[.int .i64 x32.ord.f_Tag_Id_Node, .int .u64 x32.ord.f_Tag_Id_Epoch, .int .u64 x32.ord.f_Tag_Id_Seq, .int .i64 x32.ord.f_Tag_Try] 32 (0, 0)) :: blk b7 (.cells #[.int .i64 x32.f_Kind, .int .i64 x32.f_Index, .int .i64 x32.ord.f_Tag_Id_Node, .int .u64 x32.ord.f_Tag_Id_Epoch, .int .u64 x32.ord.f_Tag_Id_Seq, .int .i64 x32.ord.f_Tag_Try, .int .i64 x32.ord.f_Txn_Kind, .slice x32.ord.f_Txn_Reads.a (x32.ord.f_Txn_Reads.xs).length x32.ord.f_Txn_Reads.c, .slice x32.ord.f_Txn_Writes.a (x32.ord.f_Txn_Writes.xs).length x32.ord.f_Txn_Writes.c, .slice x32.ord.f_Txn_Ops.a (x32.ord.f_Txn_Ops.xs).length x32.ord.f_Txn_Ops.c, .int .i64 x32.ord.f_Txn_To, .slice x32.ord.f_Marks.a (x32.ord.f_Marks.xs).length x32.ord.f_Marks.c] 41 (0, 0)) :: F))) ?_
      refine h_next ?_
      refine h_take_yes 23 rfl rfl rfl rfl rfl (by kernel_rfl) (by kernel_rfl) (by kernel_rfl) (fun L0 => v_bin rfl rfl rfl (b_bne Try.underlying4 _ _)) ?_
      refine h_eq (t := 90) (v' := .bool false) rfl (show _ = Value.bool false from by rw [hvo.1]; simp) ?_
      refine h_take 24 rfl rfl (by kernel_rfl) (by kernel_rfl) (by kernel_rfl) (fun L0 => v_pick_false rfl rfl rfl) ?_
      refine h_done (by kernel_rfl) ?_
      refine q_conv (L' := FltR b24 ((s.item x32).2) :: blk b8 (.cells #[.int .i64 x32.ord.f_Tag_Id_Node, .int .u64 x32.ord.f_Tag_Id_Epoch, .int .u64 x32.ord.f_Tag_Id_Seq, .int .i64 x32.ord.f_Tag_Try] 32 (0, 0)) :: blk b7 (.cells #[.int .i64 x32.f_Kind, .int .i64 x32.f_Index, .int .i64 x32.ord.f_Tag_Id_Node, .int .u64 x32.ord.f_Tag_Id_Epoch, .int .u64 x32.ord.f_Tag_Id_Seq, .int .i64 x32.ord.f_Tag_Try, .int .i64 x32.ord.f_Txn_Kind, .slice x32.ord.f_Txn_Reads.a (x32.ord.f_Txn_Reads.xs).length x32.ord.f_Txn_Reads.c, .slice x32.ord.f_Txn_Writes.a (x32.ord.f_Txn_Writes.xs).length x32.ord.f_Txn_Writes.c, .slice x32.ord.f_Txn_Ops.a (x32.ord.f_Txn_Ops.xs).length x32.ord.f_Txn_Ops.c, .int .i64 x32.ord.f_Txn_To, .slice x32.ord.f_Marks.a (x32.ord.f_Marks.xs).length x32.ord.f_Marks.c] 41 (0, 0)) :: F) (fun w S => S.perm List.perm_append_comm) ?_
      refine q_then ?_
      refine c_false rfl ?_
      refine c_skip ?_
      refine q_block ?_
      refine q_then ?_
      refine c_region ?_
      refine o_bin rfl rfl rfl (b_add (wrap_i64 (by omega) (by omega))) ?_
      refine o_move rfl rfl ?_
      refine l_nil ?_
      refine q_conv (fun w S => (S.perm p1).tail) ?_
      refine q_conv (fun w S => (S.perm p1).tail) ?_
      exact q_round (i + 1, (s.item x32).2) (by exact ⟨by omega, hvo.2⟩) (by (try dsimp only); omega) ⟨(by first | rfl | exact vint (by omega)), (by first | rfl | exact vint (by omega)), (by first | rfl | exact vint (by omega)), (by first | rfl | exact vint (by omega)), (by first | rfl | exact vint (by omega)), (by first | rfl | exact vint (by omega)), trivial⟩ (fun w S => S)
    · -- h4F
     have h4b := h4
     try simp only [decide_eq_false_iff_not, Int.not_lt, Int.not_le] at h4
     refine c_exit ?_
     refine q_pass_exit ?_
     refine q_pass_exit ?_
     refine q_hit ?_
     refine q_then ?_
     refine c_seq ?_
     refine c_region ?_
     refine o_move rfl rfl ?_
     refine o_call rfl cal12 rfl (flast_) ?_
     rintro _ _ ⟨rfl, rfl⟩
     refine o_move rfl rfl ?_
     refine o_move rfl rfl ?_
     refine o_call rfl cal15 rfl (rlast_ (log := log) (g := g) (rds_c hs) (fun x hx => (OrdR.c (ho x hx))) hmk (by omega)) ?_
     rintro _ _ ⟨rfl, rfl⟩
     refine o_bin rfl rfl rfl b_eql ?_
     refine l_eq (t := 98) (v' := .bool true) rfl (show _ = Value.bool true from by rw [decide_eq_true]; rw [hvw.last, List.take_of_length_le (by omega)]) ?_
     refine o_assign rfl rfl ?_
     refine l_nil ?_
     refine q_then ?_
     refine c_ret ?_
     refine q_conv (fun w S => S.tail) ?_
     exact f_ret (r_one rfl rfl) (⟨rfl, rfl⟩) (fun w S => S)

end Go.Proofs.Ytjoigmbapnjhhaa
