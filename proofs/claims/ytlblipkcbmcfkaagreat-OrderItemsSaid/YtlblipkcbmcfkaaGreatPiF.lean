/- Texts of the proof: RdI, ROp, Right, OCheck, RNum, RWr, RBy. -/
import Derived.Test.YtlblipkcbmcfkaaGreatPiE
namespace Go.Proofs.YtlblipkcbmcfkaaGreat
section
set_option linter.unusedVariables false
set_option linter.unusedSimpArgs false
set_option maxRecDepth 10000
open Go.RowKit Classical
/-- The bytes are those of the item x. -/
structure GoodI (x : Item) (bs : List UInt8) : Prop where
  it : ItOk x
  ok : OrdOk x.ord 3
  wf : OWf x.ord
  eq : bs = itemB x
def RdResI (bs : List UInt8) (q : Item) (n : Int) : Prop := (n = 0 ∧ GoodI q bs) ∨ (n = 31 ∧ q = (⟨0, 0, 0, 0, 0, 0, 0, ⟨none, [], 0⟩, ⟨none, [], 0⟩, ⟨none, [], 0⟩, 0, ⟨none, [], 0⟩⟩ : Item) ∧ ∀ x, ¬ GoodI x bs)
theorem rd_item {x : Item} {bs y1 y2 : List UInt8} (g : GoodI x bs) (d1 : y1 = bs.drop (numR 0 0 bs).2.2) (d2 : y2 = y1.drop (numR 0 0 y1).2.2) : smR bs = x.f_Kind ∧ smR y1 = x.f_Index ∧ GoodO x.ord y2 := by
  have hi := g.it
  unfold ItOk at hi
  have e : bs = nB x.f_Kind ++ (nB x.f_Index ++ ordB x.ord) := by
    rw [g.eq]
    unfold itemB numsB
    simp only [List.flatMap_cons, List.flatMap_nil, List.append_nil, List.append_assoc]
  obtain ⟨f1, g1⟩ := smR_of (by omega) (by omega) e
  obtain ⟨f2, g2⟩ := smR_of (by omega) (by omega) (d1.trans g1)
  exact ⟨f1, f2, g.ok, g.wf, d2.trans g2⟩
set_option maxHeartbeats 1000000 in
theorem iWriteR_ {W : World} {F : List Res} {x : Item} (T_x : OrdR W F x.ord) (wf : OWf x.ord) (hb : x.ord.f_Txn_Reads.xs.length + x.ord.f_Txn_Writes.xs.length ≤ 1000000) (hm : x.ord.f_Marks.xs.length ≤ 1000000) : CS Tryz.prog 13 #[.agg #[.int .i64 x.f_Kind, .int .i64 x.f_Index, .int .i64 x.ord.f_Tag_Id_Node, .int .u64 x.ord.f_Tag_Id_Epoch, .int .u64 x.ord.f_Tag_Id_Seq, .int .i64 x.ord.f_Tag_Try, .int .i64 x.ord.f_Txn_Kind, .slice x.ord.f_Txn_Reads.a (x.ord.f_Txn_Reads.xs).length x.ord.f_Txn_Reads.c, .slice x.ord.f_Txn_Writes.a (x.ord.f_Txn_Writes.xs).length x.ord.f_Txn_Writes.c, .slice x.ord.f_Txn_Ops.a (x.ord.f_Txn_Ops.xs).length x.ord.f_Txn_Ops.c, .int .i64 x.ord.f_Txn_To, .slice x.ord.f_Marks.a (x.ord.f_Marks.xs).length x.ord.f_Marks.c]] W (F) (fun r L' => ∃ (out : List UInt8) (a2 : Option Addr) (c2 : Nat), out = wrI x ∧ r = .tuple #[.slice a2 out.length c2, .int .i64 (chkI x)] ∧ L' = row e8.T e8.sz a2 (out).length c2 (flat e8 out) :: F) := by
 refine f_door (l0 := [(0, .agg #[.int .i64 x.f_Kind, .int .i64 x.f_Index, .int .i64 x.ord.f_Tag_Id_Node, .int .u64 x.ord.f_Tag_Id_Epoch, .int .u64 x.ord.f_Tag_Id_Seq, .int .i64 x.ord.f_Tag_Try, .int .i64 x.ord.f_Txn_Kind, .slice x.ord.f_Txn_Reads.a (x.ord.f_Txn_Reads.xs).length x.ord.f_Txn_Reads.c, .slice x.ord.f_Txn_Writes.a (x.ord.f_Txn_Writes.xs).length x.ord.f_Txn_Writes.c, .slice x.ord.f_Txn_Ops.a (x.ord.f_Txn_Ops.xs).length x.ord.f_Txn_Ops.c, .int .i64 x.ord.f_Txn_To, .slice x.ord.f_Marks.a (x.ord.f_Marks.xs).length x.ord.f_Marks.c])]) Tryz.func13 Tryz.ntmps13 rfl rfl rfl ?_
 refine c_seq ?_
 refine c_region ?_
 refine o_box rfl rfl fun b1 => ?_
 refine o_assign rfl rfl ?_
 refine o_assign rfl rfl ?_
 refine l_nil ?_
 refine q_then ?_
 refine c_seq ?_
 refine c_region ?_
 refine o_fieldAddr (q := ⟨b1, 0, none⟩) rfl rfl Tryz.underlying50 rfl ti3 rfl ?_
 refine o_load1 rfl rfl Tryz.underlying3 rfl (rd_mem 0 rfl rfl) ?_
 refine o_bin rfl rfl rfl b_eql ?_
 refine o_move rfl rfl ?_
 refine l_split (t := 9) rfl (fun h1 => ?_) (fun h1 => ?_)
 · -- h1T
  have h1b := h1
  try simp only [decide_eq_true_eq] at h1
  refine o_yes rfl rfl rfl ?_
  refine o_fieldAddr (q := ⟨b1, 1, none⟩) rfl rfl Tryz.underlying50 rfl ti3 rfl ?_
  refine o_yes rfl rfl rfl ?_
  refine o_load1 rfl rfl Tryz.underlying3 rfl (rd_mem 0 rfl rfl) ?_
  refine o_yes rfl rfl rfl ?_
  refine o_bin rfl rfl rfl b_eql ?_
  refine o_pick_true rfl rfl rfl ?_
  refine o_move rfl rfl ?_
  refine l_split (t := 14) rfl (fun h2 => ?_) (fun h2 => ?_)
  · -- h2T
   have h2b := h2
   try simp only [decide_eq_true_eq] at h2
   refine o_no rfl rfl rfl rfl ?_
   refine o_no rfl rfl rfl rfl ?_
   refine o_no rfl rfl rfl rfl ?_
   refine o_no rfl rfl rfl rfl ?_
   refine o_no rfl rfl rfl rfl ?_
   refine o_no rfl rfl rfl rfl ?_
   refine o_no rfl rfl rfl rfl ?_
   refine o_no rfl rfl rfl rfl ?_
   refine o_no rfl rfl rfl rfl ?_
   refine o_no rfl rfl rfl rfl ?_
   refine o_no rfl rfl rfl rfl ?_
   refine o_no rfl rfl rfl rfl ?_
   refine o_no rfl rfl rfl rfl ?_
   refine o_pick_true rfl rfl rfl ?_
   refine o_assign rfl rfl ?_
   refine l_nil ?_
   refine q_then ?_
   refine c_seq ?_
   refine c_seq ?_
   refine c_region ?_
   refine o_move rfl rfl ?_
   refine o_not rfl rfl ?_
   refine o_move rfl rfl ?_
   refine o_yes rfl rfl rfl ?_
   refine o_fieldAddr (q := ⟨b1, 2, none⟩) rfl rfl Tryz.underlying50 rfl ti33 rfl ?_
   refine o_yes rfl rfl rfl ?_
   refine o_loadn (vs := [_, _, _, _, _, _, _, _, _, _]) rfl rfl Tryz.underlying33 rfl ti33 (rdn_lit 0 rfl rfl) ?_
   refine o_yes rfl rfl rfl ?_
   refine o_call rfl cal22 rfl (ocheck_ (o := x.ord) (g := 3) (OrdR.c T_x) hb hm) ?_
   rintro _ _ ⟨rfl, rfl⟩
   refine o_yes rfl rfl rfl ?_
   refine o_bin rfl rfl rfl b_neq ?_
   refine o_pick_false rfl rfl rfl ?_
   refine l_nil ?_
   refine q_then ?_
   refine c_cond rfl (fun h3 => ?_) (fun h3 => ?_)
   · -- h3T
    have h3b := h3
    try simp only [Bool.not_eq_true', decide_eq_false_iff_not, Int.not_lt, Int.not_le] at h3
    refine c_seq ?_
    have hno : ¬ (ItOk x ∧ OrdOk x.ord 3) := by unfold ItOk; first | (intro h9; omega) | (rintro ⟨h8, h9⟩; first | omega | (exact absurd (chkO_yes h9) (by assumption)) | (rw [chkO_yes h9] at *; simp_all))
    refine c_nilrow e8 ?_
    refine c_region ?_
    refine o_assign rfl rfl ?_
    refine o_assign rfl rfl ?_
    refine l_nil ?_
    refine q_then ?_
    refine c_ret ?_
    refine q_pass_ret ?_
    refine q_conv (fun w S => (S.perm p1).tail) ?_
    exact f_ret (r_two rfl rfl rfl) (⟨[], none, 0, by rw [wrI, if_neg hno], by rw [show chkI x = 1 from if_neg hno]; rfl, rfl⟩) (fun w S => S)
   · -- h3F
    have h3b := h3
    try simp only [Bool.not_eq_false', decide_eq_true_eq] at h3
    refine c_skip ?_
    refine q_then ?_
    refine c_seq ?_
    have hok : ItOk x ∧ OrdOk x.ord 3 := ⟨by unfold ItOk; omega, chkO_0.1 (by first | assumption | simp_all)⟩
    have sm := ok_small hok.2
    have hh := it_hd hok.1
    have hbl := ordB_len hok.2 wf sm
    have g1 := hh x.f_Kind (by simp)
    have g2 := hh x.f_Index (by simp)
    have hnl := numsB_len (ns := [x.f_Kind, x.f_Index]) fun y hy => (hh y hy).2
    have l2 : [x.f_Kind, x.f_Index].length = 2 := rfl
    refine c_region ?_
    refine o_build rfl sp68 ti68 rfl rfl ?_
    refine o_box rfl rfl fun b38 => ?_
    refine l_nilrow e8 ?_
    refine l_conv (L' := blk b38 (.cells #[.slice none (([] : List UInt8)).length 0] 68 (0, 0)) :: row e8.T e8.sz none (([] : List UInt8)).length 0 (flat e8 ([] : List UInt8)) :: _) (fun w S => S.perm p1) ?_
    refine o_assign rfl rfl ?_
    refine l_nil ?_
    refine q_then ?_
    refine c_seq ?_
    refine c_region ?_
    refine o_move rfl rfl ?_
    refine o_fieldAddr (q := ⟨b1, 0, none⟩) rfl rfl Tryz.underlying50 rfl ti3 rfl ?_
    refine o_load1 rfl rfl Tryz.underlying3 rfl (rd_mem 2 rfl rfl) ?_
    refine o_int rfl rfl Tryz.underlying3 Tryz.underlying22 (wrap_u64 (by omega) (by omega)) ?_
    refine o_fieldAddr (q := ⟨b1, 1, none⟩) rfl rfl Tryz.underlying50 rfl ti3 rfl ?_
    refine o_load1 rfl rfl Tryz.underlying3 rfl (rd_mem 2 rfl rfl) ?_
    refine o_int rfl rfl Tryz.underlying3 Tryz.underlying22 (wrap_u64 (by omega) (by omega)) ?_
    refine o_lit e_U64_ok rfl Tryz.underlying110 rfl rfl rfl (lit_ok rfl) [x.f_Kind, x.f_Index] rfl rfl fun a46 => ?_
    refine l_f2 ?_
    refine l_f2 ?_
    refine o_call rfl cal33 rfl (nums_ (ns := [x.f_Kind, x.f_Index]) (rds_own e_U64_ok 0 rfl) (it_hd hok.1) (by show _ ≤ 100; exact Nat.le_of_ble_eq_true rfl) (by (try simp only [List.length_append, List.length_nil]); omega)) ?_
    rintro _ _ ⟨a47, c47, rfl, rfl⟩
    refine l_nil ?_
    refine q_then ?_
    refine c_seq ?_
    refine c_region ?_
    refine o_move rfl rfl ?_
    refine o_fieldAddr (q := ⟨b1, 2, none⟩) rfl rfl Tryz.underlying50 rfl ti33 rfl ?_
    refine o_loadn (vs := [_, _, _, _, _, _, _, _, _, _]) rfl rfl Tryz.underlying33 rfl ti33 (rdn_lit 3 rfl rfl) ?_
    refine l_f1 ?_
    refine l_f1 ?_
    refine o_call rfl cal23 rfl (owrite_ (o := x.ord) (OrdR.c (OrdR.c T_x)) hok.2 wf sm (by (try simp only [List.length_append, List.length_nil]); omega)) ?_
    rintro _ _ ⟨a51, c51, rfl, rfl⟩
    refine l_nil ?_
    refine q_then ?_
    refine c_seq ?_
    refine c_region ?_
    refine o_move rfl rfl ?_
    refine l_f1 ?_
    refine l_f1 ?_
    refine o_call rfl cal24 rfl (penData (by (try simp only [List.length_append, List.length_nil]); omega)) ?_
    rintro _ _ ⟨a53, c53, rfl, rfl⟩
    refine o_assign rfl rfl ?_
    refine o_assign rfl rfl ?_
    refine l_nil ?_
    refine q_then ?_
    refine c_ret ?_
    refine q_conv (fun w S => (S.perm p1).tail) ?_
    refine q_conv (fun w S => (S.perm p1).tail) ?_
    refine q_conv (fun w S => (S.perm p1).tail) ?_
    refine q_conv (fun w S => (S.perm p1).tail) ?_
    exact f_ret (r_two rfl rfl rfl) (⟨itemB x, a53, c53, by rw [wrI, if_pos hok], by rw [show chkI x = 0 from if_pos hok]; rfl, rfl⟩) (fun w S => S)
  · -- h2F
   have h2b := h2
   try simp only [decide_eq_false_iff_not, Int.not_lt, Int.not_le] at h2
   refine o_yes rfl rfl rfl ?_
   refine o_fieldAddr (q := ⟨b1, 0, none⟩) rfl rfl Tryz.underlying50 rfl ti3 rfl ?_
   refine o_yes rfl rfl rfl ?_
   refine o_load1 rfl rfl Tryz.underlying3 rfl (rd_mem 0 rfl rfl) ?_
   refine o_yes rfl rfl rfl ?_
   refine o_bin rfl rfl rfl b_eql ?_
   refine o_yes rfl rfl rfl ?_
   refine o_move rfl rfl ?_
   refine l_split (t := 18) rfl (fun h4 => ?_) (fun h4 => ?_)
   · -- h4T
    have h4b := h4
    try simp only [decide_eq_true_eq] at h4
    refine o_yes rfl rfl rfl ?_
    refine o_fieldAddr (q := ⟨b1, 1, none⟩) rfl rfl Tryz.underlying50 rfl ti3 rfl ?_
    refine o_yes rfl rfl rfl ?_
    refine o_load1 rfl rfl Tryz.underlying3 rfl (rd_mem 0 rfl rfl) ?_
    refine o_yes rfl rfl rfl ?_
    refine o_bin rfl rfl rfl b_geq ?_
    refine o_yes rfl rfl rfl ?_
    refine o_pick_true rfl rfl rfl ?_
    refine o_yes rfl rfl rfl ?_
    refine o_move rfl rfl ?_
    refine l_split (t := 23) rfl (fun h5 => ?_) (fun h5 => ?_)
    · -- h5T
     have h5b := h5
     try simp only [decide_eq_true_eq] at h5
     refine o_yes rfl rfl rfl ?_
     refine o_fieldAddr (q := ⟨b1, 1, none⟩) rfl rfl Tryz.underlying50 rfl ti3 rfl ?_
     refine o_yes rfl rfl rfl ?_
     refine o_load1 rfl rfl Tryz.underlying3 rfl (rd_mem 0 rfl rfl) ?_
     refine o_yes rfl rfl rfl ?_
     refine o_bin rfl rfl rfl b_lss ?_
     refine o_yes rfl rfl rfl ?_
     refine o_pick_true rfl rfl rfl ?_
     refine o_pick_false rfl rfl rfl ?_
     refine o_assign rfl rfl ?_
     refine l_nil ?_
     refine q_then ?_
     refine c_seq ?_
     refine c_seq ?_
     refine c_region ?_
     refine o_move rfl rfl ?_
     refine o_not rfl rfl ?_
     refine o_move rfl rfl ?_
     refine l_split (t := 31) rfl (fun h6 => ?_) (fun h6 => ?_)
     · -- h6T
      have h6b := h6
      try simp only [Bool.not_eq_true', decide_eq_false_iff_not, Int.not_lt, Int.not_le] at h6
      refine o_no rfl rfl rfl rfl ?_
      refine o_no rfl rfl rfl rfl ?_
      refine o_no rfl rfl rfl rfl ?_
      refine o_no rfl rfl rfl rfl ?_
      refine o_pick_true rfl rfl rfl ?_
      refine l_nil ?_
      refine q_then ?_
      refine c_true rfl ?_
      refine c_seq ?_
      have hno : ¬ (ItOk x ∧ OrdOk x.ord 3) := by unfold ItOk; first | (intro h9; omega) | (rintro ⟨h8, h9⟩; first | omega | (exact absurd (chkO_yes h9) (by assumption)) | (rw [chkO_yes h9] at *; simp_all))
      refine c_nilrow e8 ?_
      refine c_region ?_
      refine o_assign rfl rfl ?_
      refine o_assign rfl rfl ?_
      refine l_nil ?_
      refine q_then ?_
      refine c_ret ?_
      refine q_pass_ret ?_
      refine q_conv (fun w S => (S.perm p1).tail) ?_
      exact f_ret (r_two rfl rfl rfl) (⟨[], none, 0, by rw [wrI, if_neg hno], by rw [show chkI x = 1 from if_neg hno]; rfl, rfl⟩) (fun w S => S)
     · -- h6F
      have h6b := h6
      try simp only [Bool.not_eq_false', decide_eq_true_eq] at h6
      refine o_yes rfl rfl rfl ?_
      refine o_fieldAddr (q := ⟨b1, 2, none⟩) rfl rfl Tryz.underlying50 rfl ti33 rfl ?_
      refine o_yes rfl rfl rfl ?_
      refine o_loadn (vs := [_, _, _, _, _, _, _, _, _, _]) rfl rfl Tryz.underlying33 rfl ti33 (rdn_lit 0 rfl rfl) ?_
      refine o_yes rfl rfl rfl ?_
      refine o_call rfl cal22 rfl (ocheck_ (o := x.ord) (g := 3) (OrdR.c T_x) hb hm) ?_
      rintro _ _ ⟨rfl, rfl⟩
      refine o_yes rfl rfl rfl ?_
      refine o_bin rfl rfl rfl b_neq ?_
      refine o_pick_false rfl rfl rfl ?_
      refine l_nil ?_
      refine q_then ?_
      refine c_cond rfl (fun h7 => ?_) (fun h7 => ?_)
      · -- h7T
       have h7b := h7
       try simp only [Bool.not_eq_true', decide_eq_false_iff_not, Int.not_lt, Int.not_le] at h7
       refine c_seq ?_
       have hno : ¬ (ItOk x ∧ OrdOk x.ord 3) := by unfold ItOk; first | (intro h9; omega) | (rintro ⟨h8, h9⟩; first | omega | (exact absurd (chkO_yes h9) (by assumption)) | (rw [chkO_yes h9] at *; simp_all))
       refine c_nilrow e8 ?_
       refine c_region ?_
       refine o_assign rfl rfl ?_
       refine o_assign rfl rfl ?_
       refine l_nil ?_
       refine q_then ?_
       refine c_ret ?_
       refine q_pass_ret ?_
       refine q_conv (fun w S => (S.perm p1).tail) ?_
       exact f_ret (r_two rfl rfl rfl) (⟨[], none, 0, by rw [wrI, if_neg hno], by rw [show chkI x = 1 from if_neg hno]; rfl, rfl⟩) (fun w S => S)
      · -- h7F
       have h7b := h7
       try simp only [Bool.not_eq_false', decide_eq_true_eq] at h7
       refine c_skip ?_
       refine q_then ?_
       refine c_seq ?_
       have hok : ItOk x ∧ OrdOk x.ord 3 := ⟨by unfold ItOk; omega, chkO_0.1 (by first | assumption | simp_all)⟩
       have sm := ok_small hok.2
       have hh := it_hd hok.1
       have hbl := ordB_len hok.2 wf sm
       have g1 := hh x.f_Kind (by simp)
       have g2 := hh x.f_Index (by simp)
       have hnl := numsB_len (ns := [x.f_Kind, x.f_Index]) fun y hy => (hh y hy).2
       have l2 : [x.f_Kind, x.f_Index].length = 2 := rfl
       refine c_region ?_
       refine o_build rfl sp68 ti68 rfl rfl ?_
       refine o_box rfl rfl fun b38 => ?_
       refine l_nilrow e8 ?_
       refine l_conv (L' := blk b38 (.cells #[.slice none (([] : List UInt8)).length 0] 68 (0, 0)) :: row e8.T e8.sz none (([] : List UInt8)).length 0 (flat e8 ([] : List UInt8)) :: _) (fun w S => S.perm p1) ?_
       refine o_assign rfl rfl ?_
       refine l_nil ?_
       refine q_then ?_
       refine c_seq ?_
       refine c_region ?_
       refine o_move rfl rfl ?_
       refine o_fieldAddr (q := ⟨b1, 0, none⟩) rfl rfl Tryz.underlying50 rfl ti3 rfl ?_
       refine o_load1 rfl rfl Tryz.underlying3 rfl (rd_mem 2 rfl rfl) ?_
       refine o_int rfl rfl Tryz.underlying3 Tryz.underlying22 (wrap_u64 (by omega) (by omega)) ?_
       refine o_fieldAddr (q := ⟨b1, 1, none⟩) rfl rfl Tryz.underlying50 rfl ti3 rfl ?_
       refine o_load1 rfl rfl Tryz.underlying3 rfl (rd_mem 2 rfl rfl) ?_
       refine o_int rfl rfl Tryz.underlying3 Tryz.underlying22 (wrap_u64 (by omega) (by omega)) ?_
       refine o_lit e_U64_ok rfl Tryz.underlying110 rfl rfl rfl (lit_ok rfl) [x.f_Kind, x.f_Index] rfl rfl fun a46 => ?_
       refine l_f2 ?_
       refine l_f2 ?_
       refine o_call rfl cal33 rfl (nums_ (ns := [x.f_Kind, x.f_Index]) (rds_own e_U64_ok 0 rfl) (it_hd hok.1) (by show _ ≤ 100; exact Nat.le_of_ble_eq_true rfl) (by (try simp only [List.length_append, List.length_nil]); omega)) ?_
       rintro _ _ ⟨a47, c47, rfl, rfl⟩
       refine l_nil ?_
       refine q_then ?_
       refine c_seq ?_
       refine c_region ?_
       refine o_move rfl rfl ?_
       refine o_fieldAddr (q := ⟨b1, 2, none⟩) rfl rfl Tryz.underlying50 rfl ti33 rfl ?_
       refine o_loadn (vs := [_, _, _, _, _, _, _, _, _, _]) rfl rfl Tryz.underlying33 rfl ti33 (rdn_lit 3 rfl rfl) ?_
       refine l_f1 ?_
       refine l_f1 ?_
       refine o_call rfl cal23 rfl (owrite_ (o := x.ord) (OrdR.c (OrdR.c T_x)) hok.2 wf sm (by (try simp only [List.length_append, List.length_nil]); omega)) ?_
       rintro _ _ ⟨a51, c51, rfl, rfl⟩
       refine l_nil ?_
       refine q_then ?_
       refine c_seq ?_
       refine c_region ?_
       refine o_move rfl rfl ?_
       refine l_f1 ?_
       refine l_f1 ?_
       refine o_call rfl cal24 rfl (penData (by (try simp only [List.length_append, List.length_nil]); omega)) ?_
       rintro _ _ ⟨a53, c53, rfl, rfl⟩
       refine o_assign rfl rfl ?_
       refine o_assign rfl rfl ?_
       refine l_nil ?_
       refine q_then ?_
       refine c_ret ?_
       refine q_conv (fun w S => (S.perm p1).tail) ?_
       refine q_conv (fun w S => (S.perm p1).tail) ?_
       refine q_conv (fun w S => (S.perm p1).tail) ?_
       refine q_conv (fun w S => (S.perm p1).tail) ?_
       exact f_ret (r_two rfl rfl rfl) (⟨itemB x, a53, c53, by rw [wrI, if_pos hok], by rw [show chkI x = 0 from if_pos hok]; rfl, rfl⟩) (fun w S => S)
    · -- h5F
     have h5b := h5
     try simp only [decide_eq_false_iff_not, Int.not_lt, Int.not_le] at h5
     refine o_no rfl rfl rfl rfl ?_
     refine o_no rfl rfl rfl rfl ?_
     refine o_no rfl rfl rfl rfl ?_
     refine o_yes rfl rfl rfl ?_
     refine o_pick_false rfl rfl rfl ?_
     refine o_pick_false rfl rfl rfl ?_
     refine o_assign rfl rfl ?_
     refine l_nil ?_
     refine q_then ?_
     refine c_seq ?_
     refine c_seq ?_
     refine c_region ?_
     refine o_move rfl rfl ?_
     refine o_not rfl rfl ?_
     refine o_move rfl rfl ?_
     refine o_no rfl rfl rfl rfl ?_
     refine o_no rfl rfl rfl rfl ?_
     refine o_no rfl rfl rfl rfl ?_
     refine o_no rfl rfl rfl rfl ?_
     refine o_pick_true rfl rfl rfl ?_
     refine l_nil ?_
     refine q_then ?_
     refine c_true rfl ?_
     refine c_seq ?_
     have hno : ¬ (ItOk x ∧ OrdOk x.ord 3) := by unfold ItOk; first | (intro h9; omega) | (rintro ⟨h8, h9⟩; first | omega | (exact absurd (chkO_yes h9) (by assumption)) | (rw [chkO_yes h9] at *; simp_all))
     refine c_nilrow e8 ?_
     refine c_region ?_
     refine o_assign rfl rfl ?_
     refine o_assign rfl rfl ?_
     refine l_nil ?_
     refine q_then ?_
     refine c_ret ?_
     refine q_pass_ret ?_
     refine q_conv (fun w S => (S.perm p1).tail) ?_
     exact f_ret (r_two rfl rfl rfl) (⟨[], none, 0, by rw [wrI, if_neg hno], by rw [show chkI x = 1 from if_neg hno]; rfl, rfl⟩) (fun w S => S)
   · -- h4F
    have h4b := h4
    try simp only [decide_eq_false_iff_not, Int.not_lt, Int.not_le] at h4
    refine o_no rfl rfl rfl rfl ?_
    refine o_no rfl rfl rfl rfl ?_
    refine o_no rfl rfl rfl rfl ?_
    refine o_yes rfl rfl rfl ?_
    refine o_pick_false rfl rfl rfl ?_
    refine o_yes rfl rfl rfl ?_
    refine o_move rfl rfl ?_
    refine o_no rfl rfl rfl rfl ?_
    refine o_no rfl rfl rfl rfl ?_
    refine o_no rfl rfl rfl rfl ?_
    refine o_yes rfl rfl rfl ?_
    refine o_pick_false rfl rfl rfl ?_
    refine o_pick_false rfl rfl rfl ?_
    refine o_assign rfl rfl ?_
    refine l_nil ?_
    refine q_then ?_
    refine c_seq ?_
    refine c_seq ?_
    refine c_region ?_
    refine o_move rfl rfl ?_
    refine o_not rfl rfl ?_
    refine o_move rfl rfl ?_
    refine o_no rfl rfl rfl rfl ?_
    refine o_no rfl rfl rfl rfl ?_
    refine o_no rfl rfl rfl rfl ?_
    refine o_no rfl rfl rfl rfl ?_
    refine o_pick_true rfl rfl rfl ?_
    refine l_nil ?_
    refine q_then ?_
    refine c_true rfl ?_
    refine c_seq ?_
    have hno : ¬ (ItOk x ∧ OrdOk x.ord 3) := by unfold ItOk; first | (intro h9; omega) | (rintro ⟨h8, h9⟩; first | omega | (exact absurd (chkO_yes h9) (by assumption)) | (rw [chkO_yes h9] at *; simp_all))
    refine c_nilrow e8 ?_
    refine c_region ?_
    refine o_assign rfl rfl ?_
    refine o_assign rfl rfl ?_
    refine l_nil ?_
    refine q_then ?_
    refine c_ret ?_
    refine q_pass_ret ?_
    refine q_conv (fun w S => (S.perm p1).tail) ?_
    exact f_ret (r_two rfl rfl rfl) (⟨[], none, 0, by rw [wrI, if_neg hno], by rw [show chkI x = 1 from if_neg hno]; rfl, rfl⟩) (fun w S => S)
 · -- h1F
  have h1b := h1
  try simp only [decide_eq_false_iff_not, Int.not_lt, Int.not_le] at h1
  refine o_no rfl rfl rfl rfl ?_
  refine o_no rfl rfl rfl rfl ?_
  refine o_no rfl rfl rfl rfl ?_
  refine o_pick_false rfl rfl rfl ?_
  refine o_move rfl rfl ?_
  refine o_yes rfl rfl rfl ?_
  refine o_fieldAddr (q := ⟨b1, 0, none⟩) rfl rfl Tryz.underlying50 rfl ti3 rfl ?_
  refine o_yes rfl rfl rfl ?_
  refine o_load1 rfl rfl Tryz.underlying3 rfl (rd_mem 0 rfl rfl) ?_
  refine o_yes rfl rfl rfl ?_
  refine o_bin rfl rfl rfl b_eql ?_
  refine o_yes rfl rfl rfl ?_
  refine o_move rfl rfl ?_
  refine l_split (t := 18) rfl (fun h8 => ?_) (fun h8 => ?_)
  · -- h8T
   have h8b := h8
   try simp only [decide_eq_true_eq] at h8
   refine o_yes rfl rfl rfl ?_
   refine o_fieldAddr (q := ⟨b1, 1, none⟩) rfl rfl Tryz.underlying50 rfl ti3 rfl ?_
   refine o_yes rfl rfl rfl ?_
   refine o_load1 rfl rfl Tryz.underlying3 rfl (rd_mem 0 rfl rfl) ?_
   refine o_yes rfl rfl rfl ?_
   refine o_bin rfl rfl rfl b_geq ?_
   refine o_yes rfl rfl rfl ?_
   refine o_pick_true rfl rfl rfl ?_
   refine o_yes rfl rfl rfl ?_
   refine o_move rfl rfl ?_
   refine l_split (t := 23) rfl (fun h9 => ?_) (fun h9 => ?_)
   · -- h9T
    have h9b := h9
    try simp only [decide_eq_true_eq] at h9
    refine o_yes rfl rfl rfl ?_
    refine o_fieldAddr (q := ⟨b1, 1, none⟩) rfl rfl Tryz.underlying50 rfl ti3 rfl ?_
    refine o_yes rfl rfl rfl ?_
    refine o_load1 rfl rfl Tryz.underlying3 rfl (rd_mem 0 rfl rfl) ?_
    refine o_yes rfl rfl rfl ?_
    refine o_bin rfl rfl rfl b_lss ?_
    refine o_yes rfl rfl rfl ?_
    refine o_pick_true rfl rfl rfl ?_
    refine o_pick_false rfl rfl rfl ?_
    refine o_assign rfl rfl ?_
    refine l_nil ?_
    refine q_then ?_
    refine c_seq ?_
    refine c_seq ?_
    refine c_region ?_
    refine o_move rfl rfl ?_
    refine o_not rfl rfl ?_
    refine o_move rfl rfl ?_
    refine l_split (t := 31) rfl (fun h10 => ?_) (fun h10 => ?_)
    · -- h10T
     have h10b := h10
     try simp only [Bool.not_eq_true', decide_eq_false_iff_not, Int.not_lt, Int.not_le] at h10
     refine o_no rfl rfl rfl rfl ?_
     refine o_no rfl rfl rfl rfl ?_
     refine o_no rfl rfl rfl rfl ?_
     refine o_no rfl rfl rfl rfl ?_
     refine o_pick_true rfl rfl rfl ?_
     refine l_nil ?_
     refine q_then ?_
     refine c_true rfl ?_
     refine c_seq ?_
     have hno : ¬ (ItOk x ∧ OrdOk x.ord 3) := by unfold ItOk; first | (intro h9; omega) | (rintro ⟨h8, h9⟩; first | omega | (exact absurd (chkO_yes h9) (by assumption)) | (rw [chkO_yes h9] at *; simp_all))
     refine c_nilrow e8 ?_
     refine c_region ?_
     refine o_assign rfl rfl ?_
     refine o_assign rfl rfl ?_
     refine l_nil ?_
     refine q_then ?_
     refine c_ret ?_
     refine q_pass_ret ?_
     refine q_conv (fun w S => (S.perm p1).tail) ?_
     exact f_ret (r_two rfl rfl rfl) (⟨[], none, 0, by rw [wrI, if_neg hno], by rw [show chkI x = 1 from if_neg hno]; rfl, rfl⟩) (fun w S => S)
    · -- h10F
     have h10b := h10
     try simp only [Bool.not_eq_false', decide_eq_true_eq] at h10
     refine o_yes rfl rfl rfl ?_
     refine o_fieldAddr (q := ⟨b1, 2, none⟩) rfl rfl Tryz.underlying50 rfl ti33 rfl ?_
     refine o_yes rfl rfl rfl ?_
     refine o_loadn (vs := [_, _, _, _, _, _, _, _, _, _]) rfl rfl Tryz.underlying33 rfl ti33 (rdn_lit 0 rfl rfl) ?_
     refine o_yes rfl rfl rfl ?_
     refine o_call rfl cal22 rfl (ocheck_ (o := x.ord) (g := 3) (OrdR.c T_x) hb hm) ?_
     rintro _ _ ⟨rfl, rfl⟩
     refine o_yes rfl rfl rfl ?_
     refine o_bin rfl rfl rfl b_neq ?_
     refine o_pick_false rfl rfl rfl ?_
     refine l_nil ?_
     refine q_then ?_
     refine c_cond rfl (fun h11 => ?_) (fun h11 => ?_)
     · -- h11T
      have h11b := h11
      try simp only [Bool.not_eq_true', decide_eq_false_iff_not, Int.not_lt, Int.not_le] at h11
      refine c_seq ?_
      have hno : ¬ (ItOk x ∧ OrdOk x.ord 3) := by unfold ItOk; first | (intro h9; omega) | (rintro ⟨h8, h9⟩; first | omega | (exact absurd (chkO_yes h9) (by assumption)) | (rw [chkO_yes h9] at *; simp_all))
      refine c_nilrow e8 ?_
      refine c_region ?_
      refine o_assign rfl rfl ?_
      refine o_assign rfl rfl ?_
      refine l_nil ?_
      refine q_then ?_
      refine c_ret ?_
      refine q_pass_ret ?_
      refine q_conv (fun w S => (S.perm p1).tail) ?_
      exact f_ret (r_two rfl rfl rfl) (⟨[], none, 0, by rw [wrI, if_neg hno], by rw [show chkI x = 1 from if_neg hno]; rfl, rfl⟩) (fun w S => S)
     · -- h11F
      have h11b := h11
      try simp only [Bool.not_eq_false', decide_eq_true_eq] at h11
      refine c_skip ?_
      refine q_then ?_
      refine c_seq ?_
      have hok : ItOk x ∧ OrdOk x.ord 3 := ⟨by unfold ItOk; omega, chkO_0.1 (by first | assumption | simp_all)⟩
      have sm := ok_small hok.2
      have hh := it_hd hok.1
      have hbl := ordB_len hok.2 wf sm
      have g1 := hh x.f_Kind (by simp)
      have g2 := hh x.f_Index (by simp)
      have hnl := numsB_len (ns := [x.f_Kind, x.f_Index]) fun y hy => (hh y hy).2
      have l2 : [x.f_Kind, x.f_Index].length = 2 := rfl
      refine c_region ?_
      refine o_build rfl sp68 ti68 rfl rfl ?_
      refine o_box rfl rfl fun b38 => ?_
      refine l_nilrow e8 ?_
      refine l_conv (L' := blk b38 (.cells #[.slice none (([] : List UInt8)).length 0] 68 (0, 0)) :: row e8.T e8.sz none (([] : List UInt8)).length 0 (flat e8 ([] : List UInt8)) :: _) (fun w S => S.perm p1) ?_
      refine o_assign rfl rfl ?_
      refine l_nil ?_
      refine q_then ?_
      refine c_seq ?_
      refine c_region ?_
      refine o_move rfl rfl ?_
      refine o_fieldAddr (q := ⟨b1, 0, none⟩) rfl rfl Tryz.underlying50 rfl ti3 rfl ?_
      refine o_load1 rfl rfl Tryz.underlying3 rfl (rd_mem 2 rfl rfl) ?_
      refine o_int rfl rfl Tryz.underlying3 Tryz.underlying22 (wrap_u64 (by omega) (by omega)) ?_
      refine o_fieldAddr (q := ⟨b1, 1, none⟩) rfl rfl Tryz.underlying50 rfl ti3 rfl ?_
      refine o_load1 rfl rfl Tryz.underlying3 rfl (rd_mem 2 rfl rfl) ?_
      refine o_int rfl rfl Tryz.underlying3 Tryz.underlying22 (wrap_u64 (by omega) (by omega)) ?_
      refine o_lit e_U64_ok rfl Tryz.underlying110 rfl rfl rfl (lit_ok rfl) [x.f_Kind, x.f_Index] rfl rfl fun a46 => ?_
      refine l_f2 ?_
      refine l_f2 ?_
      refine o_call rfl cal33 rfl (nums_ (ns := [x.f_Kind, x.f_Index]) (rds_own e_U64_ok 0 rfl) (it_hd hok.1) (by show _ ≤ 100; exact Nat.le_of_ble_eq_true rfl) (by (try simp only [List.length_append, List.length_nil]); omega)) ?_
      rintro _ _ ⟨a47, c47, rfl, rfl⟩
      refine l_nil ?_
      refine q_then ?_
      refine c_seq ?_
      refine c_region ?_
      refine o_move rfl rfl ?_
      refine o_fieldAddr (q := ⟨b1, 2, none⟩) rfl rfl Tryz.underlying50 rfl ti33 rfl ?_
      refine o_loadn (vs := [_, _, _, _, _, _, _, _, _, _]) rfl rfl Tryz.underlying33 rfl ti33 (rdn_lit 3 rfl rfl) ?_
      refine l_f1 ?_
      refine l_f1 ?_
      refine o_call rfl cal23 rfl (owrite_ (o := x.ord) (OrdR.c (OrdR.c T_x)) hok.2 wf sm (by (try simp only [List.length_append, List.length_nil]); omega)) ?_
      rintro _ _ ⟨a51, c51, rfl, rfl⟩
      refine l_nil ?_
      refine q_then ?_
      refine c_seq ?_
      refine c_region ?_
      refine o_move rfl rfl ?_
      refine l_f1 ?_
      refine l_f1 ?_
      refine o_call rfl cal24 rfl (penData (by (try simp only [List.length_append, List.length_nil]); omega)) ?_
      rintro _ _ ⟨a53, c53, rfl, rfl⟩
      refine o_assign rfl rfl ?_
      refine o_assign rfl rfl ?_
      refine l_nil ?_
      refine q_then ?_
      refine c_ret ?_
      refine q_conv (fun w S => (S.perm p1).tail) ?_
      refine q_conv (fun w S => (S.perm p1).tail) ?_
      refine q_conv (fun w S => (S.perm p1).tail) ?_
      refine q_conv (fun w S => (S.perm p1).tail) ?_
      exact f_ret (r_two rfl rfl rfl) (⟨itemB x, a53, c53, by rw [wrI, if_pos hok], by rw [show chkI x = 0 from if_pos hok]; rfl, rfl⟩) (fun w S => S)
   · -- h9F
    have h9b := h9
    try simp only [decide_eq_false_iff_not, Int.not_lt, Int.not_le] at h9
    refine o_no rfl rfl rfl rfl ?_
    refine o_no rfl rfl rfl rfl ?_
    refine o_no rfl rfl rfl rfl ?_
    refine o_yes rfl rfl rfl ?_
    refine o_pick_false rfl rfl rfl ?_
    refine o_pick_false rfl rfl rfl ?_
    refine o_assign rfl rfl ?_
    refine l_nil ?_
    refine q_then ?_
    refine c_seq ?_
    refine c_seq ?_
    refine c_region ?_
    refine o_move rfl rfl ?_
    refine o_not rfl rfl ?_
    refine o_move rfl rfl ?_
    refine o_no rfl rfl rfl rfl ?_
    refine o_no rfl rfl rfl rfl ?_
    refine o_no rfl rfl rfl rfl ?_
    refine o_no rfl rfl rfl rfl ?_
    refine o_pick_true rfl rfl rfl ?_
    refine l_nil ?_
    refine q_then ?_
    refine c_true rfl ?_
    refine c_seq ?_
    have hno : ¬ (ItOk x ∧ OrdOk x.ord 3) := by unfold ItOk; first | (intro h9; omega) | (rintro ⟨h8, h9⟩; first | omega | (exact absurd (chkO_yes h9) (by assumption)) | (rw [chkO_yes h9] at *; simp_all))
    refine c_nilrow e8 ?_
    refine c_region ?_
    refine o_assign rfl rfl ?_
    refine o_assign rfl rfl ?_
    refine l_nil ?_
    refine q_then ?_
    refine c_ret ?_
    refine q_pass_ret ?_
    refine q_conv (fun w S => (S.perm p1).tail) ?_
    exact f_ret (r_two rfl rfl rfl) (⟨[], none, 0, by rw [wrI, if_neg hno], by rw [show chkI x = 1 from if_neg hno]; rfl, rfl⟩) (fun w S => S)
  · -- h8F
   have h8b := h8
   try simp only [decide_eq_false_iff_not, Int.not_lt, Int.not_le] at h8
   refine o_no rfl rfl rfl rfl ?_
   refine o_no rfl rfl rfl rfl ?_
   refine o_no rfl rfl rfl rfl ?_
   refine o_yes rfl rfl rfl ?_
   refine o_pick_false rfl rfl rfl ?_
   refine o_yes rfl rfl rfl ?_
   refine o_move rfl rfl ?_
   refine o_no rfl rfl rfl rfl ?_
   refine o_no rfl rfl rfl rfl ?_
   refine o_no rfl rfl rfl rfl ?_
   refine o_yes rfl rfl rfl ?_
   refine o_pick_false rfl rfl rfl ?_
   refine o_pick_false rfl rfl rfl ?_
   refine o_assign rfl rfl ?_
   refine l_nil ?_
   refine q_then ?_
   refine c_seq ?_
   refine c_seq ?_
   refine c_region ?_
   refine o_move rfl rfl ?_
   refine o_not rfl rfl ?_
   refine o_move rfl rfl ?_
   refine o_no rfl rfl rfl rfl ?_
   refine o_no rfl rfl rfl rfl ?_
   refine o_no rfl rfl rfl rfl ?_
   refine o_no rfl rfl rfl rfl ?_
   refine o_pick_true rfl rfl rfl ?_
   refine l_nil ?_
   refine q_then ?_
   refine c_true rfl ?_
   refine c_seq ?_
   have hno : ¬ (ItOk x ∧ OrdOk x.ord 3) := by unfold ItOk; first | (intro h9; omega) | (rintro ⟨h8, h9⟩; first | omega | (exact absurd (chkO_yes h9) (by assumption)) | (rw [chkO_yes h9] at *; simp_all))
   refine c_nilrow e8 ?_
   refine c_region ?_
   refine o_assign rfl rfl ?_
   refine o_assign rfl rfl ?_
   refine l_nil ?_
   refine q_then ?_
   refine c_ret ?_
   refine q_pass_ret ?_
   refine q_conv (fun w S => (S.perm p1).tail) ?_
   exact f_ret (r_two rfl rfl rfl) (⟨[], none, 0, by rw [wrI, if_neg hno], by rw [show chkI x = 1 from if_neg hno]; rfl, rfl⟩) (fun w S => S)
theorem GoodI.same {x y : Item} {bs : List UInt8} (hk : x.f_Kind = y.f_Kind) (hi : x.f_Index = y.f_Index) (ho : SameO x.ord y.ord) (w : OWf x.ord) (g : GoodI y bs) : GoodI x bs := ⟨by have := g.it; unfold ItOk at this ⊢; rw [hk, hi]; exact this, (ordOk_same ho).2 g.ok, w, by rw [g.eq]; unfold itemB; rw [hk, hi, ordB_same ho]⟩
theorem wrI_yes {x : Item} (h : ItOk x ∧ OrdOk x.ord 3) : wrI x = itemB x := if_pos h
theorem rdi_no {bs : List UInt8} {q : Item} (hs : ∀ x, GoodI x bs → GoodI q bs) (h : ¬ (chkI q = 0 ∧ wrI q = bs)) : ∀ x, ¬ GoodI x bs := fun x g => by
  have k := hs x g
  exact h ⟨chkI_0.2 ⟨k.it, k.ok⟩, by rw [wrI_yes ⟨k.it, k.ok⟩, k.eq]⟩
theorem rdi_yes {bs : List UInt8} {q : Item} (w : OWf q.ord) (h1 : chkI q = 0) (h2 : wrI q = bs) : GoodI q bs := ⟨(chkI_0.1 h1).1, (chkI_0.1 h1).2, w, by rw [← h2, wrI_yes (chkI_0.1 h1)]⟩
theorem wrI_len {q : Item} (w : OWf q.ord) : (wrI q).length ≤ 9223372036854775807 := by
  by_cases h : ItOk q ∧ OrdOk q.ord 3
  · have h1 := ordB_len h.2 w (ok_small h.2)
    have h2 := numsB_len (ns := [q.f_Kind, q.f_Index]) fun y hy => (it_hd h.1 y hy).2
    have l2 : [q.f_Kind, q.f_Index].length = 2 := rfl
    rw [wrI_yes h, itemB, List.length_append]; omega
  · rw [wrI, if_neg h]; simp
set_option maxHeartbeats 2000000 in
theorem iRead_ {W : World} {F : List Res} {bs : List UInt8} {a : Option Addr} {c : Nat} (hs : RdS W F e8 a bs) (hn : bs.length ≤ 70000000000000) : CS Tryz.prog 15 #[.slice a bs.length c] W (F) (fun r L' => ∃ (q : Item) (n : Int), RdResI bs q n ∧ OrdLen q.ord ∧ r = .tuple #[.agg (e_Item.cells q).toArray, .int .i64 n] ∧ L' = ordM q.ord :: F) := by
 refine f_door (l0 := [(0, .slice a bs.length c)]) Tryz.func15 Tryz.ntmps15 rfl rfl rfl ?_
 refine c_seq ?_
 refine c_region ?_
 refine o_alloc rfl ti50 fun b2 => ?_
 refine o_assign rfl rfl ?_
 refine l_nil ?_
 refine q_then ?_
 refine c_seq ?_
 refine c_region ?_
 refine o_move rfl rfl ?_
 refine o_call rfl cal27 rfl (newEye (rds_c hs) (by omega)) ?_
 rintro _ _ ⟨k9, a9, c9, hc9, rfl, rfl⟩
 have ok9 := eyeOk_start (W := W) (a := a9) hc9 (show (bs).length ≤ 70000000000000 by omega)
 refine o_build rfl sp76 ti76 rfl ((fill_cons (cells' := [.pointer (some ⟨k9, 0, none⟩)]) rfl rfl rfl rfl fill_nil)) ?_
 refine o_alloc rfl ti76 fun b4 => ?_
 refine o_storen rfl rfl ti76 rfl rfl rfl rfl ?_
 refine l_nil ?_
 refine q_then ?_
 refine c_seq ?_
 refine c_mid (α := Nat × (List UInt8) × (List UInt8) × (Option Addr) × Nat × Nat) (fun z => [(0, .slice a (bs).length c), (2, .pointer (some ⟨b2, 0, none⟩)), (3, .int .i64 0), (4, .pointer (some ⟨b4, 0, none⟩)), (5, .pointer (some ⟨z.1, 0, none⟩)), (8, .slice a (bs).length c), (9, .pointer (some ⟨k9, 0, none⟩)), (10, .agg #[.pointer (some ⟨k9, 0, none⟩)]), (11, .agg #[.pointer (some ⟨k9, 0, none⟩)]), (12, .int .i64 (smR bs)), (13, .agg #[.pointer (some ⟨k9, 0, none⟩)]), (14, .int .i64 (smR z.2.1)), (15, .agg #[.int .i64 (smR bs), .int .i64 (smR z.2.1), .int .i64 0, .int .u64 0, .int .u64 0, .int .i64 0, .int .i64 0, .slice none 0 0, .slice none 0 0, .slice none 0 0, .int .i64 0, .slice none 0 0])]) (fun z => blk z.1 (.cells #[.int .i64 (smR bs), .int .i64 (smR z.2.1), .int .i64 0, .int .u64 0, .int .u64 0, .int .i64 0, .int .i64 0, .slice none 0 0, .slice none 0 0, .slice none 0 0, .int .i64 0, .slice none 0 0] 50 (0, 0)) :: blk k9 (.cells #[.slice z.2.2.2.1 (z.2.2.1).length z.2.2.2.2.1] 104 (0, 0)) :: row e8.T e8.sz a9 (bs).length c9 (flat e8 bs) :: blk b4 (.cells #[.pointer (some ⟨k9, 0, none⟩)] 76 (0, 0)) :: blk b2 (.cells #[.int .i64 0, .int .i64 0, .int .i64 0, .int .u64 0, .int .u64 0, .int .i64 0, .int .i64 0, .slice none 0 0, .slice none 0 0, .slice none 0 0, .int .i64 0, .slice none 0 0] 50 (0, 0)) :: F) (fun z => EyeOk W a9 bs z.2.2.2.2.2 z.2.2.1 z.2.2.2.1 z.2.2.2.2.1 ∧ z.2.1 = bs.drop (numR 0 0 bs).2.2 ∧ z.2.2.1 = z.2.1.drop (numR 0 0 z.2.1).2.2) ?_ ?_
 · -- cut
  refine c_conv (fun w S => S.perm p1) ?_
  refine c_conv (fun w S => S.perm p3) ?_
  refine c_conv (fun w S => S.perm p3) ?_
  refine c_conv (fun w S => S.perm p3) ?_
  refine c_held [blk b4 (.cells #[.pointer (some ⟨k9, 0, none⟩)] 76 (0, 0)), row e8.T e8.sz a9 (bs).length c9 (flat e8 bs), blk b2 (.cells #[.int .i64 0, .int .i64 0, .int .i64 0, .int .u64 0, .int .u64 0, .int .i64 0, .int .i64 0, .slice none 0 0, .slice none 0 0, .slice none 0 0, .int .i64 0, .slice none 0 0] 50 (0, 0))] (by kernel_rfl) rfl ?_
  refine h_take 0 rfl rfl (by kernel_rfl) (by kernel_rfl) (by kernel_rfl) (fun L0 => v_loadn (vs := [_]) rfl rfl Tryz.underlying76 rfl ti76 (rdn_lit 0 rfl rfl)) ?_
  refine h_take 2 rfl rfl (by kernel_rfl) (by kernel_rfl) (by kernel_rfl) (fun L0 => v_loadn (vs := [_]) rfl rfl Tryz.underlying76 rfl ti76 (rdn_lit 0 rfl rfl)) ?_
  refine h_many (is := [1, 5]) (by kernel_rfl) (by decide) (forall_cons ⟨_, rfl, ?_⟩ (forall_cons ⟨_, rfl, ?_⟩ forall_nil))
  · -- 1 comes first
   refine l_f1 ?_
   refine l_f3 ?_
   refine o_call rfl cal36 rfl (rsmall_ ok9) ?_
   rintro _ _ ⟨ys12, ay12, cy12, ok12, rfl, rfl⟩
   have dr12 : ys12 = bs.drop (numR 0 0 bs).2.2 := EyeOk.next ok9 ok12
   refine l_nil ?_
   refine q_conv (fun w S => S.perm p3) ?_
   refine q_conv (fun w S => S.perm p2) ?_
   refine q_conv (fun w S => S.perm p3) ?_
   refine h_next ?_
   refine h_many (is := [3, 5]) (by kernel_rfl) (by decide) (forall_cons ⟨_, rfl, ?_⟩ (forall_cons ⟨_, rfl, ?_⟩ forall_nil))
   · -- 3 comes first
    refine l_f1 ?_
    refine l_f3 ?_
    refine o_call rfl cal36 rfl (rsmall_ ok12) ?_
    rintro _ _ ⟨ys14, ay14, cy14, ok14, rfl, rfl⟩
    have dr14 : ys14 = ys12.drop (numR 0 0 ys12).2.2 := EyeOk.next ok12 ok14
    refine l_nil ?_
    refine q_conv (fun w S => S.perm p3) ?_
    refine q_conv (fun w S => S.perm p2) ?_
    refine q_conv (fun w S => S.perm p3) ?_
    refine h_next ?_
    refine h_take 4 rfl rfl (by kernel_rfl) (by kernel_rfl) (by kernel_rfl) (fun L0 => v_build rfl sp50 ti50 rfl ((fill_cons (cells' := [.int .i64 (smR bs), .int .i64 0, .int .i64 0, .int .u64 0, .int .u64 0, .int .i64 0, .int .i64 0, .slice none 0 0, .slice none 0 0, .slice none 0 0, .int .i64 0, .slice none 0 0]) rfl rfl rfl rfl (fill_cons (cells' := [.int .i64 (smR bs), .int .i64 (smR ys12), .int .i64 0, .int .u64 0, .int .u64 0, .int .i64 0, .int .i64 0, .slice none 0 0, .slice none 0 0, .slice none 0 0, .int .i64 0, .slice none 0 0]) rfl rfl rfl rfl fill_nil)))) ?_
    refine h_one 5 rfl (by kernel_rfl) ?_
    refine o_alloc rfl ti50 fun b5 => ?_
    refine l_nil ?_
    refine q_conv (fun w S => S.perm p4) ?_
    refine q_conv (fun w S => S.perm p1) ?_
    refine q_conv (fun w S => S.perm p4) ?_
    refine q_conv (fun w S => S.perm p4) ?_
    refine q_conv (fun w S => S.perm p4) ?_
    refine h_next ?_
    refine h_one 6 rfl (by kernel_rfl) ?_
    refine l_f3 ?_
    refine o_storen rfl rfl ti50 rfl rfl rfl rfl ?_
    refine l_nil ?_
    refine q_conv (fun w S => S.perm p4) ?_
    refine q_conv (fun w S => S.perm p1) ?_
    refine q_conv (fun w S => S.perm p4) ?_
    refine q_conv (fun w S => S.perm p4) ?_
    refine q_conv (fun w S => S.perm p4) ?_
    refine h_next ?_
    refine h_done (by kernel_rfl) ?_
    refine q_conv (fun w S => S.perm p2) ?_
    refine q_conv (fun w S => S.perm p1) ?_
    refine q_conv (fun w S => S.perm p2) ?_
    refine q_conv (fun w S => S.perm p4) ?_
    refine q_conv (fun w S => S.perm p4) ?_
    exact q_mid (b5, ys12, ys14, ay14, cy14, _) (by exact ⟨ok14, dr12, dr14⟩) ⟨(by first | rfl | exact vint (by omega)), (by first | rfl | exact vint (by omega)), (by first | rfl | exact vint (by omega)), (by first | rfl | exact vint (by omega)), (by first | rfl | exact vint (by omega)), (by first | rfl | exact vint (by omega)), (by first | rfl | exact vint (by omega)), (by first | rfl | exact vint (by omega)), (by first | rfl | exact vint (by omega)), (by first | rfl | exact vint (by omega)), (by first | rfl | exact vint (by omega)), (by first | rfl | exact vint (by omega)), (by first | rfl | exact vint (by omega)), trivial⟩ (fun w S => S)
   · -- 5 comes first
    refine o_alloc rfl ti50 fun b5 => ?_
    refine l_nil ?_
    refine q_conv (fun w S => S.perm p4) ?_
    refine q_conv (fun w S => S.perm p1) ?_
    refine q_conv (fun w S => S.perm p4) ?_
    refine q_conv (fun w S => S.perm p4) ?_
    refine q_conv (fun w S => S.perm p4) ?_
    refine h_next ?_
    refine h_one 3 rfl (by kernel_rfl) ?_
    refine l_f1 ?_
    refine l_f4 ?_
    refine o_call rfl cal36 rfl (rsmall_ ok12) ?_
    rintro _ _ ⟨ys14, ay14, cy14, ok14, rfl, rfl⟩
    have dr14 : ys14 = ys12.drop (numR 0 0 ys12).2.2 := EyeOk.next ok12 ok14
    refine l_nil ?_
    refine q_conv (fun w S => S.perm p4) ?_
    refine q_conv (fun w S => S.perm p1) ?_
    refine q_conv (fun w S => S.perm p4) ?_
    refine q_conv (fun w S => S.perm p3) ?_
    refine q_conv (fun w S => S.perm p4) ?_
    refine h_next ?_
    refine h_take 4 rfl rfl (by kernel_rfl) (by kernel_rfl) (by kernel_rfl) (fun L0 => v_build rfl sp50 ti50 rfl ((fill_cons (cells' := [.int .i64 (smR bs), .int .i64 0, .int .i64 0, .int .u64 0, .int .u64 0, .int .i64 0, .int .i64 0, .slice none 0 0, .slice none 0 0, .slice none 0 0, .int .i64 0, .slice none 0 0]) rfl rfl rfl rfl (fill_cons (cells' := [.int .i64 (smR bs), .int .i64 (smR ys12), .int .i64 0, .int .u64 0, .int .u64 0, .int .i64 0, .int .i64 0, .slice none 0 0, .slice none 0 0, .slice none 0 0, .int .i64 0, .slice none 0 0]) rfl rfl rfl rfl fill_nil)))) ?_
    refine h_one 6 rfl (by kernel_rfl) ?_
    refine l_f4 ?_
    refine o_storen rfl rfl ti50 rfl rfl rfl rfl ?_
    refine l_nil ?_
    refine q_conv (fun w S => S.perm p4) ?_
    refine q_conv (fun w S => S.perm p1) ?_
    refine q_conv (fun w S => S.perm p4) ?_
    refine q_conv (fun w S => S.perm p4) ?_
    refine q_conv (fun w S => S.perm p4) ?_
    refine h_next ?_
    refine h_done (by kernel_rfl) ?_
    refine q_conv (fun w S => S.perm p2) ?_
    refine q_conv (fun w S => S.perm p1) ?_
    refine q_conv (fun w S => S.perm p2) ?_
    refine q_conv (fun w S => S.perm p4) ?_
    refine q_conv (fun w S => S.perm p4) ?_
    exact q_mid (b5, ys12, ys14, ay14, cy14, _) (by exact ⟨ok14, dr12, dr14⟩) ⟨(by first | rfl | exact vint (by omega)), (by first | rfl | exact vint (by omega)), (by first | rfl | exact vint (by omega)), (by first | rfl | exact vint (by omega)), (by first | rfl | exact vint (by omega)), (by first | rfl | exact vint (by omega)), (by first | rfl | exact vint (by omega)), (by first | rfl | exact vint (by omega)), (by first | rfl | exact vint (by omega)), (by first | rfl | exact vint (by omega)), (by first | rfl | exact vint (by omega)), (by first | rfl | exact vint (by omega)), (by first | rfl | exact vint (by omega)), trivial⟩ (fun w S => S)
  · -- 5 comes first
   refine o_alloc rfl ti50 fun b5 => ?_
   refine l_nil ?_
   refine q_conv (fun w S => S.perm p4) ?_
   refine q_conv (fun w S => S.perm p1) ?_
   refine q_conv (fun w S => S.perm p4) ?_
   refine q_conv (fun w S => S.perm p4) ?_
   refine q_conv (fun w S => S.perm p4) ?_
   refine h_next ?_
   refine h_one 1 rfl (by kernel_rfl) ?_
   refine l_f1 ?_
   refine l_f4 ?_
   refine o_call rfl cal36 rfl (rsmall_ ok9) ?_
   rintro _ _ ⟨ys12, ay12, cy12, ok12, rfl, rfl⟩
   have dr12 : ys12 = bs.drop (numR 0 0 bs).2.2 := EyeOk.next ok9 ok12
   refine l_nil ?_
   refine q_conv (fun w S => S.perm p4) ?_
   refine q_conv (fun w S => S.perm p1) ?_
   refine q_conv (fun w S => S.perm p4) ?_
   refine q_conv (fun w S => S.perm p3) ?_
   refine q_conv (fun w S => S.perm p4) ?_
   refine h_next ?_
   refine h_one 3 rfl (by kernel_rfl) ?_
   refine l_f1 ?_
   refine l_f3 ?_
   refine o_call rfl cal36 rfl (rsmall_ ok12) ?_
   rintro _ _ ⟨ys14, ay14, cy14, ok14, rfl, rfl⟩
   have dr14 : ys14 = ys12.drop (numR 0 0 ys12).2.2 := EyeOk.next ok12 ok14
   refine l_nil ?_
   refine q_conv (fun w S => S.perm p4) ?_
   refine q_conv (fun w S => S.perm p1) ?_
   refine q_conv (fun w S => S.perm p4) ?_
   refine q_conv (fun w S => S.perm p3) ?_
   refine q_conv (fun w S => S.perm p4) ?_
   refine h_next ?_
   refine h_take 4 rfl rfl (by kernel_rfl) (by kernel_rfl) (by kernel_rfl) (fun L0 => v_build rfl sp50 ti50 rfl ((fill_cons (cells' := [.int .i64 (smR bs), .int .i64 0, .int .i64 0, .int .u64 0, .int .u64 0, .int .i64 0, .int .i64 0, .slice none 0 0, .slice none 0 0, .slice none 0 0, .int .i64 0, .slice none 0 0]) rfl rfl rfl rfl (fill_cons (cells' := [.int .i64 (smR bs), .int .i64 (smR ys12), .int .i64 0, .int .u64 0, .int .u64 0, .int .i64 0, .int .i64 0, .slice none 0 0, .slice none 0 0, .slice none 0 0, .int .i64 0, .slice none 0 0]) rfl rfl rfl rfl fill_nil)))) ?_
   refine h_one 6 rfl (by kernel_rfl) ?_
   refine l_f4 ?_
   refine o_storen rfl rfl ti50 rfl rfl rfl rfl ?_
   refine l_nil ?_
   refine q_conv (fun w S => S.perm p4) ?_
   refine q_conv (fun w S => S.perm p1) ?_
   refine q_conv (fun w S => S.perm p4) ?_
   refine q_conv (fun w S => S.perm p4) ?_
   refine q_conv (fun w S => S.perm p4) ?_
   refine h_next ?_
   refine h_done (by kernel_rfl) ?_
   refine q_conv (fun w S => S.perm p2) ?_
   refine q_conv (fun w S => S.perm p1) ?_
   refine q_conv (fun w S => S.perm p2) ?_
   refine q_conv (fun w S => S.perm p4) ?_
   refine q_conv (fun w S => S.perm p4) ?_
   exact q_mid (b5, ys12, ys14, ay14, cy14, _) (by exact ⟨ok14, dr12, dr14⟩) ⟨(by first | rfl | exact vint (by omega)), (by first | rfl | exact vint (by omega)), (by first | rfl | exact vint (by omega)), (by first | rfl | exact vint (by omega)), (by first | rfl | exact vint (by omega)), (by first | rfl | exact vint (by omega)), (by first | rfl | exact vint (by omega)), (by first | rfl | exact vint (by omega)), (by first | rfl | exact vint (by omega)), (by first | rfl | exact vint (by omega)), (by first | rfl | exact vint (by omega)), (by first | rfl | exact vint (by omega)), (by first | rfl | exact vint (by omega)), trivial⟩ (fun w S => S)
 · -- behind the cut
  rintro ⟨b5, ys12, ys14, ay14, cy14, i14⟩ ⟨ok14, dr12, dr14⟩
  try dsimp only at *
  refine c_seq ?_
  refine c_region ?_
  refine o_loadn (vs := [_]) rfl rfl Tryz.underlying76 rfl ti76 (rdn_lit 3 rfl rfl) ?_
  refine l_f2 ?_
  refine l_f2 ?_
  refine o_call rfl cal28 rfl (rorder_ ok14) ?_
  rintro _ _ ⟨q17, ys17, ay17, cy17, i17, wf17, L_q17, bn17, hsm17, ok17, rfl, rfl⟩
  refine o_fieldAddr (q := ⟨b5, 2, none⟩) rfl rfl Tryz.underlying50 rfl ti33 rfl ?_
  refine l_f3 ?_
  refine o_storen rfl rfl ti33 rfl rfl rfl rfl ?_
  refine l_nil ?_
  refine q_then ?_
  refine c_seq ?_
  refine c_seq ?_
  have hsI : ∀ x, GoodI x bs → GoodI (⟨smR bs, smR ys12, q17.f_Tag_Id_Node, q17.f_Tag_Id_Epoch, q17.f_Tag_Id_Seq, q17.f_Tag_Try, q17.f_Txn_Kind, q17.f_Txn_Reads, q17.f_Txn_Writes, q17.f_Txn_Ops, q17.f_Txn_To, q17.f_Marks⟩ : Item) bs := fun x g => by obtain ⟨e1, e2, e3⟩ := rd_item g dr12 dr14; exact GoodI.same e1 e2 (hsm17 _ e3) wf17 g
  refine c_region ?_
  refine o_loadn (vs := [_, _, _, _, _, _, _, _, _, _, _, _]) rfl rfl Tryz.underlying50 rfl ti50 (rdn_lit 0 rfl rfl) ?_
  refine o_call rfl cal13 rfl (iWriteR_ (x := (⟨smR bs, smR ys12, q17.f_Tag_Id_Node, q17.f_Tag_Id_Epoch, q17.f_Tag_Id_Seq, q17.f_Tag_Try, q17.f_Txn_Kind, q17.f_Txn_Reads, q17.f_Txn_Writes, q17.f_Txn_Ops, q17.f_Txn_To, q17.f_Marks⟩ : Item)) (ordM_R L_q17 1 rfl) wf17 (by show q17.f_Txn_Reads.xs.length + q17.f_Txn_Writes.xs.length ≤ _; omega) (by show q17.f_Marks.xs.length ≤ _; omega)) ?_
  rintro _ _ ⟨out21, a21, c21, hout21, rfl, rfl⟩
  refine o_move rfl rfl ?_
  refine o_extract rfl rfl rfl ?_
  refine o_extract rfl rfl rfl ?_
  refine o_assign rfl rfl ?_
  refine o_assign rfl rfl ?_
  refine l_nil ?_
  refine q_then ?_
  refine c_seq ?_
  refine c_region ?_
  refine o_move rfl rfl ?_
  refine o_bin rfl rfl rfl b_neq ?_
  refine o_move rfl rfl ?_
  refine l_split (t := 26) rfl (fun h1 => ?_) (fun h1 => ?_)
  · -- h1T
   have h1b := h1
   try simp only [Bool.not_eq_true', decide_eq_false_iff_not, Int.not_lt, Int.not_le] at h1
   refine o_no rfl rfl rfl rfl ?_
   refine o_no rfl rfl rfl rfl ?_
   refine o_no rfl rfl rfl rfl ?_
   refine o_no rfl rfl rfl rfl ?_
   refine o_pick_true rfl rfl rfl ?_
   refine l_nil ?_
   refine q_then ?_
   refine c_true rfl ?_
   refine c_seq ?_
   have hno : ∀ x, ¬ GoodI x bs := rdi_no hsI (fun h9 => by first | exact absurd h9.1 (by assumption) | exact absurd (hout21.trans h9.2) (by assumption))
   refine c_conv (L' := ordM zOrd :: _) (fun w S => zOrd_mem S) ?_
   refine c_region ?_
   refine o_build rfl sp50 ti50 rfl rfl ?_
   refine l_f7 ?_
   refine o_storen rfl rfl ti50 rfl rfl rfl rfl ?_
   refine o_assign rfl rfl ?_
   refine l_nil ?_
   refine q_then ?_
   refine c_ret ?_
   refine q_pass_ret ?_
   refine f_retq (.inl rfl) (rs_2 rfl (rs_celln (vs := [.int .i64 0, .int .i64 0, .int .i64 0, .int .u64 0, .int .u64 0, .int .i64 0, .int .i64 0, .slice none 0 0, .slice none 0 0, .slice none 0 0, .int .i64 0, .slice none 0 0]) rfl Tryz.underlying50 rfl ti50 (rdn_lit 0 rfl rfl)) (rs_tmp rfl)) (fun w S => ?_)
   replace S := S.tail
   replace S := (S.perm p1).tail
   replace S := (S.perm p1).tail
   replace S := (S.perm p1).tail
   replace S := (S.perm p1).tail
   replace S := (S.perm p1).tail
   replace S := (S.perm p1).tail
   exact ⟨_, ⟨(⟨0, 0, 0, 0, 0, 0, 0, ⟨none, [], 0⟩, ⟨none, [], 0⟩, ⟨none, [], 0⟩, 0, ⟨none, [], 0⟩⟩ : Item), 31, .inr ⟨rfl, rfl, hno⟩, zOrd_len, rfl, rfl⟩, (fun w S => S) w S⟩
  · -- h1F
   have h1b := h1
   try simp only [Bool.not_eq_false', decide_eq_true_eq] at h1
   refine o_yes rfl rfl rfl ?_
   refine o_move rfl rfl ?_
   refine o_yes rfl rfl rfl ?_
   refine o_move rfl rfl ?_
   refine o_yes rfl rfl rfl ?_
   refine o_call rfl cal29 rfl (equal8 (rds_own e8_ok 0 rfl) (rds_c (rds_c (rds_c (rds_c (rds_c (rds_c (rds_c hs))))))) (by rw [hout21]; exact wrI_len wf17)) ?_
   rintro _ _ ⟨rfl, rfl⟩
   refine o_yes rfl rfl rfl ?_
   refine o_not rfl rfl ?_
   refine o_pick_false rfl rfl rfl ?_
   refine l_nil ?_
   refine q_then ?_
   refine c_cond rfl (fun h2 => ?_) (fun h2 => ?_)
   · -- h2T
    have h2b := h2
    try simp only [Bool.not_eq_true', decide_eq_false_iff_not, Int.not_lt, Int.not_le] at h2
    refine c_seq ?_
    have hno : ∀ x, ¬ GoodI x bs := rdi_no hsI (fun h9 => by first | exact absurd h9.1 (by assumption) | exact absurd (hout21.trans h9.2) (by assumption))
    refine c_conv (L' := ordM zOrd :: _) (fun w S => zOrd_mem S) ?_
    refine c_region ?_
    refine o_build rfl sp50 ti50 rfl rfl ?_
    refine l_f7 ?_
    refine o_storen rfl rfl ti50 rfl rfl rfl rfl ?_
    refine o_assign rfl rfl ?_
    refine l_nil ?_
    refine q_then ?_
    refine c_ret ?_
    refine q_pass_ret ?_
    refine f_retq (.inl rfl) (rs_2 rfl (rs_celln (vs := [.int .i64 0, .int .i64 0, .int .i64 0, .int .u64 0, .int .u64 0, .int .i64 0, .int .i64 0, .slice none 0 0, .slice none 0 0, .slice none 0 0, .int .i64 0, .slice none 0 0]) rfl Tryz.underlying50 rfl ti50 (rdn_lit 0 rfl rfl)) (rs_tmp rfl)) (fun w S => ?_)
    replace S := S.tail
    replace S := (S.perm p1).tail
    replace S := (S.perm p1).tail
    replace S := (S.perm p1).tail
    replace S := (S.perm p1).tail
    replace S := (S.perm p1).tail
    replace S := (S.perm p1).tail
    exact ⟨_, ⟨(⟨0, 0, 0, 0, 0, 0, 0, ⟨none, [], 0⟩, ⟨none, [], 0⟩, ⟨none, [], 0⟩, 0, ⟨none, [], 0⟩⟩ : Item), 31, .inr ⟨rfl, rfl, hno⟩, zOrd_len, rfl, rfl⟩, (fun w S => S) w S⟩
   · -- h2F
    have h2b := h2
    try simp only [Bool.not_eq_false', decide_eq_true_eq] at h2
    refine c_skip ?_
    refine q_then ?_
    refine c_seq ?_
    have hyes : GoodI (⟨smR bs, smR ys12, q17.f_Tag_Id_Node, q17.f_Tag_Id_Epoch, q17.f_Tag_Id_Seq, q17.f_Tag_Try, q17.f_Txn_Kind, q17.f_Txn_Reads, q17.f_Txn_Writes, q17.f_Txn_Ops, q17.f_Txn_To, q17.f_Marks⟩ : Item) bs := rdi_yes wf17 (by first | assumption | simp_all) (by rw [← hout21]; first | assumption | simp_all)
    refine c_region ?_
    refine o_loadn (vs := [_, _, _, _, _, _, _, _, _, _, _, _]) rfl rfl Tryz.underlying50 rfl ti50 (rdn_lit 1 rfl rfl) ?_
    refine l_f6 ?_
    refine o_storen rfl rfl ti50 rfl rfl rfl rfl ?_
    refine o_assign rfl rfl ?_
    refine l_nil ?_
    refine q_then ?_
    refine c_ret ?_
    refine f_retq (.inl rfl) (rs_2 rfl (rs_celln (vs := [.int .i64 (smR bs), .int .i64 (smR ys12), .int .i64 q17.f_Tag_Id_Node, .int .u64 q17.f_Tag_Id_Epoch, .int .u64 q17.f_Tag_Id_Seq, .int .i64 q17.f_Tag_Try, .int .i64 q17.f_Txn_Kind, .slice q17.f_Txn_Reads.a (q17.f_Txn_Reads.xs).length q17.f_Txn_Reads.c, .slice q17.f_Txn_Writes.a (q17.f_Txn_Writes.xs).length q17.f_Txn_Writes.c, .slice q17.f_Txn_Ops.a (q17.f_Txn_Ops.xs).length q17.f_Txn_Ops.c, .int .i64 q17.f_Txn_To, .slice q17.f_Marks.a (q17.f_Marks.xs).length q17.f_Marks.c]) rfl Tryz.underlying50 rfl ti50 (rdn_lit 0 rfl rfl)) (rs_tmp rfl)) (fun w S => ?_)
    replace S := S.tail
    replace S := S.tail
    replace S := S.tail
    replace S := (S.perm p1).tail
    replace S := (S.perm p1).tail
    replace S := (S.perm p1).tail
    exact ⟨_, ⟨(⟨smR bs, smR ys12, q17.f_Tag_Id_Node, q17.f_Tag_Id_Epoch, q17.f_Tag_Id_Seq, q17.f_Tag_Try, q17.f_Txn_Kind, q17.f_Txn_Reads, q17.f_Txn_Writes, q17.f_Txn_Ops, q17.f_Txn_To, q17.f_Marks⟩ : Item), 0, .inl ⟨rfl, hyes⟩, L_q17, rfl, rfl⟩, (fun w S => S) w S⟩
end
section
set_option linter.unusedVariables false
set_option linter.unusedSimpArgs false
set_option maxRecDepth 10000
open Go.RowKit Classical
theorem op_ {W : World} {F : List Res} {t : Txn} (T_t : TxR W F t) {o : Op} (V_o : RdS W F e8 o.f_Value.a o.f_Value.xs) : CS Tryz.prog 71 #[.agg #[.int .i64 t.f_Kind, .slice t.f_Reads.a (t.f_Reads.xs).length t.f_Reads.c, .slice t.f_Writes.a (t.f_Writes.xs).length t.f_Writes.c, .slice t.f_Ops.a (t.f_Ops.xs).length t.f_Ops.c, .int .i64 t.f_To], .agg #[.int .i64 o.f_Kind, .string o.f_Key, .slice o.f_Value.a (o.f_Value.xs).length o.f_Value.c, .int .i64 o.f_N]] W (F) (fun r L' => r = .bool (decide (OpOk t o)) ∧ F = L') := by
 have hba : (⟨#[]⟩ : ByteArray) = ByteArray.empty := rfl
 refine f_door (l0 := [(0, .agg #[.int .i64 t.f_Kind, .slice t.f_Reads.a (t.f_Reads.xs).length t.f_Reads.c, .slice t.f_Writes.a (t.f_Writes.xs).length t.f_Writes.c, .slice t.f_Ops.a (t.f_Ops.xs).length t.f_Ops.c, .int .i64 t.f_To]), (1, .agg #[.int .i64 o.f_Kind, .string o.f_Key, .slice o.f_Value.a (o.f_Value.xs).length o.f_Value.c, .int .i64 o.f_N])]) Tryz.func71 Tryz.ntmps71 rfl rfl rfl ?_
 refine c_seq ?_
 refine c_region ?_
 refine o_box rfl rfl fun b2 => ?_
 refine o_box rfl rfl fun b3 => ?_
 refine o_assign rfl rfl ?_
 refine l_nil ?_
 refine q_then ?_
 refine c_seq ?_
 refine c_seq ?_
 refine c_region ?_
 refine o_fieldAddr (q := ⟨b3, 2, none⟩) rfl rfl Tryz.underlying92 rfl ti34 rfl ?_
 refine o_load1 rfl rfl Tryz.underlying34 rfl (rd_mem 0 rfl rfl) ?_
 refine o_len rfl rfl Tryz.underlying34 ?_
 refine o_bin rfl rfl rfl b_gtr ?_
 refine o_move rfl rfl ?_
 refine l_split (t := 9) rfl (fun h1 => ?_) (fun h1 => ?_)
 · -- h1T
  have h1b := h1
  try simp only [decide_eq_true_eq] at h1
  refine o_no rfl rfl rfl rfl ?_
  refine o_no rfl rfl rfl rfl ?_
  refine o_no rfl rfl rfl rfl ?_
  refine o_pick_true rfl rfl rfl ?_
  refine o_move rfl rfl ?_
  refine o_no rfl rfl rfl rfl ?_
  refine o_no rfl rfl rfl rfl ?_
  refine o_no rfl rfl rfl rfl ?_
  refine o_pick_true rfl rfl rfl ?_
  refine l_nil ?_
  refine q_then ?_
  refine c_true rfl ?_
  refine c_seq ?_
  refine c_region ?_
  refine o_assign rfl rfl ?_
  refine l_nil ?_
  refine q_then ?_
  refine c_ret ?_
  refine q_pass_ret ?_
  refine q_conv (fun w S => S.tail) ?_
  refine q_conv (fun w S => S.tail) ?_
  exact f_ret (r_one rfl rfl) (⟨by first | exact vtrue (by unfold OpOk; grind) | exact vfalse (by unfold OpOk; grind) | exact bdec (by unfold OpOk; grind), rfl⟩) (fun w S => S)
 · -- h1F
  have h1b := h1
  try simp only [decide_eq_false_iff_not, Int.not_lt, Int.not_le] at h1
  refine o_yes rfl rfl rfl ?_
  refine o_fieldAddr (q := ⟨b3, 0, none⟩) rfl rfl Tryz.underlying92 rfl ti3 rfl ?_
  refine o_yes rfl rfl rfl ?_
  refine o_load1 rfl rfl Tryz.underlying3 rfl (rd_mem 0 rfl rfl) ?_
  refine o_yes rfl rfl rfl ?_
  refine o_bin rfl rfl rfl b_lss ?_
  refine o_pick_false rfl rfl rfl ?_
  refine o_move rfl rfl ?_
  refine l_split (t := 14) rfl (fun h2 => ?_) (fun h2 => ?_)
  · -- h2T
   have h2b := h2
   try simp only [decide_eq_true_eq] at h2
   refine o_no rfl rfl rfl rfl ?_
   refine o_no rfl rfl rfl rfl ?_
   refine o_no rfl rfl rfl rfl ?_
   refine o_pick_true rfl rfl rfl ?_
   refine l_nil ?_
   refine q_then ?_
   refine c_true rfl ?_
   refine c_seq ?_
   refine c_region ?_
   refine o_assign rfl rfl ?_
   refine l_nil ?_
   refine q_then ?_
   refine c_ret ?_
   refine q_pass_ret ?_
   refine q_conv (fun w S => S.tail) ?_
   refine q_conv (fun w S => S.tail) ?_
   exact f_ret (r_one rfl rfl) (⟨by first | exact vtrue (by unfold OpOk; grind) | exact vfalse (by unfold OpOk; grind) | exact bdec (by unfold OpOk; grind), rfl⟩) (fun w S => S)
  · -- h2F
   have h2b := h2
   try simp only [decide_eq_false_iff_not, Int.not_lt, Int.not_le] at h2
   refine o_yes rfl rfl rfl ?_
   refine o_fieldAddr (q := ⟨b3, 0, none⟩) rfl rfl Tryz.underlying92 rfl ti3 rfl ?_
   refine o_yes rfl rfl rfl ?_
   refine o_load1 rfl rfl Tryz.underlying3 rfl (rd_mem 0 rfl rfl) ?_
   refine o_yes rfl rfl rfl ?_
   refine o_bin rfl rfl rfl b_gtr ?_
   refine o_pick_false rfl rfl rfl ?_
   refine l_nil ?_
   refine q_then ?_
   refine c_cond rfl (fun h3 => ?_) (fun h3 => ?_)
   · -- h3T
    have h3b := h3
    try simp only [decide_eq_true_eq] at h3
    refine c_seq ?_
    refine c_region ?_
    refine o_assign rfl rfl ?_
    refine l_nil ?_
    refine q_then ?_
    refine c_ret ?_
    refine q_pass_ret ?_
    refine q_conv (fun w S => S.tail) ?_
    refine q_conv (fun w S => S.tail) ?_
    exact f_ret (r_one rfl rfl) (⟨by first | exact vtrue (by unfold OpOk; grind) | exact vfalse (by unfold OpOk; grind) | exact bdec (by unfold OpOk; grind), rfl⟩) (fun w S => S)
   · -- h3F
    have h3b := h3
    try simp only [decide_eq_false_iff_not, Int.not_lt, Int.not_le] at h3
    refine c_skip ?_
    refine q_then ?_
    refine c_seq ?_
    refine c_seq ?_
    refine c_region ?_
    refine o_fieldAddr (q := ⟨b3, 0, none⟩) rfl rfl Tryz.underlying92 rfl ti3 rfl ?_
    refine o_load1 rfl rfl Tryz.underlying3 rfl (rd_mem 0 rfl rfl) ?_
    refine o_bin rfl rfl rfl b_eql ?_
    refine l_nil ?_
    refine q_then ?_
    refine c_cond rfl (fun h4 => ?_) (fun h4 => ?_)
    · -- h4T
     have h4b := h4
     try simp only [decide_eq_true_eq] at h4
     refine c_seq ?_
     refine c_region ?_
     refine o_fieldAddr (q := ⟨b3, 1, none⟩) rfl rfl Tryz.underlying92 rfl ti9 rfl ?_
     refine o_load1 rfl rfl Tryz.underlying9 rfl (rd_mem 0 rfl rfl) ?_
     refine o_bin rfl rfl rfl b_seql ?_
     refine o_move rfl rfl ?_
     refine l_split (t := 25) rfl (fun h5 => ?_) (fun h5 => ?_)
     · -- h5T
      have h5b := h5
      try simp only [decide_eq_true_eq] at h5
      refine o_yes rfl rfl rfl ?_
      refine o_fieldAddr (q := ⟨b3, 3, none⟩) rfl rfl Tryz.underlying92 rfl ti2 rfl ?_
      refine o_yes rfl rfl rfl ?_
      refine o_load1 rfl rfl Tryz.underlying2 rfl (rd_mem 0 rfl rfl) ?_
      refine o_yes rfl rfl rfl ?_
      refine o_bin rfl rfl rfl b_eql ?_
      refine o_pick_true rfl rfl rfl ?_
      refine o_assign rfl rfl ?_
      refine l_nil ?_
      refine q_then ?_
      refine c_ret ?_
      refine q_pass_ret ?_
      refine q_conv (fun w S => S.tail) ?_
      refine q_conv (fun w S => S.tail) ?_
      exact f_ret (r_one rfl rfl) (⟨by first | exact vtrue (by unfold OpOk; grind) | exact vfalse (by unfold OpOk; grind) | exact bdec (by unfold OpOk; grind), rfl⟩) (fun w S => S)
     · -- h5F
      have h5b := h5
      try simp only [decide_eq_false_iff_not, Int.not_lt, Int.not_le] at h5
      refine o_no rfl rfl rfl rfl ?_
      refine o_no rfl rfl rfl rfl ?_
      refine o_no rfl rfl rfl rfl ?_
      refine o_pick_false rfl rfl rfl ?_
      refine o_assign rfl rfl ?_
      refine l_nil ?_
      refine q_then ?_
      refine c_ret ?_
      refine q_pass_ret ?_
      refine q_conv (fun w S => S.tail) ?_
      refine q_conv (fun w S => S.tail) ?_
      exact f_ret (r_one rfl rfl) (⟨by first | exact vtrue (by unfold OpOk; grind) | exact vfalse (by unfold OpOk; grind) | exact bdec (by unfold OpOk; grind), rfl⟩) (fun w S => S)
    · -- h4F
     have h4b := h4
     try simp only [decide_eq_false_iff_not, Int.not_lt, Int.not_le] at h4
     refine c_skip ?_
     refine q_then ?_
     refine c_seq ?_
     refine c_seq ?_
     refine c_region ?_
     refine o_fieldAddr (q := ⟨b2, 2, none⟩) rfl rfl Tryz.underlying30 rfl ti27 rfl ?_
     refine o_load1 rfl rfl Tryz.underlying27 rfl (rd_mem 1 rfl rfl) ?_
     refine o_fieldAddr (q := ⟨b3, 1, none⟩) rfl rfl Tryz.underlying92 rfl ti9 rfl ?_
     refine o_load1 rfl rfl Tryz.underlying9 rfl (rd_mem 0 rfl rfl) ?_
     refine o_call rfl cal70 rfl (in_ (TxR.c (TxR.c T_t)).rw (by first | exact T_t.len.lr | exact T_t.len.lw | exact T_t.len.lo | omega)) ?_
     rintro _ _ ⟨rfl, rfl⟩
     refine o_not rfl rfl ?_
     refine o_move rfl rfl ?_
     refine l_split (t := 36) rfl (fun h6 => ?_) (fun h6 => ?_)
     · -- h6T
      have h6b := h6
      try simp only [Bool.not_eq_true', decide_eq_false_iff_not, Int.not_lt, Int.not_le] at h6
      refine o_yes rfl rfl rfl ?_
      refine o_fieldAddr (q := ⟨b2, 1, none⟩) rfl rfl Tryz.underlying30 rfl ti27 rfl ?_
      refine o_yes rfl rfl rfl ?_
      refine o_load1 rfl rfl Tryz.underlying27 rfl (rd_mem 1 rfl rfl) ?_
      refine o_yes rfl rfl rfl ?_
      refine o_fieldAddr (q := ⟨b3, 1, none⟩) rfl rfl Tryz.underlying92 rfl ti9 rfl ?_
      refine o_yes rfl rfl rfl ?_
      refine o_load1 rfl rfl Tryz.underlying9 rfl (rd_mem 0 rfl rfl) ?_
      refine o_yes rfl rfl rfl ?_
      refine o_call rfl cal70 rfl (in_ (TxR.c (TxR.c T_t)).rr (by first | exact T_t.len.lr | exact T_t.len.lw | exact T_t.len.lo | omega)) ?_
      rintro _ _ ⟨rfl, rfl⟩
      refine o_yes rfl rfl rfl ?_
      refine o_not rfl rfl ?_
      refine o_yes rfl rfl rfl ?_
      refine o_move rfl rfl ?_
      refine l_split (t := 43) rfl (fun h7 => ?_) (fun h7 => ?_)
      · -- h7T
       have h7b := h7
       try simp only [Bool.not_eq_true', decide_eq_false_iff_not, Int.not_lt, Int.not_le] at h7
       refine o_no rfl rfl rfl rfl ?_
       refine o_no rfl rfl rfl rfl ?_
       refine o_no rfl rfl rfl rfl ?_
       refine o_yes rfl rfl rfl ?_
       refine o_pick_true rfl rfl rfl ?_
       refine o_yes rfl rfl rfl ?_
       refine o_move rfl rfl ?_
       refine o_no rfl rfl rfl rfl ?_
       refine o_no rfl rfl rfl rfl ?_
       refine o_no rfl rfl rfl rfl ?_
       refine o_yes rfl rfl rfl ?_
       refine o_pick_true rfl rfl rfl ?_
       refine o_yes rfl rfl rfl ?_
       refine o_move rfl rfl ?_
       refine o_no rfl rfl rfl rfl ?_
       refine o_no rfl rfl rfl rfl ?_
       refine o_no rfl rfl rfl rfl ?_
       refine o_yes rfl rfl rfl ?_
       refine o_pick_true rfl rfl rfl ?_
       refine o_pick_true rfl rfl rfl ?_
       refine l_nil ?_
       refine q_then ?_
       refine c_true rfl ?_
       refine c_seq ?_
       refine c_region ?_
       refine o_assign rfl rfl ?_
       refine l_nil ?_
       refine q_then ?_
       refine c_ret ?_
       refine q_pass_ret ?_
       refine q_conv (fun w S => S.tail) ?_
       refine q_conv (fun w S => S.tail) ?_
       exact f_ret (r_one rfl rfl) (⟨by first | exact vtrue (by unfold OpOk; grind) | exact vfalse (by unfold OpOk; grind) | exact bdec (by unfold OpOk; grind), rfl⟩) (fun w S => S)
      · -- h7F
       have h7b := h7
       try simp only [Bool.not_eq_false', decide_eq_true_eq] at h7
       refine o_yes rfl rfl rfl ?_
       refine o_fieldAddr (q := ⟨b3, 0, none⟩) rfl rfl Tryz.underlying92 rfl ti3 rfl ?_
       refine o_yes rfl rfl rfl ?_
       refine o_load1 rfl rfl Tryz.underlying3 rfl (rd_mem 0 rfl rfl) ?_
       refine o_yes rfl rfl rfl ?_
       refine o_bin rfl rfl rfl b_eql ?_
       refine o_yes rfl rfl rfl ?_
       refine o_pick_false rfl rfl rfl ?_
       refine o_yes rfl rfl rfl ?_
       refine o_move rfl rfl ?_
       refine l_split (t := 48) rfl (fun h8 => ?_) (fun h8 => ?_)
       · -- h8T
        have h8b := h8
        try simp only [decide_eq_true_eq] at h8
        refine o_no rfl rfl rfl rfl ?_
        refine o_no rfl rfl rfl rfl ?_
        refine o_no rfl rfl rfl rfl ?_
        refine o_yes rfl rfl rfl ?_
        refine o_pick_true rfl rfl rfl ?_
        refine o_yes rfl rfl rfl ?_
        refine o_move rfl rfl ?_
        refine o_no rfl rfl rfl rfl ?_
        refine o_no rfl rfl rfl rfl ?_
        refine o_no rfl rfl rfl rfl ?_
        refine o_yes rfl rfl rfl ?_
        refine o_pick_true rfl rfl rfl ?_
        refine o_pick_true rfl rfl rfl ?_
        refine l_nil ?_
        refine q_then ?_
        refine c_true rfl ?_
        refine c_seq ?_
        refine c_region ?_
        refine o_assign rfl rfl ?_
        refine l_nil ?_
        refine q_then ?_
        refine c_ret ?_
        refine q_pass_ret ?_
        refine q_conv (fun w S => S.tail) ?_
        refine q_conv (fun w S => S.tail) ?_
        exact f_ret (r_one rfl rfl) (⟨by first | exact vtrue (by unfold OpOk; grind) | exact vfalse (by unfold OpOk; grind) | exact bdec (by unfold OpOk; grind), rfl⟩) (fun w S => S)
       · -- h8F
        have h8b := h8
        try simp only [decide_eq_false_iff_not, Int.not_lt, Int.not_le] at h8
        refine o_yes rfl rfl rfl ?_
        refine o_fieldAddr (q := ⟨b3, 0, none⟩) rfl rfl Tryz.underlying92 rfl ti3 rfl ?_
        refine o_yes rfl rfl rfl ?_
        refine o_load1 rfl rfl Tryz.underlying3 rfl (rd_mem 0 rfl rfl) ?_
        refine o_yes rfl rfl rfl ?_
        refine o_bin rfl rfl rfl b_eql ?_
        refine o_yes rfl rfl rfl ?_
        refine o_pick_false rfl rfl rfl ?_
        refine o_yes rfl rfl rfl ?_
        refine o_move rfl rfl ?_
        refine l_split (t := 53) rfl (fun h9 => ?_) (fun h9 => ?_)
        · -- h9T
         have h9b := h9
         try simp only [decide_eq_true_eq] at h9
         refine o_no rfl rfl rfl rfl ?_
         refine o_no rfl rfl rfl rfl ?_
         refine o_no rfl rfl rfl rfl ?_
         refine o_yes rfl rfl rfl ?_
         refine o_pick_true rfl rfl rfl ?_
         refine o_pick_true rfl rfl rfl ?_
         refine l_nil ?_
         refine q_then ?_
         refine c_true rfl ?_
         refine c_seq ?_
         refine c_region ?_
         refine o_assign rfl rfl ?_
         refine l_nil ?_
         refine q_then ?_
         refine c_ret ?_
         refine q_pass_ret ?_
         refine q_conv (fun w S => S.tail) ?_
         refine q_conv (fun w S => S.tail) ?_
         exact f_ret (r_one rfl rfl) (⟨by first | exact vtrue (by unfold OpOk; grind) | exact vfalse (by unfold OpOk; grind) | exact bdec (by unfold OpOk; grind), rfl⟩) (fun w S => S)
        · -- h9F
         have h9b := h9
         try simp only [decide_eq_false_iff_not, Int.not_lt, Int.not_le] at h9
         refine o_yes rfl rfl rfl ?_
         refine o_fieldAddr (q := ⟨b3, 0, none⟩) rfl rfl Tryz.underlying92 rfl ti3 rfl ?_
         refine o_yes rfl rfl rfl ?_
         refine o_load1 rfl rfl Tryz.underlying3 rfl (rd_mem 0 rfl rfl) ?_
         refine o_yes rfl rfl rfl ?_
         refine o_bin rfl rfl rfl b_eql ?_
         refine o_yes rfl rfl rfl ?_
         refine o_pick_false rfl rfl rfl ?_
         refine o_pick_true rfl rfl rfl ?_
         refine l_nil ?_
         refine q_then ?_
         refine c_cond rfl (fun h10 => ?_) (fun h10 => ?_)
         · -- h10T
          have h10b := h10
          try simp only [decide_eq_true_eq] at h10
          refine c_seq ?_
          refine c_region ?_
          refine o_assign rfl rfl ?_
          refine l_nil ?_
          refine q_then ?_
          refine c_ret ?_
          refine q_pass_ret ?_
          refine q_conv (fun w S => S.tail) ?_
          refine q_conv (fun w S => S.tail) ?_
          exact f_ret (r_one rfl rfl) (⟨by first | exact vtrue (by unfold OpOk; grind) | exact vfalse (by unfold OpOk; grind) | exact bdec (by unfold OpOk; grind), rfl⟩) (fun w S => S)
         · -- h10F
          have h10b := h10
          try simp only [decide_eq_false_iff_not, Int.not_lt, Int.not_le] at h10
          refine c_skip ?_
          refine q_then ?_
          refine c_seq ?_
          refine c_seq ?_
          refine c_region ?_
          refine o_fieldAddr (q := ⟨b3, 0, none⟩) rfl rfl Tryz.underlying92 rfl ti3 rfl ?_
          refine o_load1 rfl rfl Tryz.underlying3 rfl (rd_mem 0 rfl rfl) ?_
          refine o_bin rfl rfl rfl b_neq ?_
          refine o_move rfl rfl ?_
          refine l_split (t := 62) rfl (fun h11 => ?_) (fun h11 => ?_)
          · -- h11T
           have h11b := h11
           try simp only [Bool.not_eq_true', decide_eq_false_iff_not, Int.not_lt, Int.not_le] at h11
           refine o_yes rfl rfl rfl ?_
           refine o_fieldAddr (q := ⟨b3, 3, none⟩) rfl rfl Tryz.underlying92 rfl ti2 rfl ?_
           refine o_yes rfl rfl rfl ?_
           refine o_load1 rfl rfl Tryz.underlying2 rfl (rd_mem 0 rfl rfl) ?_
           refine o_yes rfl rfl rfl ?_
           refine o_bin rfl rfl rfl b_neq ?_
           refine o_pick_true rfl rfl rfl ?_
           refine l_nil ?_
           refine q_then ?_
           refine c_cond rfl (fun h12 => ?_) (fun h12 => ?_)
           · -- h12T
            have h12b := h12
            try simp only [Bool.not_eq_true', decide_eq_false_iff_not, Int.not_lt, Int.not_le] at h12
            refine c_seq ?_
            refine c_region ?_
            refine o_assign rfl rfl ?_
            refine l_nil ?_
            refine q_then ?_
            refine c_ret ?_
            refine q_pass_ret ?_
            refine q_conv (fun w S => S.tail) ?_
            refine q_conv (fun w S => S.tail) ?_
            exact f_ret (r_one rfl rfl) (⟨by first | exact vtrue (by unfold OpOk; grind) | exact vfalse (by unfold OpOk; grind) | exact bdec (by unfold OpOk; grind), rfl⟩) (fun w S => S)
           · -- h12F
            have h12b := h12
            try simp only [Bool.not_eq_false', decide_eq_true_eq] at h12
            refine c_skip ?_
            refine q_then ?_
            refine c_seq ?_
            refine c_region ?_
            refine o_fieldAddr (q := ⟨b3, 0, none⟩) rfl rfl Tryz.underlying92 rfl ti3 rfl ?_
            refine o_load1 rfl rfl Tryz.underlying3 rfl (rd_mem 0 rfl rfl) ?_
            refine o_bin rfl rfl rfl b_eql ?_
            refine o_move rfl rfl ?_
            refine l_split (t := 70) rfl (fun h13 => ?_) (fun h13 => ?_)
            · -- h13T
             have h13b := h13
             try simp only [decide_eq_true_eq] at h13
             refine o_no rfl rfl rfl rfl ?_
             refine o_no rfl rfl rfl rfl ?_
             refine o_no rfl rfl rfl rfl ?_
             refine o_pick_true rfl rfl rfl ?_
             refine o_move rfl rfl ?_
             refine o_no rfl rfl rfl rfl ?_
             refine o_no rfl rfl rfl rfl ?_
             refine o_no rfl rfl rfl rfl ?_
             refine o_no rfl rfl rfl rfl ?_
             refine o_pick_true rfl rfl rfl ?_
             refine o_assign rfl rfl ?_
             refine l_nil ?_
             refine q_then ?_
             refine c_ret ?_
             refine q_conv (fun w S => S.tail) ?_
             refine q_conv (fun w S => S.tail) ?_
             exact f_ret (r_one rfl rfl) (⟨by first | exact vtrue (by unfold OpOk; grind) | exact vfalse (by unfold OpOk; grind) | exact bdec (by unfold OpOk; grind), rfl⟩) (fun w S => S)
            · -- h13F
             have h13b := h13
             try simp only [decide_eq_false_iff_not, Int.not_lt, Int.not_le] at h13
             refine o_yes rfl rfl rfl ?_
             refine o_fieldAddr (q := ⟨b3, 0, none⟩) rfl rfl Tryz.underlying92 rfl ti3 rfl ?_
             refine o_yes rfl rfl rfl ?_
             refine o_load1 rfl rfl Tryz.underlying3 rfl (rd_mem 0 rfl rfl) ?_
             refine o_yes rfl rfl rfl ?_
             refine o_bin rfl rfl rfl b_eql ?_
             refine o_pick_false rfl rfl rfl ?_
             refine o_move rfl rfl ?_
             refine l_split (t := 75) rfl (fun h14 => ?_) (fun h14 => ?_)
             · -- h14T
              have h14b := h14
              try simp only [decide_eq_true_eq] at h14
              refine o_no rfl rfl rfl rfl ?_
              refine o_no rfl rfl rfl rfl ?_
              refine o_no rfl rfl rfl rfl ?_
              refine o_no rfl rfl rfl rfl ?_
              refine o_pick_true rfl rfl rfl ?_
              refine o_assign rfl rfl ?_
              refine l_nil ?_
              refine q_then ?_
              refine c_ret ?_
              refine q_conv (fun w S => S.tail) ?_
              refine q_conv (fun w S => S.tail) ?_
              exact f_ret (r_one rfl rfl) (⟨by first | exact vtrue (by unfold OpOk; grind) | exact vfalse (by unfold OpOk; grind) | exact bdec (by unfold OpOk; grind), rfl⟩) (fun w S => S)
             · -- h14F
              have h14b := h14
              try simp only [decide_eq_false_iff_not, Int.not_lt, Int.not_le] at h14
              refine o_yes rfl rfl rfl ?_
              refine o_fieldAddr (q := ⟨b3, 2, none⟩) rfl rfl Tryz.underlying92 rfl ti34 rfl ?_
              refine o_yes rfl rfl rfl ?_
              refine o_load1 rfl rfl Tryz.underlying34 rfl (rd_mem 0 rfl rfl) ?_
              refine o_yes rfl rfl rfl ?_
              refine o_len rfl rfl Tryz.underlying34 ?_
              refine o_yes rfl rfl rfl ?_
              refine o_bin rfl rfl rfl b_eql ?_
              refine o_pick_false rfl rfl rfl ?_
              refine o_assign rfl rfl ?_
              refine l_nil ?_
              refine q_then ?_
              refine c_ret ?_
              refine q_conv (fun w S => S.tail) ?_
              refine q_conv (fun w S => S.tail) ?_
              exact f_ret (r_one rfl rfl) (⟨by first | exact vtrue (by unfold OpOk; grind) | exact vfalse (by unfold OpOk; grind) | exact bdec (by unfold OpOk; grind), rfl⟩) (fun w S => S)
          · -- h11F
           have h11b := h11
           try simp only [Bool.not_eq_false', decide_eq_true_eq] at h11
           refine o_no rfl rfl rfl rfl ?_
           refine o_no rfl rfl rfl rfl ?_
           refine o_no rfl rfl rfl rfl ?_
           refine o_pick_false rfl rfl rfl ?_
           refine l_nil ?_
           refine q_then ?_
           refine c_false rfl ?_
           refine c_skip ?_
           refine q_then ?_
           refine c_seq ?_
           refine c_region ?_
           refine o_fieldAddr (q := ⟨b3, 0, none⟩) rfl rfl Tryz.underlying92 rfl ti3 rfl ?_
           refine o_load1 rfl rfl Tryz.underlying3 rfl (rd_mem 0 rfl rfl) ?_
           refine o_bin rfl rfl rfl b_eql ?_
           refine o_move rfl rfl ?_
           refine l_split (t := 70) rfl (fun h15 => ?_) (fun h15 => ?_)
           · -- h15T
            have h15b := h15
            try simp only [decide_eq_true_eq] at h15
            refine o_no rfl rfl rfl rfl ?_
            refine o_no rfl rfl rfl rfl ?_
            refine o_no rfl rfl rfl rfl ?_
            refine o_pick_true rfl rfl rfl ?_
            refine o_move rfl rfl ?_
            refine o_no rfl rfl rfl rfl ?_
            refine o_no rfl rfl rfl rfl ?_
            refine o_no rfl rfl rfl rfl ?_
            refine o_no rfl rfl rfl rfl ?_
            refine o_pick_true rfl rfl rfl ?_
            refine o_assign rfl rfl ?_
            refine l_nil ?_
            refine q_then ?_
            refine c_ret ?_
            refine q_conv (fun w S => S.tail) ?_
            refine q_conv (fun w S => S.tail) ?_
            exact f_ret (r_one rfl rfl) (⟨by first | exact vtrue (by unfold OpOk; grind) | exact vfalse (by unfold OpOk; grind) | exact bdec (by unfold OpOk; grind), rfl⟩) (fun w S => S)
           · -- h15F
            have h15b := h15
            try simp only [decide_eq_false_iff_not, Int.not_lt, Int.not_le] at h15
            refine o_yes rfl rfl rfl ?_
            refine o_fieldAddr (q := ⟨b3, 0, none⟩) rfl rfl Tryz.underlying92 rfl ti3 rfl ?_
            refine o_yes rfl rfl rfl ?_
            refine o_load1 rfl rfl Tryz.underlying3 rfl (rd_mem 0 rfl rfl) ?_
            refine o_yes rfl rfl rfl ?_
            refine o_bin rfl rfl rfl b_eql ?_
            refine o_pick_false rfl rfl rfl ?_
            refine o_move rfl rfl ?_
            refine l_split (t := 75) rfl (fun h16 => ?_) (fun h16 => ?_)
            · -- h16T
             have h16b := h16
             try simp only [decide_eq_true_eq] at h16
             refine o_no rfl rfl rfl rfl ?_
             refine o_no rfl rfl rfl rfl ?_
             refine o_no rfl rfl rfl rfl ?_
             refine o_no rfl rfl rfl rfl ?_
             refine o_pick_true rfl rfl rfl ?_
             refine o_assign rfl rfl ?_
             refine l_nil ?_
             refine q_then ?_
             refine c_ret ?_
             refine q_conv (fun w S => S.tail) ?_
             refine q_conv (fun w S => S.tail) ?_
             exact f_ret (r_one rfl rfl) (⟨by first | exact vtrue (by unfold OpOk; grind) | exact vfalse (by unfold OpOk; grind) | exact bdec (by unfold OpOk; grind), rfl⟩) (fun w S => S)
            · -- h16F
             have h16b := h16
             try simp only [decide_eq_false_iff_not, Int.not_lt, Int.not_le] at h16
             refine o_yes rfl rfl rfl ?_
             refine o_fieldAddr (q := ⟨b3, 2, none⟩) rfl rfl Tryz.underlying92 rfl ti34 rfl ?_
             refine o_yes rfl rfl rfl ?_
             refine o_load1 rfl rfl Tryz.underlying34 rfl (rd_mem 0 rfl rfl) ?_
             refine o_yes rfl rfl rfl ?_
             refine o_len rfl rfl Tryz.underlying34 ?_
             refine o_yes rfl rfl rfl ?_
             refine o_bin rfl rfl rfl b_eql ?_
             refine o_pick_false rfl rfl rfl ?_
             refine o_assign rfl rfl ?_
             refine l_nil ?_
             refine q_then ?_
             refine c_ret ?_
             refine q_conv (fun w S => S.tail) ?_
             refine q_conv (fun w S => S.tail) ?_
             exact f_ret (r_one rfl rfl) (⟨by first | exact vtrue (by unfold OpOk; grind) | exact vfalse (by unfold OpOk; grind) | exact bdec (by unfold OpOk; grind), rfl⟩) (fun w S => S)
     · -- h6F
      have h6b := h6
      try simp only [Bool.not_eq_false', decide_eq_true_eq] at h6
      refine o_no rfl rfl rfl rfl ?_
      refine o_no rfl rfl rfl rfl ?_
      refine o_no rfl rfl rfl rfl ?_
      refine o_no rfl rfl rfl rfl ?_
      refine o_no rfl rfl rfl rfl ?_
      refine o_no rfl rfl rfl rfl ?_
      refine o_no rfl rfl rfl rfl ?_
      refine o_no rfl rfl rfl rfl ?_
      refine o_no rfl rfl rfl rfl ?_
      refine o_no rfl rfl rfl rfl ?_
      refine o_no rfl rfl rfl rfl ?_
      refine o_no rfl rfl rfl rfl ?_
      refine o_no rfl rfl rfl rfl ?_
      refine o_no rfl rfl rfl rfl ?_
      refine o_no rfl rfl rfl rfl ?_
      refine o_no rfl rfl rfl rfl ?_
      refine o_no rfl rfl rfl rfl ?_
      refine o_no rfl rfl rfl rfl ?_
      refine o_no rfl rfl rfl rfl ?_
      refine o_no rfl rfl rfl rfl ?_
      refine o_no rfl rfl rfl rfl ?_
      refine o_pick_false rfl rfl rfl ?_
      refine l_nil ?_
      refine q_then ?_
      refine c_false rfl ?_
      refine c_skip ?_
      refine q_then ?_
      refine c_seq ?_
      refine c_seq ?_
      refine c_region ?_
      refine o_fieldAddr (q := ⟨b3, 0, none⟩) rfl rfl Tryz.underlying92 rfl ti3 rfl ?_
      refine o_load1 rfl rfl Tryz.underlying3 rfl (rd_mem 0 rfl rfl) ?_
      refine o_bin rfl rfl rfl b_neq ?_
      refine o_move rfl rfl ?_
      refine l_split (t := 62) rfl (fun h17 => ?_) (fun h17 => ?_)
      · -- h17T
       have h17b := h17
       try simp only [Bool.not_eq_true', decide_eq_false_iff_not, Int.not_lt, Int.not_le] at h17
       refine o_yes rfl rfl rfl ?_
       refine o_fieldAddr (q := ⟨b3, 3, none⟩) rfl rfl Tryz.underlying92 rfl ti2 rfl ?_
       refine o_yes rfl rfl rfl ?_
       refine o_load1 rfl rfl Tryz.underlying2 rfl (rd_mem 0 rfl rfl) ?_
       refine o_yes rfl rfl rfl ?_
       refine o_bin rfl rfl rfl b_neq ?_
       refine o_pick_true rfl rfl rfl ?_
       refine l_nil ?_
       refine q_then ?_
       refine c_cond rfl (fun h18 => ?_) (fun h18 => ?_)
       · -- h18T
        have h18b := h18
        try simp only [Bool.not_eq_true', decide_eq_false_iff_not, Int.not_lt, Int.not_le] at h18
        refine c_seq ?_
        refine c_region ?_
        refine o_assign rfl rfl ?_
        refine l_nil ?_
        refine q_then ?_
        refine c_ret ?_
        refine q_pass_ret ?_
        refine q_conv (fun w S => S.tail) ?_
        refine q_conv (fun w S => S.tail) ?_
        exact f_ret (r_one rfl rfl) (⟨by first | exact vtrue (by unfold OpOk; grind) | exact vfalse (by unfold OpOk; grind) | exact bdec (by unfold OpOk; grind), rfl⟩) (fun w S => S)
       · -- h18F
        have h18b := h18
        try simp only [Bool.not_eq_false', decide_eq_true_eq] at h18
        refine c_skip ?_
        refine q_then ?_
        refine c_seq ?_
        refine c_region ?_
        refine o_fieldAddr (q := ⟨b3, 0, none⟩) rfl rfl Tryz.underlying92 rfl ti3 rfl ?_
        refine o_load1 rfl rfl Tryz.underlying3 rfl (rd_mem 0 rfl rfl) ?_
        refine o_bin rfl rfl rfl b_eql ?_
        refine o_move rfl rfl ?_
        refine l_split (t := 70) rfl (fun h19 => ?_) (fun h19 => ?_)
        · -- h19T
         have h19b := h19
         try simp only [decide_eq_true_eq] at h19
         refine o_no rfl rfl rfl rfl ?_
         refine o_no rfl rfl rfl rfl ?_
         refine o_no rfl rfl rfl rfl ?_
         refine o_pick_true rfl rfl rfl ?_
         refine o_move rfl rfl ?_
         refine o_no rfl rfl rfl rfl ?_
         refine o_no rfl rfl rfl rfl ?_
         refine o_no rfl rfl rfl rfl ?_
         refine o_no rfl rfl rfl rfl ?_
         refine o_pick_true rfl rfl rfl ?_
         refine o_assign rfl rfl ?_
         refine l_nil ?_
         refine q_then ?_
         refine c_ret ?_
         refine q_conv (fun w S => S.tail) ?_
         refine q_conv (fun w S => S.tail) ?_
         exact f_ret (r_one rfl rfl) (⟨by first | exact vtrue (by unfold OpOk; grind) | exact vfalse (by unfold OpOk; grind) | exact bdec (by unfold OpOk; grind), rfl⟩) (fun w S => S)
        · -- h19F
         have h19b := h19
         try simp only [decide_eq_false_iff_not, Int.not_lt, Int.not_le] at h19
         refine o_yes rfl rfl rfl ?_
         refine o_fieldAddr (q := ⟨b3, 0, none⟩) rfl rfl Tryz.underlying92 rfl ti3 rfl ?_
         refine o_yes rfl rfl rfl ?_
         refine o_load1 rfl rfl Tryz.underlying3 rfl (rd_mem 0 rfl rfl) ?_
         refine o_yes rfl rfl rfl ?_
         refine o_bin rfl rfl rfl b_eql ?_
         refine o_pick_false rfl rfl rfl ?_
         refine o_move rfl rfl ?_
         refine l_split (t := 75) rfl (fun h20 => ?_) (fun h20 => ?_)
         · -- h20T
          have h20b := h20
          try simp only [decide_eq_true_eq] at h20
          refine o_no rfl rfl rfl rfl ?_
          refine o_no rfl rfl rfl rfl ?_
          refine o_no rfl rfl rfl rfl ?_
          refine o_no rfl rfl rfl rfl ?_
          refine o_pick_true rfl rfl rfl ?_
          refine o_assign rfl rfl ?_
          refine l_nil ?_
          refine q_then ?_
          refine c_ret ?_
          refine q_conv (fun w S => S.tail) ?_
          refine q_conv (fun w S => S.tail) ?_
          exact f_ret (r_one rfl rfl) (⟨by first | exact vtrue (by unfold OpOk; grind) | exact vfalse (by unfold OpOk; grind) | exact bdec (by unfold OpOk; grind), rfl⟩) (fun w S => S)
         · -- h20F
          have h20b := h20
          try simp only [decide_eq_false_iff_not, Int.not_lt, Int.not_le] at h20
          refine o_yes rfl rfl rfl ?_
          refine o_fieldAddr (q := ⟨b3, 2, none⟩) rfl rfl Tryz.underlying92 rfl ti34 rfl ?_
          refine o_yes rfl rfl rfl ?_
          refine o_load1 rfl rfl Tryz.underlying34 rfl (rd_mem 0 rfl rfl) ?_
          refine o_yes rfl rfl rfl ?_
          refine o_len rfl rfl Tryz.underlying34 ?_
          refine o_yes rfl rfl rfl ?_
          refine o_bin rfl rfl rfl b_eql ?_
          refine o_pick_false rfl rfl rfl ?_
          refine o_assign rfl rfl ?_
          refine l_nil ?_
          refine q_then ?_
          refine c_ret ?_
          refine q_conv (fun w S => S.tail) ?_
          refine q_conv (fun w S => S.tail) ?_
          exact f_ret (r_one rfl rfl) (⟨by first | exact vtrue (by unfold OpOk; grind) | exact vfalse (by unfold OpOk; grind) | exact bdec (by unfold OpOk; grind), rfl⟩) (fun w S => S)
      · -- h17F
       have h17b := h17
       try simp only [Bool.not_eq_false', decide_eq_true_eq] at h17
       refine o_no rfl rfl rfl rfl ?_
       refine o_no rfl rfl rfl rfl ?_
       refine o_no rfl rfl rfl rfl ?_
       refine o_pick_false rfl rfl rfl ?_
       refine l_nil ?_
       refine q_then ?_
       refine c_false rfl ?_
       refine c_skip ?_
       refine q_then ?_
       refine c_seq ?_
       refine c_region ?_
       refine o_fieldAddr (q := ⟨b3, 0, none⟩) rfl rfl Tryz.underlying92 rfl ti3 rfl ?_
       refine o_load1 rfl rfl Tryz.underlying3 rfl (rd_mem 0 rfl rfl) ?_
       refine o_bin rfl rfl rfl b_eql ?_
       refine o_move rfl rfl ?_
       refine l_split (t := 70) rfl (fun h21 => ?_) (fun h21 => ?_)
       · -- h21T
        have h21b := h21
        try simp only [decide_eq_true_eq] at h21
        refine o_no rfl rfl rfl rfl ?_
        refine o_no rfl rfl rfl rfl ?_
        refine o_no rfl rfl rfl rfl ?_
        refine o_pick_true rfl rfl rfl ?_
        refine o_move rfl rfl ?_
        refine o_no rfl rfl rfl rfl ?_
        refine o_no rfl rfl rfl rfl ?_
        refine o_no rfl rfl rfl rfl ?_
        refine o_no rfl rfl rfl rfl ?_
        refine o_pick_true rfl rfl rfl ?_
        refine o_assign rfl rfl ?_
        refine l_nil ?_
        refine q_then ?_
        refine c_ret ?_
        refine q_conv (fun w S => S.tail) ?_
        refine q_conv (fun w S => S.tail) ?_
        exact f_ret (r_one rfl rfl) (⟨by first | exact vtrue (by unfold OpOk; grind) | exact vfalse (by unfold OpOk; grind) | exact bdec (by unfold OpOk; grind), rfl⟩) (fun w S => S)
       · -- h21F
        have h21b := h21
        try simp only [decide_eq_false_iff_not, Int.not_lt, Int.not_le] at h21
        refine o_yes rfl rfl rfl ?_
        refine o_fieldAddr (q := ⟨b3, 0, none⟩) rfl rfl Tryz.underlying92 rfl ti3 rfl ?_
        refine o_yes rfl rfl rfl ?_
        refine o_load1 rfl rfl Tryz.underlying3 rfl (rd_mem 0 rfl rfl) ?_
        refine o_yes rfl rfl rfl ?_
        refine o_bin rfl rfl rfl b_eql ?_
        refine o_pick_false rfl rfl rfl ?_
        refine o_move rfl rfl ?_
        refine l_split (t := 75) rfl (fun h22 => ?_) (fun h22 => ?_)
        · -- h22T
         have h22b := h22
         try simp only [decide_eq_true_eq] at h22
         refine o_no rfl rfl rfl rfl ?_
         refine o_no rfl rfl rfl rfl ?_
         refine o_no rfl rfl rfl rfl ?_
         refine o_no rfl rfl rfl rfl ?_
         refine o_pick_true rfl rfl rfl ?_
         refine o_assign rfl rfl ?_
         refine l_nil ?_
         refine q_then ?_
         refine c_ret ?_
         refine q_conv (fun w S => S.tail) ?_
         refine q_conv (fun w S => S.tail) ?_
         exact f_ret (r_one rfl rfl) (⟨by first | exact vtrue (by unfold OpOk; grind) | exact vfalse (by unfold OpOk; grind) | exact bdec (by unfold OpOk; grind), rfl⟩) (fun w S => S)
        · -- h22F
         have h22b := h22
         try simp only [decide_eq_false_iff_not, Int.not_lt, Int.not_le] at h22
         refine o_yes rfl rfl rfl ?_
         refine o_fieldAddr (q := ⟨b3, 2, none⟩) rfl rfl Tryz.underlying92 rfl ti34 rfl ?_
         refine o_yes rfl rfl rfl ?_
         refine o_load1 rfl rfl Tryz.underlying34 rfl (rd_mem 0 rfl rfl) ?_
         refine o_yes rfl rfl rfl ?_
         refine o_len rfl rfl Tryz.underlying34 ?_
         refine o_yes rfl rfl rfl ?_
         refine o_bin rfl rfl rfl b_eql ?_
         refine o_pick_false rfl rfl rfl ?_
         refine o_assign rfl rfl ?_
         refine l_nil ?_
         refine q_then ?_
         refine c_ret ?_
         refine q_conv (fun w S => S.tail) ?_
         refine q_conv (fun w S => S.tail) ?_
         exact f_ret (r_one rfl rfl) (⟨by first | exact vtrue (by unfold OpOk; grind) | exact vfalse (by unfold OpOk; grind) | exact bdec (by unfold OpOk; grind), rfl⟩) (fun w S => S)
end
section
set_option linter.unusedVariables false
set_option linter.unusedSimpArgs false
set_option maxRecDepth 10000
open Go.RowKit Classical
set_option maxHeartbeats 1000000 in
theorem right_ {W : World} {F : List Res} {g : Int} {t : Txn} (T_t : TxR W F t) : CS Tryz.prog 47 #[.agg #[.int .i64 t.f_Kind, .slice t.f_Reads.a (t.f_Reads.xs).length t.f_Reads.c, .slice t.f_Writes.a (t.f_Writes.xs).length t.f_Writes.c, .slice t.f_Ops.a (t.f_Ops.xs).length t.f_Ops.c, .int .i64 t.f_To], .int .i64 g] W (F) (fun r L' => r = .bool (decide (RightOk t g)) ∧ F = L') := by
 refine f_door (l0 := [(0, .agg #[.int .i64 t.f_Kind, .slice t.f_Reads.a (t.f_Reads.xs).length t.f_Reads.c, .slice t.f_Writes.a (t.f_Writes.xs).length t.f_Writes.c, .slice t.f_Ops.a (t.f_Ops.xs).length t.f_Ops.c, .int .i64 t.f_To]), (1, .int .i64 g)]) Tryz.func47 Tryz.ntmps47 rfl rfl rfl ?_
 refine c_seq ?_
 refine c_region ?_
 refine o_box rfl rfl fun b2 => ?_
 refine o_assign rfl rfl ?_
 refine l_nil ?_
 refine q_then ?_
 refine c_seq ?_
 refine c_seq ?_
 refine c_region ?_
 refine o_move rfl rfl ?_
 refine o_bin rfl rfl rfl b_lss ?_
 refine o_move rfl rfl ?_
 refine l_split (t := 10) rfl (fun h1 => ?_) (fun h1 => ?_)
 · -- h1T
  have h1b := h1
  try simp only [decide_eq_true_eq] at h1
  refine o_no rfl rfl rfl rfl ?_
  refine o_no rfl rfl rfl rfl ?_
  refine o_pick_true rfl rfl rfl ?_
  refine o_move rfl rfl ?_
  refine o_no rfl rfl rfl rfl ?_
  refine o_no rfl rfl rfl rfl ?_
  refine o_no rfl rfl rfl rfl ?_
  refine o_no rfl rfl rfl rfl ?_
  refine o_pick_true rfl rfl rfl ?_
  refine o_move rfl rfl ?_
  refine o_no rfl rfl rfl rfl ?_
  refine o_no rfl rfl rfl rfl ?_
  refine o_no rfl rfl rfl rfl ?_
  refine o_no rfl rfl rfl rfl ?_
  refine o_pick_true rfl rfl rfl ?_
  refine o_move rfl rfl ?_
  refine o_no rfl rfl rfl rfl ?_
  refine o_no rfl rfl rfl rfl ?_
  refine o_no rfl rfl rfl rfl ?_
  refine o_no rfl rfl rfl rfl ?_
  refine o_pick_true rfl rfl rfl ?_
  refine o_move rfl rfl ?_
  refine o_no rfl rfl rfl rfl ?_
  refine o_no rfl rfl rfl rfl ?_
  refine o_no rfl rfl rfl rfl ?_
  refine o_no rfl rfl rfl rfl ?_
  refine o_pick_true rfl rfl rfl ?_
  refine o_move rfl rfl ?_
  refine o_no rfl rfl rfl rfl ?_
  refine o_no rfl rfl rfl rfl ?_
  refine o_no rfl rfl rfl rfl ?_
  refine o_no rfl rfl rfl rfl ?_
  refine o_no rfl rfl rfl rfl ?_
  refine o_no rfl rfl rfl rfl ?_
  refine o_no rfl rfl rfl rfl ?_
  refine o_no rfl rfl rfl rfl ?_
  refine o_pick_true rfl rfl rfl ?_
  refine l_nil ?_
  refine q_then ?_
  refine c_true rfl ?_
  refine c_seq ?_
  refine c_region ?_
  refine o_assign rfl rfl ?_
  refine l_nil ?_
  refine q_then ?_
  refine c_ret ?_
  refine q_pass_ret ?_
  refine q_conv (fun w S => S.tail) ?_
  exact f_ret (r_one rfl rfl) (⟨by first | exact vfalse (by unfold RightOk; grind) | exact vtrue (by unfold RightOk; grind) | exact bdec (by unfold RightOk; grind), rfl⟩) (fun w S => S)
 · -- h1F
  have h1b := h1
  try simp only [decide_eq_false_iff_not, Int.not_lt, Int.not_le] at h1
  refine o_yes rfl rfl rfl ?_
  refine o_move rfl rfl ?_
  refine o_yes rfl rfl rfl ?_
  refine o_bin rfl rfl rfl b_gtr ?_
  refine o_pick_false rfl rfl rfl ?_
  refine o_move rfl rfl ?_
  refine l_split (t := 14) rfl (fun h2 => ?_) (fun h2 => ?_)
  · -- h2T
   have h2b := h2
   try simp only [decide_eq_true_eq] at h2
   refine o_no rfl rfl rfl rfl ?_
   refine o_no rfl rfl rfl rfl ?_
   refine o_no rfl rfl rfl rfl ?_
   refine o_no rfl rfl rfl rfl ?_
   refine o_pick_true rfl rfl rfl ?_
   refine o_move rfl rfl ?_
   refine o_no rfl rfl rfl rfl ?_
   refine o_no rfl rfl rfl rfl ?_
   refine o_no rfl rfl rfl rfl ?_
   refine o_no rfl rfl rfl rfl ?_
   refine o_pick_true rfl rfl rfl ?_
   refine o_move rfl rfl ?_
   refine o_no rfl rfl rfl rfl ?_
   refine o_no rfl rfl rfl rfl ?_
   refine o_no rfl rfl rfl rfl ?_
   refine o_no rfl rfl rfl rfl ?_
   refine o_pick_true rfl rfl rfl ?_
   refine o_move rfl rfl ?_
   refine o_no rfl rfl rfl rfl ?_
   refine o_no rfl rfl rfl rfl ?_
   refine o_no rfl rfl rfl rfl ?_
   refine o_no rfl rfl rfl rfl ?_
   refine o_pick_true rfl rfl rfl ?_
   refine o_move rfl rfl ?_
   refine o_no rfl rfl rfl rfl ?_
   refine o_no rfl rfl rfl rfl ?_
   refine o_no rfl rfl rfl rfl ?_
   refine o_no rfl rfl rfl rfl ?_
   refine o_no rfl rfl rfl rfl ?_
   refine o_no rfl rfl rfl rfl ?_
   refine o_no rfl rfl rfl rfl ?_
   refine o_no rfl rfl rfl rfl ?_
   refine o_pick_true rfl rfl rfl ?_
   refine l_nil ?_
   refine q_then ?_
   refine c_true rfl ?_
   refine c_seq ?_
   refine c_region ?_
   refine o_assign rfl rfl ?_
   refine l_nil ?_
   refine q_then ?_
   refine c_ret ?_
   refine q_pass_ret ?_
   refine q_conv (fun w S => S.tail) ?_
   exact f_ret (r_one rfl rfl) (⟨by first | exact vfalse (by unfold RightOk; grind) | exact vtrue (by unfold RightOk; grind) | exact bdec (by unfold RightOk; grind), rfl⟩) (fun w S => S)
  · -- h2F
   have h2b := h2
   try simp only [decide_eq_false_iff_not, Int.not_lt, Int.not_le] at h2
   refine o_yes rfl rfl rfl ?_
   refine o_fieldAddr (q := ⟨b2, 1, none⟩) rfl rfl Tryz.underlying30 rfl ti27 rfl ?_
   refine o_yes rfl rfl rfl ?_
   refine o_load1 rfl rfl Tryz.underlying27 rfl (rd_mem 0 rfl rfl) ?_
   refine o_yes rfl rfl rfl ?_
   refine o_call rfl cal69 rfl (rising_ (TxR.c T_t).rr (by first | exact T_t.len.lr | exact T_t.len.lw | exact T_t.len.lo | omega)) ?_
   rintro _ _ ⟨rfl, rfl⟩
   refine o_yes rfl rfl rfl ?_
   refine o_not rfl rfl ?_
   refine o_pick_false rfl rfl rfl ?_
   refine o_move rfl rfl ?_
   refine l_split (t := 20) rfl (fun h3 => ?_) (fun h3 => ?_)
   · -- h3T
    have h3b := h3
    try simp only [Bool.not_eq_true', decide_eq_false_iff_not, Int.not_lt, Int.not_le] at h3
    refine o_no rfl rfl rfl rfl ?_
    refine o_no rfl rfl rfl rfl ?_
    refine o_no rfl rfl rfl rfl ?_
    refine o_no rfl rfl rfl rfl ?_
    refine o_pick_true rfl rfl rfl ?_
    refine o_move rfl rfl ?_
    refine o_no rfl rfl rfl rfl ?_
    refine o_no rfl rfl rfl rfl ?_
    refine o_no rfl rfl rfl rfl ?_
    refine o_no rfl rfl rfl rfl ?_
    refine o_pick_true rfl rfl rfl ?_
    refine o_move rfl rfl ?_
    refine o_no rfl rfl rfl rfl ?_
    refine o_no rfl rfl rfl rfl ?_
    refine o_no rfl rfl rfl rfl ?_
    refine o_no rfl rfl rfl rfl ?_
    refine o_pick_true rfl rfl rfl ?_
    refine o_move rfl rfl ?_
    refine o_no rfl rfl rfl rfl ?_
    refine o_no rfl rfl rfl rfl ?_
    refine o_no rfl rfl rfl rfl ?_
    refine o_no rfl rfl rfl rfl ?_
    refine o_no rfl rfl rfl rfl ?_
    refine o_no rfl rfl rfl rfl ?_
    refine o_no rfl rfl rfl rfl ?_
    refine o_no rfl rfl rfl rfl ?_
    refine o_pick_true rfl rfl rfl ?_
    refine l_nil ?_
    refine q_then ?_
    refine c_true rfl ?_
    refine c_seq ?_
    refine c_region ?_
    refine o_assign rfl rfl ?_
    refine l_nil ?_
    refine q_then ?_
    refine c_ret ?_
    refine q_pass_ret ?_
    refine q_conv (fun w S => S.tail) ?_
    exact f_ret (r_one rfl rfl) (⟨by first | exact vfalse (by unfold RightOk; grind) | exact vtrue (by unfold RightOk; grind) | exact bdec (by unfold RightOk; grind), rfl⟩) (fun w S => S)
   · -- h3F
    have h3b := h3
    try simp only [Bool.not_eq_false', decide_eq_true_eq] at h3
    refine o_yes rfl rfl rfl ?_
    refine o_fieldAddr (q := ⟨b2, 2, none⟩) rfl rfl Tryz.underlying30 rfl ti27 rfl ?_
    refine o_yes rfl rfl rfl ?_
    refine o_load1 rfl rfl Tryz.underlying27 rfl (rd_mem 0 rfl rfl) ?_
    refine o_yes rfl rfl rfl ?_
    refine o_call rfl cal69 rfl (rising_ (TxR.c T_t).rw (by first | exact T_t.len.lr | exact T_t.len.lw | exact T_t.len.lo | omega)) ?_
    rintro _ _ ⟨rfl, rfl⟩
    refine o_yes rfl rfl rfl ?_
    refine o_not rfl rfl ?_
    refine o_pick_false rfl rfl rfl ?_
    refine o_move rfl rfl ?_
    refine l_split (t := 26) rfl (fun h4 => ?_) (fun h4 => ?_)
    · -- h4T
     have h4b := h4
     try simp only [Bool.not_eq_true', decide_eq_false_iff_not, Int.not_lt, Int.not_le] at h4
     refine o_no rfl rfl rfl rfl ?_
     refine o_no rfl rfl rfl rfl ?_
     refine o_no rfl rfl rfl rfl ?_
     refine o_no rfl rfl rfl rfl ?_
     refine o_pick_true rfl rfl rfl ?_
     refine o_move rfl rfl ?_
     refine o_no rfl rfl rfl rfl ?_
     refine o_no rfl rfl rfl rfl ?_
     refine o_no rfl rfl rfl rfl ?_
     refine o_no rfl rfl rfl rfl ?_
     refine o_pick_true rfl rfl rfl ?_
     refine o_move rfl rfl ?_
     refine o_no rfl rfl rfl rfl ?_
     refine o_no rfl rfl rfl rfl ?_
     refine o_no rfl rfl rfl rfl ?_
     refine o_no rfl rfl rfl rfl ?_
     refine o_no rfl rfl rfl rfl ?_
     refine o_no rfl rfl rfl rfl ?_
     refine o_no rfl rfl rfl rfl ?_
     refine o_no rfl rfl rfl rfl ?_
     refine o_pick_true rfl rfl rfl ?_
     refine l_nil ?_
     refine q_then ?_
     refine c_true rfl ?_
     refine c_seq ?_
     refine c_region ?_
     refine o_assign rfl rfl ?_
     refine l_nil ?_
     refine q_then ?_
     refine c_ret ?_
     refine q_pass_ret ?_
     refine q_conv (fun w S => S.tail) ?_
     exact f_ret (r_one rfl rfl) (⟨by first | exact vfalse (by unfold RightOk; grind) | exact vtrue (by unfold RightOk; grind) | exact bdec (by unfold RightOk; grind), rfl⟩) (fun w S => S)
    · -- h4F
     have h4b := h4
     try simp only [Bool.not_eq_false', decide_eq_true_eq] at h4
     refine o_yes rfl rfl rfl ?_
     refine o_fieldAddr (q := ⟨b2, 1, none⟩) rfl rfl Tryz.underlying30 rfl ti27 rfl ?_
     refine o_yes rfl rfl rfl ?_
     refine o_load1 rfl rfl Tryz.underlying27 rfl (rd_mem 0 rfl rfl) ?_
     refine o_yes rfl rfl rfl ?_
     refine o_len rfl rfl Tryz.underlying27 ?_
     refine o_yes rfl rfl rfl ?_
     refine o_bin rfl rfl rfl b_gtr ?_
     refine o_pick_false rfl rfl rfl ?_
     refine o_move rfl rfl ?_
     refine l_split (t := 32) rfl (fun h5 => ?_) (fun h5 => ?_)
     · -- h5T
      have h5b := h5
      try simp only [decide_eq_true_eq] at h5
      refine o_no rfl rfl rfl rfl ?_
      refine o_no rfl rfl rfl rfl ?_
      refine o_no rfl rfl rfl rfl ?_
      refine o_no rfl rfl rfl rfl ?_
      refine o_pick_true rfl rfl rfl ?_
      refine o_move rfl rfl ?_
      refine o_no rfl rfl rfl rfl ?_
      refine o_no rfl rfl rfl rfl ?_
      refine o_no rfl rfl rfl rfl ?_
      refine o_no rfl rfl rfl rfl ?_
      refine o_no rfl rfl rfl rfl ?_
      refine o_no rfl rfl rfl rfl ?_
      refine o_no rfl rfl rfl rfl ?_
      refine o_no rfl rfl rfl rfl ?_
      refine o_pick_true rfl rfl rfl ?_
      refine l_nil ?_
      refine q_then ?_
      refine c_true rfl ?_
      refine c_seq ?_
      refine c_region ?_
      refine o_assign rfl rfl ?_
      refine l_nil ?_
      refine q_then ?_
      refine c_ret ?_
      refine q_pass_ret ?_
      refine q_conv (fun w S => S.tail) ?_
      exact f_ret (r_one rfl rfl) (⟨by first | exact vfalse (by unfold RightOk; grind) | exact vtrue (by unfold RightOk; grind) | exact bdec (by unfold RightOk; grind), rfl⟩) (fun w S => S)
     · -- h5F
      have h5b := h5
      try simp only [decide_eq_false_iff_not, Int.not_lt, Int.not_le] at h5
      refine o_yes rfl rfl rfl ?_
      refine o_fieldAddr (q := ⟨b2, 2, none⟩) rfl rfl Tryz.underlying30 rfl ti27 rfl ?_
      refine o_yes rfl rfl rfl ?_
      refine o_load1 rfl rfl Tryz.underlying27 rfl (rd_mem 0 rfl rfl) ?_
      refine o_yes rfl rfl rfl ?_
      refine o_len rfl rfl Tryz.underlying27 ?_
      refine o_yes rfl rfl rfl ?_
      refine o_bin rfl rfl rfl b_gtr ?_
      refine o_pick_false rfl rfl rfl ?_
      refine o_move rfl rfl ?_
      refine l_split (t := 38) rfl (fun h6 => ?_) (fun h6 => ?_)
      · -- h6T
       have h6b := h6
       try simp only [decide_eq_true_eq] at h6
       refine o_no rfl rfl rfl rfl ?_
       refine o_no rfl rfl rfl rfl ?_
       refine o_no rfl rfl rfl rfl ?_
       refine o_no rfl rfl rfl rfl ?_
       refine o_no rfl rfl rfl rfl ?_
       refine o_no rfl rfl rfl rfl ?_
       refine o_no rfl rfl rfl rfl ?_
       refine o_no rfl rfl rfl rfl ?_
       refine o_pick_true rfl rfl rfl ?_
       refine l_nil ?_
       refine q_then ?_
       refine c_true rfl ?_
       refine c_seq ?_
       refine c_region ?_
       refine o_assign rfl rfl ?_
       refine l_nil ?_
       refine q_then ?_
       refine c_ret ?_
       refine q_pass_ret ?_
       refine q_conv (fun w S => S.tail) ?_
       exact f_ret (r_one rfl rfl) (⟨by first | exact vfalse (by unfold RightOk; grind) | exact vtrue (by unfold RightOk; grind) | exact bdec (by unfold RightOk; grind), rfl⟩) (fun w S => S)
      · -- h6F
       have h6b := h6
       try simp only [decide_eq_false_iff_not, Int.not_lt, Int.not_le] at h6
       refine o_yes rfl rfl rfl ?_
       refine o_fieldAddr (q := ⟨b2, 1, none⟩) rfl rfl Tryz.underlying30 rfl ti27 rfl ?_
       refine o_yes rfl rfl rfl ?_
       refine o_load1 rfl rfl Tryz.underlying27 rfl (rd_mem 0 rfl rfl) ?_
       refine o_yes rfl rfl rfl ?_
       refine o_len rfl rfl Tryz.underlying27 ?_
       refine o_yes rfl rfl rfl ?_
       refine o_fieldAddr (q := ⟨b2, 2, none⟩) rfl rfl Tryz.underlying30 rfl ti27 rfl ?_
       refine o_yes rfl rfl rfl ?_
       refine o_load1 rfl rfl Tryz.underlying27 rfl (rd_mem 0 rfl rfl) ?_
       refine o_yes rfl rfl rfl ?_
       refine o_len rfl rfl Tryz.underlying27 ?_
       refine o_yes rfl rfl rfl ?_
       refine o_bin rfl rfl rfl (b_add (wrap_i64 (by omega) (by omega))) ?_
       refine o_yes rfl rfl rfl ?_
       refine o_bin rfl rfl rfl b_gtr ?_
       refine o_pick_false rfl rfl rfl ?_
       refine l_nil ?_
       refine q_then ?_
       refine c_cond rfl (fun h7 => ?_) (fun h7 => ?_)
       · -- h7T
        have h7b := h7
        try simp only [decide_eq_true_eq] at h7
        refine c_seq ?_
        refine c_region ?_
        refine o_assign rfl rfl ?_
        refine l_nil ?_
        refine q_then ?_
        refine c_ret ?_
        refine q_pass_ret ?_
        refine q_conv (fun w S => S.tail) ?_
        exact f_ret (r_one rfl rfl) (⟨by first | exact vfalse (by unfold RightOk; grind) | exact vtrue (by unfold RightOk; grind) | exact bdec (by unfold RightOk; grind), rfl⟩) (fun w S => S)
       · -- h7F
        have h7b := h7
        try simp only [decide_eq_false_iff_not, Int.not_lt, Int.not_le] at h7
        refine c_skip ?_
        refine q_then ?_
        refine c_seq ?_
        refine c_held [blk b2 (.cells #[.int .i64 t.f_Kind, .slice t.f_Reads.a (t.f_Reads.xs).length t.f_Reads.c, .slice t.f_Writes.a (t.f_Writes.xs).length t.f_Writes.c, .slice t.f_Ops.a (t.f_Ops.xs).length t.f_Ops.c, .int .i64 t.f_To] 30 (0, 0))] (by kernel_rfl) rfl ?_
        refine h_take 1 rfl rfl (by kernel_rfl) (by kernel_rfl) (by kernel_rfl) (fun L0 => v_fieldAddr (q := ⟨b2, 1, none⟩) rfl rfl Tryz.underlying30 rfl ti27 rfl) ?_
        refine h_take 2 rfl rfl (by kernel_rfl) (by kernel_rfl) (by kernel_rfl) (fun L0 => v_load1 rfl rfl Tryz.underlying27 rfl (rd_mem 0 rfl rfl)) ?_
        refine h_take 4 rfl rfl (by kernel_rfl) (by kernel_rfl) (by kernel_rfl) (fun L0 => v_fieldAddr (q := ⟨b2, 2, none⟩) rfl rfl Tryz.underlying30 rfl ti27 rfl) ?_
        refine h_take 5 rfl rfl (by kernel_rfl) (by kernel_rfl) (by kernel_rfl) (fun L0 => v_load1 rfl rfl Tryz.underlying27 rfl (rd_mem 0 rfl rfl)) ?_
        refine h_one 0 rfl (by kernel_rfl) ?_
        refine o_lit e_S_ok rfl Tryz.underlying27 rfl rfl rfl (lit_ok rfl) ([] : List ByteArray) rfl rfl fun a48 => ?_
        refine l_nil ?_
        refine q_conv (fun w S => S.perm p1) ?_
        refine h_next ?_
        refine h_one 3 rfl (by kernel_rfl) ?_
        refine l_f1 ?_
        refine o_append e_S_ok rfl rfl rfl Tryz.underlying27 (TxR.c (TxR.c T_t)).rr (by show (_ + _) * 16 ≤ _; (try simp only [List.length_append, List.length_cons, List.length_nil]); omega) (by (try simp only [List.length_append, List.length_cons, List.length_nil]); omega) fun a51 c51 => ?_
        refine l_nil ?_
        refine q_conv (fun w S => S.perm p1) ?_
        refine h_next ?_
        refine h_one 6 rfl (by kernel_rfl) ?_
        refine l_f1 ?_
        refine o_append e_S_ok rfl rfl rfl Tryz.underlying27 (TxR.c (TxR.c T_t)).rw (by show (_ + _) * 16 ≤ _; (try simp only [List.length_append, List.length_cons, List.length_nil]); omega) (by (try simp only [List.length_append, List.length_cons, List.length_nil]); omega) fun a54 c54 => ?_
        refine l_eq (t := 54) (v' := .slice a54 ((t.f_Reads.xs ++ t.f_Writes.xs)).length c54) rfl (by rfl) ?_
        refine l_conv (L' := row e_S.T e_S.sz a54 ((t.f_Reads.xs ++ t.f_Writes.xs)).length c54 (flat e_S (t.f_Reads.xs ++ t.f_Writes.xs)) :: _) (fun w S => by exact S) ?_
        refine l_nil ?_
        refine q_conv (fun w S => S.perm p1) ?_
        refine h_next ?_
        refine h_take 7 rfl rfl (by kernel_rfl) (by kernel_rfl) (by kernel_rfl) (fun L0 => v_assign rfl rfl) ?_
        refine h_done (by kernel_rfl) ?_
        refine q_then ?_
        refine c_seq ?_
        refine c_seq ?_
        have hal : (t.f_Reads.xs ++ t.f_Writes.xs).length = t.f_Reads.xs.length + t.f_Writes.xs.length := List.length_append
        refine c_region ?_
        refine o_assign rfl rfl ?_
        refine l_nil ?_
        refine q_then ?_
        refine c_block ?_
        refine c_loop (α := Nat) (fun z => [(1, .int .i64 g), (2, .pointer (some ⟨b2, 0, none⟩)), (5, .slice a54 ((t.f_Reads.xs ++ t.f_Writes.xs)).length c54), (6, .int .i64 (z : Int))]) (fun z => blk b2 (.cells #[.int .i64 t.f_Kind, .slice t.f_Reads.a (t.f_Reads.xs).length t.f_Reads.c, .slice t.f_Writes.a (t.f_Writes.xs).length t.f_Writes.c, .slice t.f_Ops.a (t.f_Ops.xs).length t.f_Ops.c, .int .i64 t.f_To] 30 (0, 0)) :: row e_S.T e_S.sz a54 ((t.f_Reads.xs ++ t.f_Writes.xs)).length c54 (flat e_S (t.f_Reads.xs ++ t.f_Writes.xs)) :: F) (fun z => z ≤ t.f_Reads.xs.length + t.f_Writes.xs.length ∧ AllKeys t z) (fun z => t.f_Reads.xs.length + t.f_Writes.xs.length - z) (0) (by exact ⟨Nat.zero_le _, fun j x h => absurd h (by omega)⟩) ⟨(by first | rfl | exact vint (by omega)), (by first | rfl | exact vint (by omega)), (by first | rfl | exact vint (by omega)), (by first | rfl | exact vint (by omega)), trivial⟩ (fun w S => S) ?_
        rintro i ⟨hi, hak⟩
        try dsimp only at *
        refine c_seq ?_
        refine c_seq ?_
        refine c_region ?_
        refine o_move rfl rfl ?_
        refine o_move rfl rfl ?_
        refine o_len rfl rfl Tryz.underlying27 ?_
        refine o_bin rfl rfl rfl b_lss ?_
        refine l_nil ?_
        refine q_then ?_
        refine c_cond rfl (fun h8 => ?_) (fun h8 => ?_)
        · -- h8T
         have h8b := h8
         try simp only [decide_eq_true_eq] at h8
         refine c_skip ?_
         refine q_then ?_
         refine c_seq ?_
         refine c_block ?_
         refine c_seq ?_
         refine c_fact (p := ∃ ad, a54 = some ad) (rds_some (e := e_S) (xs := (t.f_Reads.xs ++ t.f_Writes.xs)) (rds_own e_S_ok 1 rfl) (by intro h0; have h00 := congrArg List.length h0; simp only [List.length_nil] at h00; omega)) ?_
         rintro ⟨adx, eadx⟩
         refine c_held [blk b2 (.cells #[.int .i64 t.f_Kind, .slice t.f_Reads.a (t.f_Reads.xs).length t.f_Reads.c, .slice t.f_Writes.a (t.f_Writes.xs).length t.f_Writes.c, .slice t.f_Ops.a (t.f_Ops.xs).length t.f_Ops.c, .int .i64 t.f_To] 30 (0, 0)), row e_S.T e_S.sz a54 ((t.f_Reads.xs ++ t.f_Writes.xs)).length c54 (flat e_S (t.f_Reads.xs ++ t.f_Writes.xs))] (by kernel_rfl) rfl ?_
         refine h_take 0 rfl rfl (by kernel_rfl) (by kernel_rfl) (by kernel_rfl) (fun L0 => v_move rfl rfl) ?_
         refine h_take 1 rfl rfl (by kernel_rfl) (by kernel_rfl) (by kernel_rfl) (fun L0 => v_move rfl rfl) ?_
         refine h_take 2 rfl rfl (by kernel_rfl) (by kernel_rfl) (by kernel_rfl) (fun L0 => v_indexK e_S_ok eadx rfl rfl rfl Tryz.underlying27 (by omega) (by omega)) ?_
         obtain ⟨x63, hx63⟩ : ∃ x, ((t.f_Reads.xs ++ t.f_Writes.xs))[((i : Int)).toNat]? = some x := ⟨_, List.getElem?_eq_getElem (by omega)⟩
         refine h_take 3 rfl rfl (by kernel_rfl) (by kernel_rfl) (by kernel_rfl) (fun L0 => v_load1 rfl rfl Tryz.underlying9 rfl (rd_sl0 e_S_ok eadx (rds_own e_S_ok 1 rfl) hx63 rfl)) ?_
         refine h_take 4 rfl rfl (by kernel_rfl) (by kernel_rfl) (by kernel_rfl) (fun L0 => v_lenStr rfl rfl Tryz.underlying9) ?_
         refine h_take 5 rfl rfl (by kernel_rfl) (by kernel_rfl) (by kernel_rfl) (fun L0 => v_bin rfl rfl rfl b_lss) ?_
         refine h_take 6 rfl rfl (by kernel_rfl) (by kernel_rfl) (by kernel_rfl) (fun L0 => v_move rfl rfl) ?_
         refine h_split (t := 67) rfl (fun h9 => ?_) (fun h9 => ?_)
         · -- h9T
          have h9b := h9
          try simp only [decide_eq_true_eq] at h9
          refine h_take_no 7 rfl rfl rfl rfl rfl (by kernel_rfl) (by kernel_rfl) (by kernel_rfl) ?_
          refine h_take_no 8 rfl rfl rfl rfl rfl (by kernel_rfl) (by kernel_rfl) (by kernel_rfl) ?_
          refine h_take_no 9 rfl rfl rfl rfl rfl (by kernel_rfl) (by kernel_rfl) (by kernel_rfl) ?_
          refine h_take_no 10 rfl rfl rfl rfl rfl (by kernel_rfl) (by kernel_rfl) (by kernel_rfl) ?_
          refine h_take_no 11 rfl rfl rfl rfl rfl (by kernel_rfl) (by kernel_rfl) (by kernel_rfl) ?_
          refine h_take_no 12 rfl rfl rfl rfl rfl (by kernel_rfl) (by kernel_rfl) (by kernel_rfl) ?_
          refine h_take 13 rfl rfl (by kernel_rfl) (by kernel_rfl) (by kernel_rfl) (fun L0 => v_pick_true rfl rfl rfl) ?_
          refine h_take 14 rfl rfl (by kernel_rfl) (by kernel_rfl) (by kernel_rfl) (fun L0 => v_move rfl rfl) ?_
          refine h_take_no 15 rfl rfl rfl rfl rfl (by kernel_rfl) (by kernel_rfl) (by kernel_rfl) ?_
          refine h_take_no 16 rfl rfl rfl rfl rfl (by kernel_rfl) (by kernel_rfl) (by kernel_rfl) ?_
          refine h_take_no 17 rfl rfl rfl rfl rfl (by kernel_rfl) (by kernel_rfl) (by kernel_rfl) ?_
          refine h_take_no 18 rfl rfl rfl rfl rfl (by kernel_rfl) (by kernel_rfl) (by kernel_rfl) ?_
          refine h_take_no 19 rfl rfl rfl rfl rfl (by kernel_rfl) (by kernel_rfl) (by kernel_rfl) ?_
          refine h_take_no 20 rfl rfl rfl rfl rfl (by kernel_rfl) (by kernel_rfl) (by kernel_rfl) ?_
          refine h_take_no 21 rfl rfl rfl rfl rfl (by kernel_rfl) (by kernel_rfl) (by kernel_rfl) ?_
          refine h_take_no 22 rfl rfl rfl rfl rfl (by kernel_rfl) (by kernel_rfl) (by kernel_rfl) ?_
          refine h_take_no 23 rfl rfl rfl rfl rfl (by kernel_rfl) (by kernel_rfl) (by kernel_rfl) ?_
          refine h_take_no 24 rfl rfl rfl rfl rfl (by kernel_rfl) (by kernel_rfl) (by kernel_rfl) ?_
          refine h_take_no 25 rfl rfl rfl rfl rfl (by kernel_rfl) (by kernel_rfl) (by kernel_rfl) ?_
          refine h_take_no 26 rfl rfl rfl rfl rfl (by kernel_rfl) (by kernel_rfl) (by kernel_rfl) ?_
          refine h_take_no 27 rfl rfl rfl rfl rfl (by kernel_rfl) (by kernel_rfl) (by kernel_rfl) ?_
          refine h_take_no 28 rfl rfl rfl rfl rfl (by kernel_rfl) (by kernel_rfl) (by kernel_rfl) ?_
          refine h_take 29 rfl rfl (by kernel_rfl) (by kernel_rfl) (by kernel_rfl) (fun L0 => v_pick_true rfl rfl rfl) ?_
          refine h_done (by kernel_rfl) ?_
          refine q_then ?_
          refine c_true rfl ?_
          refine c_seq ?_
          have hno : ¬ AllKeys t (t.f_Reads.xs.length + t.f_Writes.xs.length) := fun h9 => by have := h9 i x63 (by omega) hx63; grind
          refine c_region ?_
          refine o_assign rfl rfl ?_
          refine l_nil ?_
          refine q_then ?_
          refine c_ret ?_
          refine q_block_ret ?_
          refine q_pass_ret ?_
          refine q_pass_ret ?_
          refine q_block_ret ?_
          refine q_pass_ret ?_
          refine q_conv (fun w S => S.tail) ?_
          refine q_conv (fun w S => S.tail) ?_
          exact f_ret (r_one rfl rfl) (⟨by first | exact vfalse (by unfold RightOk; grind) | exact vtrue (by unfold RightOk; grind) | exact bdec (by unfold RightOk; grind), rfl⟩) (fun w S => S)
         · -- h9F
          have h9b := h9
          try simp only [decide_eq_false_iff_not, Int.not_lt, Int.not_le] at h9
          refine h_take_yes 7 rfl rfl rfl rfl rfl (by kernel_rfl) (by kernel_rfl) (by kernel_rfl) (fun L0 => v_move rfl rfl) ?_
          refine h_take_yes 8 rfl rfl rfl rfl rfl (by kernel_rfl) (by kernel_rfl) (by kernel_rfl) (fun L0 => v_move rfl rfl) ?_
          refine h_take_yes 9 rfl rfl rfl rfl rfl (by kernel_rfl) (by kernel_rfl) (by kernel_rfl) (fun L0 => v_indexK e_S_ok eadx rfl rfl rfl Tryz.underlying27 (by omega) (by omega)) ?_
          obtain ⟨x70, hx70⟩ : ∃ x, ((t.f_Reads.xs ++ t.f_Writes.xs))[((i : Int)).toNat]? = some x := ⟨_, List.getElem?_eq_getElem (by omega)⟩
          have e70 : x70.size = x63.size := by rw [hx63] at hx70; rw [Option.some.inj hx70]
          refine h_take_yes 10 rfl rfl rfl rfl rfl (by kernel_rfl) (by kernel_rfl) (by kernel_rfl) (fun L0 => v_load1 rfl rfl Tryz.underlying9 rfl (rd_sl0 e_S_ok eadx (rds_own e_S_ok 1 rfl) hx70 rfl)) ?_
          refine h_take_yes 11 rfl rfl rfl rfl rfl (by kernel_rfl) (by kernel_rfl) (by kernel_rfl) (fun L0 => v_lenStr rfl rfl Tryz.underlying9) ?_
          refine h_take_yes 12 rfl rfl rfl rfl rfl (by kernel_rfl) (by kernel_rfl) (by kernel_rfl) (fun L0 => v_bin rfl rfl rfl b_gtr) ?_
          refine h_take 13 rfl rfl (by kernel_rfl) (by kernel_rfl) (by kernel_rfl) (fun L0 => v_pick_false rfl rfl rfl) ?_
          refine h_take 14 rfl rfl (by kernel_rfl) (by kernel_rfl) (by kernel_rfl) (fun L0 => v_move rfl rfl) ?_
          refine h_split (t := 75) rfl (fun h10 => ?_) (fun h10 => ?_)
          · -- h10T
           have h10b := h10
           try simp only [decide_eq_true_eq] at h10
           refine h_take_no 15 rfl rfl rfl rfl rfl (by kernel_rfl) (by kernel_rfl) (by kernel_rfl) ?_
           refine h_take_no 16 rfl rfl rfl rfl rfl (by kernel_rfl) (by kernel_rfl) (by kernel_rfl) ?_
           refine h_take_no 17 rfl rfl rfl rfl rfl (by kernel_rfl) (by kernel_rfl) (by kernel_rfl) ?_
           refine h_take_no 18 rfl rfl rfl rfl rfl (by kernel_rfl) (by kernel_rfl) (by kernel_rfl) ?_
           refine h_take_no 19 rfl rfl rfl rfl rfl (by kernel_rfl) (by kernel_rfl) (by kernel_rfl) ?_
           refine h_take_no 20 rfl rfl rfl rfl rfl (by kernel_rfl) (by kernel_rfl) (by kernel_rfl) ?_
           refine h_take_no 21 rfl rfl rfl rfl rfl (by kernel_rfl) (by kernel_rfl) (by kernel_rfl) ?_
           refine h_take_no 22 rfl rfl rfl rfl rfl (by kernel_rfl) (by kernel_rfl) (by kernel_rfl) ?_
           refine h_take_no 23 rfl rfl rfl rfl rfl (by kernel_rfl) (by kernel_rfl) (by kernel_rfl) ?_
           refine h_take_no 24 rfl rfl rfl rfl rfl (by kernel_rfl) (by kernel_rfl) (by kernel_rfl) ?_
           refine h_take_no 25 rfl rfl rfl rfl rfl (by kernel_rfl) (by kernel_rfl) (by kernel_rfl) ?_
           refine h_take_no 26 rfl rfl rfl rfl rfl (by kernel_rfl) (by kernel_rfl) (by kernel_rfl) ?_
           refine h_take_no 27 rfl rfl rfl rfl rfl (by kernel_rfl) (by kernel_rfl) (by kernel_rfl) ?_
           refine h_take_no 28 rfl rfl rfl rfl rfl (by kernel_rfl) (by kernel_rfl) (by kernel_rfl) ?_
           refine h_take 29 rfl rfl (by kernel_rfl) (by kernel_rfl) (by kernel_rfl) (fun L0 => v_pick_true rfl rfl rfl) ?_
           refine h_done (by kernel_rfl) ?_
           refine q_then ?_
           refine c_true rfl ?_
           refine c_seq ?_
           have hno : ¬ AllKeys t (t.f_Reads.xs.length + t.f_Writes.xs.length) := fun h9 => by have := h9 i x63 (by omega) hx63; grind
           refine c_region ?_
           refine o_assign rfl rfl ?_
           refine l_nil ?_
           refine q_then ?_
           refine c_ret ?_
           refine q_block_ret ?_
           refine q_pass_ret ?_
           refine q_pass_ret ?_
           refine q_block_ret ?_
           refine q_pass_ret ?_
           refine q_conv (fun w S => S.tail) ?_
           refine q_conv (fun w S => S.tail) ?_
           exact f_ret (r_one rfl rfl) (⟨by first | exact vfalse (by unfold RightOk; grind) | exact vtrue (by unfold RightOk; grind) | exact bdec (by unfold RightOk; grind), rfl⟩) (fun w S => S)
          · -- h10F
           have h10b := h10
           try simp only [decide_eq_false_iff_not, Int.not_lt, Int.not_le] at h10
           refine h_take_yes 15 rfl rfl rfl rfl rfl (by kernel_rfl) (by kernel_rfl) (by kernel_rfl) (fun L0 => v_move rfl rfl) ?_
           refine h_take_yes 16 rfl rfl rfl rfl rfl (by kernel_rfl) (by kernel_rfl) (by kernel_rfl) (fun L0 => v_fieldAddr (q := ⟨b2, 1, none⟩) rfl rfl Tryz.underlying30 rfl ti27 rfl) ?_
           refine h_take_yes 17 rfl rfl rfl rfl rfl (by kernel_rfl) (by kernel_rfl) (by kernel_rfl) (fun L0 => v_load1 rfl rfl Tryz.underlying27 rfl (rd_mem 0 rfl rfl)) ?_
           refine h_take_yes 18 rfl rfl rfl rfl rfl (by kernel_rfl) (by kernel_rfl) (by kernel_rfl) (fun L0 => v_len rfl rfl Tryz.underlying27) ?_
           refine h_take_yes 19 rfl rfl rfl rfl rfl (by kernel_rfl) (by kernel_rfl) (by kernel_rfl) (fun L0 => v_bin rfl rfl rfl b_lss) ?_
           refine h_take_yes 20 rfl rfl rfl rfl rfl (by kernel_rfl) (by kernel_rfl) (by kernel_rfl) (fun L0 => v_move rfl rfl) ?_
           refine h_split (t := 81) rfl (fun h11 => ?_) (fun h11 => ?_)
           · -- h11T
            have h11b := h11
            try simp only [decide_eq_true_eq] at h11
            refine h_take_yes 21 rfl rfl rfl rfl rfl (by kernel_rfl) (by kernel_rfl) (by kernel_rfl) (fun L0 => v_fieldAddr (q := ⟨b2, 2, none⟩) rfl rfl Tryz.underlying30 rfl ti27 rfl) ?_
            refine h_take_yes 22 rfl rfl rfl rfl rfl (by kernel_rfl) (by kernel_rfl) (by kernel_rfl) (fun L0 => v_load1 rfl rfl Tryz.underlying27 rfl (rd_mem 0 rfl rfl)) ?_
            refine h_take_yes 23 rfl rfl rfl rfl rfl (by kernel_rfl) (by kernel_rfl) (by kernel_rfl) (fun L0 => v_move rfl rfl) ?_
            refine h_take_yes 24 rfl rfl rfl rfl rfl (by kernel_rfl) (by kernel_rfl) (by kernel_rfl) (fun L0 => v_move rfl rfl) ?_
            refine h_take_yes 25 rfl rfl rfl rfl rfl (by kernel_rfl) (by kernel_rfl) (by kernel_rfl) (fun L0 => v_indexK e_S_ok eadx rfl rfl rfl Tryz.underlying27 (by omega) (by omega)) ?_
            obtain ⟨x86, hx86⟩ : ∃ x, ((t.f_Reads.xs ++ t.f_Writes.xs))[((i : Int)).toNat]? = some x := ⟨_, List.getElem?_eq_getElem (by omega)⟩
            have e86 : x86 = x63 := by rw [hx63] at hx86; exact (Option.some.inj hx86).symm
            refine h_take_yes 26 rfl rfl rfl rfl rfl (by kernel_rfl) (by kernel_rfl) (by kernel_rfl) (fun L0 => v_load1 rfl rfl Tryz.underlying9 rfl (rd_sl0 e_S_ok eadx (rds_own e_S_ok 1 rfl) hx86 rfl)) ?_
            refine h_one 27 rfl (by kernel_rfl) ?_
            refine o_yes rfl rfl rfl ?_
            refine o_call rfl cal70 rfl (in_ (TxR.c (TxR.c T_t)).rw (by first | exact T_t.len.lr | exact T_t.len.lw | exact T_t.len.lo | omega)) ?_
            rintro _ _ ⟨rfl, rfl⟩
            refine l_nil ?_
            refine h_next ?_
            refine h_take_yes 28 rfl rfl rfl rfl rfl (by kernel_rfl) (by kernel_rfl) (by kernel_rfl) (fun L0 => v_pick_true rfl rfl rfl) ?_
            refine h_take 29 rfl rfl (by kernel_rfl) (by kernel_rfl) (by kernel_rfl) (fun L0 => v_pick_false rfl rfl rfl) ?_
            refine h_done (by kernel_rfl) ?_
            refine q_then ?_
            refine c_cond rfl (fun h12 => ?_) (fun h12 => ?_)
            · -- h12T
             have h12b := h12
             try simp only [decide_eq_true_eq] at h12
             refine c_seq ?_
             have hno : ¬ AllKeys t (t.f_Reads.xs.length + t.f_Writes.xs.length) := fun h9 => by have := h9 i x63 (by omega) hx63; grind
             refine c_region ?_
             refine o_assign rfl rfl ?_
             refine l_nil ?_
             refine q_then ?_
             refine c_ret ?_
             refine q_block_ret ?_
             refine q_pass_ret ?_
             refine q_pass_ret ?_
             refine q_block_ret ?_
             refine q_pass_ret ?_
             refine q_conv (fun w S => S.tail) ?_
             refine q_conv (fun w S => S.tail) ?_
             exact f_ret (r_one rfl rfl) (⟨by first | exact vfalse (by unfold RightOk; grind) | exact vtrue (by unfold RightOk; grind) | exact bdec (by unfold RightOk; grind), rfl⟩) (fun w S => S)
            · -- h12F
             have h12b := h12
             try simp only [decide_eq_false_iff_not, Int.not_lt, Int.not_le] at h12
             refine c_skip ?_
             refine q_block ?_
             refine q_then ?_
             refine c_region ?_
             refine o_move rfl rfl ?_
             refine o_bin rfl rfl rfl (b_add (wrap_i64 (by omega) (by omega))) ?_
             refine o_assign rfl rfl ?_
             refine l_nil ?_
             exact q_round (i + 1) (by exact ⟨by omega, allKeys_on hak hx63 (by omega) (by omega) (by grind)⟩) (by (try dsimp only); omega) ⟨(by first | rfl | exact vint (by omega)), (by first | rfl | exact vint (by omega)), (by first | rfl | exact vint (by omega)), (by first | rfl | exact vint (by omega)), trivial⟩ (fun w S => S)
           · -- h11F
            have h11b := h11
            try simp only [decide_eq_false_iff_not, Int.not_lt, Int.not_le] at h11
            refine h_take_no 21 rfl rfl rfl rfl rfl (by kernel_rfl) (by kernel_rfl) (by kernel_rfl) ?_
            refine h_take_no 22 rfl rfl rfl rfl rfl (by kernel_rfl) (by kernel_rfl) (by kernel_rfl) ?_
            refine h_take_no 23 rfl rfl rfl rfl rfl (by kernel_rfl) (by kernel_rfl) (by kernel_rfl) ?_
            refine h_take_no 24 rfl rfl rfl rfl rfl (by kernel_rfl) (by kernel_rfl) (by kernel_rfl) ?_
            refine h_take_no 25 rfl rfl rfl rfl rfl (by kernel_rfl) (by kernel_rfl) (by kernel_rfl) ?_
            refine h_take_no 26 rfl rfl rfl rfl rfl (by kernel_rfl) (by kernel_rfl) (by kernel_rfl) ?_
            refine h_take_no 27 rfl rfl rfl rfl rfl (by kernel_rfl) (by kernel_rfl) (by kernel_rfl) ?_
            refine h_take_yes 28 rfl rfl rfl rfl rfl (by kernel_rfl) (by kernel_rfl) (by kernel_rfl) (fun L0 => v_pick_false rfl rfl rfl) ?_
            refine h_take 29 rfl rfl (by kernel_rfl) (by kernel_rfl) (by kernel_rfl) (fun L0 => v_pick_false rfl rfl rfl) ?_
            refine h_done (by kernel_rfl) ?_
            refine q_then ?_
            refine c_false rfl ?_
            refine c_skip ?_
            refine q_block ?_
            refine q_then ?_
            refine c_region ?_
            refine o_move rfl rfl ?_
            refine o_bin rfl rfl rfl (b_add (wrap_i64 (by omega) (by omega))) ?_
            refine o_assign rfl rfl ?_
            refine l_nil ?_
            exact q_round (i + 1) (by exact ⟨by omega, allKeys_on hak hx63 (by omega) (by omega) (by grind)⟩) (by (try dsimp only); omega) ⟨(by first | rfl | exact vint (by omega)), (by first | rfl | exact vint (by omega)), (by first | rfl | exact vint (by omega)), (by first | rfl | exact vint (by omega)), trivial⟩ (fun w S => S)
        · -- h8F
         have h8b := h8
         try simp only [decide_eq_false_iff_not, Int.not_lt, Int.not_le] at h8
         refine c_exit ?_
         refine q_pass_exit ?_
         refine q_pass_exit ?_
         refine q_hit ?_
         refine q_then ?_
         refine c_seq ?_
         refine c_seq ?_
         obtain rfl : i = t.f_Reads.xs.length + t.f_Writes.xs.length := by omega
         refine c_region ?_
         refine o_fieldAddr (q := ⟨b2, 0, none⟩) rfl rfl Tryz.underlying30 rfl ti3 rfl ?_
         refine o_load1 rfl rfl Tryz.underlying3 rfl (rd_mem 0 rfl rfl) ?_
         refine o_bin rfl rfl rfl b_eql ?_
         refine l_nil ?_
         refine q_then ?_
         refine c_cond rfl (fun h13 => ?_) (fun h13 => ?_)
         · -- h13T
          have h13b := h13
          try simp only [decide_eq_true_eq] at h13
          refine c_seq ?_
          refine c_region ?_
          refine o_fieldAddr (q := ⟨b2, 1, none⟩) rfl rfl Tryz.underlying30 rfl ti27 rfl ?_
          refine o_load1 rfl rfl Tryz.underlying27 rfl (rd_mem 0 rfl rfl) ?_
          refine o_len rfl rfl Tryz.underlying27 ?_
          refine o_bin rfl rfl rfl b_eql ?_
          refine o_move rfl rfl ?_
          refine l_split (t := 98) rfl (fun h14 => ?_) (fun h14 => ?_)
          · -- h14T
           have h14b := h14
           try simp only [decide_eq_true_eq] at h14
           refine o_yes rfl rfl rfl ?_
           refine o_fieldAddr (q := ⟨b2, 3, none⟩) rfl rfl Tryz.underlying30 rfl ti28 rfl ?_
           refine o_yes rfl rfl rfl ?_
           refine o_load1 rfl rfl Tryz.underlying28 rfl (rd_mem 0 rfl rfl) ?_
           refine o_yes rfl rfl rfl ?_
           refine o_len rfl rfl Tryz.underlying28 ?_
           refine o_yes rfl rfl rfl ?_
           refine o_bin rfl rfl rfl b_eql ?_
           refine o_pick_true rfl rfl rfl ?_
           refine o_move rfl rfl ?_
           refine l_split (t := 104) rfl (fun h15 => ?_) (fun h15 => ?_)
           · -- h15T
            have h15b := h15
            try simp only [decide_eq_true_eq] at h15
            refine o_yes rfl rfl rfl ?_
            refine o_fieldAddr (q := ⟨b2, 2, none⟩) rfl rfl Tryz.underlying30 rfl ti27 rfl ?_
            refine o_yes rfl rfl rfl ?_
            refine o_load1 rfl rfl Tryz.underlying27 rfl (rd_mem 0 rfl rfl) ?_
            refine o_yes rfl rfl rfl ?_
            refine o_len rfl rfl Tryz.underlying27 ?_
            refine o_yes rfl rfl rfl ?_
            refine o_bin rfl rfl rfl b_eql ?_
            refine o_pick_true rfl rfl rfl ?_
            refine o_move rfl rfl ?_
            refine l_split (t := 110) rfl (fun h16 => ?_) (fun h16 => ?_)
            · -- h16T
             have h16b := h16
             try simp only [decide_eq_true_eq] at h16
             refine o_yes rfl rfl rfl ?_
             refine o_fieldAddr (q := ⟨b2, 4, none⟩) rfl rfl Tryz.underlying30 rfl ti3 rfl ?_
             refine o_yes rfl rfl rfl ?_
             refine o_load1 rfl rfl Tryz.underlying3 rfl (rd_mem 0 rfl rfl) ?_
             refine o_yes rfl rfl rfl ?_
             refine o_bin rfl rfl rfl b_geq ?_
             refine o_pick_true rfl rfl rfl ?_
             refine o_move rfl rfl ?_
             refine l_split (t := 115) rfl (fun h17 => ?_) (fun h17 => ?_)
             · -- h17T
              have h17b := h17
              try simp only [decide_eq_true_eq] at h17
              refine o_yes rfl rfl rfl ?_
              refine o_fieldAddr (q := ⟨b2, 4, none⟩) rfl rfl Tryz.underlying30 rfl ti3 rfl ?_
              refine o_yes rfl rfl rfl ?_
              refine o_load1 rfl rfl Tryz.underlying3 rfl (rd_mem 0 rfl rfl) ?_
              refine o_yes rfl rfl rfl ?_
              refine o_move rfl rfl ?_
              refine o_yes rfl rfl rfl ?_
              refine o_bin rfl rfl rfl b_lss ?_
              refine o_pick_true rfl rfl rfl ?_
              refine o_assign rfl rfl ?_
              refine l_nil ?_
              refine q_then ?_
              refine c_ret ?_
              refine q_pass_ret ?_
              refine q_conv (fun w S => S.tail) ?_
              refine q_conv (fun w S => S.tail) ?_
              exact f_ret (r_one rfl rfl) (⟨by first | exact vfalse (by unfold RightOk; grind) | exact vtrue (by unfold RightOk; grind) | exact bdec (by unfold RightOk; grind), rfl⟩) (fun w S => S)
             · -- h17F
              have h17b := h17
              try simp only [decide_eq_false_iff_not, Int.not_lt, Int.not_le] at h17
              refine o_no rfl rfl rfl rfl ?_
              refine o_no rfl rfl rfl rfl ?_
              refine o_no rfl rfl rfl rfl ?_
              refine o_no rfl rfl rfl rfl ?_
              refine o_pick_false rfl rfl rfl ?_
              refine o_assign rfl rfl ?_
              refine l_nil ?_
              refine q_then ?_
              refine c_ret ?_
              refine q_pass_ret ?_
              refine q_conv (fun w S => S.tail) ?_
              refine q_conv (fun w S => S.tail) ?_
              exact f_ret (r_one rfl rfl) (⟨by first | exact vfalse (by unfold RightOk; grind) | exact vtrue (by unfold RightOk; grind) | exact bdec (by unfold RightOk; grind), rfl⟩) (fun w S => S)
            · -- h16F
             have h16b := h16
             try simp only [decide_eq_false_iff_not, Int.not_lt, Int.not_le] at h16
             refine o_no rfl rfl rfl rfl ?_
             refine o_no rfl rfl rfl rfl ?_
             refine o_no rfl rfl rfl rfl ?_
             refine o_pick_false rfl rfl rfl ?_
             refine o_move rfl rfl ?_
             refine o_no rfl rfl rfl rfl ?_
             refine o_no rfl rfl rfl rfl ?_
             refine o_no rfl rfl rfl rfl ?_
             refine o_no rfl rfl rfl rfl ?_
             refine o_pick_false rfl rfl rfl ?_
             refine o_assign rfl rfl ?_
             refine l_nil ?_
             refine q_then ?_
             refine c_ret ?_
             refine q_pass_ret ?_
             refine q_conv (fun w S => S.tail) ?_
             refine q_conv (fun w S => S.tail) ?_
             exact f_ret (r_one rfl rfl) (⟨by first | exact vfalse (by unfold RightOk; grind) | exact vtrue (by unfold RightOk; grind) | exact bdec (by unfold RightOk; grind), rfl⟩) (fun w S => S)
           · -- h15F
            have h15b := h15
            try simp only [decide_eq_false_iff_not, Int.not_lt, Int.not_le] at h15
            refine o_no rfl rfl rfl rfl ?_
            refine o_no rfl rfl rfl rfl ?_
            refine o_no rfl rfl rfl rfl ?_
            refine o_no rfl rfl rfl rfl ?_
            refine o_pick_false rfl rfl rfl ?_
            refine o_move rfl rfl ?_
            refine o_no rfl rfl rfl rfl ?_
            refine o_no rfl rfl rfl rfl ?_
            refine o_no rfl rfl rfl rfl ?_
            refine o_pick_false rfl rfl rfl ?_
            refine o_move rfl rfl ?_
            refine o_no rfl rfl rfl rfl ?_
            refine o_no rfl rfl rfl rfl ?_
            refine o_no rfl rfl rfl rfl ?_
            refine o_no rfl rfl rfl rfl ?_
            refine o_pick_false rfl rfl rfl ?_
            refine o_assign rfl rfl ?_
            refine l_nil ?_
            refine q_then ?_
            refine c_ret ?_
            refine q_pass_ret ?_
            refine q_conv (fun w S => S.tail) ?_
            refine q_conv (fun w S => S.tail) ?_
            exact f_ret (r_one rfl rfl) (⟨by first | exact vfalse (by unfold RightOk; grind) | exact vtrue (by unfold RightOk; grind) | exact bdec (by unfold RightOk; grind), rfl⟩) (fun w S => S)
          · -- h14F
           have h14b := h14
           try simp only [decide_eq_false_iff_not, Int.not_lt, Int.not_le] at h14
           refine o_no rfl rfl rfl rfl ?_
           refine o_no rfl rfl rfl rfl ?_
           refine o_no rfl rfl rfl rfl ?_
           refine o_no rfl rfl rfl rfl ?_
           refine o_pick_false rfl rfl rfl ?_
           refine o_move rfl rfl ?_
           refine o_no rfl rfl rfl rfl ?_
           refine o_no rfl rfl rfl rfl ?_
           refine o_no rfl rfl rfl rfl ?_
           refine o_no rfl rfl rfl rfl ?_
           refine o_pick_false rfl rfl rfl ?_
           refine o_move rfl rfl ?_
           refine o_no rfl rfl rfl rfl ?_
           refine o_no rfl rfl rfl rfl ?_
           refine o_no rfl rfl rfl rfl ?_
           refine o_pick_false rfl rfl rfl ?_
           refine o_move rfl rfl ?_
           refine o_no rfl rfl rfl rfl ?_
           refine o_no rfl rfl rfl rfl ?_
           refine o_no rfl rfl rfl rfl ?_
           refine o_no rfl rfl rfl rfl ?_
           refine o_pick_false rfl rfl rfl ?_
           refine o_assign rfl rfl ?_
           refine l_nil ?_
           refine q_then ?_
           refine c_ret ?_
           refine q_pass_ret ?_
           refine q_conv (fun w S => S.tail) ?_
           refine q_conv (fun w S => S.tail) ?_
           exact f_ret (r_one rfl rfl) (⟨by first | exact vfalse (by unfold RightOk; grind) | exact vtrue (by unfold RightOk; grind) | exact bdec (by unfold RightOk; grind), rfl⟩) (fun w S => S)
         · -- h13F
          have h13b := h13
          try simp only [decide_eq_false_iff_not, Int.not_lt, Int.not_le] at h13
          refine c_skip ?_
          refine q_then ?_
          refine c_seq ?_
          refine c_seq ?_
          refine c_region ?_
          refine o_fieldAddr (q := ⟨b2, 0, none⟩) rfl rfl Tryz.underlying30 rfl ti3 rfl ?_
          refine o_load1 rfl rfl Tryz.underlying3 rfl (rd_mem 0 rfl rfl) ?_
          refine o_bin rfl rfl rfl b_neq ?_
          refine o_move rfl rfl ?_
          refine l_split (t := 124) rfl (fun h18 => ?_) (fun h18 => ?_)
          · -- h18T
           have h18b := h18
           try simp only [Bool.not_eq_true', decide_eq_false_iff_not, Int.not_lt, Int.not_le] at h18
           refine o_no rfl rfl rfl rfl ?_
           refine o_no rfl rfl rfl rfl ?_
           refine o_no rfl rfl rfl rfl ?_
           refine o_pick_true rfl rfl rfl ?_
           refine o_move rfl rfl ?_
           refine o_no rfl rfl rfl rfl ?_
           refine o_no rfl rfl rfl rfl ?_
           refine o_no rfl rfl rfl rfl ?_
           refine o_no rfl rfl rfl rfl ?_
           refine o_pick_true rfl rfl rfl ?_
           refine l_nil ?_
           refine q_then ?_
           refine c_true rfl ?_
           refine c_seq ?_
           refine c_region ?_
           refine o_assign rfl rfl ?_
           refine l_nil ?_
           refine q_then ?_
           refine c_ret ?_
           refine q_pass_ret ?_
           refine q_conv (fun w S => S.tail) ?_
           refine q_conv (fun w S => S.tail) ?_
           exact f_ret (r_one rfl rfl) (⟨by first | exact vfalse (by unfold RightOk; grind) | exact vtrue (by unfold RightOk; grind) | exact bdec (by unfold RightOk; grind), rfl⟩) (fun w S => S)
          · -- h18F
           have h18b := h18
           try simp only [Bool.not_eq_false', decide_eq_true_eq] at h18
           refine o_yes rfl rfl rfl ?_
           refine o_fieldAddr (q := ⟨b2, 4, none⟩) rfl rfl Tryz.underlying30 rfl ti3 rfl ?_
           refine o_yes rfl rfl rfl ?_
           refine o_load1 rfl rfl Tryz.underlying3 rfl (rd_mem 0 rfl rfl) ?_
           refine o_yes rfl rfl rfl ?_
           refine o_bin rfl rfl rfl b_neq ?_
           refine o_pick_false rfl rfl rfl ?_
           refine o_move rfl rfl ?_
           refine l_split (t := 129) rfl (fun h19 => ?_) (fun h19 => ?_)
           · -- h19T
            have h19b := h19
            try simp only [Bool.not_eq_true', decide_eq_false_iff_not, Int.not_lt, Int.not_le] at h19
            refine o_no rfl rfl rfl rfl ?_
            refine o_no rfl rfl rfl rfl ?_
            refine o_no rfl rfl rfl rfl ?_
            refine o_no rfl rfl rfl rfl ?_
            refine o_pick_true rfl rfl rfl ?_
            refine l_nil ?_
            refine q_then ?_
            refine c_true rfl ?_
            refine c_seq ?_
            refine c_region ?_
            refine o_assign rfl rfl ?_
            refine l_nil ?_
            refine q_then ?_
            refine c_ret ?_
            refine q_pass_ret ?_
            refine q_conv (fun w S => S.tail) ?_
            refine q_conv (fun w S => S.tail) ?_
            exact f_ret (r_one rfl rfl) (⟨by first | exact vfalse (by unfold RightOk; grind) | exact vtrue (by unfold RightOk; grind) | exact bdec (by unfold RightOk; grind), rfl⟩) (fun w S => S)
           · -- h19F
            have h19b := h19
            try simp only [Bool.not_eq_false', decide_eq_true_eq] at h19
            refine o_yes rfl rfl rfl ?_
            refine o_fieldAddr (q := ⟨b2, 3, none⟩) rfl rfl Tryz.underlying30 rfl ti28 rfl ?_
            refine o_yes rfl rfl rfl ?_
            refine o_load1 rfl rfl Tryz.underlying28 rfl (rd_mem 0 rfl rfl) ?_
            refine o_yes rfl rfl rfl ?_
            refine o_len rfl rfl Tryz.underlying28 ?_
            refine o_yes rfl rfl rfl ?_
            refine o_bin rfl rfl rfl b_gtr ?_
            refine o_pick_false rfl rfl rfl ?_
            refine l_nil ?_
            refine q_then ?_
            refine c_cond rfl (fun h20 => ?_) (fun h20 => ?_)
            · -- h20T
             have h20b := h20
             try simp only [decide_eq_true_eq] at h20
             refine c_seq ?_
             refine c_region ?_
             refine o_assign rfl rfl ?_
             refine l_nil ?_
             refine q_then ?_
             refine c_ret ?_
             refine q_pass_ret ?_
             refine q_conv (fun w S => S.tail) ?_
             refine q_conv (fun w S => S.tail) ?_
             exact f_ret (r_one rfl rfl) (⟨by first | exact vfalse (by unfold RightOk; grind) | exact vtrue (by unfold RightOk; grind) | exact bdec (by unfold RightOk; grind), rfl⟩) (fun w S => S)
            · -- h20F
             have h20b := h20
             try simp only [decide_eq_false_iff_not, Int.not_lt, Int.not_le] at h20
             refine c_skip ?_
             refine q_then ?_
             refine c_seq ?_
             refine c_seq ?_
             refine c_region ?_
             refine o_assign rfl rfl ?_
             refine l_nil ?_
             refine q_then ?_
             refine c_block ?_
             refine c_loop (α := Nat) (fun z => [(2, .pointer (some ⟨b2, 0, none⟩)), (7, .int .i64 (z : Int))]) (fun z => blk b2 (.cells #[.int .i64 t.f_Kind, .slice t.f_Reads.a (t.f_Reads.xs).length t.f_Reads.c, .slice t.f_Writes.a (t.f_Writes.xs).length t.f_Writes.c, .slice t.f_Ops.a (t.f_Ops.xs).length t.f_Ops.c, .int .i64 t.f_To] 30 (0, 0)) :: row e_S.T e_S.sz a54 ((t.f_Reads.xs ++ t.f_Writes.xs)).length c54 (flat e_S (t.f_Reads.xs ++ t.f_Writes.xs)) :: F) (fun z => z ≤ t.f_Ops.xs.length ∧ OpsTo t z) (fun z => t.f_Ops.xs.length - z) (0) (by exact ⟨Nat.zero_le _, fun j o h => absurd h (by omega)⟩) ⟨(by first | rfl | exact vint (by omega)), (by first | rfl | exact vint (by omega)), trivial⟩ (fun w S => S) ?_
             rintro i2 ⟨hi2, hop⟩
             try dsimp only at *
             refine c_seq ?_
             refine c_seq ?_
             refine c_region ?_
             refine o_move rfl rfl ?_
             refine o_fieldAddr (q := ⟨b2, 3, none⟩) rfl rfl Tryz.underlying30 rfl ti28 rfl ?_
             refine o_load1 rfl rfl Tryz.underlying28 rfl (rd_mem 0 rfl rfl) ?_
             refine o_len rfl rfl Tryz.underlying28 ?_
             refine o_bin rfl rfl rfl b_lss ?_
             refine l_nil ?_
             refine q_then ?_
             refine c_cond rfl (fun h21 => ?_) (fun h21 => ?_)
             · -- h21T
              have h21b := h21
              try simp only [decide_eq_true_eq] at h21
              refine c_skip ?_
              refine q_then ?_
              refine c_seq ?_
              refine c_block ?_
              refine c_seq ?_
              refine c_fact (p := ∃ ad, t.f_Ops.a = some ad) (rds_some (e := e_Op) (xs := t.f_Ops.xs) (TxR.c (TxR.c T_t)).ro (by intro h0; have h00 := congrArg List.length h0; simp only [List.length_nil] at h00; omega)) ?_
              rintro ⟨adx, eadx⟩
              refine c_held [blk b2 (.cells #[.int .i64 t.f_Kind, .slice t.f_Reads.a (t.f_Reads.xs).length t.f_Reads.c, .slice t.f_Writes.a (t.f_Writes.xs).length t.f_Writes.c, .slice t.f_Ops.a (t.f_Ops.xs).length t.f_Ops.c, .int .i64 t.f_To] 30 (0, 0)), row e_S.T e_S.sz a54 ((t.f_Reads.xs ++ t.f_Writes.xs)).length c54 (flat e_S (t.f_Reads.xs ++ t.f_Writes.xs))] (by kernel_rfl) rfl ?_
              refine h_take 0 rfl rfl (by kernel_rfl) (by kernel_rfl) (by kernel_rfl) (fun L0 => v_loadn (vs := [_, _, _, _, _]) rfl rfl Tryz.underlying30 rfl ti30 (rdn_lit 0 rfl rfl)) ?_
              refine h_take 1 rfl rfl (by kernel_rfl) (by kernel_rfl) (by kernel_rfl) (fun L0 => v_fieldAddr (q := ⟨b2, 3, none⟩) rfl rfl Tryz.underlying30 rfl ti28 rfl) ?_
              refine h_take 2 rfl rfl (by kernel_rfl) (by kernel_rfl) (by kernel_rfl) (fun L0 => v_load1 rfl rfl Tryz.underlying28 rfl (rd_mem 0 rfl rfl)) ?_
              refine h_take 3 rfl rfl (by kernel_rfl) (by kernel_rfl) (by kernel_rfl) (fun L0 => v_move rfl rfl) ?_
              refine h_take 4 rfl rfl (by kernel_rfl) (by kernel_rfl) (by kernel_rfl) (fun L0 => v_indexK e_Op_ok eadx rfl rfl rfl Tryz.underlying28 (by omega) (by omega)) ?_
              obtain ⟨x146, hx146⟩ : ∃ x, (t.f_Ops.xs)[((i2 : Int)).toNat]? = some x := ⟨_, List.getElem?_eq_getElem (by omega)⟩
              refine h_one 5 rfl (by kernel_rfl) ?_
              refine o_loadn (vs := e_Op.cells x146) rfl rfl Tryz.underlying92 rfl ti92 (rdn_sl e_Op_ok eadx (TxR.c (TxR.c T_t)).ro hx146) ?_
              refine l_nil ?_
              refine h_next ?_
              refine h_one 6 rfl (by kernel_rfl) ?_
              refine o_call rfl cal71 rfl (op_ (o := x146) (TxR.c (TxR.c T_t)) ((TxR.c (TxR.c T_t)).rv x146 (List.mem_of_getElem? hx146))) ?_
              rintro _ _ ⟨rfl, rfl⟩
              refine l_nil ?_
              refine h_next ?_
              refine h_take 7 rfl rfl (by kernel_rfl) (by kernel_rfl) (by kernel_rfl) (fun L0 => v_not rfl rfl) ?_
              refine h_done (by kernel_rfl) ?_
              refine q_then ?_
              refine c_cond rfl (fun h22 => ?_) (fun h22 => ?_)
              · -- h22T
               have h22b := h22
               try simp only [Bool.not_eq_true', decide_eq_false_iff_not, Int.not_lt, Int.not_le] at h22
               refine c_seq ?_
               have hno2 : ¬ OpsTo t t.f_Ops.xs.length := fun h9 => absurd (h9 i2 x146 (by omega) hx146) (by assumption)
               refine c_region ?_
               refine o_assign rfl rfl ?_
               refine l_nil ?_
               refine q_then ?_
               refine c_ret ?_
               refine q_block_ret ?_
               refine q_pass_ret ?_
               refine q_pass_ret ?_
               refine q_block_ret ?_
               refine q_pass_ret ?_
               refine q_conv (fun w S => S.tail) ?_
               refine q_conv (fun w S => S.tail) ?_
               exact f_ret (r_one rfl rfl) (⟨by first | exact vfalse (by unfold RightOk; grind) | exact vtrue (by unfold RightOk; grind) | exact bdec (by unfold RightOk; grind), rfl⟩) (fun w S => S)
              · -- h22F
               have h22b := h22
               try simp only [Bool.not_eq_false', decide_eq_true_eq] at h22
               refine c_skip ?_
               refine q_block ?_
               refine q_then ?_
               refine c_region ?_
               refine o_move rfl rfl ?_
               refine o_bin rfl rfl rfl (b_add (wrap_i64 (by omega) (by omega))) ?_
               refine o_assign rfl rfl ?_
               refine l_nil ?_
               exact q_round (i2 + 1) (by exact ⟨by omega, opsTo_on hop hx146 (by grind)⟩) (by (try dsimp only); omega) ⟨(by first | rfl | exact vint (by omega)), (by first | rfl | exact vint (by omega)), trivial⟩ (fun w S => S)
             · -- h21F
              have h21b := h21
              try simp only [decide_eq_false_iff_not, Int.not_lt, Int.not_le] at h21
              refine c_exit ?_
              refine q_pass_exit ?_
              refine q_pass_exit ?_
              refine q_hit ?_
              refine q_then ?_
              refine c_seq ?_
              refine c_region ?_
              refine o_assign rfl rfl ?_
              refine l_nil ?_
              refine q_then ?_
              refine c_ret ?_
              refine q_conv (fun w S => S.tail) ?_
              refine q_conv (fun w S => S.tail) ?_
              exact f_ret (r_one rfl rfl) (⟨by first | exact vfalse (by unfold RightOk; grind) | exact vtrue (by unfold RightOk; grind) | exact bdec (by unfold RightOk; grind), rfl⟩) (fun w S => S)
end
section
set_option linter.unusedVariables false
set_option linter.unusedSimpArgs false
set_option maxRecDepth 10000
open Go.RowKit Classical
set_option maxHeartbeats 2000000 in
theorem roright_ {W : World} {F : List Res} {o : Order} (T_o : OrdR W F o) {g : Int} (hu : 0 ≤ o.f_Tag_Id_Epoch ∧ 0 ≤ o.f_Tag_Id_Seq) (hb : o.f_Txn_Reads.xs.length + o.f_Txn_Writes.xs.length ≤ 1000000) (hm : o.f_Marks.xs.length ≤ 1000000) : CS Tryz.prog 25 #[.agg #[.int .i64 o.f_Tag_Id_Node, .int .u64 o.f_Tag_Id_Epoch, .int .u64 o.f_Tag_Id_Seq, .int .i64 o.f_Tag_Try, .int .i64 o.f_Txn_Kind, .slice o.f_Txn_Reads.a (o.f_Txn_Reads.xs).length o.f_Txn_Reads.c, .slice o.f_Txn_Writes.a (o.f_Txn_Writes.xs).length o.f_Txn_Writes.c, .slice o.f_Txn_Ops.a (o.f_Txn_Ops.xs).length o.f_Txn_Ops.c, .int .i64 o.f_Txn_To, .slice o.f_Marks.a (o.f_Marks.xs).length o.f_Marks.c], .int .i64 g] W (F) (fun r L' => r = .bool (decide (OrdOk o g)) ∧ F = L') := by
 have hkl := chk_len o
 refine f_door (l0 := [(0, .agg #[.int .i64 o.f_Tag_Id_Node, .int .u64 o.f_Tag_Id_Epoch, .int .u64 o.f_Tag_Id_Seq, .int .i64 o.f_Tag_Try, .int .i64 o.f_Txn_Kind, .slice o.f_Txn_Reads.a (o.f_Txn_Reads.xs).length o.f_Txn_Reads.c, .slice o.f_Txn_Writes.a (o.f_Txn_Writes.xs).length o.f_Txn_Writes.c, .slice o.f_Txn_Ops.a (o.f_Txn_Ops.xs).length o.f_Txn_Ops.c, .int .i64 o.f_Txn_To, .slice o.f_Marks.a (o.f_Marks.xs).length o.f_Marks.c]), (1, .int .i64 g)]) Tryz.func25 Tryz.ntmps25 rfl rfl rfl ?_
 refine c_seq ?_
 refine c_region ?_
 refine o_box rfl rfl fun b2 => ?_
 refine o_assign rfl rfl ?_
 refine l_nil ?_
 refine q_then ?_
 refine c_seq ?_
 refine c_region ?_
 refine o_fieldAddr (q := ⟨b2, 0, none⟩) rfl rfl Tryz.underlying33 rfl ti26 rfl ?_
 refine o_fieldAddr (q := ⟨b2, 0, none⟩) rfl rfl Tryz.underlying26 rfl ti24 rfl ?_
 refine o_loadn (vs := [_, _, _]) rfl rfl Tryz.underlying24 rfl ti24 (rdn_lit 0 rfl rfl) ?_
 refine o_alloc rfl ti24 fun b5 => ?_
 refine o_storen rfl rfl ti24 rfl rfl rfl rfl ?_
 refine l_nil ?_
 refine q_then ?_
 refine c_seq ?_
 refine c_seq ?_
 refine c_region ?_
 refine o_fieldAddr (q := ⟨b2, 4, none⟩) rfl rfl Tryz.underlying33 rfl ti30 rfl ?_
 refine o_loadn (vs := [_, _, _, _, _]) rfl rfl Tryz.underlying30 rfl ti30 (rdn_lit 1 rfl rfl) ?_
 refine o_move rfl rfl ?_
 refine o_call rfl cal47 rfl (right_ (t := o.txn) (g := g) (OrdR.txn (OrdR.c (OrdR.c T_o)))) ?_
 rintro _ _ ⟨rfl, rfl⟩
 refine o_not rfl rfl ?_
 refine o_move rfl rfl ?_
 refine l_split (t := 16) rfl (fun h1 => ?_) (fun h1 => ?_)
 · -- h1T
  have h1b := h1
  try simp only [Bool.not_eq_true', decide_eq_false_iff_not, Int.not_lt, Int.not_le] at h1
  refine o_no rfl rfl rfl rfl ?_
  refine o_no rfl rfl rfl rfl ?_
  refine o_no rfl rfl rfl rfl ?_
  refine o_pick_true rfl rfl rfl ?_
  refine o_move rfl rfl ?_
  refine o_no rfl rfl rfl rfl ?_
  refine o_no rfl rfl rfl rfl ?_
  refine o_no rfl rfl rfl rfl ?_
  refine o_pick_true rfl rfl rfl ?_
  refine o_move rfl rfl ?_
  refine o_no rfl rfl rfl rfl ?_
  refine o_no rfl rfl rfl rfl ?_
  refine o_no rfl rfl rfl rfl ?_
  refine o_pick_true rfl rfl rfl ?_
  refine o_move rfl rfl ?_
  refine o_no rfl rfl rfl rfl ?_
  refine o_no rfl rfl rfl rfl ?_
  refine o_no rfl rfl rfl rfl ?_
  refine o_pick_true rfl rfl rfl ?_
  refine o_move rfl rfl ?_
  refine o_no rfl rfl rfl rfl ?_
  refine o_no rfl rfl rfl rfl ?_
  refine o_no rfl rfl rfl rfl ?_
  refine o_no rfl rfl rfl rfl ?_
  refine o_pick_true rfl rfl rfl ?_
  refine o_move rfl rfl ?_
  refine o_no rfl rfl rfl rfl ?_
  refine o_no rfl rfl rfl rfl ?_
  refine o_no rfl rfl rfl rfl ?_
  refine o_no rfl rfl rfl rfl ?_
  refine o_pick_true rfl rfl rfl ?_
  refine l_nil ?_
  refine q_then ?_
  refine c_true rfl ?_
  refine c_seq ?_
  refine c_region ?_
  refine o_assign rfl rfl ?_
  refine l_nil ?_
  refine q_then ?_
  refine c_ret ?_
  refine q_pass_ret ?_
  refine q_conv (fun w S => S.tail) ?_
  refine q_conv (fun w S => S.tail) ?_
  exact f_ret (r_one rfl rfl) (⟨by first | exact vtrue' ⟨(right_iff _ _).1 (by assumption), ⟨by omega, by omega, by omega, by omega, by omega, by omega⟩, by omega, by rw [show o.f_Marks.xs.length = i by omega]; exact hmk⟩ | exact vfalse' (ord_no hx66 hx71 (by unfold MkOk; grind)) | exact vfalse' (fun h9 => by obtain ⟨q1, ⟨q2, q3, q4, q5, q6, q7⟩, q8, q9⟩ := h9; first | omega | exact absurd ((right_iff _ _).2 q1) (by assumption)), rfl⟩) (fun w S => S)
 · -- h1F
  have h1b := h1
  try simp only [Bool.not_eq_false', decide_eq_true_eq] at h1
  refine o_yes rfl rfl rfl ?_
  refine o_fieldAddr (q := ⟨b5, 0, none⟩) rfl rfl Tryz.underlying24 rfl ti3 rfl ?_
  refine o_yes rfl rfl rfl ?_
  refine o_load1 rfl rfl Tryz.underlying3 rfl (rd_mem 0 rfl rfl) ?_
  refine o_yes rfl rfl rfl ?_
  refine o_bin rfl rfl rfl b_lss ?_
  refine o_pick_false rfl rfl rfl ?_
  refine o_move rfl rfl ?_
  refine l_split (t := 21) rfl (fun h2 => ?_) (fun h2 => ?_)
  · -- h2T
   have h2b := h2
   try simp only [decide_eq_true_eq] at h2
   refine o_no rfl rfl rfl rfl ?_
   refine o_no rfl rfl rfl rfl ?_
   refine o_no rfl rfl rfl rfl ?_
   refine o_pick_true rfl rfl rfl ?_
   refine o_move rfl rfl ?_
   refine o_no rfl rfl rfl rfl ?_
   refine o_no rfl rfl rfl rfl ?_
   refine o_no rfl rfl rfl rfl ?_
   refine o_pick_true rfl rfl rfl ?_
   refine o_move rfl rfl ?_
   refine o_no rfl rfl rfl rfl ?_
   refine o_no rfl rfl rfl rfl ?_
   refine o_no rfl rfl rfl rfl ?_
   refine o_pick_true rfl rfl rfl ?_
   refine o_move rfl rfl ?_
   refine o_no rfl rfl rfl rfl ?_
   refine o_no rfl rfl rfl rfl ?_
   refine o_no rfl rfl rfl rfl ?_
   refine o_no rfl rfl rfl rfl ?_
   refine o_pick_true rfl rfl rfl ?_
   refine o_move rfl rfl ?_
   refine o_no rfl rfl rfl rfl ?_
   refine o_no rfl rfl rfl rfl ?_
   refine o_no rfl rfl rfl rfl ?_
   refine o_no rfl rfl rfl rfl ?_
   refine o_pick_true rfl rfl rfl ?_
   refine l_nil ?_
   refine q_then ?_
   refine c_true rfl ?_
   refine c_seq ?_
   refine c_region ?_
   refine o_assign rfl rfl ?_
   refine l_nil ?_
   refine q_then ?_
   refine c_ret ?_
   refine q_pass_ret ?_
   refine q_conv (fun w S => S.tail) ?_
   refine q_conv (fun w S => S.tail) ?_
   exact f_ret (r_one rfl rfl) (⟨by first | exact vtrue' ⟨(right_iff _ _).1 (by assumption), ⟨by omega, by omega, by omega, by omega, by omega, by omega⟩, by omega, by rw [show o.f_Marks.xs.length = i by omega]; exact hmk⟩ | exact vfalse' (ord_no hx66 hx71 (by unfold MkOk; grind)) | exact vfalse' (fun h9 => by obtain ⟨q1, ⟨q2, q3, q4, q5, q6, q7⟩, q8, q9⟩ := h9; first | omega | exact absurd ((right_iff _ _).2 q1) (by assumption)), rfl⟩) (fun w S => S)
  · -- h2F
   have h2b := h2
   try simp only [decide_eq_false_iff_not, Int.not_lt, Int.not_le] at h2
   refine o_yes rfl rfl rfl ?_
   refine o_fieldAddr (q := ⟨b5, 0, none⟩) rfl rfl Tryz.underlying24 rfl ti3 rfl ?_
   refine o_yes rfl rfl rfl ?_
   refine o_load1 rfl rfl Tryz.underlying3 rfl (rd_mem 0 rfl rfl) ?_
   refine o_yes rfl rfl rfl ?_
   refine o_bin rfl rfl rfl b_gtr ?_
   refine o_pick_false rfl rfl rfl ?_
   refine o_move rfl rfl ?_
   refine l_split (t := 26) rfl (fun h3 => ?_) (fun h3 => ?_)
   · -- h3T
    have h3b := h3
    try simp only [decide_eq_true_eq] at h3
    refine o_no rfl rfl rfl rfl ?_
    refine o_no rfl rfl rfl rfl ?_
    refine o_no rfl rfl rfl rfl ?_
    refine o_pick_true rfl rfl rfl ?_
    refine o_move rfl rfl ?_
    refine o_no rfl rfl rfl rfl ?_
    refine o_no rfl rfl rfl rfl ?_
    refine o_no rfl rfl rfl rfl ?_
    refine o_pick_true rfl rfl rfl ?_
    refine o_move rfl rfl ?_
    refine o_no rfl rfl rfl rfl ?_
    refine o_no rfl rfl rfl rfl ?_
    refine o_no rfl rfl rfl rfl ?_
    refine o_no rfl rfl rfl rfl ?_
    refine o_pick_true rfl rfl rfl ?_
    refine o_move rfl rfl ?_
    refine o_no rfl rfl rfl rfl ?_
    refine o_no rfl rfl rfl rfl ?_
    refine o_no rfl rfl rfl rfl ?_
    refine o_no rfl rfl rfl rfl ?_
    refine o_pick_true rfl rfl rfl ?_
    refine l_nil ?_
    refine q_then ?_
    refine c_true rfl ?_
    refine c_seq ?_
    refine c_region ?_
    refine o_assign rfl rfl ?_
    refine l_nil ?_
    refine q_then ?_
    refine c_ret ?_
    refine q_pass_ret ?_
    refine q_conv (fun w S => S.tail) ?_
    refine q_conv (fun w S => S.tail) ?_
    exact f_ret (r_one rfl rfl) (⟨by first | exact vtrue' ⟨(right_iff _ _).1 (by assumption), ⟨by omega, by omega, by omega, by omega, by omega, by omega⟩, by omega, by rw [show o.f_Marks.xs.length = i by omega]; exact hmk⟩ | exact vfalse' (ord_no hx66 hx71 (by unfold MkOk; grind)) | exact vfalse' (fun h9 => by obtain ⟨q1, ⟨q2, q3, q4, q5, q6, q7⟩, q8, q9⟩ := h9; first | omega | exact absurd ((right_iff _ _).2 q1) (by assumption)), rfl⟩) (fun w S => S)
   · -- h3F
    have h3b := h3
    try simp only [decide_eq_false_iff_not, Int.not_lt, Int.not_le] at h3
    refine o_yes rfl rfl rfl ?_
    refine o_fieldAddr (q := ⟨b5, 1, none⟩) rfl rfl Tryz.underlying24 rfl ti22 rfl ?_
    refine o_yes rfl rfl rfl ?_
    refine o_load1 rfl rfl Tryz.underlying22 rfl (rd_mem 0 rfl rfl) ?_
    refine o_yes rfl rfl rfl ?_
    refine o_bin rfl rfl rfl b_eql ?_
    refine o_pick_false rfl rfl rfl ?_
    refine o_move rfl rfl ?_
    refine l_split (t := 31) rfl (fun h4 => ?_) (fun h4 => ?_)
    · -- h4T
     have h4b := h4
     try simp only [decide_eq_true_eq] at h4
     refine o_no rfl rfl rfl rfl ?_
     refine o_no rfl rfl rfl rfl ?_
     refine o_no rfl rfl rfl rfl ?_
     refine o_pick_true rfl rfl rfl ?_
     refine o_move rfl rfl ?_
     refine o_no rfl rfl rfl rfl ?_
     refine o_no rfl rfl rfl rfl ?_
     refine o_no rfl rfl rfl rfl ?_
     refine o_no rfl rfl rfl rfl ?_
     refine o_pick_true rfl rfl rfl ?_
     refine o_move rfl rfl ?_
     refine o_no rfl rfl rfl rfl ?_
     refine o_no rfl rfl rfl rfl ?_
     refine o_no rfl rfl rfl rfl ?_
     refine o_no rfl rfl rfl rfl ?_
     refine o_pick_true rfl rfl rfl ?_
     refine l_nil ?_
     refine q_then ?_
     refine c_true rfl ?_
     refine c_seq ?_
     refine c_region ?_
     refine o_assign rfl rfl ?_
     refine l_nil ?_
     refine q_then ?_
     refine c_ret ?_
     refine q_pass_ret ?_
     refine q_conv (fun w S => S.tail) ?_
     refine q_conv (fun w S => S.tail) ?_
     exact f_ret (r_one rfl rfl) (⟨by first | exact vtrue' ⟨(right_iff _ _).1 (by assumption), ⟨by omega, by omega, by omega, by omega, by omega, by omega⟩, by omega, by rw [show o.f_Marks.xs.length = i by omega]; exact hmk⟩ | exact vfalse' (ord_no hx66 hx71 (by unfold MkOk; grind)) | exact vfalse' (fun h9 => by obtain ⟨q1, ⟨q2, q3, q4, q5, q6, q7⟩, q8, q9⟩ := h9; first | omega | exact absurd ((right_iff _ _).2 q1) (by assumption)), rfl⟩) (fun w S => S)
    · -- h4F
     have h4b := h4
     try simp only [decide_eq_false_iff_not, Int.not_lt, Int.not_le] at h4
     refine o_yes rfl rfl rfl ?_
     refine o_fieldAddr (q := ⟨b5, 2, none⟩) rfl rfl Tryz.underlying24 rfl ti22 rfl ?_
     refine o_yes rfl rfl rfl ?_
     refine o_load1 rfl rfl Tryz.underlying22 rfl (rd_mem 0 rfl rfl) ?_
     refine o_yes rfl rfl rfl ?_
     refine o_bin rfl rfl rfl b_eql ?_
     refine o_pick_false rfl rfl rfl ?_
     refine o_move rfl rfl ?_
     refine l_split (t := 36) rfl (fun h5 => ?_) (fun h5 => ?_)
     · -- h5T
      have h5b := h5
      try simp only [decide_eq_true_eq] at h5
      refine o_no rfl rfl rfl rfl ?_
      refine o_no rfl rfl rfl rfl ?_
      refine o_no rfl rfl rfl rfl ?_
      refine o_no rfl rfl rfl rfl ?_
      refine o_pick_true rfl rfl rfl ?_
      refine o_move rfl rfl ?_
      refine o_no rfl rfl rfl rfl ?_
      refine o_no rfl rfl rfl rfl ?_
      refine o_no rfl rfl rfl rfl ?_
      refine o_no rfl rfl rfl rfl ?_
      refine o_pick_true rfl rfl rfl ?_
      refine l_nil ?_
      refine q_then ?_
      refine c_true rfl ?_
      refine c_seq ?_
      refine c_region ?_
      refine o_assign rfl rfl ?_
      refine l_nil ?_
      refine q_then ?_
      refine c_ret ?_
      refine q_pass_ret ?_
      refine q_conv (fun w S => S.tail) ?_
      refine q_conv (fun w S => S.tail) ?_
      exact f_ret (r_one rfl rfl) (⟨by first | exact vtrue' ⟨(right_iff _ _).1 (by assumption), ⟨by omega, by omega, by omega, by omega, by omega, by omega⟩, by omega, by rw [show o.f_Marks.xs.length = i by omega]; exact hmk⟩ | exact vfalse' (ord_no hx66 hx71 (by unfold MkOk; grind)) | exact vfalse' (fun h9 => by obtain ⟨q1, ⟨q2, q3, q4, q5, q6, q7⟩, q8, q9⟩ := h9; first | omega | exact absurd ((right_iff _ _).2 q1) (by assumption)), rfl⟩) (fun w S => S)
     · -- h5F
      have h5b := h5
      try simp only [decide_eq_false_iff_not, Int.not_lt, Int.not_le] at h5
      refine o_yes rfl rfl rfl ?_
      refine o_fieldAddr (q := ⟨b2, 0, none⟩) rfl rfl Tryz.underlying33 rfl ti26 rfl ?_
      refine o_yes rfl rfl rfl ?_
      refine o_fieldAddr (q := ⟨b2, 3, none⟩) rfl rfl Tryz.underlying26 rfl ti3 rfl ?_
      refine o_yes rfl rfl rfl ?_
      refine o_load1 rfl rfl Tryz.underlying3 rfl (rd_mem 1 rfl rfl) ?_
      refine o_yes rfl rfl rfl ?_
      refine o_bin rfl rfl rfl b_lss ?_
      refine o_pick_false rfl rfl rfl ?_
      refine o_move rfl rfl ?_
      refine l_split (t := 42) rfl (fun h6 => ?_) (fun h6 => ?_)
      · -- h6T
       have h6b := h6
       try simp only [decide_eq_true_eq] at h6
       refine o_no rfl rfl rfl rfl ?_
       refine o_no rfl rfl rfl rfl ?_
       refine o_no rfl rfl rfl rfl ?_
       refine o_no rfl rfl rfl rfl ?_
       refine o_pick_true rfl rfl rfl ?_
       refine l_nil ?_
       refine q_then ?_
       refine c_true rfl ?_
       refine c_seq ?_
       refine c_region ?_
       refine o_assign rfl rfl ?_
       refine l_nil ?_
       refine q_then ?_
       refine c_ret ?_
       refine q_pass_ret ?_
       refine q_conv (fun w S => S.tail) ?_
       refine q_conv (fun w S => S.tail) ?_
       exact f_ret (r_one rfl rfl) (⟨by first | exact vtrue' ⟨(right_iff _ _).1 (by assumption), ⟨by omega, by omega, by omega, by omega, by omega, by omega⟩, by omega, by rw [show o.f_Marks.xs.length = i by omega]; exact hmk⟩ | exact vfalse' (ord_no hx66 hx71 (by unfold MkOk; grind)) | exact vfalse' (fun h9 => by obtain ⟨q1, ⟨q2, q3, q4, q5, q6, q7⟩, q8, q9⟩ := h9; first | omega | exact absurd ((right_iff _ _).2 q1) (by assumption)), rfl⟩) (fun w S => S)
      · -- h6F
       have h6b := h6
       try simp only [decide_eq_false_iff_not, Int.not_lt, Int.not_le] at h6
       refine o_yes rfl rfl rfl ?_
       refine o_fieldAddr (q := ⟨b2, 0, none⟩) rfl rfl Tryz.underlying33 rfl ti26 rfl ?_
       refine o_yes rfl rfl rfl ?_
       refine o_fieldAddr (q := ⟨b2, 3, none⟩) rfl rfl Tryz.underlying26 rfl ti3 rfl ?_
       refine o_yes rfl rfl rfl ?_
       refine o_load1 rfl rfl Tryz.underlying3 rfl (rd_mem 1 rfl rfl) ?_
       refine o_yes rfl rfl rfl ?_
       refine o_bin rfl rfl rfl b_gtr ?_
       refine o_pick_false rfl rfl rfl ?_
       refine l_nil ?_
       refine q_then ?_
       refine c_cond rfl (fun h7 => ?_) (fun h7 => ?_)
       · -- h7T
        have h7b := h7
        try simp only [decide_eq_true_eq] at h7
        refine c_seq ?_
        refine c_region ?_
        refine o_assign rfl rfl ?_
        refine l_nil ?_
        refine q_then ?_
        refine c_ret ?_
        refine q_pass_ret ?_
        refine q_conv (fun w S => S.tail) ?_
        refine q_conv (fun w S => S.tail) ?_
        exact f_ret (r_one rfl rfl) (⟨by first | exact vtrue' ⟨(right_iff _ _).1 (by assumption), ⟨by omega, by omega, by omega, by omega, by omega, by omega⟩, by omega, by rw [show o.f_Marks.xs.length = i by omega]; exact hmk⟩ | exact vfalse' (ord_no hx66 hx71 (by unfold MkOk; grind)) | exact vfalse' (fun h9 => by obtain ⟨q1, ⟨q2, q3, q4, q5, q6, q7⟩, q8, q9⟩ := h9; first | omega | exact absurd ((right_iff _ _).2 q1) (by assumption)), rfl⟩) (fun w S => S)
       · -- h7F
        have h7b := h7
        try simp only [decide_eq_false_iff_not, Int.not_lt, Int.not_le] at h7
        refine c_skip ?_
        refine q_then ?_
        refine c_seq ?_
        refine c_region ?_
        refine o_fieldAddr (q := ⟨b2, 4, none⟩) rfl rfl Tryz.underlying33 rfl ti30 rfl ?_
        refine o_loadn (vs := [_, _, _, _, _]) rfl rfl Tryz.underlying30 rfl ti30 (rdn_lit 1 rfl rfl) ?_
        refine o_call rfl cal48 rfl (rkeys_ (t := o.txn) (OrdR.txn (OrdR.c (OrdR.c T_o))) hb) ?_
        rintro _ _ ⟨a50, c50, rfl, rfl⟩
        refine o_assign rfl rfl ?_
        refine l_nil ?_
        refine q_then ?_
        refine c_seq ?_
        refine c_seq ?_
        refine c_region ?_
        refine o_fieldAddr (q := ⟨b2, 9, none⟩) rfl rfl Tryz.underlying33 rfl ti31 rfl ?_
        refine o_load1 rfl rfl Tryz.underlying31 rfl (rd_mem 2 rfl rfl) ?_
        refine o_len rfl rfl Tryz.underlying31 ?_
        refine o_move rfl rfl ?_
        refine o_len rfl rfl Tryz.underlying27 ?_
        refine o_bin rfl rfl rfl b_neq ?_
        refine l_nil ?_
        refine q_then ?_
        refine c_cond rfl (fun h8 => ?_) (fun h8 => ?_)
        · -- h8T
         have h8b := h8
         try simp only [Bool.not_eq_true', decide_eq_false_iff_not, Int.not_lt, Int.not_le] at h8
         refine c_seq ?_
         refine c_region ?_
         refine o_assign rfl rfl ?_
         refine l_nil ?_
         refine q_then ?_
         refine c_ret ?_
         refine q_pass_ret ?_
         refine q_conv (fun w S => S.tail) ?_
         refine q_conv (fun w S => S.tail) ?_
         refine q_conv (fun w S => S.tail) ?_
         exact f_ret (r_one rfl rfl) (⟨by first | exact vtrue' ⟨(right_iff _ _).1 (by assumption), ⟨by omega, by omega, by omega, by omega, by omega, by omega⟩, by omega, by rw [show o.f_Marks.xs.length = i by omega]; exact hmk⟩ | exact vfalse' (ord_no hx66 hx71 (by unfold MkOk; grind)) | exact vfalse' (fun h9 => by obtain ⟨q1, ⟨q2, q3, q4, q5, q6, q7⟩, q8, q9⟩ := h9; first | omega | exact absurd ((right_iff _ _).2 q1) (by assumption)), rfl⟩) (fun w S => S)
        · -- h8F
         have h8b := h8
         try simp only [Bool.not_eq_false', decide_eq_true_eq] at h8
         refine c_skip ?_
         refine q_then ?_
         refine c_seq ?_
         refine c_seq ?_
         refine c_region ?_
         refine o_assign rfl rfl ?_
         refine l_nil ?_
         refine q_then ?_
         refine c_block ?_
         refine c_loop (α := Nat) (fun z => [(1, .int .i64 g), (2, .pointer (some ⟨b2, 0, none⟩)), (6, .slice a50 (keysT o.txn).length c50), (7, .int .i64 (z : Int))]) (fun z => row e_S.T e_S.sz a50 (keysT o.txn).length c50 (flat e_S (keysT o.txn)) :: blk b5 (.cells #[.int .i64 o.f_Tag_Id_Node, .int .u64 o.f_Tag_Id_Epoch, .int .u64 o.f_Tag_Id_Seq] 24 (0, 0)) :: blk b2 (.cells #[.int .i64 o.f_Tag_Id_Node, .int .u64 o.f_Tag_Id_Epoch, .int .u64 o.f_Tag_Id_Seq, .int .i64 o.f_Tag_Try, .int .i64 o.f_Txn_Kind, .slice o.f_Txn_Reads.a (o.f_Txn_Reads.xs).length o.f_Txn_Reads.c, .slice o.f_Txn_Writes.a (o.f_Txn_Writes.xs).length o.f_Txn_Writes.c, .slice o.f_Txn_Ops.a (o.f_Txn_Ops.xs).length o.f_Txn_Ops.c, .int .i64 o.f_Txn_To, .slice o.f_Marks.a (o.f_Marks.xs).length o.f_Marks.c] 33 (0, 0)) :: F) (fun z => z ≤ o.f_Marks.xs.length ∧ MksTo g o.f_Marks.xs (keysT o.txn) z) (fun z => o.f_Marks.xs.length - z) (0) (by exact ⟨Nat.zero_le _, mks_0⟩) ⟨(by first | rfl | exact vint (by omega)), (by first | rfl | exact vint (by omega)), (by first | rfl | exact vint (by omega)), (by first | rfl | exact vint (by omega)), trivial⟩ (fun w S => S) ?_
         rintro i ⟨hi, hmk⟩
         try dsimp only at *
         refine c_seq ?_
         refine c_seq ?_
         refine c_region ?_
         refine o_move rfl rfl ?_
         refine o_move rfl rfl ?_
         refine o_len rfl rfl Tryz.underlying27 ?_
         refine o_bin rfl rfl rfl b_lss ?_
         refine l_nil ?_
         refine q_then ?_
         refine c_cond rfl (fun h9 => ?_) (fun h9 => ?_)
         · -- h9T
          have h9b := h9
          try simp only [decide_eq_true_eq] at h9
          refine c_skip ?_
          refine q_then ?_
          refine c_seq ?_
          refine c_block ?_
          refine c_seq ?_
          refine c_fact (p := ∃ ad, a50 = some ad) (rds_some (e := e_S) (xs := keysT o.txn) (rds_own e_S_ok 0 rfl) (by intro h0; have h00 := congrArg List.length h0; simp only [List.length_nil] at h00; omega)) ?_
          rintro ⟨adk, eadk⟩
          refine c_fact (p := ∃ ad, o.f_Marks.a = some ad) (rds_some (e := e_Mark) (xs := o.f_Marks.xs) (OrdR.c (OrdR.c (OrdR.c T_o))).rm (by intro h0; have h00 := congrArg List.length h0; simp only [List.length_nil] at h00; omega)) ?_
          rintro ⟨adx, eadx⟩
          refine c_quiet (by kernel_rfl) (by kernel_rfl) ?_
          refine Qt.o_val rfl (v_fieldAddr (q := ⟨b2, 9, none⟩) rfl rfl Tryz.underlying33 rfl ti31 rfl) ?_
          refine Qt.o_val rfl (v_load1 rfl rfl Tryz.underlying31 rfl (rd_mem 2 rfl rfl)) ?_
          refine Qt.o_val rfl (v_move rfl rfl) ?_
          refine Qt.o_val rfl (v_indexK e_Mark_ok eadx rfl rfl rfl Tryz.underlying31 (by omega) (by omega)) ?_
          obtain ⟨x66, hx66⟩ : ∃ x, (o.f_Marks.xs)[((i : Int)).toNat]? = some x := ⟨_, List.getElem?_eq_getElem (by omega)⟩
          refine Qt.o_val rfl (v_fieldAddr rfl rfl Tryz.underlying60 rfl ti9 (Addr.add_add' _ _ _)) ?_
          refine Qt.o_val rfl (v_load1 rfl rfl Tryz.underlying9 rfl (rd_sl e_Mark_ok eadx (OrdR.c (OrdR.c (OrdR.c T_o))).rm hx66 rfl)) ?_
          refine Qt.o_val rfl (v_move rfl rfl) ?_
          refine Qt.o_val rfl (v_move rfl rfl) ?_
          refine Qt.o_val rfl (v_indexK e_S_ok eadk rfl rfl rfl Tryz.underlying27 (by omega) (by omega)) ?_
          obtain ⟨x71, hx71⟩ : ∃ x, (keysT o.txn)[((i : Int)).toNat]? = some x := ⟨_, List.getElem?_eq_getElem (by omega)⟩
          refine Qt.o_val rfl (v_load1 rfl rfl Tryz.underlying9 rfl (rd_sl0 e_S_ok eadk (rds_own e_S_ok 0 rfl) hx71 rfl)) ?_
          refine Qt.o_val rfl (v_bin rfl rfl rfl b_sneq) ?_
          refine Qt.o_val rfl (v_move rfl rfl) ?_
          refine Qt.l_split (t := 74) rfl (fun h10 => ?_) (fun h10 => ?_)
          · -- h10T
           have h10b := h10
           try simp only [Bool.not_eq_true', decide_eq_false_iff_not, Int.not_lt, Int.not_le] at h10
           refine Qt.o_no rfl rfl rfl rfl ?_
           refine Qt.o_no rfl rfl rfl rfl ?_
           refine Qt.o_no rfl rfl rfl rfl ?_
           refine Qt.o_no rfl rfl rfl rfl ?_
           refine Qt.o_no rfl rfl rfl rfl ?_
           refine Qt.o_no rfl rfl rfl rfl ?_
           refine Qt.o_no rfl rfl rfl rfl ?_
           refine Qt.o_val rfl (v_pick_true rfl rfl rfl) ?_
           refine Qt.o_val rfl (v_move rfl rfl) ?_
           refine Qt.o_no rfl rfl rfl rfl ?_
           refine Qt.o_no rfl rfl rfl rfl ?_
           refine Qt.o_no rfl rfl rfl rfl ?_
           refine Qt.o_no rfl rfl rfl rfl ?_
           refine Qt.o_no rfl rfl rfl rfl ?_
           refine Qt.o_no rfl rfl rfl rfl ?_
           refine Qt.o_no rfl rfl rfl rfl ?_
           refine Qt.o_no rfl rfl rfl rfl ?_
           refine Qt.o_val rfl (v_pick_true rfl rfl rfl) ?_
           refine Qt.l_nil ?_
           refine q_then ?_
           refine c_true rfl ?_
           refine c_seq ?_
           refine c_region ?_
           refine o_assign rfl rfl ?_
           refine l_nil ?_
           refine q_then ?_
           refine c_ret ?_
           refine q_block_ret ?_
           refine q_pass_ret ?_
           refine q_pass_ret ?_
           refine q_block_ret ?_
           refine q_pass_ret ?_
           refine q_conv (fun w S => S.tail) ?_
           refine q_conv (fun w S => S.tail) ?_
           refine q_conv (fun w S => S.tail) ?_
           exact f_ret (r_one rfl rfl) (⟨by first | exact vtrue' ⟨(right_iff _ _).1 (by assumption), ⟨by omega, by omega, by omega, by omega, by omega, by omega⟩, by omega, by rw [show o.f_Marks.xs.length = i by omega]; exact hmk⟩ | exact vfalse' (ord_no hx66 hx71 (by unfold MkOk; grind)) | exact vfalse' (fun h9 => by obtain ⟨q1, ⟨q2, q3, q4, q5, q6, q7⟩, q8, q9⟩ := h9; first | omega | exact absurd ((right_iff _ _).2 q1) (by assumption)), rfl⟩) (fun w S => S)
          · -- h10F
           have h10b := h10
           try simp only [Bool.not_eq_false', decide_eq_true_eq] at h10
           refine Qt.o_yes rfl rfl rfl ?_
           refine Qt.o_val rfl (v_fieldAddr (q := ⟨b2, 9, none⟩) rfl rfl Tryz.underlying33 rfl ti31 rfl) ?_
           refine Qt.o_yes rfl rfl rfl ?_
           refine Qt.o_val rfl (v_load1 rfl rfl Tryz.underlying31 rfl (rd_mem 2 rfl rfl)) ?_
           refine Qt.o_yes rfl rfl rfl ?_
           refine Qt.o_val rfl (v_move rfl rfl) ?_
           refine Qt.o_yes rfl rfl rfl ?_
           refine Qt.o_val rfl (v_indexK e_Mark_ok eadx rfl rfl rfl Tryz.underlying31 (by omega) (by omega)) ?_
           obtain ⟨x78, hx78⟩ : ∃ x, (o.f_Marks.xs)[((i : Int)).toNat]? = some x := ⟨_, List.getElem?_eq_getElem (by omega)⟩
           have e78 : x78 = x66 := by rw [hx66] at hx78; exact (Option.some.inj hx78).symm
           refine Qt.o_yes rfl rfl rfl ?_
           refine Qt.o_val rfl (v_fieldAddr rfl rfl Tryz.underlying60 rfl ti3 (Addr.add_add' _ _ _)) ?_
           refine Qt.o_yes rfl rfl rfl ?_
           refine Qt.o_val rfl (v_load1 rfl rfl Tryz.underlying3 rfl (rd_sl e_Mark_ok eadx (OrdR.c (OrdR.c (OrdR.c T_o))).rm hx78 rfl)) ?_
           refine Qt.o_yes rfl rfl rfl ?_
           refine Qt.o_val rfl (v_bin rfl rfl rfl b_lss) ?_
           refine Qt.o_val rfl (v_pick_false rfl rfl rfl) ?_
           refine Qt.o_val rfl (v_move rfl rfl) ?_
           refine Qt.l_split (t := 83) rfl (fun h11 => ?_) (fun h11 => ?_)
           · -- h11T
            have h11b := h11
            try simp only [decide_eq_true_eq] at h11
            refine Qt.o_no rfl rfl rfl rfl ?_
            refine Qt.o_no rfl rfl rfl rfl ?_
            refine Qt.o_no rfl rfl rfl rfl ?_
            refine Qt.o_no rfl rfl rfl rfl ?_
            refine Qt.o_no rfl rfl rfl rfl ?_
            refine Qt.o_no rfl rfl rfl rfl ?_
            refine Qt.o_no rfl rfl rfl rfl ?_
            refine Qt.o_no rfl rfl rfl rfl ?_
            refine Qt.o_val rfl (v_pick_true rfl rfl rfl) ?_
            refine Qt.l_nil ?_
            refine q_then ?_
            refine c_true rfl ?_
            refine c_seq ?_
            refine c_region ?_
            refine o_assign rfl rfl ?_
            refine l_nil ?_
            refine q_then ?_
            refine c_ret ?_
            refine q_block_ret ?_
            refine q_pass_ret ?_
            refine q_pass_ret ?_
            refine q_block_ret ?_
            refine q_pass_ret ?_
            refine q_conv (fun w S => S.tail) ?_
            refine q_conv (fun w S => S.tail) ?_
            refine q_conv (fun w S => S.tail) ?_
            exact f_ret (r_one rfl rfl) (⟨by first | exact vtrue' ⟨(right_iff _ _).1 (by assumption), ⟨by omega, by omega, by omega, by omega, by omega, by omega⟩, by omega, by rw [show o.f_Marks.xs.length = i by omega]; exact hmk⟩ | exact vfalse' (ord_no hx66 hx71 (by unfold MkOk; grind)) | exact vfalse' (fun h9 => by obtain ⟨q1, ⟨q2, q3, q4, q5, q6, q7⟩, q8, q9⟩ := h9; first | omega | exact absurd ((right_iff _ _).2 q1) (by assumption)), rfl⟩) (fun w S => S)
           · -- h11F
            have h11b := h11
            try simp only [decide_eq_false_iff_not, Int.not_lt, Int.not_le] at h11
            refine Qt.o_yes rfl rfl rfl ?_
            refine Qt.o_val rfl (v_fieldAddr (q := ⟨b2, 9, none⟩) rfl rfl Tryz.underlying33 rfl ti31 rfl) ?_
            refine Qt.o_yes rfl rfl rfl ?_
            refine Qt.o_val rfl (v_load1 rfl rfl Tryz.underlying31 rfl (rd_mem 2 rfl rfl)) ?_
            refine Qt.o_yes rfl rfl rfl ?_
            refine Qt.o_val rfl (v_move rfl rfl) ?_
            refine Qt.o_yes rfl rfl rfl ?_
            refine Qt.o_val rfl (v_indexK e_Mark_ok eadx rfl rfl rfl Tryz.underlying31 (by omega) (by omega)) ?_
            obtain ⟨x87, hx87⟩ : ∃ x, (o.f_Marks.xs)[((i : Int)).toNat]? = some x := ⟨_, List.getElem?_eq_getElem (by omega)⟩
            have e87 : x87 = x66 := by rw [hx66] at hx87; exact (Option.some.inj hx87).symm
            refine Qt.o_yes rfl rfl rfl ?_
            refine Qt.o_val rfl (v_fieldAddr rfl rfl Tryz.underlying60 rfl ti3 (Addr.add_add' _ _ _)) ?_
            refine Qt.o_yes rfl rfl rfl ?_
            refine Qt.o_val rfl (v_load1 rfl rfl Tryz.underlying3 rfl (rd_sl e_Mark_ok eadx (OrdR.c (OrdR.c (OrdR.c T_o))).rm hx87 rfl)) ?_
            refine Qt.o_yes rfl rfl rfl ?_
            refine Qt.o_val rfl (v_move rfl rfl) ?_
            refine Qt.o_yes rfl rfl rfl ?_
            refine Qt.o_val rfl (v_bin rfl rfl rfl b_geq) ?_
            refine Qt.o_val rfl (v_pick_false rfl rfl rfl) ?_
            refine Qt.l_nil ?_
            refine q_then ?_
            refine c_cond rfl (fun h12 => ?_) (fun h12 => ?_)
            · -- h12T
             have h12b := h12
             try simp only [decide_eq_true_eq] at h12
             refine c_seq ?_
             refine c_region ?_
             refine o_assign rfl rfl ?_
             refine l_nil ?_
             refine q_then ?_
             refine c_ret ?_
             refine q_block_ret ?_
             refine q_pass_ret ?_
             refine q_pass_ret ?_
             refine q_block_ret ?_
             refine q_pass_ret ?_
             refine q_conv (fun w S => S.tail) ?_
             refine q_conv (fun w S => S.tail) ?_
             refine q_conv (fun w S => S.tail) ?_
             exact f_ret (r_one rfl rfl) (⟨by first | exact vtrue' ⟨(right_iff _ _).1 (by assumption), ⟨by omega, by omega, by omega, by omega, by omega, by omega⟩, by omega, by rw [show o.f_Marks.xs.length = i by omega]; exact hmk⟩ | exact vfalse' (ord_no hx66 hx71 (by unfold MkOk; grind)) | exact vfalse' (fun h9 => by obtain ⟨q1, ⟨q2, q3, q4, q5, q6, q7⟩, q8, q9⟩ := h9; first | omega | exact absurd ((right_iff _ _).2 q1) (by assumption)), rfl⟩) (fun w S => S)
            · -- h12F
             have h12b := h12
             try simp only [decide_eq_false_iff_not, Int.not_lt, Int.not_le] at h12
             refine c_skip ?_
             refine q_block ?_
             refine q_then ?_
             refine c_region ?_
             refine o_move rfl rfl ?_
             refine o_bin rfl rfl rfl (b_add (wrap_i64 (by omega) (by omega))) ?_
             refine o_assign rfl rfl ?_
             refine l_nil ?_
             exact q_round (i + 1) (by exact ⟨by omega, mks_on hmk hx66 hx71 (by unfold MkOk; grind)⟩) (by (try dsimp only); omega) ⟨(by first | rfl | exact vint (by omega)), (by first | rfl | exact vint (by omega)), (by first | rfl | exact vint (by omega)), (by first | rfl | exact vint (by omega)), trivial⟩ (fun w S => S)
         · -- h9F
          have h9b := h9
          try simp only [decide_eq_false_iff_not, Int.not_lt, Int.not_le] at h9
          refine c_exit ?_
          refine q_pass_exit ?_
          refine q_pass_exit ?_
          refine q_hit ?_
          refine q_then ?_
          refine c_seq ?_
          refine c_region ?_
          refine o_assign rfl rfl ?_
          refine l_nil ?_
          refine q_then ?_
          refine c_ret ?_
          refine q_conv (fun w S => S.tail) ?_
          refine q_conv (fun w S => S.tail) ?_
          refine q_conv (fun w S => S.tail) ?_
          exact f_ret (r_one rfl rfl) (⟨by first | exact vtrue' ⟨(right_iff _ _).1 (by assumption), ⟨by omega, by omega, by omega, by omega, by omega, by omega⟩, by omega, by rw [show o.f_Marks.xs.length = i by omega]; exact hmk⟩ | exact vfalse' (ord_no hx66 hx71 (by unfold MkOk; grind)) | exact vfalse' (fun h9 => by obtain ⟨q1, ⟨q2, q3, q4, q5, q6, q7⟩, q8, q9⟩ := h9; first | omega | exact absurd ((right_iff _ _).2 q1) (by assumption)), rfl⟩) (fun w S => S)
end
section
set_option linter.unusedVariables false
set_option linter.unusedSimpArgs false
set_option maxRecDepth 10000
open Go.RowKit Classical
theorem rNum {W : World} {F : List Res} {v : Nat} (hv : v < 18446744073709551616) : CS Tryz.prog 35 #[.int .u64 (v : Int)] W (F) (fun r L' => ∃ (a' : Option Addr) (c' : Nat), r = .slice a' (numB v).length c' ∧ L' = row e8.T e8.sz a' (numB v).length c' (flat e8 (numB v)) :: F) := by
 refine f_door (l0 := [(0, .int .u64 (v : Int))]) Tryz.func35 Tryz.ntmps35 rfl rfl rfl ?_
 refine c_seq ?_
 refine c_region ?_
 refine o_assign rfl rfl ?_
 refine l_nil ?_
 refine q_then ?_
 refine c_seq ?_
 refine c_region ?_
 refine o_lit e8_ok rfl Tryz.underlying34 rfl rfl rfl (lit_ok rfl) ([] : List UInt8) rfl rfl fun a5 => ?_
 refine o_assign rfl rfl ?_
 refine l_nil ?_
 refine q_then ?_
 refine c_seq ?_
 refine c_region ?_
 refine o_move rfl rfl ?_
 refine o_assign rfl rfl ?_
 refine l_nil ?_
 refine q_then ?_
 refine c_seq ?_
 refine c_block ?_
 refine c_loop (α := Nat × (List UInt8) × (Option Addr) × Nat) (fun z => [(3, .slice z.2.2.1 z.2.1.length z.2.2.2), (4, .int .u64 (z.1 : Int))]) (fun z => row e8.T e8.sz z.2.2.1 (z.2.1).length z.2.2.2 (flat e8 z.2.1) :: F) (fun z => z.2.1 ++ numB z.1 = numB v ∧ z.1 < 18446744073709551616 ∧ z.2.1.length + (numB z.1).length ≤ 10) (fun z => z.1) (v, [], a5, 0) (by exact ⟨rfl, hv, by have := numB_len_le 10 v (by omega) (by omega); simp; omega⟩) ⟨(by first | rfl | exact vint (by omega)), (by first | rfl | exact vint (by omega)), trivial⟩ (fun w S => S) ?_
 rintro ⟨u, ys, a, c⟩ ⟨hq, hu, hl⟩
 try dsimp only at *
 have hnp := numB_pos u
 refine c_seq ?_
 refine c_seq ?_
 refine c_region ?_
 refine o_move rfl rfl ?_
 refine o_bin rfl rfl rfl b_geq ?_
 refine l_nil ?_
 refine q_then ?_
 refine c_cond rfl (fun h1 => ?_) (fun h1 => ?_)
 · -- h1T
  try simp only [decide_eq_true_eq, decide_eq_false_iff_not, Bool.not_eq_eq_eq_not, Bool.not_true, Bool.not_false, Bool.not_eq_true', Bool.not_eq_false', Int.not_lt, Int.not_le, Bool.or_eq_true, Bool.and_eq_true] at h1
  refine c_skip ?_
  refine q_then ?_
  refine c_block ?_
  refine c_seq ?_
  refine c_region ?_
  refine o_move rfl rfl ?_
  refine o_move rfl rfl ?_
  refine o_bin rfl rfl rfl (b_rem (by omega) (tmod128 u)) ?_
  refine o_bin rfl rfl rfl (b_add (addlow u)) ?_
  refine o_int rfl rfl Tryz.underlying22 Tryz.underlying5 (cv8 _) ?_
  refine o_lit e8_ok rfl Tryz.underlying34 rfl rfl rfl (lit_ok rfl) [UInt8.ofNat (u % 128 + 128)] rfl rfl fun a14 => ?_
  refine l_f1 ?_
  refine o_append e8_ok rfl rfl rfl Tryz.underlying34 (rds_own e8_ok 1 rfl) (by show (_ + _) * 1 ≤ _; (try simp only [List.length_append, List.length_cons, List.length_nil]); omega) (by (try simp only [List.length_append, List.length_cons, List.length_nil]); omega) fun a15 c15 => ?_
  refine l_f1 ?_
  refine l_drop ?_
  refine o_assign rfl rfl ?_
  refine l_nil ?_
  refine q_then ?_
  refine c_region ?_
  refine o_move rfl rfl ?_
  refine o_bin rfl rfl rfl (b_quo (by omega) (tdiv128 hu)) ?_
  refine o_assign rfl rfl ?_
  refine l_nil ?_
  refine q_block ?_
  exact q_round (u / 128, ys ++ [UInt8.ofNat (u % 128 + 128)], a15, c15) (by have h9 := numB_ge (n := u) (by omega); exact ⟨by rw [← hq, h9, add_low]; simp, by omega, by rw [h9] at hl; simp only [List.length_append, List.length_cons, List.length_nil] at hl ⊢; omega⟩) (by (try dsimp only); omega) ⟨(by first | rfl | exact vint (by omega)), (by first | rfl | exact vint (by omega)), trivial⟩ (fun w S => S)
 · -- h1F
  try simp only [decide_eq_true_eq, decide_eq_false_iff_not, Bool.not_eq_eq_eq_not, Bool.not_true, Bool.not_false, Bool.not_eq_true', Bool.not_eq_false', Int.not_lt, Int.not_le, Bool.or_eq_true, Bool.and_eq_true] at h1
  have hq' : ys ++ [UInt8.ofNat u] = numB v := by rw [← hq, numB_lt (by omega)]
  refine c_exit ?_
  refine q_pass_exit ?_
  refine q_pass_exit ?_
  refine q_hit ?_
  refine q_then ?_
  refine c_seq ?_
  refine c_region ?_
  refine o_move rfl rfl ?_
  refine o_move rfl rfl ?_
  refine o_int rfl rfl Tryz.underlying22 Tryz.underlying5 (cv8 u) ?_
  refine o_lit e8_ok rfl Tryz.underlying34 rfl rfl rfl (lit_ok rfl) [UInt8.ofNat u] rfl rfl fun a21 => ?_
  refine l_f1 ?_
  refine o_append e8_ok rfl rfl rfl Tryz.underlying34 (rds_own e8_ok 1 rfl) (by show (_ + _) * 1 ≤ _; (try simp only [List.length_append, List.length_cons, List.length_nil]); omega) (by (try simp only [List.length_append, List.length_cons, List.length_nil]); omega) fun a22 c22 => ?_
  refine l_f1 ?_
  refine l_drop ?_
  refine o_assign rfl rfl ?_
  refine l_nil ?_
  refine q_then ?_
  refine c_ret ?_
  exact f_ret (r_one rfl rfl) (⟨a22, c22, by rw [← hq'], by rw [← hq']⟩) (fun w S => S)
theorem rText {W : World} {F : List Res} {ts : List UInt8} {ta : Option Addr} {tc : Nat} (hs : RdS W F e8 ta ts) (ht : ts.length ≤ 70000000000000) : CS Tryz.prog 50 #[.slice ta ts.length tc] W (F) (fun r L' => ∃ (a' : Option Addr) (c' : Nat), r = .slice a' ((numB ts.length ++ ts)).length c' ∧ L' = row e8.T e8.sz a' ((numB ts.length ++ ts)).length c' (flat e8 (numB ts.length ++ ts)) :: F) := by
 have hnb := numB_len_le 10 ts.length (by omega) (by omega)
 refine f_door (l0 := [(0, .slice ta ts.length tc)]) Tryz.func50 Tryz.ntmps50 rfl rfl rfl ?_
 refine c_seq ?_
 refine c_region ?_
 refine o_assign rfl rfl ?_
 refine l_nil ?_
 refine q_then ?_
 refine c_seq ?_
 refine c_region ?_
 refine o_move rfl rfl ?_
 refine o_len rfl rfl Tryz.underlying34 ?_
 refine o_int rfl rfl Tryz.underlying3 Tryz.underlying22 (wrap_u64 (by omega) (by omega)) ?_
 refine o_call rfl cal35 rfl (rNum (v := ts.length) (by omega)) ?_
 rintro _ _ ⟨a6, c6, rfl, rfl⟩
 refine o_move rfl rfl ?_
 refine o_append e8_ok rfl rfl rfl Tryz.underlying34 (rds_c hs) (by show (_ + _) * 1 ≤ _; (try simp only [List.length_append, List.length_cons, List.length_nil]); omega) (by (try simp only [List.length_append, List.length_cons, List.length_nil]); omega) fun a8 c8 => ?_
 refine o_assign rfl rfl ?_
 refine l_nil ?_
 refine q_then ?_
 refine c_ret ?_
 exact f_ret (r_one rfl rfl) (⟨a8, c8, rfl, rfl⟩) (fun w S => S)
end
section
set_option linter.unusedVariables false
set_option linter.unusedSimpArgs false
set_option maxRecDepth 10000
open Go.RowKit Classical
theorem sign_ {W : World} {F : List Res} {n : Int} (hn : -9223372036854775808 ≤ n ∧ n ≤ 9223372036854775807) : CS Tryz.prog 51 #[.int .i64 n] W (F) (fun r L' => r = .int .u64 (zig n) ∧ F = L') := by
 refine f_door (l0 := [(0, .int .i64 n)]) Tryz.func51 Tryz.ntmps51 rfl rfl rfl ?_
 refine c_seq ?_
 refine c_region ?_
 refine o_assign rfl rfl ?_
 refine l_nil ?_
 refine q_then ?_
 refine c_seq ?_
 refine c_seq ?_
 refine c_region ?_
 refine o_move rfl rfl ?_
 refine o_bin rfl rfl rfl b_geq ?_
 refine l_nil ?_
 refine q_then ?_
 refine c_cond rfl (fun h1 => ?_) (fun h1 => ?_)
 · -- h1T
  have h1b := h1
  try simp only [decide_eq_true_eq] at h1
  refine c_seq ?_
  refine c_region ?_
  refine o_move rfl rfl ?_
  refine o_int rfl rfl Tryz.underlying2 Tryz.underlying22 (wrap_u64 (by omega) (by omega)) ?_
  refine o_bin rfl rfl rfl (b_mul (wrap_u64 (by omega) (by omega))) ?_
  refine o_assign rfl rfl ?_
  refine l_nil ?_
  refine q_then ?_
  refine c_ret ?_
  refine q_pass_ret ?_
  exact f_ret (r_one rfl rfl) (⟨by unfold zig; rw [if_pos (by omega)], rfl⟩) (fun w S => S)
 · -- h1F
  have h1b := h1
  try simp only [decide_eq_false_iff_not, Int.not_lt, Int.not_le] at h1
  refine c_skip ?_
  refine q_then ?_
  refine c_seq ?_
  refine c_region ?_
  refine o_move rfl rfl ?_
  refine o_bin rfl rfl rfl (b_sub (wrap_i64 (by omega) (by omega))) ?_
  refine o_int rfl rfl Tryz.underlying2 Tryz.underlying22 (wrap_u64 (by omega) (by omega)) ?_
  refine o_bin rfl rfl rfl (b_mul (wrap_u64 (by omega) (by omega))) ?_
  refine o_bin rfl rfl rfl (b_add (wrap_u64 (by omega) (by omega))) ?_
  refine o_assign rfl rfl ?_
  refine l_nil ?_
  refine q_then ?_
  refine c_ret ?_
  exact f_ret (r_one rfl rfl) (⟨by unfold zig; rw [if_neg (by omega)]; congr 1; omega, rfl⟩) (fun w S => S)
theorem rtexts9_ {W : World} {F : List Res} {ss : List ByteArray} {sa : Option Addr} {sc : Nat} (hs : RdS W F e_S sa ss) (hz : ∀ x ∈ ss, x.size ≤ 200) (hl : ss.length ≤ 100) : CS Tryz.prog 49 #[.slice sa ss.length sc] W (F) (fun r L' => ∃ (a' : Option Addr) (c' : Nat), r = .slice a' ((numB ss.length ++ textsB ss)).length c' ∧ L' = row e8.T e8.sz a' ((numB ss.length ++ textsB ss)).length c' (flat e8 (numB ss.length ++ textsB ss)) :: F) := by
 have hnl0 := nl_len (n := ss.length) (by omega)
 refine f_door (l0 := [(0, .slice sa ss.length sc)]) Tryz.func49 Tryz.ntmps49 rfl rfl rfl ?_
 refine c_seq ?_
 refine c_region ?_
 refine o_assign rfl rfl ?_
 refine l_nil ?_
 refine q_then ?_
 refine c_seq ?_
 refine c_region ?_
 refine o_move rfl rfl ?_
 refine o_len rfl rfl Tryz.underlying27 ?_
 refine o_int rfl rfl Tryz.underlying3 Tryz.underlying22 (wrap_u64 (by omega) (by omega)) ?_
 refine o_call rfl cal35 rfl (rNum (v := ss.length) (by omega)) ?_
 rintro _ _ ⟨a8, c8, rfl, rfl⟩
 refine o_assign rfl rfl ?_
 refine l_nil ?_
 refine q_then ?_
 refine c_seq ?_
 refine c_seq ?_
 refine c_region ?_
 refine o_assign rfl rfl ?_
 refine l_nil ?_
 refine q_then ?_
 refine c_block ?_
 refine c_loop (α := Nat × (List UInt8) × (Option Addr) × Nat) (fun z => [(0, .slice sa (ss).length sc), (3, .slice z.2.2.1 (z.2.1).length z.2.2.2), (4, .int .i64 (z.1 : Int))]) (fun z => row e8.T e8.sz z.2.2.1 (z.2.1).length z.2.2.2 (flat e8 z.2.1) :: F) (fun z => z.1 ≤ ss.length ∧ z.2.1 = numB ss.length ++ textsB (ss.take z.1)) (fun z => ss.length - z.1) (0, _, a8, c8) (by exact ⟨Nat.zero_le _, by simp [textsB]⟩) ⟨(by first | rfl | exact vint (by omega)), (by first | rfl | exact vint (by omega)), (by first | rfl | exact vint (by omega)), trivial⟩ (fun w S => S) ?_
 rintro ⟨i, zs, a9, c9⟩ ⟨hi, hzs⟩
 try dsimp only at *
 have hzl : zs.length ≤ 30000 := by rw [hzs, List.length_append]; have hnl := textsB_len (ss := ss.take i) fun x hx => hz x (List.mem_of_mem_take hx); have htl : (ss.take i).length ≤ 100 := (by rw [List.length_take]; omega); omega
 refine c_seq ?_
 refine c_seq ?_
 refine c_region ?_
 refine o_move rfl rfl ?_
 refine o_move rfl rfl ?_
 refine o_len rfl rfl Tryz.underlying27 ?_
 refine o_bin rfl rfl rfl b_lss ?_
 refine l_nil ?_
 refine q_then ?_
 refine c_cond rfl (fun h1 => ?_) (fun h1 => ?_)
 · -- h1T
  have h1b := h1
  try simp only [decide_eq_true_eq] at h1
  refine c_skip ?_
  refine q_then ?_
  refine c_seq ?_
  refine c_block ?_
  refine c_region ?_
  refine o_move rfl rfl ?_
  refine o_move rfl rfl ?_
  refine o_move rfl rfl ?_
  refine o_index e_S_ok rfl rfl rfl Tryz.underlying27 (by omega) (by omega) (rds_c hs) fun ad18 ead18 => ?_
  obtain ⟨x18, hx18⟩ : ∃ x, (ss)[((i : Int)).toNat]? = some x := ⟨_, List.getElem?_eq_getElem (by omega)⟩
  have hx18' := hz x18 (List.mem_of_getElem? hx18)
  have hnl := textsB_len (ss := ss.take i) fun x hx => hz x (List.mem_of_mem_take hx)
  have htl : (ss.take i).length ≤ 100 := by rw [List.length_take]; omega
  have htd : x18.data.toList.length ≤ 200 := by simp; omega
  have hnd := nl_len (n := x18.data.toList.length) (by omega)
  refine o_load1 rfl rfl Tryz.underlying9 rfl (rd_sl0 e_S_ok ead18 (rds_c hs) hx18 rfl) ?_
  refine o_strBytes (e := e8) rfl rfl rfl rfl Tryz.underlying9 Tryz.underlying34 Tryz.underlying5 fun a20 c20 hc20 => ?_
  refine o_call rfl cal50 rfl (rText (rds_mrow e8_ok 0 rfl) (by (try simp only [List.length_append, List.length_nil]); omega)) ?_
  rintro _ _ ⟨a21, c21, rfl, rfl⟩
  refine l_f2 ?_
  refine o_append e8_ok rfl rfl rfl Tryz.underlying34 (rds_own e8_ok 1 rfl) (by show (_ + _) * _ ≤ _; (try simp only [List.length_append, List.length_nil]); omega) (by (try simp only [List.length_append, List.length_nil]); omega) fun a22 c22 => ?_
  refine l_f1 ?_
  refine l_drop ?_
  refine o_assign rfl rfl ?_
  refine l_nil ?_
  refine q_block ?_
  refine q_then ?_
  refine c_region ?_
  refine o_move rfl rfl ?_
  refine o_bin rfl rfl rfl (b_add (wrap_i64 (by omega) (by omega))) ?_
  refine o_assign rfl rfl ?_
  refine l_nil ?_
  refine q_conv (fun w S => (S.perm p1).tail) ?_
  exact q_round (i + 1, zs ++ (numB (x18.data.toList).length ++ x18.data.toList), a22, c22) (by exact ⟨by omega, by rw [hzs]; unfold textsB; rw [fm_on hx18]; unfold strB; simp only [List.append_assoc]⟩) (by (try dsimp only); omega) ⟨(by first | rfl | exact vint (by omega)), (by first | rfl | exact vint (by omega)), (by first | rfl | exact vint (by omega)), trivial⟩ (fun w S => S)
 · -- h1F
  have h1b := h1
  try simp only [decide_eq_false_iff_not, Int.not_lt, Int.not_le] at h1
  have hfin : zs = numB ss.length ++ textsB ss := by rw [hzs, List.take_of_length_le (by omega)]
  refine c_exit ?_
  refine q_pass_exit ?_
  refine q_pass_exit ?_
  refine q_hit ?_
  refine q_then ?_
  refine c_seq ?_
  refine c_region ?_
  refine o_move rfl rfl ?_
  refine o_assign rfl rfl ?_
  refine l_nil ?_
  refine q_then ?_
  refine c_ret ?_
  exact f_ret (r_one rfl rfl) (⟨a9, c9, by rw [hfin], by rw [hfin]⟩) (fun w S => S)
end
section
set_option linter.unusedVariables false
set_option linter.unusedSimpArgs false
set_option maxRecDepth 10000
open Go.RowKit Classical
theorem nl_len0 {x : Int} (h : x < 18446744073709551616) : (numB x.toNat).length ≤ 10 := nB_len h
theorem ti101 : TI Tryz.prog 101 (.agg #[.int .u64 0, .int .u64 0, .int .u64 0, .int .u64 0, .int .u64 0, .int .u64 0]) 6 48 := by unfold TI; kernel_rfl
set_option maxHeartbeats 4000000 in
theorem rbytes_ {W : World} {F : List Res} {o : Order} (T_o : OrdR W F o) (hok : OrdOk o 3) (wf : OWf o) (sm : OSmall o) : CS Tryz.prog 26 #[.agg #[.int .i64 o.f_Tag_Id_Node, .int .u64 o.f_Tag_Id_Epoch, .int .u64 o.f_Tag_Id_Seq, .int .i64 o.f_Tag_Try, .int .i64 o.f_Txn_Kind, .slice o.f_Txn_Reads.a (o.f_Txn_Reads.xs).length o.f_Txn_Reads.c, .slice o.f_Txn_Writes.a (o.f_Txn_Writes.xs).length o.f_Txn_Writes.c, .slice o.f_Txn_Ops.a (o.f_Txn_Ops.xs).length o.f_Txn_Ops.c, .int .i64 o.f_Txn_To, .slice o.f_Marks.a (o.f_Marks.xs).length o.f_Marks.c]] W (F) (fun r L' => ∃ (a' : Option Addr) (c' : Nat), r = .slice a' ((ordB o)).length c' ∧ L' = row e8.T e8.sz a' ((ordB o)).length c' (flat e8 (ordB o)) :: F) := by
 have q1 := ok_hd hok wf o.f_Tag_Id_Node (by simp [headN])
 have q2 := ok_hd hok wf o.f_Tag_Try (by simp [headN])
 have q3 := ok_hd hok wf o.f_Txn_Kind (by simp [headN])
 have q4 := ok_hd hok wf o.f_Txn_To (by simp [headN])
 have hr := sm.r
 have hw := sm.w
 have hol := sm.ol
 have hml := sm.m
 have hb2 := textsB_len sm.tr
 have hb3 := textsB_len sm.tw
 have n1 := nl_len (n := o.f_Txn_Reads.xs.length) (by omega)
 have n2 := nl_len (n := o.f_Txn_Writes.xs.length) (by omega)
 have n3 := nl_len (n := o.f_Txn_Ops.xs.length) (by omega)
 have hb4 := ordB1_len hok wf sm
 have hb5 := opsB_len hok wf sm o.f_Txn_Ops.xs.length
 rw [List.take_length] at hb5
 refine f_door (l0 := [(0, .agg #[.int .i64 o.f_Tag_Id_Node, .int .u64 o.f_Tag_Id_Epoch, .int .u64 o.f_Tag_Id_Seq, .int .i64 o.f_Tag_Try, .int .i64 o.f_Txn_Kind, .slice o.f_Txn_Reads.a (o.f_Txn_Reads.xs).length o.f_Txn_Reads.c, .slice o.f_Txn_Writes.a (o.f_Txn_Writes.xs).length o.f_Txn_Writes.c, .slice o.f_Txn_Ops.a (o.f_Txn_Ops.xs).length o.f_Txn_Ops.c, .int .i64 o.f_Txn_To, .slice o.f_Marks.a (o.f_Marks.xs).length o.f_Marks.c])]) Tryz.func26 Tryz.ntmps26 rfl rfl rfl ?_
 refine c_seq ?_
 refine c_region ?_
 refine o_box rfl rfl fun b1 => ?_
 refine o_assign rfl rfl ?_
 refine l_nil ?_
 refine q_then ?_
 refine c_seq ?_
 refine c_region ?_
 refine o_lit e8_ok rfl Tryz.underlying34 rfl rfl rfl (lit_ok rfl) ([] : List UInt8) rfl rfl fun a9 => ?_
 refine o_assign rfl rfl ?_
 refine l_nil ?_
 refine q_then ?_
 refine c_seq ?_
 refine c_region ?_
 refine o_fieldAddr (q := ⟨b1, 0, none⟩) rfl rfl Tryz.underlying33 rfl ti26 rfl ?_
 refine o_fieldAddr (q := ⟨b1, 0, none⟩) rfl rfl Tryz.underlying26 rfl ti24 rfl ?_
 refine o_fieldAddr (q := ⟨b1, 0, none⟩) rfl rfl Tryz.underlying24 rfl ti3 rfl ?_
 refine o_load1 rfl rfl Tryz.underlying3 rfl (rd_mem 1 rfl rfl) ?_
 refine o_int rfl rfl Tryz.underlying3 Tryz.underlying22 (wrap_u64 (by omega) (by omega)) ?_
 refine o_fieldAddr (q := ⟨b1, 0, none⟩) rfl rfl Tryz.underlying33 rfl ti26 rfl ?_
 refine o_fieldAddr (q := ⟨b1, 0, none⟩) rfl rfl Tryz.underlying26 rfl ti24 rfl ?_
 refine o_fieldAddr (q := ⟨b1, 1, none⟩) rfl rfl Tryz.underlying24 rfl ti22 rfl ?_
 refine o_load1 rfl rfl Tryz.underlying22 rfl (rd_mem 1 rfl rfl) ?_
 refine o_fieldAddr (q := ⟨b1, 0, none⟩) rfl rfl Tryz.underlying33 rfl ti26 rfl ?_
 refine o_fieldAddr (q := ⟨b1, 0, none⟩) rfl rfl Tryz.underlying26 rfl ti24 rfl ?_
 refine o_fieldAddr (q := ⟨b1, 2, none⟩) rfl rfl Tryz.underlying24 rfl ti22 rfl ?_
 refine o_load1 rfl rfl Tryz.underlying22 rfl (rd_mem 1 rfl rfl) ?_
 refine o_fieldAddr (q := ⟨b1, 0, none⟩) rfl rfl Tryz.underlying33 rfl ti26 rfl ?_
 refine o_fieldAddr (q := ⟨b1, 3, none⟩) rfl rfl Tryz.underlying26 rfl ti3 rfl ?_
 refine o_load1 rfl rfl Tryz.underlying3 rfl (rd_mem 1 rfl rfl) ?_
 refine o_int rfl rfl Tryz.underlying3 Tryz.underlying22 (wrap_u64 (by omega) (by omega)) ?_
 refine o_fieldAddr (q := ⟨b1, 4, none⟩) rfl rfl Tryz.underlying33 rfl ti30 rfl ?_
 refine o_fieldAddr (q := ⟨b1, 4, none⟩) rfl rfl Tryz.underlying30 rfl ti3 rfl ?_
 refine o_load1 rfl rfl Tryz.underlying3 rfl (rd_mem 1 rfl rfl) ?_
 refine o_int rfl rfl Tryz.underlying3 Tryz.underlying22 (wrap_u64 (by omega) (by omega)) ?_
 refine o_fieldAddr (q := ⟨b1, 4, none⟩) rfl rfl Tryz.underlying33 rfl ti30 rfl ?_
 refine o_fieldAddr (q := ⟨b1, 8, none⟩) rfl rfl Tryz.underlying30 rfl ti3 rfl ?_
 refine o_load1 rfl rfl Tryz.underlying3 rfl (rd_mem 1 rfl rfl) ?_
 refine o_int rfl rfl Tryz.underlying3 Tryz.underlying22 (wrap_u64 (by omega) (by omega)) ?_
 refine o_buildArr rfl Tryz.underlying101 ti101 ti22 rfl ((fill_cons (cells' := [.int .u64 o.f_Tag_Id_Node, .int .u64 0, .int .u64 0, .int .u64 0, .int .u64 0, .int .u64 0]) rfl rfl rfl rfl (fill_cons (cells' := [.int .u64 o.f_Tag_Id_Node, .int .u64 o.f_Tag_Id_Epoch, .int .u64 0, .int .u64 0, .int .u64 0, .int .u64 0]) rfl rfl rfl rfl (fill_cons (cells' := [.int .u64 o.f_Tag_Id_Node, .int .u64 o.f_Tag_Id_Epoch, .int .u64 o.f_Tag_Id_Seq, .int .u64 0, .int .u64 0, .int .u64 0]) rfl rfl rfl rfl (fill_cons (cells' := [.int .u64 o.f_Tag_Id_Node, .int .u64 o.f_Tag_Id_Epoch, .int .u64 o.f_Tag_Id_Seq, .int .u64 o.f_Tag_Try, .int .u64 0, .int .u64 0]) rfl rfl rfl rfl (fill_cons (cells' := [.int .u64 o.f_Tag_Id_Node, .int .u64 o.f_Tag_Id_Epoch, .int .u64 o.f_Tag_Id_Seq, .int .u64 o.f_Tag_Try, .int .u64 o.f_Txn_Kind, .int .u64 0]) rfl rfl rfl rfl (fill_cons (cells' := [.int .u64 o.f_Tag_Id_Node, .int .u64 o.f_Tag_Id_Epoch, .int .u64 o.f_Tag_Id_Seq, .int .u64 o.f_Tag_Try, .int .u64 o.f_Txn_Kind, .int .u64 o.f_Txn_To]) rfl rfl rfl rfl fill_nil))))))) ?_
 refine o_alloc rfl ti101 fun b4 => ?_
 refine o_storen rfl rfl ti101 rfl rfl rfl rfl ?_
 refine l_nil ?_
 refine q_then ?_
 refine c_seq ?_
 refine c_seq ?_
 refine c_conv (L' := blk b4 (.cells (flat e_U64 (headN o)).toArray 101 (0, 0)) :: _) (fun w S => S) ?_
 refine c_region ?_
 refine o_assign rfl rfl ?_
 refine l_nil ?_
 refine q_then ?_
 refine c_block ?_
 refine c_loop (α := Nat × (List UInt8) × (Option Addr) × Nat) (fun z => [(1, .pointer (some ⟨b1, 0, none⟩)), (3, .slice z.2.2.1 (z.2.1).length z.2.2.2), (4, .pointer (some ⟨b4, 0, none⟩)), (5, .int .i64 (z.1 : Int))]) (fun z => blk b4 (.cells (flat e_U64 (headN o)).toArray 101 (0, 0)) :: row e8.T e8.sz z.2.2.1 (z.2.1).length z.2.2.2 (flat e8 z.2.1) :: blk b1 (.cells #[.int .i64 o.f_Tag_Id_Node, .int .u64 o.f_Tag_Id_Epoch, .int .u64 o.f_Tag_Id_Seq, .int .i64 o.f_Tag_Try, .int .i64 o.f_Txn_Kind, .slice o.f_Txn_Reads.a (o.f_Txn_Reads.xs).length o.f_Txn_Reads.c, .slice o.f_Txn_Writes.a (o.f_Txn_Writes.xs).length o.f_Txn_Writes.c, .slice o.f_Txn_Ops.a (o.f_Txn_Ops.xs).length o.f_Txn_Ops.c, .int .i64 o.f_Txn_To, .slice o.f_Marks.a (o.f_Marks.xs).length o.f_Marks.c] 33 (0, 0)) :: F) (fun z => z.1 ≤ 6 ∧ z.2.1 = numsB ((headN o).take z.1)) (fun z => 6 - z.1) (0, _, a9, 0) (by exact ⟨Nat.zero_le _, rfl⟩) ⟨(by first | rfl | exact vint (by omega)), (by first | rfl | exact vint (by omega)), (by first | rfl | exact vint (by omega)), (by first | rfl | exact vint (by omega)), trivial⟩ (fun w S => S) ?_
 rintro ⟨i, z1, az1, cz1⟩ ⟨hi, hz1⟩
 try dsimp only at *
 have hz1l : z1.length ≤ 60 := by rw [hz1]; have h9 := numsB_len (ns := (headN o).take i) fun x hx => (ok_hd hok wf x (List.mem_of_mem_take hx)).2; have h8 : ((headN o).take i).length ≤ 6 := (by rw [List.length_take]; show min i 6 ≤ 6; omega); omega
 refine c_seq ?_
 refine c_seq ?_
 refine c_region ?_
 refine o_move rfl rfl ?_
 refine o_bin rfl rfl rfl b_lss ?_
 refine l_nil ?_
 refine q_then ?_
 refine c_cond rfl (fun h1 => ?_) (fun h1 => ?_)
 · -- h1T
  have h1b := h1
  try simp only [decide_eq_true_eq] at h1
  refine c_skip ?_
  refine q_then ?_
  refine c_seq ?_
  refine c_block ?_
  refine c_region ?_
  refine o_move rfl rfl ?_
  refine o_move rfl rfl ?_
  refine o_indexArr rfl rfl rfl Tryz.underlying101 ti22 (by omega) (by omega) (Addr.add_mk _ _ _) ?_
  obtain ⟨x42, hx42⟩ : ∃ x, (headN o)[((i : Int)).toNat]? = some x := ⟨_, List.getElem?_eq_getElem (by have := (show (headN o).length = 6 from rfl); omega)⟩
  have hq42 := ok_hd hok wf x42 (List.mem_of_getElem? hx42)
  have hnk := nl_len0 hq42.2
  refine o_load1 rfl rfl Tryz.underlying22 rfl (rd_mem 0 rfl (sg_arr (sg_flat (s := 1) (o := 0) e_U64_ok rfl hx42 rfl (by omega)))) ?_
  refine l_eq (t := 43) (v' := .int .u64 (x42.toNat : Int)) rfl (by exact congrArg (Value.int .u64) (Int.toNat_of_nonneg hq42.1).symm) ?_
  refine o_call rfl cal35 rfl (rNum (v := x42.toNat) (by omega)) ?_
  rintro _ _ ⟨a44, c44, rfl, rfl⟩
  refine l_f2 ?_
  refine o_append e8_ok rfl rfl rfl Tryz.underlying34 (rds_own e8_ok 1 rfl) (by show (_ + _) * _ ≤ _; (try simp only [List.length_append, List.length_nil]); omega) (by (try simp only [List.length_append, List.length_nil]); omega) fun a45 c45 => ?_
  refine l_f1 ?_
  refine l_drop ?_
  refine o_assign rfl rfl ?_
  refine l_nil ?_
  refine q_block ?_
  refine q_then ?_
  refine c_region ?_
  refine o_move rfl rfl ?_
  refine o_bin rfl rfl rfl (b_add (wrap_i64 (by omega) (by omega))) ?_
  refine o_assign rfl rfl ?_
  refine l_nil ?_
  refine q_conv (fun w S => S.perm p2) ?_
  refine q_conv (fun w S => S.perm p1) ?_
  refine q_conv (fun w S => S.perm p2) ?_
  exact q_round (i + 1, z1 ++ (numB x42.toNat), a45, c45) (by exact ⟨by omega, by rw [hz1]; unfold numsB; rw [fm_on hx42]; rfl⟩) (by (try dsimp only); omega) ⟨(by first | rfl | exact vint (by omega)), (by first | rfl | exact vint (by omega)), (by first | rfl | exact vint (by omega)), (by first | rfl | exact vint (by omega)), trivial⟩ (fun w S => S)
 · -- h1F
  have h1b := h1
  try simp only [decide_eq_false_iff_not, Int.not_lt, Int.not_le] at h1
  have hz1 : z1 = numsB (headN o) := by rw [hz1, List.take_of_length_le (by show 6 ≤ i; omega)]
  have hz1l : z1.length ≤ 60 := by rw [hz1]; exact numsB_len (ns := headN o) fun x hx => (ok_hd hok wf x hx).2
  refine c_exit ?_
  refine q_pass_exit ?_
  refine q_pass_exit ?_
  refine q_hit ?_
  refine q_then ?_
  refine c_seq ?_
  refine c_region ?_
  refine o_move rfl rfl ?_
  refine o_fieldAddr (q := ⟨b1, 4, none⟩) rfl rfl Tryz.underlying33 rfl ti30 rfl ?_
  refine o_fieldAddr (q := ⟨b1, 5, none⟩) rfl rfl Tryz.underlying30 rfl ti27 rfl ?_
  refine o_load1 rfl rfl Tryz.underlying27 rfl (rd_mem 2 rfl rfl) ?_
  refine o_call rfl cal49 rfl (rtexts9_ (ss := o.f_Txn_Reads.xs) (OrdR.c (OrdR.c (OrdR.c T_o))).rr sm.tr (by omega)) ?_
  rintro _ _ ⟨a50, c50, rfl, rfl⟩
  refine l_f2 ?_
  refine o_append e8_ok rfl rfl rfl Tryz.underlying34 (rds_own e8_ok 1 rfl) (by show (_ + _) * _ ≤ _; (try simp only [List.length_append, List.length_nil]); omega) (by (try simp only [List.length_append, List.length_nil]); omega) fun a51 c51 => ?_
  refine l_f1 ?_
  refine l_drop ?_
  refine o_assign rfl rfl ?_
  refine l_nil ?_
  refine q_then ?_
  refine c_seq ?_
  refine c_region ?_
  refine o_move rfl rfl ?_
  refine o_fieldAddr (q := ⟨b1, 4, none⟩) rfl rfl Tryz.underlying33 rfl ti30 rfl ?_
  refine o_fieldAddr (q := ⟨b1, 6, none⟩) rfl rfl Tryz.underlying30 rfl ti27 rfl ?_
  refine o_load1 rfl rfl Tryz.underlying27 rfl (rd_mem 2 rfl rfl) ?_
  refine o_call rfl cal49 rfl (rtexts9_ (ss := o.f_Txn_Writes.xs) (OrdR.c (OrdR.c (OrdR.c T_o))).rw sm.tw (by omega)) ?_
  rintro _ _ ⟨a56, c56, rfl, rfl⟩
  refine l_f1 ?_
  refine o_append e8_ok rfl rfl rfl Tryz.underlying34 (rds_own e8_ok 1 rfl) (by show (_ + _) * _ ≤ _; (try simp only [List.length_append, List.length_nil]); omega) (by (try simp only [List.length_append, List.length_nil]); omega) fun a57 c57 => ?_
  refine l_f1 ?_
  refine l_drop ?_
  refine o_assign rfl rfl ?_
  refine l_nil ?_
  refine q_then ?_
  refine c_seq ?_
  refine c_region ?_
  refine o_move rfl rfl ?_
  refine o_fieldAddr (q := ⟨b1, 4, none⟩) rfl rfl Tryz.underlying33 rfl ti30 rfl ?_
  refine o_fieldAddr (q := ⟨b1, 7, none⟩) rfl rfl Tryz.underlying30 rfl ti28 rfl ?_
  refine o_load1 rfl rfl Tryz.underlying28 rfl (rd_mem 2 rfl rfl) ?_
  refine o_len rfl rfl Tryz.underlying28 ?_
  refine o_int rfl rfl Tryz.underlying3 Tryz.underlying22 (wrap_u64 (by omega) (by omega)) ?_
  refine o_call rfl cal35 rfl (rNum (v := o.f_Txn_Ops.xs.length) (by omega)) ?_
  rintro _ _ ⟨a64, c64, rfl, rfl⟩
  refine l_f1 ?_
  refine o_append e8_ok rfl rfl rfl Tryz.underlying34 (rds_own e8_ok 1 rfl) (by show (_ + _) * _ ≤ _; (try simp only [List.length_append, List.length_nil]); omega) (by (try simp only [List.length_append, List.length_nil]); omega) fun a65 c65 => ?_
  refine l_f1 ?_
  refine l_drop ?_
  refine o_assign rfl rfl ?_
  refine l_nil ?_
  refine q_then ?_
  refine c_seq ?_
  refine c_seq ?_
  refine c_region ?_
  refine o_assign rfl rfl ?_
  refine l_nil ?_
  refine q_then ?_
  refine c_block ?_
  refine c_loop (α := Nat × (List UInt8) × (Option Addr) × Nat) (fun z => [(1, .pointer (some ⟨b1, 0, none⟩)), (3, .slice z.2.2.1 (z.2.1).length z.2.2.2), (6, .int .i64 (z.1 : Int))]) (fun z => row e8.T e8.sz z.2.2.1 (z.2.1).length z.2.2.2 (flat e8 z.2.1) :: blk b4 (.cells (flat e_U64 (headN o)).toArray 101 (0, 0)) :: blk b1 (.cells #[.int .i64 o.f_Tag_Id_Node, .int .u64 o.f_Tag_Id_Epoch, .int .u64 o.f_Tag_Id_Seq, .int .i64 o.f_Tag_Try, .int .i64 o.f_Txn_Kind, .slice o.f_Txn_Reads.a (o.f_Txn_Reads.xs).length o.f_Txn_Reads.c, .slice o.f_Txn_Writes.a (o.f_Txn_Writes.xs).length o.f_Txn_Writes.c, .slice o.f_Txn_Ops.a (o.f_Txn_Ops.xs).length o.f_Txn_Ops.c, .int .i64 o.f_Txn_To, .slice o.f_Marks.a (o.f_Marks.xs).length o.f_Marks.c] 33 (0, 0)) :: F) (fun z => z.1 ≤ o.f_Txn_Ops.xs.length ∧ z.2.1 = ordB1 o ++ opsB (o.f_Txn_Ops.xs.take z.1)) (fun z => o.f_Txn_Ops.xs.length - z.1) (0, _, a65, c65) (by exact ⟨Nat.zero_le _, by rw [hz1]; simp [ordB1, opsB]⟩) ⟨(by first | rfl | exact vint (by omega)), (by first | rfl | exact vint (by omega)), (by first | rfl | exact vint (by omega)), trivial⟩ (fun w S => S) ?_
  rintro ⟨k, z2, az2, cz2⟩ ⟨hk, hz2⟩
  try dsimp only at *
  have hz2l : z2.length ≤ 50000 := by rw [hz2, List.length_append]; have h9 := opsB_len hok wf sm k; omega
  refine c_seq ?_
  refine c_seq ?_
  refine c_region ?_
  refine o_move rfl rfl ?_
  refine o_fieldAddr (q := ⟨b1, 4, none⟩) rfl rfl Tryz.underlying33 rfl ti30 rfl ?_
  refine o_fieldAddr (q := ⟨b1, 7, none⟩) rfl rfl Tryz.underlying30 rfl ti28 rfl ?_
  refine o_load1 rfl rfl Tryz.underlying28 rfl (rd_mem 2 rfl rfl) ?_
  refine o_len rfl rfl Tryz.underlying28 ?_
  refine o_bin rfl rfl rfl b_lss ?_
  refine l_nil ?_
  refine q_then ?_
  refine c_cond rfl (fun h2 => ?_) (fun h2 => ?_)
  · -- h2T
   have h2b := h2
   try simp only [decide_eq_true_eq] at h2
   refine c_skip ?_
   refine q_then ?_
   refine c_seq ?_
   refine c_block ?_
   refine c_seq ?_
   refine c_region ?_
   refine o_fieldAddr (q := ⟨b1, 4, none⟩) rfl rfl Tryz.underlying33 rfl ti30 rfl ?_
   refine o_fieldAddr (q := ⟨b1, 7, none⟩) rfl rfl Tryz.underlying30 rfl ti28 rfl ?_
   refine o_load1 rfl rfl Tryz.underlying28 rfl (rd_mem 2 rfl rfl) ?_
   refine o_move rfl rfl ?_
   refine o_index e_Op_ok rfl rfl rfl Tryz.underlying28 (by omega) (by omega) (OrdR.c (OrdR.c (OrdR.c T_o))).ro fun ad78 ead78 => ?_
   obtain ⟨x78, hx78⟩ : ∃ x, (o.f_Txn_Ops.xs)[((k : Int)).toNat]? = some x := ⟨_, List.getElem?_eq_getElem (by omega)⟩
   have hk78 := ok_op hok x78 (List.mem_of_getElem? hx78)
   have hs78 := sm.os x78 (List.mem_of_getElem? hx78)
   have hw78 := wf.op x78 (List.mem_of_getElem? hx78)
   have hol9 := opsB_len hok wf sm k
   have htd : x78.f_Key.data.toList.length ≤ 200 := by simp; omega
   have hnd := nl_len (n := x78.f_Key.data.toList.length) (by omega)
   have hnv := nl_len (n := x78.f_Value.xs.length) (by omega)
   have hnk := nl_len (n := x78.f_Kind.toNat) (by omega)
   have hnz := nl_len0 (zig_0 hw78).2
   refine o_loadn (vs := e_Op.cells x78) rfl rfl Tryz.underlying92 rfl ti92 (rdn_sl e_Op_ok ead78 (OrdR.c (OrdR.c (OrdR.c T_o))).ro hx78) ?_
   refine o_alloc rfl ti92 fun b7 => ?_
   refine o_storen rfl rfl ti92 rfl rfl rfl rfl ?_
   refine l_nil ?_
   refine q_then ?_
   refine c_seq ?_
   refine c_region ?_
   refine o_move rfl rfl ?_
   refine o_fieldAddr (q := ⟨b7, 0, none⟩) rfl rfl Tryz.underlying92 rfl ti3 rfl ?_
   refine o_load1 rfl rfl Tryz.underlying3 rfl (rd_mem 0 rfl rfl) ?_
   refine o_int rfl rfl Tryz.underlying3 Tryz.underlying22 (wu64 (by omega) (by omega)) ?_
   refine o_call rfl cal35 rfl (rNum (v := x78.f_Kind.toNat) (by omega)) ?_
   rintro _ _ ⟨a84, c84, rfl, rfl⟩
   refine l_f2 ?_
   refine o_append e8_ok rfl rfl rfl Tryz.underlying34 (rds_own e8_ok 1 rfl) (by show (_ + _) * _ ≤ _; (try simp only [List.length_append, List.length_nil]); omega) (by (try simp only [List.length_append, List.length_nil]); omega) fun a85 c85 => ?_
   refine l_f1 ?_
   refine l_drop ?_
   refine o_assign rfl rfl ?_
   refine l_nil ?_
   refine q_then ?_
   refine c_seq ?_
   refine c_region ?_
   refine o_move rfl rfl ?_
   refine o_fieldAddr (q := ⟨b7, 1, none⟩) rfl rfl Tryz.underlying92 rfl ti9 rfl ?_
   refine o_load1 rfl rfl Tryz.underlying9 rfl (rd_mem 1 rfl rfl) ?_
   refine o_strBytes (e := e8) rfl rfl rfl rfl Tryz.underlying9 Tryz.underlying34 Tryz.underlying5 fun a89 c89 hc89 => ?_
   refine o_call rfl cal50 rfl (rText (rds_mrow e8_ok 0 rfl) (by (try simp only [List.length_append, List.length_nil]); omega)) ?_
   rintro _ _ ⟨a90, c90, rfl, rfl⟩
   refine l_f2 ?_
   refine o_append e8_ok rfl rfl rfl Tryz.underlying34 (rds_own e8_ok 1 rfl) (by show (_ + _) * _ ≤ _; (try simp only [List.length_append, List.length_nil]); omega) (by (try simp only [List.length_append, List.length_nil]); omega) fun a91 c91 => ?_
   refine l_f1 ?_
   refine l_drop ?_
   refine o_assign rfl rfl ?_
   refine l_nil ?_
   refine q_then ?_
   refine c_seq ?_
   refine c_region ?_
   refine o_move rfl rfl ?_
   refine o_fieldAddr (q := ⟨b7, 2, none⟩) rfl rfl Tryz.underlying92 rfl ti34 rfl ?_
   refine o_load1 rfl rfl Tryz.underlying34 rfl (rd_mem 2 rfl rfl) ?_
   refine o_call rfl cal50 rfl (rText ((OrdR.c (OrdR.c (OrdR.c (OrdR.c (OrdR.c T_o))))).rv x78 (List.mem_of_getElem? hx78)) (by (try simp only [List.length_append, List.length_nil]); omega)) ?_
   rintro _ _ ⟨a95, c95, rfl, rfl⟩
   refine l_f1 ?_
   refine o_append e8_ok rfl rfl rfl Tryz.underlying34 (rds_own e8_ok 1 rfl) (by show (_ + _) * _ ≤ _; (try simp only [List.length_append, List.length_nil]); omega) (by (try simp only [List.length_append, List.length_nil]); omega) fun a96 c96 => ?_
   refine l_f1 ?_
   refine l_drop ?_
   refine o_assign rfl rfl ?_
   refine l_nil ?_
   refine q_then ?_
   refine c_region ?_
   refine o_move rfl rfl ?_
   refine o_fieldAddr (q := ⟨b7, 3, none⟩) rfl rfl Tryz.underlying92 rfl ti2 rfl ?_
   refine o_load1 rfl rfl Tryz.underlying2 rfl (rd_mem 2 rfl rfl) ?_
   refine o_call rfl cal51 rfl (sign_ (n := x78.f_N) hw78) ?_
   rintro _ _ ⟨rfl, rfl⟩
   refine l_eq (t := 100) (v' := .int .u64 ((zig x78.f_N).toNat : Int)) rfl (by exact congrArg (Value.int .u64) (Int.toNat_of_nonneg (zig_0 hw78).1).symm) ?_
   refine o_call rfl cal35 rfl (rNum (v := (zig x78.f_N).toNat) (by have := (zig_0 hw78).2; omega)) ?_
   rintro _ _ ⟨a101, c101, rfl, rfl⟩
   refine l_f1 ?_
   refine o_append e8_ok rfl rfl rfl Tryz.underlying34 (rds_own e8_ok 1 rfl) (by show (_ + _) * _ ≤ _; (try simp only [List.length_append, List.length_nil]); omega) (by (try simp only [List.length_append, List.length_nil]); omega) fun a102 c102 => ?_
   refine l_f1 ?_
   refine l_drop ?_
   refine o_assign rfl rfl ?_
   refine l_nil ?_
   refine q_block ?_
   refine q_then ?_
   refine c_region ?_
   refine o_move rfl rfl ?_
   refine o_bin rfl rfl rfl (b_add (wrap_i64 (by omega) (by omega))) ?_
   refine o_assign rfl rfl ?_
   refine l_nil ?_
   refine q_conv (fun w S => (S.perm p1).tail) ?_
   refine q_conv (fun w S => (S.perm p1).tail) ?_
   exact q_round (k + 1, z2 ++ (numB x78.f_Kind.toNat) ++ (numB (x78.f_Key.data.toList).length ++ x78.f_Key.data.toList) ++ (numB (x78.f_Value.xs).length ++ x78.f_Value.xs) ++ (numB ((zig x78.f_N).toNat)), a102, c102) (by exact ⟨by omega, by rw [hz2]; unfold opsB; rw [fm_on hx78]; unfold opB strB nB; simp only [List.append_assoc]⟩) (by (try dsimp only); omega) ⟨(by first | rfl | exact vint (by omega)), (by first | rfl | exact vint (by omega)), (by first | rfl | exact vint (by omega)), trivial⟩ (fun w S => S)
  · -- h2F
   have h2b := h2
   try simp only [decide_eq_false_iff_not, Int.not_lt, Int.not_le] at h2
   refine c_exit ?_
   refine q_pass_exit ?_
   refine q_pass_exit ?_
   refine q_hit ?_
   refine q_then ?_
   refine c_seq ?_
   refine c_seq ?_
   refine c_region ?_
   refine o_assign rfl rfl ?_
   refine l_nil ?_
   refine q_then ?_
   refine c_block ?_
   refine c_loop (α := Nat × (List UInt8) × (Option Addr) × Nat) (fun z => [(1, .pointer (some ⟨b1, 0, none⟩)), (3, .slice z.2.2.1 (z.2.1).length z.2.2.2), (8, .int .i64 (z.1 : Int))]) (fun z => row e8.T e8.sz z.2.2.1 (z.2.1).length z.2.2.2 (flat e8 z.2.1) :: blk b4 (.cells (flat e_U64 (headN o)).toArray 101 (0, 0)) :: blk b1 (.cells #[.int .i64 o.f_Tag_Id_Node, .int .u64 o.f_Tag_Id_Epoch, .int .u64 o.f_Tag_Id_Seq, .int .i64 o.f_Tag_Try, .int .i64 o.f_Txn_Kind, .slice o.f_Txn_Reads.a (o.f_Txn_Reads.xs).length o.f_Txn_Reads.c, .slice o.f_Txn_Writes.a (o.f_Txn_Writes.xs).length o.f_Txn_Writes.c, .slice o.f_Txn_Ops.a (o.f_Txn_Ops.xs).length o.f_Txn_Ops.c, .int .i64 o.f_Txn_To, .slice o.f_Marks.a (o.f_Marks.xs).length o.f_Marks.c] 33 (0, 0)) :: F) (fun z => z.1 ≤ o.f_Marks.xs.length ∧ z.2.1 = ordB1 o ++ opsB o.f_Txn_Ops.xs ++ mksB (o.f_Marks.xs.take z.1)) (fun z => o.f_Marks.xs.length - z.1) (0, _, az2, cz2) (by exact ⟨Nat.zero_le _, by rw [hz2, List.take_of_length_le (by omega)]; simp [mksB]⟩) ⟨(by first | rfl | exact vint (by omega)), (by first | rfl | exact vint (by omega)), (by first | rfl | exact vint (by omega)), trivial⟩ (fun w S => S) ?_
   rintro ⟨j, z3, az3, cz3⟩ ⟨hj, hz3⟩
   try dsimp only at *
   have hz3l : z3.length ≤ 50000 := by rw [hz3, List.length_append, List.length_append]; have h9 := mksB_len hok wf sm j; omega
   refine c_seq ?_
   refine c_seq ?_
   refine c_region ?_
   refine o_move rfl rfl ?_
   refine o_fieldAddr (q := ⟨b1, 9, none⟩) rfl rfl Tryz.underlying33 rfl ti31 rfl ?_
   refine o_load1 rfl rfl Tryz.underlying31 rfl (rd_mem 2 rfl rfl) ?_
   refine o_len rfl rfl Tryz.underlying31 ?_
   refine o_bin rfl rfl rfl b_lss ?_
   refine l_nil ?_
   refine q_then ?_
   refine c_cond rfl (fun h3 => ?_) (fun h3 => ?_)
   · -- h3T
    have h3b := h3
    try simp only [decide_eq_true_eq] at h3
    refine c_skip ?_
    refine q_then ?_
    refine c_seq ?_
    refine c_block ?_
    refine c_seq ?_
    refine c_region ?_
    refine o_move rfl rfl ?_
    refine o_fieldAddr (q := ⟨b1, 9, none⟩) rfl rfl Tryz.underlying33 rfl ti31 rfl ?_
    refine o_load1 rfl rfl Tryz.underlying31 rfl (rd_mem 2 rfl rfl) ?_
    refine o_move rfl rfl ?_
    refine o_index e_Mark_ok rfl rfl rfl Tryz.underlying31 (by omega) (by omega) (OrdR.c (OrdR.c (OrdR.c T_o))).rm fun ad114 ead114 => ?_
    obtain ⟨x114, hx114⟩ : ∃ x, (o.f_Marks.xs)[((j : Int)).toNat]? = some x := ⟨_, List.getElem?_eq_getElem (by omega)⟩
    have hh114 := ok_mk' hok x114 (List.mem_of_getElem? hx114)
    have hc114 := wf.mc x114 (List.mem_of_getElem? hx114)
    have hnh := nl_len (n := x114.f_Home.toNat) (by omega)
    have hnc := nl_len0 hc114.2
    refine o_fieldAddr rfl rfl Tryz.underlying60 rfl ti3 (Addr.add_add' _ _ _) ?_
    refine o_load1 rfl rfl Tryz.underlying3 rfl (rd_sl e_Mark_ok ead114 (OrdR.c (OrdR.c (OrdR.c T_o))).rm hx114 rfl) ?_
    refine o_int rfl rfl Tryz.underlying3 Tryz.underlying22 (wu64 (by omega) (by omega)) ?_
    refine o_call rfl cal35 rfl (rNum (v := x114.f_Home.toNat) (by omega)) ?_
    rintro _ _ ⟨a118, c118, rfl, rfl⟩
    refine l_f1 ?_
    refine o_append e8_ok rfl rfl rfl Tryz.underlying34 (rds_own e8_ok 1 rfl) (by show (_ + _) * _ ≤ _; (try simp only [List.length_append, List.length_nil]); omega) (by (try simp only [List.length_append, List.length_nil]); omega) fun a119 c119 => ?_
    refine l_f1 ?_
    refine l_drop ?_
    refine o_assign rfl rfl ?_
    refine l_nil ?_
    refine q_then ?_
    refine c_region ?_
    refine o_move rfl rfl ?_
    refine o_fieldAddr (q := ⟨b1, 9, none⟩) rfl rfl Tryz.underlying33 rfl ti31 rfl ?_
    refine o_load1 rfl rfl Tryz.underlying31 rfl (rd_mem 2 rfl rfl) ?_
    refine o_move rfl rfl ?_
    refine o_indexK e_Mark_ok ead114 rfl rfl rfl Tryz.underlying31 (by omega) (by omega) ?_
    obtain ⟨x124, hx124⟩ : ∃ x, (o.f_Marks.xs)[((j : Int)).toNat]? = some x := ⟨_, List.getElem?_eq_getElem (by omega)⟩
    have e124 : x124 = x114 := by rw [hx114] at hx124; exact (Option.some.inj hx124).symm
    have hc124 := hc114
    rw [← e124] at hc124
    have hnc2 := nl_len0 hc124.2
    refine o_fieldAddr rfl rfl Tryz.underlying60 rfl ti22 (Addr.add_add' _ _ _) ?_
    refine o_load1 rfl rfl Tryz.underlying22 rfl (rd_sl e_Mark_ok ead114 (OrdR.c (OrdR.c (OrdR.c T_o))).rm hx124 rfl) ?_
    refine l_eq (t := 126) (v' := .int .u64 (x124.f_Count.toNat : Int)) rfl (by exact congrArg (Value.int .u64) (Int.toNat_of_nonneg hc124.1).symm) ?_
    refine o_call rfl cal35 rfl (rNum (v := x124.f_Count.toNat) (by omega)) ?_
    rintro _ _ ⟨a127, c127, rfl, rfl⟩
    refine l_f1 ?_
    refine o_append e8_ok rfl rfl rfl Tryz.underlying34 (rds_own e8_ok 1 rfl) (by show (_ + _) * _ ≤ _; (try simp only [List.length_append, List.length_nil]); omega) (by (try simp only [List.length_append, List.length_nil]); omega) fun a128 c128 => ?_
    refine l_f1 ?_
    refine l_drop ?_
    refine o_assign rfl rfl ?_
    refine l_nil ?_
    refine q_block ?_
    refine q_then ?_
    refine c_region ?_
    refine o_move rfl rfl ?_
    refine o_bin rfl rfl rfl (b_add (wrap_i64 (by omega) (by omega))) ?_
    refine o_assign rfl rfl ?_
    refine l_nil ?_
    exact q_round (j + 1, z3 ++ (numB x114.f_Home.toNat) ++ (numB x124.f_Count.toNat), a128, c128) (by exact ⟨by omega, by rw [hz3]; unfold mksB; rw [fm_on hx114]; unfold mkB nB; rw [e124]; simp only [List.append_assoc]⟩) (by (try dsimp only); omega) ⟨(by first | rfl | exact vint (by omega)), (by first | rfl | exact vint (by omega)), (by first | rfl | exact vint (by omega)), trivial⟩ (fun w S => S)
   · -- h3F
    have h3b := h3
    try simp only [decide_eq_false_iff_not, Int.not_lt, Int.not_le] at h3
    have hfin : z3 = ordB o := by rw [hz3, List.take_of_length_le (by omega)]; rfl
    refine c_exit ?_
    refine q_pass_exit ?_
    refine q_pass_exit ?_
    refine q_hit ?_
    refine q_then ?_
    refine c_seq ?_
    refine c_region ?_
    refine o_move rfl rfl ?_
    refine o_assign rfl rfl ?_
    refine l_nil ?_
    refine q_then ?_
    refine c_ret ?_
    refine q_conv (fun w S => (S.perm p1).tail) ?_
    refine q_conv (fun w S => (S.perm p1).tail) ?_
    exact f_ret (r_one rfl rfl) (⟨az3, cz3, by rw [hfin], by rw [hfin]⟩) (fun w S => S)
end
end Go.Proofs.YtlblipkcbmcfkaaGreat
