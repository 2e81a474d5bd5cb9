/- Printed by eng2.py out of 09a/spec.py. -/
import Derived.Test.YtlblipkcbmcfkaaSpeaks
import Derived.Test.YtlblipkcbmcfkaaArgs
import Derived.Test.YtlblipkcbmcfkaaOWrite
import Derived.Test.YtlblipkcbmcfkaaOSame
import Derived.Test.YtlblipkcbmcfkaaOGreat
import Derived.Test.YtlblipkcbmcfkaaOCopyR
import Derived.Test.YtlblipkcbmcfkaaOCopyP
set_option linter.unusedVariables false
set_option linter.unusedSimpArgs false
set_option maxRecDepth 10000
namespace Go.Proofs.Ytlblipkcbmcfkaa
open Go.RowKit Classical
abbrev qzApart1 (c23 : Order) : Obj := .cells #[.int .i64 c23.f_Tag_Id_Node, .int .u64 c23.f_Tag_Id_Epoch, .int .u64 c23.f_Tag_Id_Seq, .int .i64 c23.f_Tag_Try, .int .i64 c23.f_Txn_Kind, .slice c23.f_Txn_Reads.a (c23.f_Txn_Reads.xs).length c23.f_Txn_Reads.c, .slice c23.f_Txn_Writes.a (c23.f_Txn_Writes.xs).length c23.f_Txn_Writes.c, .slice c23.f_Txn_Ops.a (c23.f_Txn_Ops.xs).length c23.f_Txn_Ops.c, .int .i64 c23.f_Txn_To, .slice c23.f_Marks.a (c23.f_Marks.xs).length c23.f_Marks.c] 33 (0, 0)
abbrev qzApart2 (b : Order) : Obj := .cells #[.int .i64 b.f_Tag_Id_Node, .int .u64 b.f_Tag_Id_Epoch, .int .u64 b.f_Tag_Id_Seq, .int .i64 b.f_Tag_Try, .int .i64 b.f_Txn_Kind, .slice b.f_Txn_Reads.a (b.f_Txn_Reads.xs).length b.f_Txn_Reads.c, .slice b.f_Txn_Writes.a (b.f_Txn_Writes.xs).length b.f_Txn_Writes.c, .slice b.f_Txn_Ops.a (b.f_Txn_Ops.xs).length b.f_Txn_Ops.c, .int .i64 b.f_Txn_To, .slice b.f_Marks.a (b.f_Marks.xs).length b.f_Marks.c] 33 (0, 0)
abbrev qzApart3 (a : Order) : Obj := .cells #[.int .i64 a.f_Tag_Id_Node, .int .u64 a.f_Tag_Id_Epoch, .int .u64 a.f_Tag_Id_Seq, .int .i64 a.f_Tag_Try, .int .i64 a.f_Txn_Kind, .slice a.f_Txn_Reads.a (a.f_Txn_Reads.xs).length a.f_Txn_Reads.c, .slice a.f_Txn_Writes.a (a.f_Txn_Writes.xs).length a.f_Txn_Writes.c, .slice a.f_Txn_Ops.a (a.f_Txn_Ops.xs).length a.f_Txn_Ops.c, .int .i64 a.f_Txn_To, .slice a.f_Marks.a (a.f_Marks.xs).length a.f_Marks.c] 33 (0, 0)
theorem owf_mk {W : World} {o : Order} (h1 : (Lit.int .u64 o.f_Tag_Id_Epoch).wf = true) (h2 : (Lit.int .u64 o.f_Tag_Id_Seq).wf = true) (h3 : ∀ x ∈ o.f_Txn_Ops.xs, G_Op W x) (h4 : ∀ x ∈ o.f_Marks.xs, G_Mark W x) : OWf o where
  ep := by obtain ⟨m, e, _⟩ := wf_u64 h1; omega
  sq := by obtain ⟨m, e, _⟩ := wf_u64 h2; omega
  mc := fun m hm => by obtain ⟨m, e, _⟩ := wf_u64 (h4 m hm).2.2; omega
  op := fun x hx => by have := wf_i64 (h3 x hx).2.2.2; omega
theorem owfO {W : World} {x : Order} (g : G_Order W x) : OWf x := owf_mk g.2.1 g.2.2.1 g.2.2.2.2.2.2.2.1.all g.2.2.2.2.2.2.2.2.2.all
theorem bbeq {p q : Prop} {i : Decidable p} {j : Decidable q} (h : p ↔ q) : (@decide p i == @decide q j) = true := by
  by_cases hp : p
  · rw [decide_eq_true hp, decide_eq_true (h.1 hp)]; rfl
  · rw [decide_eq_false hp, decide_eq_false (fun hq => hp (h.2 hq))]; rfl
theorem apartO {a b : Order} (ha : chkO a 3 = 0) (hb : chkO b 3 = 0) (wa : OWf a) (wb : OWf b) : bts (wrO a) = bts (wrO b) ↔ SameO a b := by
  have h1 := chkO_0.1 ha; have h2 := chkO_0.1 hb
  rw [bts_eq, wrO, wrO, if_pos h1, if_pos h2]
  exact ordB_iff h1 h2 wa wb
set_option maxHeartbeats 4000000 in
theorem apartL_ {W : World} {F : List Res} {a b : Order} (T_a : OrdR W F a) (T_b : OrdR W F b) (w_a : OWf a) (w_b : OWf b) : CS Try.prog 5 #[.agg #[.int .i64 a.f_Tag_Id_Node, .int .u64 a.f_Tag_Id_Epoch, .int .u64 a.f_Tag_Id_Seq, .int .i64 a.f_Tag_Try, .int .i64 a.f_Txn_Kind, .slice a.f_Txn_Reads.a (a.f_Txn_Reads.xs).length a.f_Txn_Reads.c, .slice a.f_Txn_Writes.a (a.f_Txn_Writes.xs).length a.f_Txn_Writes.c, .slice a.f_Txn_Ops.a (a.f_Txn_Ops.xs).length a.f_Txn_Ops.c, .int .i64 a.f_Txn_To, .slice a.f_Marks.a (a.f_Marks.xs).length a.f_Marks.c], .agg #[.int .i64 b.f_Tag_Id_Node, .int .u64 b.f_Tag_Id_Epoch, .int .u64 b.f_Tag_Id_Seq, .int .i64 b.f_Tag_Try, .int .i64 b.f_Txn_Kind, .slice b.f_Txn_Reads.a (b.f_Txn_Reads.xs).length b.f_Txn_Reads.c, .slice b.f_Txn_Writes.a (b.f_Txn_Writes.xs).length b.f_Txn_Writes.c, .slice b.f_Txn_Ops.a (b.f_Txn_Ops.xs).length b.f_Txn_Ops.c, .int .i64 b.f_Txn_To, .slice b.f_Marks.a (b.f_Marks.xs).length b.f_Marks.c]] W (F) (fun r L' => r = .bool true ∧ F = L') := by
 refine f_door (l0 := [(0, .agg #[.int .i64 a.f_Tag_Id_Node, .int .u64 a.f_Tag_Id_Epoch, .int .u64 a.f_Tag_Id_Seq, .int .i64 a.f_Tag_Try, .int .i64 a.f_Txn_Kind, .slice a.f_Txn_Reads.a (a.f_Txn_Reads.xs).length a.f_Txn_Reads.c, .slice a.f_Txn_Writes.a (a.f_Txn_Writes.xs).length a.f_Txn_Writes.c, .slice a.f_Txn_Ops.a (a.f_Txn_Ops.xs).length a.f_Txn_Ops.c, .int .i64 a.f_Txn_To, .slice a.f_Marks.a (a.f_Marks.xs).length a.f_Marks.c]), (1, .agg #[.int .i64 b.f_Tag_Id_Node, .int .u64 b.f_Tag_Id_Epoch, .int .u64 b.f_Tag_Id_Seq, .int .i64 b.f_Tag_Try, .int .i64 b.f_Txn_Kind, .slice b.f_Txn_Reads.a (b.f_Txn_Reads.xs).length b.f_Txn_Reads.c, .slice b.f_Txn_Writes.a (b.f_Txn_Writes.xs).length b.f_Txn_Writes.c, .slice b.f_Txn_Ops.a (b.f_Txn_Ops.xs).length b.f_Txn_Ops.c, .int .i64 b.f_Txn_To, .slice b.f_Marks.a (b.f_Marks.xs).length b.f_Marks.c])]) Try.func5 Try.ntmps5 rfl rfl rfl ?_
 refine c_seq ?_
 refine c_region ?_
 refine o_box rfl rfl fun b2 => ?_
 refine o_box rfl rfl fun b3 => ?_
 refine o_assign rfl rfl ?_
 refine l_nil ?_
 refine q_then ?_
 refine c_seq ?_
 refine c_seq ?_
 refine c_region ?_
 refine o_call rfl cal7 rfl (speaks_) ?_
 rintro _ _ ⟨rfl, rfl⟩
 refine o_not rfl rfl ?_
 refine l_nil ?_
 refine q_then ?_
 refine c_false rfl ?_
 refine c_skip ?_
 refine q_then ?_
 refine c_seq ?_
 refine c_seq ?_
 refine c_region ?_
 refine o_loadn (vs := [_, _, _, _, _, _, _, _, _, _]) rfl rfl Try.underlying33 rfl ti33 (rdn_lit 1 rfl rfl) ?_
 refine o_call rfl cal8 rfl (rgreat_ (o := a) (OrdR.c (OrdR.c T_a))) ?_
 rintro _ _ ⟨g17, hg17, rfl, rfl⟩
 refine o_move rfl rfl ?_
 refine l_split (t := 18) rfl (fun h1 => ?_) (fun h1 => ?_)
 · -- h1T
  have h1b := h1
  try simp only [decide_eq_true_eq, decide_eq_false_iff_not, Bool.not_eq_eq_eq_not, Bool.not_true, Bool.not_false, Bool.not_eq_true', Bool.not_eq_false', Int.not_lt, Int.not_le, Bool.or_eq_true, Bool.and_eq_true] at h1
  refine o_no rfl rfl rfl rfl ?_
  refine o_no rfl rfl rfl rfl ?_
  refine o_pick_true rfl rfl rfl ?_
  refine l_nil ?_
  refine q_then ?_
  refine c_true rfl ?_
  refine c_seq ?_
  refine c_region ?_
  refine o_assign rfl rfl ?_
  refine l_nil ?_
  refine q_then ?_
  refine c_ret ?_
  refine q_pass_ret ?_
  refine q_conv (fun w S => S.tail) ?_
  refine q_conv (fun w S => S.tail) ?_
  exact f_ret (r_one rfl rfl) (⟨rfl, rfl⟩) (fun w S => S)
 · -- h1F
  have h1b := h1
  try simp only [decide_eq_true_eq, decide_eq_false_iff_not, Bool.not_eq_eq_eq_not, Bool.not_true, Bool.not_false, Bool.not_eq_true', Bool.not_eq_false', Int.not_lt, Int.not_le, Bool.or_eq_true, Bool.and_eq_true] at h1
  refine o_yes rfl rfl rfl ?_
  refine o_loadn (vs := [_, _, _, _, _, _, _, _, _, _]) rfl rfl Try.underlying33 rfl ti33 (rdn_lit 0 rfl rfl) ?_
  refine o_yes rfl rfl rfl ?_
  refine o_call rfl cal8 rfl (rgreat_ (o := b) (OrdR.c (OrdR.c T_b))) ?_
  rintro _ _ ⟨g20, hg20, rfl, rfl⟩
  refine o_pick_false rfl rfl rfl ?_
  refine l_nil ?_
  refine q_then ?_
  refine c_cond rfl (fun h2 => ?_) (fun h2 => ?_)
  · -- h2T
   have h2b := h2
   try simp only [decide_eq_true_eq, decide_eq_false_iff_not, Bool.not_eq_eq_eq_not, Bool.not_true, Bool.not_false, Bool.not_eq_true', Bool.not_eq_false', Int.not_lt, Int.not_le, Bool.or_eq_true, Bool.and_eq_true] at h2
   refine c_seq ?_
   refine c_region ?_
   refine o_assign rfl rfl ?_
   refine l_nil ?_
   refine q_then ?_
   refine c_ret ?_
   refine q_pass_ret ?_
   refine q_conv (fun w S => S.tail) ?_
   refine q_conv (fun w S => S.tail) ?_
   exact f_ret (r_one rfl rfl) (⟨rfl, rfl⟩) (fun w S => S)
  · -- h2F
   have h2b := h2
   try simp only [decide_eq_true_eq, decide_eq_false_iff_not, Bool.not_eq_eq_eq_not, Bool.not_true, Bool.not_false, Bool.not_eq_true', Bool.not_eq_false', Int.not_lt, Int.not_le, Bool.or_eq_true, Bool.and_eq_true] at h2
   refine c_skip ?_
   refine q_then ?_
   refine c_seq ?_
   refine c_region ?_
   refine o_loadn (vs := [_, _, _, _, _, _, _, _, _, _]) rfl rfl Try.underlying33 rfl ti33 (rdn_lit 1 rfl rfl) ?_
   refine o_call rfl cal9 rfl (rocopy_ (o := a) (OrdR.c (OrdR.c T_a)) (hg17 (by assumption))) ?_
   rintro _ _ ⟨c23, hs_c23, rfl, rfl⟩
   have L_c23 : OrdLen c23 := OrdLen.same T_a.len hs_c23
   refine o_alloc rfl ti33 fun b5 => ?_
   refine o_storen rfl rfl ti33 rfl rfl rfl rfl ?_
   refine l_nil ?_
   refine q_then ?_
   refine c_seq ?_
   refine c_region ?_
   refine o_loadn (vs := [_, _, _, _, _, _, _, _, _, _]) rfl rfl Try.underlying33 rfl ti33 (rdn_lit 0 rfl rfl) ?_
   refine o_call rfl cal20 rfl (ocopy_ (o := c23) (ordM_R L_c23 1 rfl) (OSmall.same (hg17 (by assumption)) hs_c23)) ?_
   rintro _ _ ⟨c25, hs_c25, rfl, rfl⟩
   have L_c25 : OrdLen c25 := OrdLen.same (ordM_0 (L := []) L_c23 : OrdR W [ordM c23] c23).len hs_c25
   refine o_alloc rfl ti33 fun b6 => ?_
   refine o_storen rfl rfl ti33 rfl rfl rfl rfl ?_
   refine l_nil ?_
   refine q_then ?_
   refine c_seq ?_
   refine c_seq ?_
   refine c_region ?_
   refine o_loadn (vs := [_, _, _, _, _, _, _, _, _, _]) rfl rfl Try.underlying33 rfl ti33 (rdn_lit 0 rfl rfl) ?_
   refine o_loadn (vs := [_, _, _, _, _, _, _, _, _, _]) rfl rfl Try.underlying33 rfl ti33 (rdn_lit 5 rfl rfl) ?_
   refine o_call rfl cal16 rfl (same9_ (a := c25) (b := a) (ordM_R L_c25 1 rfl) (OrdR.c (OrdR.c (OrdR.c (OrdR.c (OrdR.c (OrdR.c T_a))))))) ?_
   rintro _ _ ⟨rfl, rfl⟩
   refine l_eq (t := 28) (v' := .bool true) rfl (show _ = Value.bool true from by rw [decide_eq_true (sameO_trans hs_c25 hs_c23)]) ?_
   refine o_not rfl rfl ?_
   refine l_nil ?_
   refine q_then ?_
   refine c_false rfl ?_
   refine c_skip ?_
   refine q_then ?_
   refine c_seq ?_
   refine c_seq ?_
   have hsm2 : OSmall c25 := (OSmall.same (hg17 (by assumption)) (sameO_trans hs_c25 hs_c23))
   have hml := hsm2.m
   have hol := hsm2.ol
   refine c_conv (fun w S => S.perm p1) ?_
   refine c_conv (L' := txM c25.txn :: row e_Mark.T e_Mark.sz c25.f_Marks.a (c25.f_Marks.xs).length c25.f_Marks.c (flat e_Mark c25.f_Marks.xs) :: blk b6 (.cells #[.int .i64 c25.f_Tag_Id_Node, .int .u64 c25.f_Tag_Id_Epoch, .int .u64 c25.f_Tag_Id_Seq, .int .i64 c25.f_Tag_Try, .int .i64 c25.f_Txn_Kind, .slice c25.f_Txn_Reads.a (c25.f_Txn_Reads.xs).length c25.f_Txn_Reads.c, .slice c25.f_Txn_Writes.a (c25.f_Txn_Writes.xs).length c25.f_Txn_Writes.c, .slice c25.f_Txn_Ops.a (c25.f_Txn_Ops.xs).length c25.f_Txn_Ops.c, .int .i64 c25.f_Txn_To, .slice c25.f_Marks.a (c25.f_Marks.xs).length c25.f_Marks.c] 33 (0, 0)) :: blk b5 (qzApart1 c23) :: ordM c23 :: blk b3 (qzApart2 b) :: blk b2 (qzApart3 a) :: F) (fun w S => Sat.flat (Ls := [txM c25.txn, vrow e_Mark c25.f_Marks]) S) ?_
   refine c_conv (L' := row e_S.T e_S.sz c25.f_Txn_Reads.a (c25.f_Txn_Reads.xs).length c25.f_Txn_Reads.c (flat e_S c25.f_Txn_Reads.xs) :: row e_S.T e_S.sz c25.f_Txn_Writes.a (c25.f_Txn_Writes.xs).length c25.f_Txn_Writes.c (flat e_S c25.f_Txn_Writes.xs) :: row e_Op.T e_Op.sz c25.f_Txn_Ops.a (c25.f_Txn_Ops.xs).length c25.f_Txn_Ops.c (flat e_Op c25.f_Txn_Ops.xs) :: stars (((c25.f_Txn_Ops.xs.drop 0).map Op.f_Value).map (vrow e8)) :: row e_Mark.T e_Mark.sz c25.f_Marks.a (c25.f_Marks.xs).length c25.f_Marks.c (flat e_Mark c25.f_Marks.xs) :: blk b6 (.cells #[.int .i64 c25.f_Tag_Id_Node, .int .u64 c25.f_Tag_Id_Epoch, .int .u64 c25.f_Tag_Id_Seq, .int .i64 c25.f_Tag_Try, .int .i64 c25.f_Txn_Kind, .slice c25.f_Txn_Reads.a (c25.f_Txn_Reads.xs).length c25.f_Txn_Reads.c, .slice c25.f_Txn_Writes.a (c25.f_Txn_Writes.xs).length c25.f_Txn_Writes.c, .slice c25.f_Txn_Ops.a (c25.f_Txn_Ops.xs).length c25.f_Txn_Ops.c, .int .i64 c25.f_Txn_To, .slice c25.f_Marks.a (c25.f_Marks.xs).length c25.f_Marks.c] 33 (0, 0)) :: blk b5 (qzApart1 c23) :: ordM c23 :: blk b3 (qzApart2 b) :: blk b2 (qzApart3 a) :: F) (fun w S => Sat.flat (Ls := txL c25.txn) S) ?_
   refine c_region ?_
   refine o_fieldAddr (q := ⟨b6, 9, none⟩) rfl rfl Try.underlying33 rfl ti31 rfl ?_
   refine o_load1 rfl rfl Try.underlying31 rfl (rd_mem 5 rfl rfl) ?_
   refine o_len rfl rfl Try.underlying31 ?_
   refine o_move rfl rfl ?_
   refine l_nil ?_
   refine q_then ?_
   refine c_block ?_
   refine c_loop (α := Nat × (List Mark)) (fun z => [(2, .pointer (some ⟨b2, 0, none⟩)), (3, .pointer (some ⟨b3, 0, none⟩)), (5, .pointer (some ⟨b5, 0, none⟩)), (6, .pointer (some ⟨b6, 0, none⟩)), (32, .int .i64 ((c25.f_Marks.xs).length : Int)), (33, .int .i64 (z.1 : Int))]) (fun z => row e_S.T e_S.sz c25.f_Txn_Reads.a (c25.f_Txn_Reads.xs).length c25.f_Txn_Reads.c (flat e_S c25.f_Txn_Reads.xs) :: row e_S.T e_S.sz c25.f_Txn_Writes.a (c25.f_Txn_Writes.xs).length c25.f_Txn_Writes.c (flat e_S c25.f_Txn_Writes.xs) :: row e_Op.T e_Op.sz c25.f_Txn_Ops.a (c25.f_Txn_Ops.xs).length c25.f_Txn_Ops.c (flat e_Op c25.f_Txn_Ops.xs) :: stars (((c25.f_Txn_Ops.xs.drop 0).map Op.f_Value).map (vrow e8)) :: row e_Mark.T e_Mark.sz c25.f_Marks.a (z.2).length c25.f_Marks.c (flat e_Mark z.2) :: blk b6 (.cells #[.int .i64 c25.f_Tag_Id_Node, .int .u64 c25.f_Tag_Id_Epoch, .int .u64 c25.f_Tag_Id_Seq, .int .i64 c25.f_Tag_Try, .int .i64 c25.f_Txn_Kind, .slice c25.f_Txn_Reads.a (c25.f_Txn_Reads.xs).length c25.f_Txn_Reads.c, .slice c25.f_Txn_Writes.a (c25.f_Txn_Writes.xs).length c25.f_Txn_Writes.c, .slice c25.f_Txn_Ops.a (c25.f_Txn_Ops.xs).length c25.f_Txn_Ops.c, .int .i64 c25.f_Txn_To, .slice c25.f_Marks.a (z.2).length c25.f_Marks.c] 33 (0, 0)) :: blk b5 (qzApart1 c23) :: ordM c23 :: blk b3 (qzApart2 b) :: blk b2 (qzApart3 a) :: F) (fun z => z.1 ≤ c25.f_Marks.xs.length ∧ z.2.length = c25.f_Marks.xs.length) (fun z => c25.f_Marks.xs.length - z.1) (0, c25.f_Marks.xs) (by exact ⟨Nat.zero_le _, rfl⟩) ⟨(by first | rfl | exact vint (by omega)), (by first | rfl | exact vint (by omega)), (by first | rfl | exact vint (by omega)), (by first | rfl | exact vint (by omega)), (by first | rfl | exact vint (by omega)), (by first | rfl | exact vint (by omega)), trivial⟩ (fun w S => S) ?_
   rintro ⟨i, ms⟩ ⟨hi, hml2⟩
   try dsimp only at *
   refine c_seq ?_
   refine c_region ?_
   refine o_bin rfl rfl rfl b_lss ?_
   refine l_nil ?_
   refine q_then ?_
   refine c_seq ?_
   refine c_cond rfl (fun h3 => ?_) (fun h3 => ?_)
   · -- h3T
    have h3b := h3
    try simp only [decide_eq_true_eq] at h3
    refine c_skip ?_
    refine q_then ?_
    refine c_seq ?_
    refine c_block ?_
    refine c_seq ?_
    refine c_region ?_
    refine o_move rfl rfl ?_
    refine o_assign rfl rfl ?_
    refine l_nil ?_
    refine q_then ?_
    refine c_region ?_
    refine o_fieldAddr (q := ⟨b6, 9, none⟩) rfl rfl Try.underlying33 rfl ti31 rfl ?_
    refine o_load1 rfl rfl Try.underlying31 rfl (rd_mem 5 rfl rfl) ?_
    refine o_move rfl rfl ?_
    refine o_build rfl sp51 ti51 rfl rfl ?_
    refine o_index e_Mark_ok rfl rfl rfl Try.underlying31 (by omega) (by omega) (rds_own e_Mark_ok 4 rfl) fun ad40 ead40 => ?_
    obtain ⟨x40, hx40⟩ : ∃ x, (ms)[((i : Int)).toNat]? = some x := ⟨_, List.getElem?_eq_getElem (by omega)⟩
    refine l_f4 ?_
    refine o_storeRowAll e_Mark_ok ead40 rfl rfl ti51 ⟨ByteArray.empty, 0, 0⟩ rfl (by have := List.getElem?_eq_some_iff.1 hx40; exact this.1) ?_
    refine l_f5 ?_
    refine l_conv (L' := blk b6 (.cells #[.int .i64 c25.f_Tag_Id_Node, .int .u64 c25.f_Tag_Id_Epoch, .int .u64 c25.f_Tag_Id_Seq, .int .i64 c25.f_Tag_Try, .int .i64 c25.f_Txn_Kind, .slice c25.f_Txn_Reads.a (c25.f_Txn_Reads.xs).length c25.f_Txn_Reads.c, .slice c25.f_Txn_Writes.a (c25.f_Txn_Writes.xs).length c25.f_Txn_Writes.c, .slice c25.f_Txn_Ops.a (c25.f_Txn_Ops.xs).length c25.f_Txn_Ops.c, .int .i64 c25.f_Txn_To, .slice c25.f_Marks.a (ms).length c25.f_Marks.c] 33 (0, 0)) :: _) (fun w S => S) ?_
    refine l_conv (L' := blk b6 (.cells #[.int .i64 c25.f_Tag_Id_Node, .int .u64 c25.f_Tag_Id_Epoch, .int .u64 c25.f_Tag_Id_Seq, .int .i64 c25.f_Tag_Try, .int .i64 c25.f_Txn_Kind, .slice c25.f_Txn_Reads.a (c25.f_Txn_Reads.xs).length c25.f_Txn_Reads.c, .slice c25.f_Txn_Writes.a (c25.f_Txn_Writes.xs).length c25.f_Txn_Writes.c, .slice c25.f_Txn_Ops.a (c25.f_Txn_Ops.xs).length c25.f_Txn_Ops.c, .int .i64 c25.f_Txn_To, .slice c25.f_Marks.a ((ms).set ((i : Int)).toNat ⟨ByteArray.empty, 0, 0⟩).length c25.f_Marks.c] 33 (0, 0)) :: row e_Mark.T e_Mark.sz c25.f_Marks.a ((ms).set ((i : Int)).toNat ⟨ByteArray.empty, 0, 0⟩).length c25.f_Marks.c (flat e_Mark ((ms).set ((i : Int)).toNat ⟨ByteArray.empty, 0, 0⟩)) :: row e_S.T e_S.sz c25.f_Txn_Reads.a (c25.f_Txn_Reads.xs).length c25.f_Txn_Reads.c (flat e_S c25.f_Txn_Reads.xs) :: row e_S.T e_S.sz c25.f_Txn_Writes.a (c25.f_Txn_Writes.xs).length c25.f_Txn_Writes.c (flat e_S c25.f_Txn_Writes.xs) :: row e_Op.T e_Op.sz c25.f_Txn_Ops.a (c25.f_Txn_Ops.xs).length c25.f_Txn_Ops.c (flat e_Op c25.f_Txn_Ops.xs) :: stars (((c25.f_Txn_Ops.xs.drop 0).map Op.f_Value).map (vrow e8)) :: blk b5 (qzApart1 c23) :: ordM c23 :: blk b3 (qzApart2 b) :: blk b2 (qzApart3 a) :: F) (fun w S => by first | exact S | simpa only [List.length_set] using S | (simp only [List.length_set] at S ⊢; exact S)) ?_
    refine l_nil ?_
    refine q_block ?_
    refine q_then ?_
    refine c_region ?_
    refine o_bin rfl rfl rfl (b_add (wrap_i64 (by omega) (by omega))) ?_
    refine o_move rfl rfl ?_
    refine l_nil ?_
    refine q_conv (fun w S => S.perm p9) ?_
    refine q_conv (fun w S => S.perm p9) ?_
    refine q_conv (fun w S => S.perm p9) ?_
    refine q_conv (fun w S => S.perm p9) ?_
    refine q_conv (fun w S => S.perm p4) ?_
    refine q_conv (fun w S => S.perm p5) ?_
    refine q_conv (fun w S => S.perm p9) ?_
    refine q_conv (fun w S => S.perm p9) ?_
    refine q_conv (fun w S => S.perm p9) ?_
    refine q_conv (fun w S => S.perm p9) ?_
    exact q_round (i + 1, ms.set ((i : Int)).toNat ⟨ByteArray.empty, 0, 0⟩) (by exact ⟨by omega, by rw [List.length_set]; exact hml2⟩) (by (try dsimp only); omega) ⟨(by first | rfl | exact vint (by omega)), (by first | rfl | exact vint (by omega)), (by first | rfl | exact vint (by omega)), (by first | rfl | exact vint (by omega)), (by first | rfl | exact vint (by omega)), (by first | rfl | exact vint (by omega)), trivial⟩ (fun w S => S)
   · -- h3F
    have h3b := h3
    try simp only [decide_eq_false_iff_not, Int.not_lt, Int.not_le] at h3
    refine c_exit ?_
    refine q_pass_exit ?_
    refine q_pass_exit ?_
    refine q_hit ?_
    refine q_then ?_
    refine c_seq ?_
    refine c_seq ?_
    refine c_region ?_
    refine o_fieldAddr (q := ⟨b6, 4, none⟩) rfl rfl Try.underlying33 rfl ti30 rfl ?_
    refine o_fieldAddr (q := ⟨b6, 7, none⟩) rfl rfl Try.underlying30 rfl ti28 rfl ?_
    refine o_load1 rfl rfl Try.underlying28 rfl (rd_mem 5 rfl rfl) ?_
    refine o_len rfl rfl Try.underlying28 ?_
    refine o_move rfl rfl ?_
    refine l_nil ?_
    refine q_then ?_
    refine c_block ?_
    refine c_loop (α := Nat) (fun z => [(2, .pointer (some ⟨b2, 0, none⟩)), (3, .pointer (some ⟨b3, 0, none⟩)), (5, .pointer (some ⟨b5, 0, none⟩)), (6, .pointer (some ⟨b6, 0, none⟩)), (45, .int .i64 ((c25.f_Txn_Ops.xs).length : Int)), (46, .int .i64 (z : Int))]) (fun z => row e_S.T e_S.sz c25.f_Txn_Reads.a (c25.f_Txn_Reads.xs).length c25.f_Txn_Reads.c (flat e_S c25.f_Txn_Reads.xs) :: row e_S.T e_S.sz c25.f_Txn_Writes.a (c25.f_Txn_Writes.xs).length c25.f_Txn_Writes.c (flat e_S c25.f_Txn_Writes.xs) :: row e_Op.T e_Op.sz c25.f_Txn_Ops.a (c25.f_Txn_Ops.xs).length c25.f_Txn_Ops.c (flat e_Op c25.f_Txn_Ops.xs) :: stars (((c25.f_Txn_Ops.xs.drop z).map Op.f_Value).map (vrow e8)) :: row e_Mark.T e_Mark.sz c25.f_Marks.a (ms).length c25.f_Marks.c (flat e_Mark ms) :: blk b6 (.cells #[.int .i64 c25.f_Tag_Id_Node, .int .u64 c25.f_Tag_Id_Epoch, .int .u64 c25.f_Tag_Id_Seq, .int .i64 c25.f_Tag_Try, .int .i64 c25.f_Txn_Kind, .slice c25.f_Txn_Reads.a (c25.f_Txn_Reads.xs).length c25.f_Txn_Reads.c, .slice c25.f_Txn_Writes.a (c25.f_Txn_Writes.xs).length c25.f_Txn_Writes.c, .slice c25.f_Txn_Ops.a (c25.f_Txn_Ops.xs).length c25.f_Txn_Ops.c, .int .i64 c25.f_Txn_To, .slice c25.f_Marks.a (ms).length c25.f_Marks.c] 33 (0, 0)) :: blk b5 (qzApart1 c23) :: ordM c23 :: blk b3 (qzApart2 b) :: blk b2 (qzApart3 a) :: F) (fun z => z ≤ c25.f_Txn_Ops.xs.length) (fun z => c25.f_Txn_Ops.xs.length - z) (0) (by exact Nat.zero_le _) ⟨(by first | rfl | exact vint (by omega)), (by first | rfl | exact vint (by omega)), (by first | rfl | exact vint (by omega)), (by first | rfl | exact vint (by omega)), (by first | rfl | exact vint (by omega)), (by first | rfl | exact vint (by omega)), trivial⟩ (fun w S => S) ?_
    rintro i hi2
    try dsimp only at *
    refine c_seq ?_
    refine c_region ?_
    refine o_bin rfl rfl rfl b_lss ?_
    refine l_nil ?_
    refine q_then ?_
    refine c_seq ?_
    refine c_cond rfl (fun h4 => ?_) (fun h4 => ?_)
    · -- h4T
     have h4b := h4
     try simp only [decide_eq_true_eq] at h4
     refine c_skip ?_
     refine q_then ?_
     refine c_seq ?_
     refine c_block ?_
     refine c_seq ?_
     refine c_region ?_
     refine o_move rfl rfl ?_
     refine o_assign rfl rfl ?_
     refine l_nil ?_
     refine q_then ?_
     refine c_seq ?_
     obtain ⟨xo, hxo⟩ : ∃ x, c25.f_Txn_Ops.xs[i]? = some x := ⟨_, List.getElem?_eq_getElem (by omega)⟩
     have hvs := (hsm2.os xo (List.mem_of_getElem? hxo)).2
     refine c_conv (fun w S => S.perm p3) ?_
     refine c_conv (L' := row e8.T e8.sz xo.f_Value.a (xo.f_Value.xs).length xo.f_Value.c (flat e8 xo.f_Value.xs) :: stars (((c25.f_Txn_Ops.xs.drop (i + 1)).map Op.f_Value).map (vrow e8)) :: _) (fun w S => vals_head hxo S) ?_
     refine c_region ?_
     refine o_fieldAddr (q := ⟨b6, 4, none⟩) rfl rfl Try.underlying33 rfl ti30 rfl ?_
     refine o_fieldAddr (q := ⟨b6, 7, none⟩) rfl rfl Try.underlying30 rfl ti28 rfl ?_
     refine o_load1 rfl rfl Try.underlying28 rfl (rd_mem 6 rfl rfl) ?_
     refine o_move rfl rfl ?_
     refine o_index e_Op_ok rfl rfl rfl Try.underlying28 (by omega) (by omega) (rds_own e_Op_ok 4 rfl) fun ad53 ead53 => ?_
     obtain ⟨x53, hx53⟩ : ∃ x, (c25.f_Txn_Ops.xs)[((i : Int)).toNat]? = some x := ⟨_, List.getElem?_eq_getElem (by omega)⟩
     refine o_fieldAddr rfl rfl Try.underlying53 rfl ti45 (Addr.add_add' _ _ _) ?_
     refine o_load1 rfl rfl Try.underlying45 rfl (rd_sl e_Op_ok ead53 (rds_own e_Op_ok 4 rfl) hx53 rfl) ?_
     have ex53 : x53 = xo := by rw [show c25.f_Txn_Ops.xs[i]? = some x53 from hx53] at hxo; exact Option.some.inj hxo
     refine l_eq (t := 55) (v' := .slice xo.f_Value.a (xo.f_Value.xs).length xo.f_Value.c) rfl (by rw [ex53]; rfl) ?_
     refine o_len rfl rfl Try.underlying45 ?_
     refine o_move rfl rfl ?_
     refine l_nil ?_
     refine q_then ?_
     refine c_block ?_
     refine c_loop (α := Nat × (List UInt8)) (fun z => [(2, .pointer (some ⟨b2, 0, none⟩)), (3, .pointer (some ⟨b3, 0, none⟩)), (5, .pointer (some ⟨b5, 0, none⟩)), (6, .pointer (some ⟨b6, 0, none⟩)), (8, .int .i64 (i : Int)), (45, .int .i64 ((c25.f_Txn_Ops.xs).length : Int)), (46, .int .i64 (i : Int)), (56, .int .i64 ((xo.f_Value.xs).length : Int)), (57, .int .i64 (z.1 : Int))]) (fun z => row e8.T e8.sz xo.f_Value.a (z.2).length xo.f_Value.c (flat e8 z.2) :: stars (((c25.f_Txn_Ops.xs.drop (i + 1)).map Op.f_Value).map (vrow e8)) :: row e_S.T e_S.sz c25.f_Txn_Reads.a (c25.f_Txn_Reads.xs).length c25.f_Txn_Reads.c (flat e_S c25.f_Txn_Reads.xs) :: row e_S.T e_S.sz c25.f_Txn_Writes.a (c25.f_Txn_Writes.xs).length c25.f_Txn_Writes.c (flat e_S c25.f_Txn_Writes.xs) :: row e_Op.T e_Op.sz c25.f_Txn_Ops.a (c25.f_Txn_Ops.xs).length c25.f_Txn_Ops.c (flat e_Op c25.f_Txn_Ops.xs) :: row e_Mark.T e_Mark.sz c25.f_Marks.a (ms).length c25.f_Marks.c (flat e_Mark ms) :: blk b6 (.cells #[.int .i64 c25.f_Tag_Id_Node, .int .u64 c25.f_Tag_Id_Epoch, .int .u64 c25.f_Tag_Id_Seq, .int .i64 c25.f_Tag_Try, .int .i64 c25.f_Txn_Kind, .slice c25.f_Txn_Reads.a (c25.f_Txn_Reads.xs).length c25.f_Txn_Reads.c, .slice c25.f_Txn_Writes.a (c25.f_Txn_Writes.xs).length c25.f_Txn_Writes.c, .slice c25.f_Txn_Ops.a (c25.f_Txn_Ops.xs).length c25.f_Txn_Ops.c, .int .i64 c25.f_Txn_To, .slice c25.f_Marks.a (ms).length c25.f_Marks.c] 33 (0, 0)) :: blk b5 (qzApart1 c23) :: ordM c23 :: blk b3 (qzApart2 b) :: blk b2 (qzApart3 a) :: F) (fun z => z.1 ≤ xo.f_Value.xs.length ∧ z.2.length = xo.f_Value.xs.length) (fun z => xo.f_Value.xs.length - z.1) (0, xo.f_Value.xs) (by exact ⟨Nat.zero_le _, rfl⟩) ⟨(by first | rfl | exact vint (by omega)), (by first | rfl | exact vint (by omega)), (by first | rfl | exact vint (by omega)), (by first | rfl | exact vint (by omega)), (by first | rfl | exact vint (by omega)), (by first | rfl | exact vint (by omega)), (by first | rfl | exact vint (by omega)), (by first | rfl | exact vint (by omega)), (by first | rfl | exact vint (by omega)), trivial⟩ (fun w S => S) ?_
     rintro ⟨j, vs⟩ ⟨hj, hvl⟩
     try dsimp only at *
     refine c_seq ?_
     refine c_region ?_
     refine o_bin rfl rfl rfl b_lss ?_
     refine l_nil ?_
     refine q_then ?_
     refine c_seq ?_
     refine c_cond rfl (fun h5 => ?_) (fun h5 => ?_)
     · -- h5T
      have h5b := h5
      try simp only [decide_eq_true_eq] at h5
      refine c_skip ?_
      refine q_then ?_
      refine c_seq ?_
      refine c_block ?_
      refine c_seq ?_
      refine c_region ?_
      refine o_move rfl rfl ?_
      refine o_assign rfl rfl ?_
      refine l_nil ?_
      refine q_then ?_
      refine c_region ?_
      refine o_fieldAddr (q := ⟨b6, 4, none⟩) rfl rfl Try.underlying33 rfl ti30 rfl ?_
      refine o_fieldAddr (q := ⟨b6, 7, none⟩) rfl rfl Try.underlying30 rfl ti28 rfl ?_
      refine o_load1 rfl rfl Try.underlying28 rfl (rd_mem 6 rfl rfl) ?_
      refine o_move rfl rfl ?_
      refine o_index e_Op_ok rfl rfl rfl Try.underlying28 (by omega) (by omega) (rds_own e_Op_ok 4 rfl) fun ad64 ead64 => ?_
      obtain ⟨x64, hx64⟩ : ∃ x, (c25.f_Txn_Ops.xs)[((i : Int)).toNat]? = some x := ⟨_, List.getElem?_eq_getElem (by omega)⟩
      refine o_fieldAddr rfl rfl Try.underlying53 rfl ti45 (Addr.add_add' _ _ _) ?_
      refine o_load1 rfl rfl Try.underlying45 rfl (rd_sl e_Op_ok ead64 (rds_own e_Op_ok 4 rfl) hx64 rfl) ?_
      have ex64 : x64 = xo := by rw [show c25.f_Txn_Ops.xs[i]? = some x64 from hx64] at hxo; exact Option.some.inj hxo
      refine l_eq (t := 66) (v' := .slice xo.f_Value.a (vs).length xo.f_Value.c) rfl (by rw [ex64, hvl]; rfl) ?_
      refine o_move rfl rfl ?_
      refine o_index e8_ok rfl rfl rfl Try.underlying45 (by omega) (by omega) (rds_own e8_ok 0 rfl) fun ad68 ead68 => ?_
      obtain ⟨x68, hx68⟩ : ∃ x, (vs)[((j : Int)).toNat]? = some x := ⟨_, List.getElem?_eq_getElem (by omega)⟩
      refine o_storeRow0 (x1 := (238 : UInt8)) e8_ok ead68 rfl rfl rfl ti5 hx68 rfl ?_
      refine l_nil ?_
      refine q_block ?_
      refine q_then ?_
      refine c_region ?_
      refine o_bin rfl rfl rfl (b_add (wrap_i64 (by omega) (by omega))) ?_
      refine o_move rfl rfl ?_
      refine l_nil ?_
      exact q_round (j + 1, vs.set ((j : Int)).toNat 238) (by exact ⟨by omega, by rw [List.length_set]; exact hvl⟩) (by (try dsimp only); omega) ⟨(by first | rfl | exact vint (by omega)), (by first | rfl | exact vint (by omega)), (by first | rfl | exact vint (by omega)), (by first | rfl | exact vint (by omega)), (by first | rfl | exact vint (by omega)), (by first | rfl | exact vint (by omega)), (by first | rfl | exact vint (by omega)), (by first | rfl | exact vint (by omega)), (by first | rfl | exact vint (by omega)), trivial⟩ (fun w S => S)
     · -- h5F
      have h5b := h5
      try simp only [decide_eq_false_iff_not, Int.not_lt, Int.not_le] at h5
      refine c_exit ?_
      refine q_pass_exit ?_
      refine q_pass_exit ?_
      refine q_hit ?_
      refine q_block ?_
      refine q_then ?_
      refine c_region ?_
      refine o_bin rfl rfl rfl (b_add (wrap_i64 (by omega) (by omega))) ?_
      refine o_move rfl rfl ?_
      refine l_nil ?_
      refine q_conv (fun w S => S.tail) ?_
      refine q_conv (fun w S => S.perm p9) ?_
      refine q_conv (fun w S => S.perm p9) ?_
      refine q_conv (fun w S => S.perm p9) ?_
      refine q_conv (fun w S => S.perm p9) ?_
      refine q_conv (fun w S => S.perm p9) ?_
      refine q_conv (fun w S => S.perm p9) ?_
      refine q_conv (fun w S => S.perm p6) ?_
      refine q_conv (fun w S => S.perm p9) ?_
      refine q_conv (fun w S => S.perm p9) ?_
      refine q_conv (fun w S => S.perm p9) ?_
      exact q_round (i + 1) (by omega) (by (try dsimp only); omega) ⟨(by first | rfl | exact vint (by omega)), (by first | rfl | exact vint (by omega)), (by first | rfl | exact vint (by omega)), (by first | rfl | exact vint (by omega)), (by first | rfl | exact vint (by omega)), (by first | rfl | exact vint (by omega)), trivial⟩ (fun w S => S)
    · -- h4F
     have h4b := h4
     try simp only [decide_eq_false_iff_not, Int.not_lt, Int.not_le] at h4
     refine c_exit ?_
     refine q_pass_exit ?_
     refine q_pass_exit ?_
     refine q_hit ?_
     refine q_then ?_
     refine c_seq ?_
     refine c_seq ?_
     refine c_region ?_
     refine o_loadn (vs := [_, _, _, _, _, _, _, _, _, _]) rfl rfl Try.underlying33 rfl ti33 (rdn_lit 6 rfl rfl) ?_
     refine o_loadn (vs := [_, _, _, _, _, _, _, _, _, _]) rfl rfl Try.underlying33 rfl ti33 (rdn_lit 9 rfl rfl) ?_
     refine o_call rfl cal16 rfl (same9_ (a := c23) (b := a) (ordM_R L_c23 7 rfl) (OrdR.c (OrdR.c (OrdR.c (OrdR.c (OrdR.c (OrdR.c (OrdR.c (OrdR.c (OrdR.c (OrdR.c T_a))))))))))) ?_
     rintro _ _ ⟨rfl, rfl⟩
     refine l_eq (t := 73) (v' := .bool true) rfl (show _ = Value.bool true from by rw [decide_eq_true hs_c23]) ?_
     refine o_not rfl rfl ?_
     refine l_nil ?_
     refine q_then ?_
     refine c_false rfl ?_
     refine c_skip ?_
     refine q_then ?_
     refine c_seq ?_
     refine c_region ?_
     refine o_loadn (vs := [_, _, _, _, _, _, _, _, _, _]) rfl rfl Try.underlying33 rfl ti33 (rdn_lit 9 rfl rfl) ?_
     refine o_call rfl cal18 rfl (oWrite_ (o := a) (OrdR.c (OrdR.c (OrdR.c (OrdR.c (OrdR.c (OrdR.c (OrdR.c (OrdR.c (OrdR.c (OrdR.c T_a)))))))))) (hg17 (by assumption)) w_a) ?_
     rintro _ _ ⟨out77, a77, c77, hout77, rfl, rfl⟩
     refine o_move rfl rfl ?_
     refine o_extract rfl rfl rfl ?_
     refine o_extract rfl rfl rfl ?_
     refine o_assign rfl rfl ?_
     refine o_assign rfl rfl ?_
     refine l_nil ?_
     refine q_then ?_
     refine c_seq ?_
     refine c_region ?_
     refine o_loadn (vs := [_, _, _, _, _, _, _, _, _, _]) rfl rfl Try.underlying33 rfl ti33 (rdn_lit 9 rfl rfl) ?_
     refine o_call rfl cal18 rfl (oWrite_ (o := b) (OrdR.c (OrdR.c (OrdR.c (OrdR.c (OrdR.c (OrdR.c (OrdR.c (OrdR.c (OrdR.c (OrdR.c (OrdR.c T_b))))))))))) (hg20 (by assumption)) w_b) ?_
     rintro _ _ ⟨out82, a82, c82, hout82, rfl, rfl⟩
     refine o_move rfl rfl ?_
     refine o_extract rfl rfl rfl ?_
     refine o_extract rfl rfl rfl ?_
     refine o_assign rfl rfl ?_
     refine o_assign rfl rfl ?_
     refine l_nil ?_
     refine q_then ?_
     refine c_seq ?_
     refine c_heldF [] (row e8.T e8.sz a82 (out82).length c82 (flat e8 out82) :: row e8.T e8.sz a77 (out77).length c77 (flat e8 out77) :: row e_S.T e_S.sz c25.f_Txn_Reads.a (c25.f_Txn_Reads.xs).length c25.f_Txn_Reads.c (flat e_S c25.f_Txn_Reads.xs) :: row e_S.T e_S.sz c25.f_Txn_Writes.a (c25.f_Txn_Writes.xs).length c25.f_Txn_Writes.c (flat e_S c25.f_Txn_Writes.xs) :: row e_Op.T e_Op.sz c25.f_Txn_Ops.a (c25.f_Txn_Ops.xs).length c25.f_Txn_Ops.c (flat e_Op c25.f_Txn_Ops.xs) :: stars (((c25.f_Txn_Ops.xs.drop i).map Op.f_Value).map (vrow e8)) :: row e_Mark.T e_Mark.sz c25.f_Marks.a (ms).length c25.f_Marks.c (flat e_Mark ms) :: blk b6 (.cells #[.int .i64 c25.f_Tag_Id_Node, .int .u64 c25.f_Tag_Id_Epoch, .int .u64 c25.f_Tag_Id_Seq, .int .i64 c25.f_Tag_Try, .int .i64 c25.f_Txn_Kind, .slice c25.f_Txn_Reads.a (c25.f_Txn_Reads.xs).length c25.f_Txn_Reads.c, .slice c25.f_Txn_Writes.a (c25.f_Txn_Writes.xs).length c25.f_Txn_Writes.c, .slice c25.f_Txn_Ops.a (c25.f_Txn_Ops.xs).length c25.f_Txn_Ops.c, .int .i64 c25.f_Txn_To, .slice c25.f_Marks.a (ms).length c25.f_Marks.c] 33 (0, 0)) :: blk b5 (qzApart1 c23) :: ordM c23 :: blk b3 (qzApart2 b) :: blk b2 (qzApart3 a) :: F) (by kernel_rfl) ?_
     refine h_take 0 rfl rfl (by kernel_rfl) (by kernel_rfl) (by kernel_rfl) (fun L0 => v_move rfl rfl) ?_
     refine h_take 1 rfl rfl (by kernel_rfl) (by kernel_rfl) (by kernel_rfl) (fun L0 => v_bin rfl rfl rfl b_neq) ?_
     refine h_take 2 rfl rfl (by kernel_rfl) (by kernel_rfl) (by kernel_rfl) (fun L0 => v_move rfl rfl) ?_
     refine h_split (t := 87) rfl (fun h6 => ?_) (fun h6 => ?_)
     · -- h6T
      have h6b := h6
      try simp only [Bool.not_eq_true', decide_eq_false_iff_not, Int.not_lt, Int.not_le] at h6
      refine h_take_no 3 rfl rfl rfl rfl rfl (by kernel_rfl) (by kernel_rfl) (by kernel_rfl) ?_
      refine h_take_no 4 rfl rfl rfl rfl rfl (by kernel_rfl) (by kernel_rfl) (by kernel_rfl) ?_
      refine h_take 5 rfl rfl (by kernel_rfl) (by kernel_rfl) (by kernel_rfl) (fun L0 => v_pick_true rfl rfl rfl) ?_
      refine h_take 6 rfl rfl (by kernel_rfl) (by kernel_rfl) (by kernel_rfl) (fun L0 => v_move rfl rfl) ?_
      refine h_take_no 7 rfl rfl rfl rfl rfl (by kernel_rfl) (by kernel_rfl) (by kernel_rfl) ?_
      refine h_take_no 8 rfl rfl rfl rfl rfl (by kernel_rfl) (by kernel_rfl) (by kernel_rfl) ?_
      refine h_take_no 9 rfl rfl rfl rfl rfl (by kernel_rfl) (by kernel_rfl) (by kernel_rfl) ?_
      refine h_take_no 10 rfl rfl rfl rfl rfl (by kernel_rfl) (by kernel_rfl) (by kernel_rfl) ?_
      refine h_take_no 11 rfl rfl rfl rfl rfl (by kernel_rfl) (by kernel_rfl) (by kernel_rfl) ?_
      refine h_take_no 12 rfl rfl rfl rfl rfl (by kernel_rfl) (by kernel_rfl) (by kernel_rfl) ?_
      refine h_take_no 13 rfl rfl rfl rfl rfl (by kernel_rfl) (by kernel_rfl) (by kernel_rfl) ?_
      refine h_take_no 14 rfl rfl rfl rfl rfl (by kernel_rfl) (by kernel_rfl) (by kernel_rfl) ?_
      refine h_take_no 15 rfl rfl rfl rfl rfl (by kernel_rfl) (by kernel_rfl) (by kernel_rfl) ?_
      refine h_take 16 rfl rfl (by kernel_rfl) (by kernel_rfl) (by kernel_rfl) (fun L0 => v_pick_true rfl rfl rfl) ?_
      refine h_take 17 rfl rfl (by kernel_rfl) (by kernel_rfl) (by kernel_rfl) (fun L0 => v_assign rfl rfl) ?_
      refine h_done (by kernel_rfl) ?_
      refine q_conv (L' := row e8.T e8.sz a82 (out82).length c82 (flat e8 out82) :: row e8.T e8.sz a77 (out77).length c77 (flat e8 out77) :: row e_S.T e_S.sz c25.f_Txn_Reads.a (c25.f_Txn_Reads.xs).length c25.f_Txn_Reads.c (flat e_S c25.f_Txn_Reads.xs) :: row e_S.T e_S.sz c25.f_Txn_Writes.a (c25.f_Txn_Writes.xs).length c25.f_Txn_Writes.c (flat e_S c25.f_Txn_Writes.xs) :: row e_Op.T e_Op.sz c25.f_Txn_Ops.a (c25.f_Txn_Ops.xs).length c25.f_Txn_Ops.c (flat e_Op c25.f_Txn_Ops.xs) :: stars (((c25.f_Txn_Ops.xs.drop i).map Op.f_Value).map (vrow e8)) :: row e_Mark.T e_Mark.sz c25.f_Marks.a (ms).length c25.f_Marks.c (flat e_Mark ms) :: blk b6 (.cells #[.int .i64 c25.f_Tag_Id_Node, .int .u64 c25.f_Tag_Id_Epoch, .int .u64 c25.f_Tag_Id_Seq, .int .i64 c25.f_Tag_Try, .int .i64 c25.f_Txn_Kind, .slice c25.f_Txn_Reads.a (c25.f_Txn_Reads.xs).length c25.f_Txn_Reads.c, .slice c25.f_Txn_Writes.a (c25.f_Txn_Writes.xs).length c25.f_Txn_Writes.c, .slice c25.f_Txn_Ops.a (c25.f_Txn_Ops.xs).length c25.f_Txn_Ops.c, .int .i64 c25.f_Txn_To, .slice c25.f_Marks.a (ms).length c25.f_Marks.c] 33 (0, 0)) :: blk b5 (qzApart1 c23) :: ordM c23 :: blk b3 (qzApart2 b) :: blk b2 (qzApart3 a) :: F) (fun w S => S.perm List.perm_append_comm) ?_
      refine q_then ?_
      refine c_ret ?_
      refine q_conv (fun w S => S.tail) ?_
      refine q_conv (fun w S => S.tail) ?_
      refine q_conv (fun w S => S.tail) ?_
      refine q_conv (fun w S => S.tail) ?_
      refine q_conv (fun w S => S.tail) ?_
      refine q_conv (fun w S => S.tail) ?_
      refine q_conv (fun w S => S.tail) ?_
      refine q_conv (fun w S => S.tail) ?_
      refine q_conv (fun w S => S.tail) ?_
      refine q_conv (fun w S => S.tail) ?_
      refine q_conv (fun w S => S.tail) ?_
      refine q_conv (fun w S => S.tail) ?_
      exact f_ret (r_one rfl rfl) (⟨rfl, rfl⟩) (fun w S => S)
     · -- h6F
      have h6b := h6
      try simp only [Bool.not_eq_false', decide_eq_true_eq] at h6
      refine h_take_yes 3 rfl rfl rfl rfl rfl (by kernel_rfl) (by kernel_rfl) (by kernel_rfl) (fun L0 => v_move rfl rfl) ?_
      refine h_take_yes 4 rfl rfl rfl rfl rfl (by kernel_rfl) (by kernel_rfl) (by kernel_rfl) (fun L0 => v_bin rfl rfl rfl b_neq) ?_
      refine h_take 5 rfl rfl (by kernel_rfl) (by kernel_rfl) (by kernel_rfl) (fun L0 => v_pick_false rfl rfl rfl) ?_
      refine h_take 6 rfl rfl (by kernel_rfl) (by kernel_rfl) (by kernel_rfl) (fun L0 => v_move rfl rfl) ?_
      refine h_split (t := 91) rfl (fun h7 => ?_) (fun h7 => ?_)
      · -- h7T
       have h7b := h7
       try simp only [Bool.not_eq_true', decide_eq_false_iff_not, Int.not_lt, Int.not_le] at h7
       refine h_take_no 7 rfl rfl rfl rfl rfl (by kernel_rfl) (by kernel_rfl) (by kernel_rfl) ?_
       refine h_take_no 8 rfl rfl rfl rfl rfl (by kernel_rfl) (by kernel_rfl) (by kernel_rfl) ?_
       refine h_take_no 9 rfl rfl rfl rfl rfl (by kernel_rfl) (by kernel_rfl) (by kernel_rfl) ?_
       refine h_take_no 10 rfl rfl rfl rfl rfl (by kernel_rfl) (by kernel_rfl) (by kernel_rfl) ?_
       refine h_take_no 11 rfl rfl rfl rfl rfl (by kernel_rfl) (by kernel_rfl) (by kernel_rfl) ?_
       refine h_take_no 12 rfl rfl rfl rfl rfl (by kernel_rfl) (by kernel_rfl) (by kernel_rfl) ?_
       refine h_take_no 13 rfl rfl rfl rfl rfl (by kernel_rfl) (by kernel_rfl) (by kernel_rfl) ?_
       refine h_take_no 14 rfl rfl rfl rfl rfl (by kernel_rfl) (by kernel_rfl) (by kernel_rfl) ?_
       refine h_take_no 15 rfl rfl rfl rfl rfl (by kernel_rfl) (by kernel_rfl) (by kernel_rfl) ?_
       refine h_take 16 rfl rfl (by kernel_rfl) (by kernel_rfl) (by kernel_rfl) (fun L0 => v_pick_true rfl rfl rfl) ?_
       refine h_take 17 rfl rfl (by kernel_rfl) (by kernel_rfl) (by kernel_rfl) (fun L0 => v_assign rfl rfl) ?_
       refine h_done (by kernel_rfl) ?_
       refine q_conv (L' := row e8.T e8.sz a82 (out82).length c82 (flat e8 out82) :: row e8.T e8.sz a77 (out77).length c77 (flat e8 out77) :: row e_S.T e_S.sz c25.f_Txn_Reads.a (c25.f_Txn_Reads.xs).length c25.f_Txn_Reads.c (flat e_S c25.f_Txn_Reads.xs) :: row e_S.T e_S.sz c25.f_Txn_Writes.a (c25.f_Txn_Writes.xs).length c25.f_Txn_Writes.c (flat e_S c25.f_Txn_Writes.xs) :: row e_Op.T e_Op.sz c25.f_Txn_Ops.a (c25.f_Txn_Ops.xs).length c25.f_Txn_Ops.c (flat e_Op c25.f_Txn_Ops.xs) :: stars (((c25.f_Txn_Ops.xs.drop i).map Op.f_Value).map (vrow e8)) :: row e_Mark.T e_Mark.sz c25.f_Marks.a (ms).length c25.f_Marks.c (flat e_Mark ms) :: blk b6 (.cells #[.int .i64 c25.f_Tag_Id_Node, .int .u64 c25.f_Tag_Id_Epoch, .int .u64 c25.f_Tag_Id_Seq, .int .i64 c25.f_Tag_Try, .int .i64 c25.f_Txn_Kind, .slice c25.f_Txn_Reads.a (c25.f_Txn_Reads.xs).length c25.f_Txn_Reads.c, .slice c25.f_Txn_Writes.a (c25.f_Txn_Writes.xs).length c25.f_Txn_Writes.c, .slice c25.f_Txn_Ops.a (c25.f_Txn_Ops.xs).length c25.f_Txn_Ops.c, .int .i64 c25.f_Txn_To, .slice c25.f_Marks.a (ms).length c25.f_Marks.c] 33 (0, 0)) :: blk b5 (qzApart1 c23) :: ordM c23 :: blk b3 (qzApart2 b) :: blk b2 (qzApart3 a) :: F) (fun w S => S.perm List.perm_append_comm) ?_
       refine q_then ?_
       refine c_ret ?_
       refine q_conv (fun w S => S.tail) ?_
       refine q_conv (fun w S => S.tail) ?_
       refine q_conv (fun w S => S.tail) ?_
       refine q_conv (fun w S => S.tail) ?_
       refine q_conv (fun w S => S.tail) ?_
       refine q_conv (fun w S => S.tail) ?_
       refine q_conv (fun w S => S.tail) ?_
       refine q_conv (fun w S => S.tail) ?_
       refine q_conv (fun w S => S.tail) ?_
       refine q_conv (fun w S => S.tail) ?_
       refine q_conv (fun w S => S.tail) ?_
       refine q_conv (fun w S => S.tail) ?_
       exact f_ret (r_one rfl rfl) (⟨rfl, rfl⟩) (fun w S => S)
      · -- h7F
       have h7b := h7
       try simp only [Bool.not_eq_false', decide_eq_true_eq] at h7
       refine h_take_yes 7 rfl rfl rfl rfl rfl (by kernel_rfl) (by kernel_rfl) (by kernel_rfl) (fun L0 => v_move rfl rfl) ?_
       refine h_take_yes 8 rfl rfl rfl rfl rfl (by kernel_rfl) (by kernel_rfl) (by kernel_rfl) (fun L0 => v_bytesStr (e := e8) rfl rfl rfl Try.underlying45 Try.underlying5 Try.underlying9 (rds_own e8_ok 1 rfl)) ?_
       refine h_take_yes 9 rfl rfl rfl rfl rfl (by kernel_rfl) (by kernel_rfl) (by kernel_rfl) (fun L0 => v_move rfl rfl) ?_
       refine h_take_yes 10 rfl rfl rfl rfl rfl (by kernel_rfl) (by kernel_rfl) (by kernel_rfl) (fun L0 => v_bytesStr (e := e8) rfl rfl rfl Try.underlying45 Try.underlying5 Try.underlying9 (rds_own e8_ok 0 rfl)) ?_
       refine h_take_yes 11 rfl rfl rfl rfl rfl (by kernel_rfl) (by kernel_rfl) (by kernel_rfl) (fun L0 => v_bin rfl rfl rfl b_seql) ?_
       refine h_take_yes 12 rfl rfl rfl rfl rfl (by kernel_rfl) (by kernel_rfl) (by kernel_rfl) (fun L0 => v_loadn (vs := [_, _, _, _, _, _, _, _, _, _]) rfl rfl Try.underlying33 rfl ti33 (rdn_lit 11 rfl rfl)) ?_
       refine h_take_yes 13 rfl rfl rfl rfl rfl (by kernel_rfl) (by kernel_rfl) (by kernel_rfl) (fun L0 => v_loadn (vs := [_, _, _, _, _, _, _, _, _, _]) rfl rfl Try.underlying33 rfl ti33 (rdn_lit 10 rfl rfl)) ?_
       refine h_one 14 rfl (by kernel_rfl) ?_
       refine l_conv (L' := row e8.T e8.sz a82 (out82).length c82 (flat e8 out82) :: row e8.T e8.sz a77 (out77).length c77 (flat e8 out77) :: row e_S.T e_S.sz c25.f_Txn_Reads.a (c25.f_Txn_Reads.xs).length c25.f_Txn_Reads.c (flat e_S c25.f_Txn_Reads.xs) :: row e_S.T e_S.sz c25.f_Txn_Writes.a (c25.f_Txn_Writes.xs).length c25.f_Txn_Writes.c (flat e_S c25.f_Txn_Writes.xs) :: row e_Op.T e_Op.sz c25.f_Txn_Ops.a (c25.f_Txn_Ops.xs).length c25.f_Txn_Ops.c (flat e_Op c25.f_Txn_Ops.xs) :: stars (((c25.f_Txn_Ops.xs.drop i).map Op.f_Value).map (vrow e8)) :: row e_Mark.T e_Mark.sz c25.f_Marks.a (ms).length c25.f_Marks.c (flat e_Mark ms) :: blk b6 (.cells #[.int .i64 c25.f_Tag_Id_Node, .int .u64 c25.f_Tag_Id_Epoch, .int .u64 c25.f_Tag_Id_Seq, .int .i64 c25.f_Tag_Try, .int .i64 c25.f_Txn_Kind, .slice c25.f_Txn_Reads.a (c25.f_Txn_Reads.xs).length c25.f_Txn_Reads.c, .slice c25.f_Txn_Writes.a (c25.f_Txn_Writes.xs).length c25.f_Txn_Writes.c, .slice c25.f_Txn_Ops.a (c25.f_Txn_Ops.xs).length c25.f_Txn_Ops.c, .int .i64 c25.f_Txn_To, .slice c25.f_Marks.a (ms).length c25.f_Marks.c] 33 (0, 0)) :: blk b5 (qzApart1 c23) :: ordM c23 :: blk b3 (qzApart2 b) :: blk b2 (qzApart3 a) :: F) (fun w S => S.perm List.perm_append_comm) ?_
       refine o_yes rfl rfl rfl ?_
       refine o_call rfl cal16 rfl (same9_ (a := a) (b := b) (OrdR.c (OrdR.c (OrdR.c (OrdR.c (OrdR.c (OrdR.c (OrdR.c (OrdR.c (OrdR.c (OrdR.c (OrdR.c (OrdR.c T_a)))))))))))) (OrdR.c (OrdR.c (OrdR.c (OrdR.c (OrdR.c (OrdR.c (OrdR.c (OrdR.c (OrdR.c (OrdR.c (OrdR.c (OrdR.c T_b))))))))))))) ?_
       rintro _ _ ⟨rfl, rfl⟩
       refine l_nil ?_
       refine q_conv (L' := (row e8.T e8.sz a82 (out82).length c82 (flat e8 out82) :: row e8.T e8.sz a77 (out77).length c77 (flat e8 out77) :: row e_S.T e_S.sz c25.f_Txn_Reads.a (c25.f_Txn_Reads.xs).length c25.f_Txn_Reads.c (flat e_S c25.f_Txn_Reads.xs) :: row e_S.T e_S.sz c25.f_Txn_Writes.a (c25.f_Txn_Writes.xs).length c25.f_Txn_Writes.c (flat e_S c25.f_Txn_Writes.xs) :: row e_Op.T e_Op.sz c25.f_Txn_Ops.a (c25.f_Txn_Ops.xs).length c25.f_Txn_Ops.c (flat e_Op c25.f_Txn_Ops.xs) :: stars (((c25.f_Txn_Ops.xs.drop i).map Op.f_Value).map (vrow e8)) :: row e_Mark.T e_Mark.sz c25.f_Marks.a (ms).length c25.f_Marks.c (flat e_Mark ms) :: blk b6 (.cells #[.int .i64 c25.f_Tag_Id_Node, .int .u64 c25.f_Tag_Id_Epoch, .int .u64 c25.f_Tag_Id_Seq, .int .i64 c25.f_Tag_Try, .int .i64 c25.f_Txn_Kind, .slice c25.f_Txn_Reads.a (c25.f_Txn_Reads.xs).length c25.f_Txn_Reads.c, .slice c25.f_Txn_Writes.a (c25.f_Txn_Writes.xs).length c25.f_Txn_Writes.c, .slice c25.f_Txn_Ops.a (c25.f_Txn_Ops.xs).length c25.f_Txn_Ops.c, .int .i64 c25.f_Txn_To, .slice c25.f_Marks.a (ms).length c25.f_Marks.c] 33 (0, 0)) :: blk b5 (qzApart1 c23) :: ordM c23 :: blk b3 (qzApart2 b) :: blk b2 (qzApart3 a) :: F) ++ []) (fun w S => S.perm (List.perm_append_comm (l₁ := []) (l₂ := row e8.T e8.sz a82 (out82).length c82 (flat e8 out82) :: row e8.T e8.sz a77 (out77).length c77 (flat e8 out77) :: row e_S.T e_S.sz c25.f_Txn_Reads.a (c25.f_Txn_Reads.xs).length c25.f_Txn_Reads.c (flat e_S c25.f_Txn_Reads.xs) :: row e_S.T e_S.sz c25.f_Txn_Writes.a (c25.f_Txn_Writes.xs).length c25.f_Txn_Writes.c (flat e_S c25.f_Txn_Writes.xs) :: row e_Op.T e_Op.sz c25.f_Txn_Ops.a (c25.f_Txn_Ops.xs).length c25.f_Txn_Ops.c (flat e_Op c25.f_Txn_Ops.xs) :: stars (((c25.f_Txn_Ops.xs.drop i).map Op.f_Value).map (vrow e8)) :: row e_Mark.T e_Mark.sz c25.f_Marks.a (ms).length c25.f_Marks.c (flat e_Mark ms) :: blk b6 (.cells #[.int .i64 c25.f_Tag_Id_Node, .int .u64 c25.f_Tag_Id_Epoch, .int .u64 c25.f_Tag_Id_Seq, .int .i64 c25.f_Tag_Try, .int .i64 c25.f_Txn_Kind, .slice c25.f_Txn_Reads.a (c25.f_Txn_Reads.xs).length c25.f_Txn_Reads.c, .slice c25.f_Txn_Writes.a (c25.f_Txn_Writes.xs).length c25.f_Txn_Writes.c, .slice c25.f_Txn_Ops.a (c25.f_Txn_Ops.xs).length c25.f_Txn_Ops.c, .int .i64 c25.f_Txn_To, .slice c25.f_Marks.a (ms).length c25.f_Marks.c] 33 (0, 0)) :: blk b5 (qzApart1 c23) :: ordM c23 :: blk b3 (qzApart2 b) :: blk b2 (qzApart3 a) :: F))) ?_
       refine h_next ?_
       refine h_take_yes 15 rfl rfl rfl rfl rfl (by kernel_rfl) (by kernel_rfl) (by kernel_rfl) (fun L0 => v_bin rfl rfl rfl (b_beq Try.underlying4 _ _)) ?_
       refine h_eq (t := 100) (v' := .bool true) rfl (show _ = Value.bool true from by rw [hout77, hout82, bbeq (apartO (by first | assumption | simp_all) (by first | assumption | simp_all) w_a w_b)]) ?_
       refine h_take 16 rfl rfl (by kernel_rfl) (by kernel_rfl) (by kernel_rfl) (fun L0 => v_pick_false rfl rfl rfl) ?_
       refine h_take 17 rfl rfl (by kernel_rfl) (by kernel_rfl) (by kernel_rfl) (fun L0 => v_assign rfl rfl) ?_
       refine h_done (by kernel_rfl) ?_
       refine q_conv (L' := row e8.T e8.sz a82 (out82).length c82 (flat e8 out82) :: row e8.T e8.sz a77 (out77).length c77 (flat e8 out77) :: row e_S.T e_S.sz c25.f_Txn_Reads.a (c25.f_Txn_Reads.xs).length c25.f_Txn_Reads.c (flat e_S c25.f_Txn_Reads.xs) :: row e_S.T e_S.sz c25.f_Txn_Writes.a (c25.f_Txn_Writes.xs).length c25.f_Txn_Writes.c (flat e_S c25.f_Txn_Writes.xs) :: row e_Op.T e_Op.sz c25.f_Txn_Ops.a (c25.f_Txn_Ops.xs).length c25.f_Txn_Ops.c (flat e_Op c25.f_Txn_Ops.xs) :: stars (((c25.f_Txn_Ops.xs.drop i).map Op.f_Value).map (vrow e8)) :: row e_Mark.T e_Mark.sz c25.f_Marks.a (ms).length c25.f_Marks.c (flat e_Mark ms) :: blk b6 (.cells #[.int .i64 c25.f_Tag_Id_Node, .int .u64 c25.f_Tag_Id_Epoch, .int .u64 c25.f_Tag_Id_Seq, .int .i64 c25.f_Tag_Try, .int .i64 c25.f_Txn_Kind, .slice c25.f_Txn_Reads.a (c25.f_Txn_Reads.xs).length c25.f_Txn_Reads.c, .slice c25.f_Txn_Writes.a (c25.f_Txn_Writes.xs).length c25.f_Txn_Writes.c, .slice c25.f_Txn_Ops.a (c25.f_Txn_Ops.xs).length c25.f_Txn_Ops.c, .int .i64 c25.f_Txn_To, .slice c25.f_Marks.a (ms).length c25.f_Marks.c] 33 (0, 0)) :: blk b5 (qzApart1 c23) :: ordM c23 :: blk b3 (qzApart2 b) :: blk b2 (qzApart3 a) :: F) (fun w S => S.perm List.perm_append_comm) ?_
       refine q_then ?_
       refine c_ret ?_
       refine q_conv (fun w S => S.tail) ?_
       refine q_conv (fun w S => S.tail) ?_
       refine q_conv (fun w S => S.tail) ?_
       refine q_conv (fun w S => S.tail) ?_
       refine q_conv (fun w S => S.tail) ?_
       refine q_conv (fun w S => S.tail) ?_
       refine q_conv (fun w S => S.tail) ?_
       refine q_conv (fun w S => S.tail) ?_
       refine q_conv (fun w S => S.tail) ?_
       refine q_conv (fun w S => S.tail) ?_
       refine q_conv (fun w S => S.tail) ?_
       refine q_conv (fun w S => S.tail) ?_
       exact f_ret (r_one rfl rfl) (⟨rfl, rfl⟩) (fun w S => S)

end Go.Proofs.Ytlblipkcbmcfkaa
