/- Printed by 09a/spec.py (SameIt, ItApart). -/
import Derived.Test.YtlblipkcbmcfkaaOSame
import Derived.Test.YtlblipkcbmcfkaaSpeaks
import Derived.Test.YtlblipkcbmcfkaaArgs
import Derived.Test.YtlblipkcbmcfkaaOWrite
import Derived.Test.YtlblipkcbmcfkaaOGreat
set_option linter.unusedVariables false
set_option linter.unusedSimpArgs false
set_option maxRecDepth 10000
namespace Go.Proofs.Ytlblipkcbmcfkaa
section
open Go.RowKit Classical
def SameI (x y : Item) : Prop := x.f_Kind = y.f_Kind ∧ x.f_Index = y.f_Index ∧ SameO x.ord y.ord
theorem sameItem_ {W : World} {F : List Res} {x y : Item} (T_x : OrdR W F x.ord) (T_y : OrdR W F y.ord) : CS Try.prog 19 #[.agg #[.int .i64 x.f_Kind, .int .i64 x.f_Index, .int .i64 x.ord.f_Tag_Id_Node, .int .u64 x.ord.f_Tag_Id_Epoch, .int .u64 x.ord.f_Tag_Id_Seq, .int .i64 x.ord.f_Tag_Try, .int .i64 x.ord.f_Txn_Kind, .slice x.ord.f_Txn_Reads.a (x.ord.f_Txn_Reads.xs).length x.ord.f_Txn_Reads.c, .slice x.ord.f_Txn_Writes.a (x.ord.f_Txn_Writes.xs).length x.ord.f_Txn_Writes.c, .slice x.ord.f_Txn_Ops.a (x.ord.f_Txn_Ops.xs).length x.ord.f_Txn_Ops.c, .int .i64 x.ord.f_Txn_To, .slice x.ord.f_Marks.a (x.ord.f_Marks.xs).length x.ord.f_Marks.c], .agg #[.int .i64 y.f_Kind, .int .i64 y.f_Index, .int .i64 y.ord.f_Tag_Id_Node, .int .u64 y.ord.f_Tag_Id_Epoch, .int .u64 y.ord.f_Tag_Id_Seq, .int .i64 y.ord.f_Tag_Try, .int .i64 y.ord.f_Txn_Kind, .slice y.ord.f_Txn_Reads.a (y.ord.f_Txn_Reads.xs).length y.ord.f_Txn_Reads.c, .slice y.ord.f_Txn_Writes.a (y.ord.f_Txn_Writes.xs).length y.ord.f_Txn_Writes.c, .slice y.ord.f_Txn_Ops.a (y.ord.f_Txn_Ops.xs).length y.ord.f_Txn_Ops.c, .int .i64 y.ord.f_Txn_To, .slice y.ord.f_Marks.a (y.ord.f_Marks.xs).length y.ord.f_Marks.c]] W (F) (fun r L' => r = .bool (decide (SameI x y)) ∧ F = L') := by
 refine f_door (l0 := [(0, .agg #[.int .i64 x.f_Kind, .int .i64 x.f_Index, .int .i64 x.ord.f_Tag_Id_Node, .int .u64 x.ord.f_Tag_Id_Epoch, .int .u64 x.ord.f_Tag_Id_Seq, .int .i64 x.ord.f_Tag_Try, .int .i64 x.ord.f_Txn_Kind, .slice x.ord.f_Txn_Reads.a (x.ord.f_Txn_Reads.xs).length x.ord.f_Txn_Reads.c, .slice x.ord.f_Txn_Writes.a (x.ord.f_Txn_Writes.xs).length x.ord.f_Txn_Writes.c, .slice x.ord.f_Txn_Ops.a (x.ord.f_Txn_Ops.xs).length x.ord.f_Txn_Ops.c, .int .i64 x.ord.f_Txn_To, .slice x.ord.f_Marks.a (x.ord.f_Marks.xs).length x.ord.f_Marks.c]), (1, .agg #[.int .i64 y.f_Kind, .int .i64 y.f_Index, .int .i64 y.ord.f_Tag_Id_Node, .int .u64 y.ord.f_Tag_Id_Epoch, .int .u64 y.ord.f_Tag_Id_Seq, .int .i64 y.ord.f_Tag_Try, .int .i64 y.ord.f_Txn_Kind, .slice y.ord.f_Txn_Reads.a (y.ord.f_Txn_Reads.xs).length y.ord.f_Txn_Reads.c, .slice y.ord.f_Txn_Writes.a (y.ord.f_Txn_Writes.xs).length y.ord.f_Txn_Writes.c, .slice y.ord.f_Txn_Ops.a (y.ord.f_Txn_Ops.xs).length y.ord.f_Txn_Ops.c, .int .i64 y.ord.f_Txn_To, .slice y.ord.f_Marks.a (y.ord.f_Marks.xs).length y.ord.f_Marks.c])]) Try.func19 Try.ntmps19 rfl rfl rfl ?_
 refine c_seq ?_
 refine c_region ?_
 refine o_box rfl rfl fun b2 => ?_
 refine o_box rfl rfl fun b3 => ?_
 refine o_assign rfl rfl ?_
 refine l_nil ?_
 refine q_then ?_
 refine c_seq ?_
 refine c_region ?_
 refine o_fieldAddr (q := ⟨b2, 0, none⟩) rfl rfl Try.underlying44 rfl ti3 rfl ?_
 refine o_load1 rfl rfl Try.underlying3 rfl (rd_mem 1 rfl rfl) ?_
 refine o_fieldAddr (q := ⟨b3, 0, none⟩) rfl rfl Try.underlying44 rfl ti3 rfl ?_
 refine o_load1 rfl rfl Try.underlying3 rfl (rd_mem 0 rfl rfl) ?_
 refine o_bin rfl rfl rfl b_eql ?_
 refine o_move rfl rfl ?_
 refine l_split (t := 10) rfl (fun h1 => ?_) (fun h1 => ?_)
 · -- h1T
  have h1b := h1
  try simp only [decide_eq_true_eq] at h1
  refine o_yes rfl rfl rfl ?_
  refine o_fieldAddr (q := ⟨b2, 1, none⟩) rfl rfl Try.underlying44 rfl ti3 rfl ?_
  refine o_yes rfl rfl rfl ?_
  refine o_load1 rfl rfl Try.underlying3 rfl (rd_mem 1 rfl rfl) ?_
  refine o_yes rfl rfl rfl ?_
  refine o_fieldAddr (q := ⟨b3, 1, none⟩) rfl rfl Try.underlying44 rfl ti3 rfl ?_
  refine o_yes rfl rfl rfl ?_
  refine o_load1 rfl rfl Try.underlying3 rfl (rd_mem 0 rfl rfl) ?_
  refine o_yes rfl rfl rfl ?_
  refine o_bin rfl rfl rfl b_eql ?_
  refine o_pick_true rfl rfl rfl ?_
  refine o_move rfl rfl ?_
  refine l_split (t := 17) rfl (fun h2 => ?_) (fun h2 => ?_)
  · -- h2T
   have h2b := h2
   try simp only [decide_eq_true_eq] at h2
   refine o_yes rfl rfl rfl ?_
   refine o_fieldAddr (q := ⟨b2, 2, none⟩) rfl rfl Try.underlying44 rfl ti33 rfl ?_
   refine o_yes rfl rfl rfl ?_
   refine o_loadn (vs := [_, _, _, _, _, _, _, _, _, _]) rfl rfl Try.underlying33 rfl ti33 (rdn_lit 1 rfl rfl) ?_
   refine o_yes rfl rfl rfl ?_
   refine o_fieldAddr (q := ⟨b3, 2, none⟩) rfl rfl Try.underlying44 rfl ti33 rfl ?_
   refine o_yes rfl rfl rfl ?_
   refine o_loadn (vs := [_, _, _, _, _, _, _, _, _, _]) rfl rfl Try.underlying33 rfl ti33 (rdn_lit 0 rfl rfl) ?_
   refine o_yes rfl rfl rfl ?_
   refine o_call rfl cal16 rfl (same9_ (a := x.ord) (b := y.ord) (OrdR.c (OrdR.c T_x)) (OrdR.c (OrdR.c T_y))) ?_
   rintro _ _ ⟨rfl, rfl⟩
   refine o_pick_true rfl rfl rfl ?_
   refine o_assign rfl rfl ?_
   refine l_nil ?_
   refine q_then ?_
   refine c_ret ?_
   refine q_conv (fun w S => S.tail) ?_
   refine q_conv (fun w S => S.tail) ?_
   exact f_ret (r_one rfl rfl) (⟨by first | exact vtrue' (by unfold SameI; grind) | exact vfalse' (by unfold SameI; grind) | exact bdec' (by unfold SameI; grind), rfl⟩) (fun w S => S)
  · -- h2F
   have h2b := h2
   try simp only [decide_eq_false_iff_not, Int.not_lt, Int.not_le] at h2
   refine o_no rfl rfl rfl rfl ?_
   refine o_no rfl rfl rfl rfl ?_
   refine o_no rfl rfl rfl rfl ?_
   refine o_no rfl rfl rfl rfl ?_
   refine o_no rfl rfl rfl rfl ?_
   refine o_pick_false rfl rfl rfl ?_
   refine o_assign rfl rfl ?_
   refine l_nil ?_
   refine q_then ?_
   refine c_ret ?_
   refine q_conv (fun w S => S.tail) ?_
   refine q_conv (fun w S => S.tail) ?_
   exact f_ret (r_one rfl rfl) (⟨by first | exact vtrue' (by unfold SameI; grind) | exact vfalse' (by unfold SameI; grind) | exact bdec' (by unfold SameI; grind), rfl⟩) (fun w S => S)
 · -- h1F
  have h1b := h1
  try simp only [decide_eq_false_iff_not, Int.not_lt, Int.not_le] at h1
  refine o_no rfl rfl rfl rfl ?_
  refine o_no rfl rfl rfl rfl ?_
  refine o_no rfl rfl rfl rfl ?_
  refine o_no rfl rfl rfl rfl ?_
  refine o_no rfl rfl rfl rfl ?_
  refine o_pick_false rfl rfl rfl ?_
  refine o_move rfl rfl ?_
  refine o_no rfl rfl rfl rfl ?_
  refine o_no rfl rfl rfl rfl ?_
  refine o_no rfl rfl rfl rfl ?_
  refine o_no rfl rfl rfl rfl ?_
  refine o_no rfl rfl rfl rfl ?_
  refine o_pick_false rfl rfl rfl ?_
  refine o_assign rfl rfl ?_
  refine l_nil ?_
  refine q_then ?_
  refine c_ret ?_
  refine q_conv (fun w S => S.tail) ?_
  refine q_conv (fun w S => S.tail) ?_
  exact f_ret (r_one rfl rfl) (⟨by first | exact vtrue' (by unfold SameI; grind) | exact vfalse' (by unfold SameI; grind) | exact bdec' (by unfold SameI; grind), rfl⟩) (fun w S => S)
end
section
open Go.RowKit Classical
theorem owf_mk {W : World} {o : Order} (h1 : (Lit.int .u64 o.f_Tag_Id_Epoch).wf = true) (h2 : (Lit.int .u64 o.f_Tag_Id_Seq).wf = true) (h3 : ∀ x ∈ o.f_Txn_Ops.xs, G_Op W x) (h4 : ∀ x ∈ o.f_Marks.xs, G_Mark W x) : OWf o where
  ep := by obtain ⟨m, e, _⟩ := wf_u64 h1; omega
  sq := by obtain ⟨m, e, _⟩ := wf_u64 h2; omega
  mc := fun m hm => by obtain ⟨m, e, _⟩ := wf_u64 (h4 m hm).2.2; omega
  op := fun x hx => by have := wf_i64 (h3 x hx).2.2.2; omega
theorem owfO {W : World} {x : Order} (g : G_Order W x) : OWf x := owf_mk g.2.1 g.2.2.1 g.2.2.2.2.2.2.2.1.all g.2.2.2.2.2.2.2.2.2.all
theorem owfI {W : World} {x : Item} (g : G_Item W x) : OWf x.ord := owf_mk g.2.2.2.1 g.2.2.2.2.1 g.2.2.2.2.2.2.2.2.2.1.all g.2.2.2.2.2.2.2.2.2.2.2.all
theorem itemB_iff {a b : Item} (ia : ItOk a) (ib : ItOk b) (ha : OrdOk a.ord 3) (hb : OrdOk b.ord 3) (wa : OWf a.ord) (wb : OWf b.ord) : itemB a = itemB b ↔ SameI a b := by
  constructor
  · intro h
    unfold itemB at h
    obtain ⟨e1, h⟩ := fm_app (f := nB) (R := fun x y => x = y) (p := fun x => 0 ≤ x) (fun hx hy h => nB_app hx hy h) (xs := [a.f_Kind, a.f_Index]) (ys := [b.f_Kind, b.f_Index]) rfl (fun x hx => (it_hd ia x hx).1) (fun x hx => (it_hd ib x hx).1) h
    exact ⟨e1 0 _ _ rfl rfl, e1 1 _ _ rfl rfl, ordB_inj ha hb wa wb h⟩
  · rintro ⟨h1, h2, h3⟩
    unfold itemB
    rw [h1, h2, ordB_same h3]
theorem wrI_ok {x : Item} (h : chkI x = 0) : wrI x = numsB [x.f_Kind, x.f_Index] ++ ordB x.ord := if_pos (chkI_0.1 h)
theorem wrO_ok {x : Item} (h : chkI x = 0) : wrO x.ord = ordB x.ord := if_pos (chkI_0.1 h).2
theorem nums2_pos {x : Item} : 0 < (numsB [x.f_Kind, x.f_Index]).length := by
  unfold numsB nB
  have := numB_pos x.f_Kind.toNat
  simp only [List.flatMap_cons, List.length_append]; omega
theorem apartI {a b : Item} (ha : chkI a = 0) (hb : chkI b = 0) (wa : OWf a.ord) (wb : OWf b.ord) : bts (wrI a) = bts (wrI b) ↔ SameI a b := by
  have h1 := chkI_0.1 ha; have h2 := chkI_0.1 hb
  rw [bts_eq, wrI_ok ha, wrI_ok hb]
  exact itemB_iff h1.1 h2.1 h1.2 h2.2 wa wb
theorem bbeq {p q : Prop} {i : Decidable p} {j : Decidable q} (h : p ↔ q) : (@decide p i == @decide q j) = true := by
  by_cases hp : p
  · rw [decide_eq_true hp, decide_eq_true (h.1 hp)]; rfl
  · rw [decide_eq_false hp, decide_eq_false (fun hq => hp (h.2 hq))]; rfl
theorem sub_end {α : Type} {xs ys : List α} : sub (xs ++ ys) ((xs ++ ys).length - ys.length) (xs ++ ys).length = ys := by
  unfold sub
  rw [List.take_length, show (xs ++ ys).length - ys.length = xs.length by simp, List.drop_left]
set_option maxHeartbeats 4000000 in
theorem itemsApartL_ {W : World} {F : List Res} {x y : Item} (T_x : OrdR W F x.ord) (T_y : OrdR W F y.ord) (w_x : OWf x.ord) (w_y : OWf y.ord) : CS Try.prog 4 #[.agg #[.int .i64 x.f_Kind, .int .i64 x.f_Index, .int .i64 x.ord.f_Tag_Id_Node, .int .u64 x.ord.f_Tag_Id_Epoch, .int .u64 x.ord.f_Tag_Id_Seq, .int .i64 x.ord.f_Tag_Try, .int .i64 x.ord.f_Txn_Kind, .slice x.ord.f_Txn_Reads.a (x.ord.f_Txn_Reads.xs).length x.ord.f_Txn_Reads.c, .slice x.ord.f_Txn_Writes.a (x.ord.f_Txn_Writes.xs).length x.ord.f_Txn_Writes.c, .slice x.ord.f_Txn_Ops.a (x.ord.f_Txn_Ops.xs).length x.ord.f_Txn_Ops.c, .int .i64 x.ord.f_Txn_To, .slice x.ord.f_Marks.a (x.ord.f_Marks.xs).length x.ord.f_Marks.c], .agg #[.int .i64 y.f_Kind, .int .i64 y.f_Index, .int .i64 y.ord.f_Tag_Id_Node, .int .u64 y.ord.f_Tag_Id_Epoch, .int .u64 y.ord.f_Tag_Id_Seq, .int .i64 y.ord.f_Tag_Try, .int .i64 y.ord.f_Txn_Kind, .slice y.ord.f_Txn_Reads.a (y.ord.f_Txn_Reads.xs).length y.ord.f_Txn_Reads.c, .slice y.ord.f_Txn_Writes.a (y.ord.f_Txn_Writes.xs).length y.ord.f_Txn_Writes.c, .slice y.ord.f_Txn_Ops.a (y.ord.f_Txn_Ops.xs).length y.ord.f_Txn_Ops.c, .int .i64 y.ord.f_Txn_To, .slice y.ord.f_Marks.a (y.ord.f_Marks.xs).length y.ord.f_Marks.c]] W (F) (fun r L' => r = .bool true ∧ F = L') := by
 refine f_door (l0 := [(0, .agg #[.int .i64 x.f_Kind, .int .i64 x.f_Index, .int .i64 x.ord.f_Tag_Id_Node, .int .u64 x.ord.f_Tag_Id_Epoch, .int .u64 x.ord.f_Tag_Id_Seq, .int .i64 x.ord.f_Tag_Try, .int .i64 x.ord.f_Txn_Kind, .slice x.ord.f_Txn_Reads.a (x.ord.f_Txn_Reads.xs).length x.ord.f_Txn_Reads.c, .slice x.ord.f_Txn_Writes.a (x.ord.f_Txn_Writes.xs).length x.ord.f_Txn_Writes.c, .slice x.ord.f_Txn_Ops.a (x.ord.f_Txn_Ops.xs).length x.ord.f_Txn_Ops.c, .int .i64 x.ord.f_Txn_To, .slice x.ord.f_Marks.a (x.ord.f_Marks.xs).length x.ord.f_Marks.c]), (1, .agg #[.int .i64 y.f_Kind, .int .i64 y.f_Index, .int .i64 y.ord.f_Tag_Id_Node, .int .u64 y.ord.f_Tag_Id_Epoch, .int .u64 y.ord.f_Tag_Id_Seq, .int .i64 y.ord.f_Tag_Try, .int .i64 y.ord.f_Txn_Kind, .slice y.ord.f_Txn_Reads.a (y.ord.f_Txn_Reads.xs).length y.ord.f_Txn_Reads.c, .slice y.ord.f_Txn_Writes.a (y.ord.f_Txn_Writes.xs).length y.ord.f_Txn_Writes.c, .slice y.ord.f_Txn_Ops.a (y.ord.f_Txn_Ops.xs).length y.ord.f_Txn_Ops.c, .int .i64 y.ord.f_Txn_To, .slice y.ord.f_Marks.a (y.ord.f_Marks.xs).length y.ord.f_Marks.c])]) Try.func4 Try.ntmps4 rfl rfl rfl ?_
 refine c_seq ?_
 refine c_region ?_
 refine o_box rfl rfl fun b2 => ?_
 refine o_box rfl rfl fun b3 => ?_
 refine o_assign rfl rfl ?_
 refine l_nil ?_
 refine q_then ?_
 refine c_seq ?_
 refine c_seq ?_
 refine c_region ?_
 refine o_call rfl cal7 rfl (speaks_) ?_
 rintro _ _ ⟨rfl, rfl⟩
 refine o_not rfl rfl ?_
 refine l_nil ?_
 refine q_then ?_
 refine c_false rfl ?_
 refine c_skip ?_
 refine q_then ?_
 refine c_seq ?_
 refine c_seq ?_
 refine c_region ?_
 refine o_fieldAddr (q := ⟨b2, 2, none⟩) rfl rfl Try.underlying44 rfl ti33 rfl ?_
 refine o_loadn (vs := [_, _, _, _, _, _, _, _, _, _]) rfl rfl Try.underlying33 rfl ti33 (rdn_lit 1 rfl rfl) ?_
 refine o_call rfl cal8 rfl (rgreat_ (o := x.ord) (OrdR.c (OrdR.c T_x))) ?_
 rintro _ _ ⟨g15, hg15, rfl, rfl⟩
 refine o_move rfl rfl ?_
 refine l_split (t := 16) rfl (fun h1 => ?_) (fun h1 => ?_)
 · -- h1T
  have h1b := h1
  try simp only [decide_eq_true_eq, decide_eq_false_iff_not, Bool.not_eq_eq_eq_not, Bool.not_true, Bool.not_false, Bool.not_eq_true', Bool.not_eq_false', Int.not_lt, Int.not_le, Bool.or_eq_true, Bool.and_eq_true] at h1
  refine o_no rfl rfl rfl rfl ?_
  refine o_no rfl rfl rfl rfl ?_
  refine o_no rfl rfl rfl rfl ?_
  refine o_pick_true rfl rfl rfl ?_
  refine l_nil ?_
  refine q_then ?_
  refine c_true rfl ?_
  refine c_seq ?_
  refine c_region ?_
  refine o_assign rfl rfl ?_
  refine l_nil ?_
  refine q_then ?_
  refine c_ret ?_
  refine q_pass_ret ?_
  refine q_conv (fun w S => S.tail) ?_
  refine q_conv (fun w S => S.tail) ?_
  exact f_ret (r_one rfl rfl) (⟨rfl, rfl⟩) (fun w S => S)
 · -- h1F
  have h1b := h1
  try simp only [decide_eq_true_eq, decide_eq_false_iff_not, Bool.not_eq_eq_eq_not, Bool.not_true, Bool.not_false, Bool.not_eq_true', Bool.not_eq_false', Int.not_lt, Int.not_le, Bool.or_eq_true, Bool.and_eq_true] at h1
  refine o_yes rfl rfl rfl ?_
  refine o_fieldAddr (q := ⟨b3, 2, none⟩) rfl rfl Try.underlying44 rfl ti33 rfl ?_
  refine o_yes rfl rfl rfl ?_
  refine o_loadn (vs := [_, _, _, _, _, _, _, _, _, _]) rfl rfl Try.underlying33 rfl ti33 (rdn_lit 0 rfl rfl) ?_
  refine o_yes rfl rfl rfl ?_
  refine o_call rfl cal8 rfl (rgreat_ (o := y.ord) (OrdR.c (OrdR.c T_y))) ?_
  rintro _ _ ⟨g19, hg19, rfl, rfl⟩
  refine o_pick_false rfl rfl rfl ?_
  refine l_nil ?_
  refine q_then ?_
  refine c_cond rfl (fun h2 => ?_) (fun h2 => ?_)
  · -- h2T
   have h2b := h2
   try simp only [decide_eq_true_eq, decide_eq_false_iff_not, Bool.not_eq_eq_eq_not, Bool.not_true, Bool.not_false, Bool.not_eq_true', Bool.not_eq_false', Int.not_lt, Int.not_le, Bool.or_eq_true, Bool.and_eq_true] at h2
   refine c_seq ?_
   refine c_region ?_
   refine o_assign rfl rfl ?_
   refine l_nil ?_
   refine q_then ?_
   refine c_ret ?_
   refine q_pass_ret ?_
   refine q_conv (fun w S => S.tail) ?_
   refine q_conv (fun w S => S.tail) ?_
   exact f_ret (r_one rfl rfl) (⟨rfl, rfl⟩) (fun w S => S)
  · -- h2F
   have h2b := h2
   try simp only [decide_eq_true_eq, decide_eq_false_iff_not, Bool.not_eq_eq_eq_not, Bool.not_true, Bool.not_false, Bool.not_eq_true', Bool.not_eq_false', Int.not_lt, Int.not_le, Bool.or_eq_true, Bool.and_eq_true] at h2
   refine c_skip ?_
   refine q_then ?_
   refine c_seq ?_
   refine c_region ?_
   refine o_loadn (vs := [_, _, _, _, _, _, _, _, _, _, _, _]) rfl rfl Try.underlying44 rfl ti44 (rdn_lit 1 rfl rfl) ?_
   refine o_call rfl cal17 rfl (iWrite_ (x := x) (OrdR.c (OrdR.c T_x)) (hg15 (by assumption)) w_x) ?_
   rintro _ _ ⟨out23, a23, c23, hout23, rfl, rfl⟩
   refine o_move rfl rfl ?_
   refine o_extract rfl rfl rfl ?_
   refine o_extract rfl rfl rfl ?_
   refine o_assign rfl rfl ?_
   refine o_assign rfl rfl ?_
   refine l_nil ?_
   refine q_then ?_
   refine c_seq ?_
   refine c_region ?_
   refine o_loadn (vs := [_, _, _, _, _, _, _, _, _, _, _, _]) rfl rfl Try.underlying44 rfl ti44 (rdn_lit 1 rfl rfl) ?_
   refine o_call rfl cal17 rfl (iWrite_ (x := y) (OrdR.c (OrdR.c (OrdR.c T_y))) (hg19 (by assumption)) w_y) ?_
   rintro _ _ ⟨out28, a28, c28, hout28, rfl, rfl⟩
   refine o_move rfl rfl ?_
   refine o_extract rfl rfl rfl ?_
   refine o_extract rfl rfl rfl ?_
   refine o_assign rfl rfl ?_
   refine o_assign rfl rfl ?_
   refine l_nil ?_
   refine q_then ?_
   refine c_seq ?_
   refine c_seq ?_
   refine c_region ?_
   refine o_move rfl rfl ?_
   refine o_bin rfl rfl rfl b_neq ?_
   refine o_move rfl rfl ?_
   refine l_split (t := 33) rfl (fun h3 => ?_) (fun h3 => ?_)
   · -- h3T
    have h3b := h3
    try simp only [Bool.not_eq_true', decide_eq_false_iff_not, Int.not_lt, Int.not_le] at h3
    refine o_no rfl rfl rfl rfl ?_
    refine o_no rfl rfl rfl rfl ?_
    refine o_pick_true rfl rfl rfl ?_
    refine l_nil ?_
    refine q_then ?_
    refine c_true rfl ?_
    refine c_seq ?_
    refine c_region ?_
    refine o_assign rfl rfl ?_
    refine l_nil ?_
    refine q_then ?_
    refine c_ret ?_
    refine q_pass_ret ?_
    refine q_conv (fun w S => S.tail) ?_
    refine q_conv (fun w S => S.tail) ?_
    refine q_conv (fun w S => S.tail) ?_
    refine q_conv (fun w S => S.tail) ?_
    exact f_ret (r_one rfl rfl) (⟨rfl, rfl⟩) (fun w S => S)
   · -- h3F
    have h3b := h3
    try simp only [Bool.not_eq_false', decide_eq_true_eq] at h3
    refine o_yes rfl rfl rfl ?_
    refine o_move rfl rfl ?_
    refine o_yes rfl rfl rfl ?_
    refine o_bin rfl rfl rfl b_neq ?_
    refine o_pick_false rfl rfl rfl ?_
    refine l_nil ?_
    refine q_then ?_
    refine c_cond rfl (fun h4 => ?_) (fun h4 => ?_)
    · -- h4T
     have h4b := h4
     try simp only [Bool.not_eq_true', decide_eq_false_iff_not, Int.not_lt, Int.not_le] at h4
     refine c_seq ?_
     refine c_region ?_
     refine o_assign rfl rfl ?_
     refine l_nil ?_
     refine q_then ?_
     refine c_ret ?_
     refine q_pass_ret ?_
     refine q_conv (fun w S => S.tail) ?_
     refine q_conv (fun w S => S.tail) ?_
     refine q_conv (fun w S => S.tail) ?_
     refine q_conv (fun w S => S.tail) ?_
     exact f_ret (r_one rfl rfl) (⟨rfl, rfl⟩) (fun w S => S)
    · -- h4F
     have h4b := h4
     try simp only [Bool.not_eq_false', decide_eq_true_eq] at h4
     refine c_skip ?_
     refine q_then ?_
     refine c_seq ?_
     have hx0 : chkI x = 0 := by first | assumption | simp_all
     have hy0 : chkI y = 0 := by first | assumption | simp_all
     refine c_region ?_
     refine o_fieldAddr (q := ⟨b2, 2, none⟩) rfl rfl Try.underlying44 rfl ti33 rfl ?_
     refine o_loadn (vs := [_, _, _, _, _, _, _, _, _, _]) rfl rfl Try.underlying33 rfl ti33 (rdn_lit 3 rfl rfl) ?_
     refine o_call rfl cal18 rfl (oWrite_ (o := x.ord) (OrdR.c (OrdR.c (OrdR.c (OrdR.c T_x)))) (hg15 (by assumption)) w_x) ?_
     rintro _ _ ⟨out40, a40, c40, hout40, rfl, rfl⟩
     refine o_move rfl rfl ?_
     refine o_extract rfl rfl rfl ?_
     refine o_extract rfl rfl rfl ?_
     refine o_assign rfl rfl ?_
     refine o_assign rfl rfl ?_
     refine l_nil ?_
     refine q_then ?_
     refine c_seq ?_
     have ho23 : out23 = numsB [x.f_Kind, x.f_Index] ++ ordB x.ord := by rw [hout23, wrI_ok hx0]
     have ho40 : out40 = ordB x.ord := by rw [hout40, wrO_ok hx0]
     have hnp := nums2_pos (x := x)
     have hlt : out40.length < out23.length := by rw [ho23, ho40, List.length_append]; omega
     have hlb := ordB_len (chkI_0.1 hx0).2 w_x (hg15 (by assumption))
     have hl40 : out40.length ≤ 50000 := by rw [ho40]; exact hlb
     refine c_fact (row_cap 2 rfl) ?_
     intro hcap23
     refine c_fact (row_len 2 rfl) ?_
     intro hlen23
     refine c_heldF [] (row e8.T e8.sz a40 (out40).length c40 (flat e8 out40) :: row e8.T e8.sz a28 (out28).length c28 (flat e8 out28) :: row e8.T e8.sz a23 (out23).length c23 (flat e8 out23) :: blk b3 (.cells #[.int .i64 y.f_Kind, .int .i64 y.f_Index, .int .i64 y.ord.f_Tag_Id_Node, .int .u64 y.ord.f_Tag_Id_Epoch, .int .u64 y.ord.f_Tag_Id_Seq, .int .i64 y.ord.f_Tag_Try, .int .i64 y.ord.f_Txn_Kind, .slice y.ord.f_Txn_Reads.a (y.ord.f_Txn_Reads.xs).length y.ord.f_Txn_Reads.c, .slice y.ord.f_Txn_Writes.a (y.ord.f_Txn_Writes.xs).length y.ord.f_Txn_Writes.c, .slice y.ord.f_Txn_Ops.a (y.ord.f_Txn_Ops.xs).length y.ord.f_Txn_Ops.c, .int .i64 y.ord.f_Txn_To, .slice y.ord.f_Marks.a (y.ord.f_Marks.xs).length y.ord.f_Marks.c] 44 (0, 0)) :: blk b2 (.cells #[.int .i64 x.f_Kind, .int .i64 x.f_Index, .int .i64 x.ord.f_Tag_Id_Node, .int .u64 x.ord.f_Tag_Id_Epoch, .int .u64 x.ord.f_Tag_Id_Seq, .int .i64 x.ord.f_Tag_Try, .int .i64 x.ord.f_Txn_Kind, .slice x.ord.f_Txn_Reads.a (x.ord.f_Txn_Reads.xs).length x.ord.f_Txn_Reads.c, .slice x.ord.f_Txn_Writes.a (x.ord.f_Txn_Writes.xs).length x.ord.f_Txn_Writes.c, .slice x.ord.f_Txn_Ops.a (x.ord.f_Txn_Ops.xs).length x.ord.f_Txn_Ops.c, .int .i64 x.ord.f_Txn_To, .slice x.ord.f_Marks.a (x.ord.f_Marks.xs).length x.ord.f_Marks.c] 44 (0, 0)) :: F) (by kernel_rfl) ?_
     refine h_take 0 rfl rfl (by kernel_rfl) (by kernel_rfl) (by kernel_rfl) (fun L0 => v_move rfl rfl) ?_
     refine h_take 1 rfl rfl (by kernel_rfl) (by kernel_rfl) (by kernel_rfl) (fun L0 => v_bytesStr (e := e8) rfl rfl rfl Try.underlying45 Try.underlying5 Try.underlying9 (rds_own e8_ok 2 rfl)) ?_
     refine h_take 2 rfl rfl (by kernel_rfl) (by kernel_rfl) (by kernel_rfl) (fun L0 => v_move rfl rfl) ?_
     refine h_take 3 rfl rfl (by kernel_rfl) (by kernel_rfl) (by kernel_rfl) (fun L0 => v_bytesStr (e := e8) rfl rfl rfl Try.underlying45 Try.underlying5 Try.underlying9 (rds_own e8_ok 1 rfl)) ?_
     refine h_take 4 rfl rfl (by kernel_rfl) (by kernel_rfl) (by kernel_rfl) (fun L0 => v_bin rfl rfl rfl b_seql) ?_
     refine h_take 5 rfl rfl (by kernel_rfl) (by kernel_rfl) (by kernel_rfl) (fun L0 => v_loadn (vs := [_, _, _, _, _, _, _, _, _, _, _, _]) rfl rfl Try.underlying44 rfl ti44 (rdn_lit 4 rfl rfl)) ?_
     refine h_take 6 rfl rfl (by kernel_rfl) (by kernel_rfl) (by kernel_rfl) (fun L0 => v_loadn (vs := [_, _, _, _, _, _, _, _, _, _, _, _]) rfl rfl Try.underlying44 rfl ti44 (rdn_lit 3 rfl rfl)) ?_
     refine h_one 7 rfl (by kernel_rfl) ?_
     refine l_conv (L' := row e8.T e8.sz a40 (out40).length c40 (flat e8 out40) :: row e8.T e8.sz a28 (out28).length c28 (flat e8 out28) :: row e8.T e8.sz a23 (out23).length c23 (flat e8 out23) :: blk b3 (.cells #[.int .i64 y.f_Kind, .int .i64 y.f_Index, .int .i64 y.ord.f_Tag_Id_Node, .int .u64 y.ord.f_Tag_Id_Epoch, .int .u64 y.ord.f_Tag_Id_Seq, .int .i64 y.ord.f_Tag_Try, .int .i64 y.ord.f_Txn_Kind, .slice y.ord.f_Txn_Reads.a (y.ord.f_Txn_Reads.xs).length y.ord.f_Txn_Reads.c, .slice y.ord.f_Txn_Writes.a (y.ord.f_Txn_Writes.xs).length y.ord.f_Txn_Writes.c, .slice y.ord.f_Txn_Ops.a (y.ord.f_Txn_Ops.xs).length y.ord.f_Txn_Ops.c, .int .i64 y.ord.f_Txn_To, .slice y.ord.f_Marks.a (y.ord.f_Marks.xs).length y.ord.f_Marks.c] 44 (0, 0)) :: blk b2 (.cells #[.int .i64 x.f_Kind, .int .i64 x.f_Index, .int .i64 x.ord.f_Tag_Id_Node, .int .u64 x.ord.f_Tag_Id_Epoch, .int .u64 x.ord.f_Tag_Id_Seq, .int .i64 x.ord.f_Tag_Try, .int .i64 x.ord.f_Txn_Kind, .slice x.ord.f_Txn_Reads.a (x.ord.f_Txn_Reads.xs).length x.ord.f_Txn_Reads.c, .slice x.ord.f_Txn_Writes.a (x.ord.f_Txn_Writes.xs).length x.ord.f_Txn_Writes.c, .slice x.ord.f_Txn_Ops.a (x.ord.f_Txn_Ops.xs).length x.ord.f_Txn_Ops.c, .int .i64 x.ord.f_Txn_To, .slice x.ord.f_Marks.a (x.ord.f_Marks.xs).length x.ord.f_Marks.c] 44 (0, 0)) :: F) (fun w S => S.perm List.perm_append_comm) ?_
     refine o_call rfl cal19 rfl (sameItem_ (x := x) (y := y) (OrdR.c (OrdR.c (OrdR.c (OrdR.c (OrdR.c T_x))))) (OrdR.c (OrdR.c (OrdR.c (OrdR.c (OrdR.c T_y)))))) ?_
     rintro _ _ ⟨rfl, rfl⟩
     refine l_nil ?_
     refine q_conv (L' := (row e8.T e8.sz a40 (out40).length c40 (flat e8 out40) :: row e8.T e8.sz a28 (out28).length c28 (flat e8 out28) :: row e8.T e8.sz a23 (out23).length c23 (flat e8 out23) :: blk b3 (.cells #[.int .i64 y.f_Kind, .int .i64 y.f_Index, .int .i64 y.ord.f_Tag_Id_Node, .int .u64 y.ord.f_Tag_Id_Epoch, .int .u64 y.ord.f_Tag_Id_Seq, .int .i64 y.ord.f_Tag_Try, .int .i64 y.ord.f_Txn_Kind, .slice y.ord.f_Txn_Reads.a (y.ord.f_Txn_Reads.xs).length y.ord.f_Txn_Reads.c, .slice y.ord.f_Txn_Writes.a (y.ord.f_Txn_Writes.xs).length y.ord.f_Txn_Writes.c, .slice y.ord.f_Txn_Ops.a (y.ord.f_Txn_Ops.xs).length y.ord.f_Txn_Ops.c, .int .i64 y.ord.f_Txn_To, .slice y.ord.f_Marks.a (y.ord.f_Marks.xs).length y.ord.f_Marks.c] 44 (0, 0)) :: blk b2 (.cells #[.int .i64 x.f_Kind, .int .i64 x.f_Index, .int .i64 x.ord.f_Tag_Id_Node, .int .u64 x.ord.f_Tag_Id_Epoch, .int .u64 x.ord.f_Tag_Id_Seq, .int .i64 x.ord.f_Tag_Try, .int .i64 x.ord.f_Txn_Kind, .slice x.ord.f_Txn_Reads.a (x.ord.f_Txn_Reads.xs).length x.ord.f_Txn_Reads.c, .slice x.ord.f_Txn_Writes.a (x.ord.f_Txn_Writes.xs).length x.ord.f_Txn_Writes.c, .slice x.ord.f_Txn_Ops.a (x.ord.f_Txn_Ops.xs).length x.ord.f_Txn_Ops.c, .int .i64 x.ord.f_Txn_To, .slice x.ord.f_Marks.a (x.ord.f_Marks.xs).length x.ord.f_Marks.c] 44 (0, 0)) :: F) ++ []) (fun w S => S.perm (List.perm_append_comm (l₁ := []) (l₂ := row e8.T e8.sz a40 (out40).length c40 (flat e8 out40) :: row e8.T e8.sz a28 (out28).length c28 (flat e8 out28) :: row e8.T e8.sz a23 (out23).length c23 (flat e8 out23) :: blk b3 (.cells #[.int .i64 y.f_Kind, .int .i64 y.f_Index, .int .i64 y.ord.f_Tag_Id_Node, .int .u64 y.ord.f_Tag_Id_Epoch, .int .u64 y.ord.f_Tag_Id_Seq, .int .i64 y.ord.f_Tag_Try, .int .i64 y.ord.f_Txn_Kind, .slice y.ord.f_Txn_Reads.a (y.ord.f_Txn_Reads.xs).length y.ord.f_Txn_Reads.c, .slice y.ord.f_Txn_Writes.a (y.ord.f_Txn_Writes.xs).length y.ord.f_Txn_Writes.c, .slice y.ord.f_Txn_Ops.a (y.ord.f_Txn_Ops.xs).length y.ord.f_Txn_Ops.c, .int .i64 y.ord.f_Txn_To, .slice y.ord.f_Marks.a (y.ord.f_Marks.xs).length y.ord.f_Marks.c] 44 (0, 0)) :: blk b2 (.cells #[.int .i64 x.f_Kind, .int .i64 x.f_Index, .int .i64 x.ord.f_Tag_Id_Node, .int .u64 x.ord.f_Tag_Id_Epoch, .int .u64 x.ord.f_Tag_Id_Seq, .int .i64 x.ord.f_Tag_Try, .int .i64 x.ord.f_Txn_Kind, .slice x.ord.f_Txn_Reads.a (x.ord.f_Txn_Reads.xs).length x.ord.f_Txn_Reads.c, .slice x.ord.f_Txn_Writes.a (x.ord.f_Txn_Writes.xs).length x.ord.f_Txn_Writes.c, .slice x.ord.f_Txn_Ops.a (x.ord.f_Txn_Ops.xs).length x.ord.f_Txn_Ops.c, .int .i64 x.ord.f_Txn_To, .slice x.ord.f_Marks.a (x.ord.f_Marks.xs).length x.ord.f_Marks.c] 44 (0, 0)) :: F))) ?_
     refine h_next ?_
     refine h_take 8 rfl rfl (by kernel_rfl) (by kernel_rfl) (by kernel_rfl) (fun L0 => v_bin rfl rfl rfl (b_beq Try.underlying4 _ _)) ?_
     refine h_eq (t := 51) (v' := .bool true) rfl (show _ = Value.bool true from by rw [hout23, hout28, bbeq (apartI hx0 hy0 w_x w_y)]) ?_
     refine h_take 9 rfl rfl (by kernel_rfl) (by kernel_rfl) (by kernel_rfl) (fun L0 => v_move rfl rfl) ?_
     refine h_take_yes 10 rfl rfl rfl rfl rfl (by kernel_rfl) (by kernel_rfl) (by kernel_rfl) (fun L0 => v_move rfl rfl) ?_
     refine h_take_yes 11 rfl rfl rfl rfl rfl (by kernel_rfl) (by kernel_rfl) (by kernel_rfl) (fun L0 => v_bin rfl rfl rfl b_eql) ?_
     refine h_eq (t := 54) (v' := .bool true) rfl (show _ = Value.bool true from by rw [decide_eq_true (chkO_yes (chkI_0.1 hx0).2)]) ?_
     refine h_take 12 rfl rfl (by kernel_rfl) (by kernel_rfl) (by kernel_rfl) (fun L0 => v_pick_true rfl rfl rfl) ?_
     refine h_take 13 rfl rfl (by kernel_rfl) (by kernel_rfl) (by kernel_rfl) (fun L0 => v_move rfl rfl) ?_
     refine h_take_yes 14 rfl rfl rfl rfl rfl (by kernel_rfl) (by kernel_rfl) (by kernel_rfl) (fun L0 => v_move rfl rfl) ?_
     refine h_take_yes 15 rfl rfl rfl rfl rfl (by kernel_rfl) (by kernel_rfl) (by kernel_rfl) (fun L0 => v_len rfl rfl Try.underlying45) ?_
     refine h_take_yes 16 rfl rfl rfl rfl rfl (by kernel_rfl) (by kernel_rfl) (by kernel_rfl) (fun L0 => v_move rfl rfl) ?_
     refine h_take_yes 17 rfl rfl rfl rfl rfl (by kernel_rfl) (by kernel_rfl) (by kernel_rfl) (fun L0 => v_len rfl rfl Try.underlying45) ?_
     refine h_take_yes 18 rfl rfl rfl rfl rfl (by kernel_rfl) (by kernel_rfl) (by kernel_rfl) (fun L0 => v_bin rfl rfl rfl b_gtr) ?_
     refine h_eq (t := 61) (v' := .bool true) rfl (show _ = Value.bool true from by rw [decide_eq_true (by omega)]) ?_
     refine h_take 19 rfl rfl (by kernel_rfl) (by kernel_rfl) (by kernel_rfl) (fun L0 => v_pick_true rfl rfl rfl) ?_
     refine h_take 20 rfl rfl (by kernel_rfl) (by kernel_rfl) (by kernel_rfl) (fun L0 => v_move rfl rfl) ?_
     refine h_take_yes 21 rfl rfl rfl rfl rfl (by kernel_rfl) (by kernel_rfl) (by kernel_rfl) (fun L0 => v_move rfl rfl) ?_
     refine h_take_yes 22 rfl rfl rfl rfl rfl (by kernel_rfl) (by kernel_rfl) (by kernel_rfl) (fun L0 => v_move rfl rfl) ?_
     refine h_take_yes 23 rfl rfl rfl rfl rfl (by kernel_rfl) (by kernel_rfl) (by kernel_rfl) (fun L0 => v_len rfl rfl Try.underlying45) ?_
     refine h_take_yes 24 rfl rfl rfl rfl rfl (by kernel_rfl) (by kernel_rfl) (by kernel_rfl) (fun L0 => v_move rfl rfl) ?_
     refine h_take_yes 25 rfl rfl rfl rfl rfl (by kernel_rfl) (by kernel_rfl) (by kernel_rfl) (fun L0 => v_len rfl rfl Try.underlying45) ?_
     refine h_take_yes 26 rfl rfl rfl rfl rfl (by kernel_rfl) (by kernel_rfl) (by kernel_rfl) (fun L0 => v_bin rfl rfl rfl (b_sub (wrap_i64 (by omega) (by omega)))) ?_
     refine h_take_yes 27 rfl rfl rfl rfl rfl (by kernel_rfl) (by kernel_rfl) (by kernel_rfl) (fun L0 => v_cut (l' := (out23.length - out40.length)) (h' := ((out23).length)) (m := c23) rfl rfl Try.underlying45 ti5 (.inl ⟨rfl, rfl⟩) (.inl ⟨rfl, rfl, rfl⟩) (.inr ⟨_, _, rfl, icast rfl (by omega), (by omega)⟩)) ?_
     obtain ⟨ys70, ay70, cut70, hys70, hlys70, eay70⟩ : ∃ ys_ ay_, (∀ {L : List Res}, RdS W L e8 a23 out23 → RdS W L e8 ay_ ys_) ∧ ys_ = sub out23 (out23.length - out40.length) ((out23).length) ∧ ys_.length = ((out23).length) - (out23.length - out40.length) ∧ cutA a23 c23 (out23.length - out40.length) 1 = ay_ := ⟨_, _, fun h => rds_cut e8_ok h _ _ _ (by omega), rfl, sub_len (by omega), rfl⟩
     refine h_eq (t := 70) (v' := .slice ay70 ys70.length (c23 - (out23.length - out40.length))) rfl (by rw [eay70, hlys70]) ?_
     refine h_take_yes 28 rfl rfl rfl rfl rfl (by kernel_rfl) (by kernel_rfl) (by kernel_rfl) (fun L0 => v_bytesStr (e := e8) rfl rfl rfl Try.underlying45 Try.underlying5 Try.underlying9 (cut70 (rds_own e8_ok 2 rfl))) ?_
     refine h_take_yes 29 rfl rfl rfl rfl rfl (by kernel_rfl) (by kernel_rfl) (by kernel_rfl) (fun L0 => v_move rfl rfl) ?_
     refine h_take_yes 30 rfl rfl rfl rfl rfl (by kernel_rfl) (by kernel_rfl) (by kernel_rfl) (fun L0 => v_bytesStr (e := e8) rfl rfl rfl Try.underlying45 Try.underlying5 Try.underlying9 (rds_own e8_ok 0 rfl)) ?_
     refine h_take_yes 31 rfl rfl rfl rfl rfl (by kernel_rfl) (by kernel_rfl) (by kernel_rfl) (fun L0 => v_bin rfl rfl rfl b_seql) ?_
     refine h_eq (t := 74) (v' := .bool true) rfl (show _ = Value.bool true from by rw [hys70, ho23, ho40, sub_end]; simp) ?_
     refine h_take 32 rfl rfl (by kernel_rfl) (by kernel_rfl) (by kernel_rfl) (fun L0 => v_pick_true rfl rfl rfl) ?_
     refine h_take 33 rfl rfl (by kernel_rfl) (by kernel_rfl) (by kernel_rfl) (fun L0 => v_assign rfl rfl) ?_
     refine h_done (by kernel_rfl) ?_
     refine q_conv (L' := row e8.T e8.sz a40 (out40).length c40 (flat e8 out40) :: row e8.T e8.sz a28 (out28).length c28 (flat e8 out28) :: row e8.T e8.sz a23 (out23).length c23 (flat e8 out23) :: blk b3 (.cells #[.int .i64 y.f_Kind, .int .i64 y.f_Index, .int .i64 y.ord.f_Tag_Id_Node, .int .u64 y.ord.f_Tag_Id_Epoch, .int .u64 y.ord.f_Tag_Id_Seq, .int .i64 y.ord.f_Tag_Try, .int .i64 y.ord.f_Txn_Kind, .slice y.ord.f_Txn_Reads.a (y.ord.f_Txn_Reads.xs).length y.ord.f_Txn_Reads.c, .slice y.ord.f_Txn_Writes.a (y.ord.f_Txn_Writes.xs).length y.ord.f_Txn_Writes.c, .slice y.ord.f_Txn_Ops.a (y.ord.f_Txn_Ops.xs).length y.ord.f_Txn_Ops.c, .int .i64 y.ord.f_Txn_To, .slice y.ord.f_Marks.a (y.ord.f_Marks.xs).length y.ord.f_Marks.c] 44 (0, 0)) :: blk b2 (.cells #[.int .i64 x.f_Kind, .int .i64 x.f_Index, .int .i64 x.ord.f_Tag_Id_Node, .int .u64 x.ord.f_Tag_Id_Epoch, .int .u64 x.ord.f_Tag_Id_Seq, .int .i64 x.ord.f_Tag_Try, .int .i64 x.ord.f_Txn_Kind, .slice x.ord.f_Txn_Reads.a (x.ord.f_Txn_Reads.xs).length x.ord.f_Txn_Reads.c, .slice x.ord.f_Txn_Writes.a (x.ord.f_Txn_Writes.xs).length x.ord.f_Txn_Writes.c, .slice x.ord.f_Txn_Ops.a (x.ord.f_Txn_Ops.xs).length x.ord.f_Txn_Ops.c, .int .i64 x.ord.f_Txn_To, .slice x.ord.f_Marks.a (x.ord.f_Marks.xs).length x.ord.f_Marks.c] 44 (0, 0)) :: F) (fun w S => S.perm List.perm_append_comm) ?_
     refine q_then ?_
     refine c_ret ?_
     refine q_conv (fun w S => S.tail) ?_
     refine q_conv (fun w S => S.tail) ?_
     refine q_conv (fun w S => S.tail) ?_
     refine q_conv (fun w S => S.tail) ?_
     refine q_conv (fun w S => S.tail) ?_
     exact f_ret (r_one rfl rfl) (⟨rfl, rfl⟩) (fun w S => S)
end
end Go.Proofs.Ytlblipkcbmcfkaa
