/- Printed by eng2.py out of 15/spec.py. -/
import Derived.Test.YteehongibjkjlaaOSame
import Derived.Test.YteehongibjkjlaaPcsp
set_option linter.unusedVariables false
set_option linter.unusedSimpArgs false
set_option maxRecDepth 10000
namespace Go.Proofs.Yteehongibjkjlaa
open Go.RowKit Classical
theorem sub_mem'' {α : Type} {xs : List α} {l h : Nat} {x : α} (hx : x ∈ sub xs l h) : x ∈ xs := by
  unfold sub at hx
  exact List.mem_of_mem_take (List.mem_of_mem_drop hx)
theorem sub_take {α : Type} {xs : List α} {h : Nat} : sub xs 0 h = xs.take h := by unfold sub; rw [List.drop_zero]
theorem sameItem_ {W : World} {F : List Res} {x y : Item} (T_x : OrdR W F x.ord) (T_y : OrdR W F y.ord) : CS Try.prog 21 #[.agg #[.int .i64 x.f_Kind, .int .i64 x.f_Index, .int .i64 x.ord.f_Tag_Id_Node, .int .u64 x.ord.f_Tag_Id_Epoch, .int .u64 x.ord.f_Tag_Id_Seq, .int .i64 x.ord.f_Tag_Try, .int .i64 x.ord.f_Txn_Kind, .slice x.ord.f_Txn_Reads.a (x.ord.f_Txn_Reads.xs).length x.ord.f_Txn_Reads.c, .slice x.ord.f_Txn_Writes.a (x.ord.f_Txn_Writes.xs).length x.ord.f_Txn_Writes.c, .slice x.ord.f_Txn_Ops.a (x.ord.f_Txn_Ops.xs).length x.ord.f_Txn_Ops.c, .int .i64 x.ord.f_Txn_To, .slice x.ord.f_Marks.a (x.ord.f_Marks.xs).length x.ord.f_Marks.c], .agg #[.int .i64 y.f_Kind, .int .i64 y.f_Index, .int .i64 y.ord.f_Tag_Id_Node, .int .u64 y.ord.f_Tag_Id_Epoch, .int .u64 y.ord.f_Tag_Id_Seq, .int .i64 y.ord.f_Tag_Try, .int .i64 y.ord.f_Txn_Kind, .slice y.ord.f_Txn_Reads.a (y.ord.f_Txn_Reads.xs).length y.ord.f_Txn_Reads.c, .slice y.ord.f_Txn_Writes.a (y.ord.f_Txn_Writes.xs).length y.ord.f_Txn_Writes.c, .slice y.ord.f_Txn_Ops.a (y.ord.f_Txn_Ops.xs).length y.ord.f_Txn_Ops.c, .int .i64 y.ord.f_Txn_To, .slice y.ord.f_Marks.a (y.ord.f_Marks.xs).length y.ord.f_Marks.c]] W (F) (fun r L' => r = .bool (decide (SameI x y)) ∧ F = L') := by
 refine f_door (l0 := [(0, .agg #[.int .i64 x.f_Kind, .int .i64 x.f_Index, .int .i64 x.ord.f_Tag_Id_Node, .int .u64 x.ord.f_Tag_Id_Epoch, .int .u64 x.ord.f_Tag_Id_Seq, .int .i64 x.ord.f_Tag_Try, .int .i64 x.ord.f_Txn_Kind, .slice x.ord.f_Txn_Reads.a (x.ord.f_Txn_Reads.xs).length x.ord.f_Txn_Reads.c, .slice x.ord.f_Txn_Writes.a (x.ord.f_Txn_Writes.xs).length x.ord.f_Txn_Writes.c, .slice x.ord.f_Txn_Ops.a (x.ord.f_Txn_Ops.xs).length x.ord.f_Txn_Ops.c, .int .i64 x.ord.f_Txn_To, .slice x.ord.f_Marks.a (x.ord.f_Marks.xs).length x.ord.f_Marks.c]), (1, .agg #[.int .i64 y.f_Kind, .int .i64 y.f_Index, .int .i64 y.ord.f_Tag_Id_Node, .int .u64 y.ord.f_Tag_Id_Epoch, .int .u64 y.ord.f_Tag_Id_Seq, .int .i64 y.ord.f_Tag_Try, .int .i64 y.ord.f_Txn_Kind, .slice y.ord.f_Txn_Reads.a (y.ord.f_Txn_Reads.xs).length y.ord.f_Txn_Reads.c, .slice y.ord.f_Txn_Writes.a (y.ord.f_Txn_Writes.xs).length y.ord.f_Txn_Writes.c, .slice y.ord.f_Txn_Ops.a (y.ord.f_Txn_Ops.xs).length y.ord.f_Txn_Ops.c, .int .i64 y.ord.f_Txn_To, .slice y.ord.f_Marks.a (y.ord.f_Marks.xs).length y.ord.f_Marks.c])]) Try.func21 Try.ntmps21 rfl rfl rfl ?_
 refine c_seq ?_
 refine c_region ?_
 refine o_box rfl rfl fun b2 => ?_
 refine o_box rfl rfl fun b3 => ?_
 refine o_assign rfl rfl ?_
 refine l_nil ?_
 refine q_then ?_
 refine c_seq ?_
 refine c_region ?_
 refine o_fieldAddr (q := ⟨b2, 0, none⟩) rfl rfl Try.underlying42 rfl ti3 rfl ?_
 refine o_load1 rfl rfl Try.underlying3 rfl (rd_mem 1 rfl rfl) ?_
 refine o_fieldAddr (q := ⟨b3, 0, none⟩) rfl rfl Try.underlying42 rfl ti3 rfl ?_
 refine o_load1 rfl rfl Try.underlying3 rfl (rd_mem 0 rfl rfl) ?_
 refine o_bin rfl rfl rfl b_eql ?_
 refine o_move rfl rfl ?_
 refine l_split (t := 10) rfl (fun h1 => ?_) (fun h1 => ?_)
 · -- h1T
  have h1b := h1
  try simp only [decide_eq_true_eq] at h1
  refine o_yes rfl rfl rfl ?_
  refine o_fieldAddr (q := ⟨b2, 1, none⟩) rfl rfl Try.underlying42 rfl ti3 rfl ?_
  refine o_yes rfl rfl rfl ?_
  refine o_load1 rfl rfl Try.underlying3 rfl (rd_mem 1 rfl rfl) ?_
  refine o_yes rfl rfl rfl ?_
  refine o_fieldAddr (q := ⟨b3, 1, none⟩) rfl rfl Try.underlying42 rfl ti3 rfl ?_
  refine o_yes rfl rfl rfl ?_
  refine o_load1 rfl rfl Try.underlying3 rfl (rd_mem 0 rfl rfl) ?_
  refine o_yes rfl rfl rfl ?_
  refine o_bin rfl rfl rfl b_eql ?_
  refine o_pick_true rfl rfl rfl ?_
  refine o_move rfl rfl ?_
  refine l_split (t := 17) rfl (fun h2 => ?_) (fun h2 => ?_)
  · -- h2T
   have h2b := h2
   try simp only [decide_eq_true_eq] at h2
   refine o_yes rfl rfl rfl ?_
   refine o_fieldAddr (q := ⟨b2, 2, none⟩) rfl rfl Try.underlying42 rfl ti40 rfl ?_
   refine o_yes rfl rfl rfl ?_
   refine o_loadn (vs := [_, _, _, _, _, _, _, _, _, _]) rfl rfl Try.underlying40 rfl ti40 (rdn_lit 1 rfl rfl) ?_
   refine o_yes rfl rfl rfl ?_
   refine o_fieldAddr (q := ⟨b3, 2, none⟩) rfl rfl Try.underlying42 rfl ti40 rfl ?_
   refine o_yes rfl rfl rfl ?_
   refine o_loadn (vs := [_, _, _, _, _, _, _, _, _, _]) rfl rfl Try.underlying40 rfl ti40 (rdn_lit 0 rfl rfl) ?_
   refine o_yes rfl rfl rfl ?_
   refine o_call rfl cal10 rfl (same9_ (a := x.ord) (b := y.ord) (OrdR.c (OrdR.c T_x)) (OrdR.c (OrdR.c T_y))) ?_
   rintro _ _ ⟨rfl, rfl⟩
   refine o_pick_true rfl rfl rfl ?_
   refine o_assign rfl rfl ?_
   refine l_nil ?_
   refine q_then ?_
   refine c_ret ?_
   refine q_conv (fun w S => S.tail) ?_
   refine q_conv (fun w S => S.tail) ?_
   exact f_ret (r_one rfl rfl) (⟨by first | exact vtrue' (by unfold SameI; grind) | exact vfalse' (by unfold SameI; grind) | exact bdec' (by unfold SameI; grind), rfl⟩) (fun w S => S)
  · -- h2F
   have h2b := h2
   try simp only [decide_eq_false_iff_not, Int.not_lt, Int.not_le] at h2
   refine o_no rfl rfl rfl rfl ?_
   refine o_no rfl rfl rfl rfl ?_
   refine o_no rfl rfl rfl rfl ?_
   refine o_no rfl rfl rfl rfl ?_
   refine o_no rfl rfl rfl rfl ?_
   refine o_pick_false rfl rfl rfl ?_
   refine o_assign rfl rfl ?_
   refine l_nil ?_
   refine q_then ?_
   refine c_ret ?_
   refine q_conv (fun w S => S.tail) ?_
   refine q_conv (fun w S => S.tail) ?_
   exact f_ret (r_one rfl rfl) (⟨by first | exact vtrue' (by unfold SameI; grind) | exact vfalse' (by unfold SameI; grind) | exact bdec' (by unfold SameI; grind), rfl⟩) (fun w S => S)
 · -- h1F
  have h1b := h1
  try simp only [decide_eq_false_iff_not, Int.not_lt, Int.not_le] at h1
  refine o_no rfl rfl rfl rfl ?_
  refine o_no rfl rfl rfl rfl ?_
  refine o_no rfl rfl rfl rfl ?_
  refine o_no rfl rfl rfl rfl ?_
  refine o_no rfl rfl rfl rfl ?_
  refine o_pick_false rfl rfl rfl ?_
  refine o_move rfl rfl ?_
  refine o_no rfl rfl rfl rfl ?_
  refine o_no rfl rfl rfl rfl ?_
  refine o_no rfl rfl rfl rfl ?_
  refine o_no rfl rfl rfl rfl ?_
  refine o_no rfl rfl rfl rfl ?_
  refine o_pick_false rfl rfl rfl ?_
  refine o_assign rfl rfl ?_
  refine l_nil ?_
  refine q_then ?_
  refine c_ret ?_
  refine q_conv (fun w S => S.tail) ?_
  refine q_conv (fun w S => S.tail) ?_
  exact f_ret (r_one rfl rfl) (⟨by first | exact vtrue' (by unfold SameI; grind) | exact vfalse' (by unfold SameI; grind) | exact bdec' (by unfold SameI; grind), rfl⟩) (fun w S => S)

set_option maxHeartbeats 1000000 in
theorem same15_ {W : World} {F : List Res} {xs ys : List Item} {a b : Option Addr} {c d : Nat} (hx : RdS W F e_Item a xs) (ox : ∀ x ∈ xs, OrdR W F x.ord) (hy : RdS W F e_Item b ys) (oy : ∀ x ∈ ys, OrdR W F x.ord) (hn : xs.length ≤ 1000) : CS Try.prog 19 #[.slice a xs.length c, .slice b ys.length d] W (F) (fun r L' => r = .bool (decide (SameIs xs ys)) ∧ F = L') := by
 refine f_door (l0 := [(0, .slice a xs.length c), (1, .slice b ys.length d)]) Try.func19 Try.ntmps19 rfl rfl rfl ?_
 refine c_seq ?_
 refine c_region ?_
 refine o_assign rfl rfl ?_
 refine l_nil ?_
 refine q_then ?_
 refine c_seq ?_
 refine c_seq ?_
 refine c_region ?_
 refine o_move rfl rfl ?_
 refine o_len rfl rfl Try.underlying27 ?_
 refine o_move rfl rfl ?_
 refine o_len rfl rfl Try.underlying27 ?_
 refine o_bin rfl rfl rfl b_neq ?_
 refine l_nil ?_
 refine q_then ?_
 refine c_cond rfl (fun h1 => ?_) (fun h1 => ?_)
 · -- h1T
  have h1b := h1
  try simp only [Bool.not_eq_true', decide_eq_false_iff_not, Int.not_lt, Int.not_le] at h1
  refine c_seq ?_
  refine c_region ?_
  refine o_assign rfl rfl ?_
  refine l_nil ?_
  refine q_then ?_
  refine c_ret ?_
  refine q_pass_ret ?_
  exact f_ret (r_one rfl rfl) (⟨vfalse' (fun h9 => h1 (by rw [h9.1])), rfl⟩) (fun w S => S)
 · -- h1F
  have h1b := h1
  try simp only [Bool.not_eq_false', decide_eq_true_eq] at h1
  refine c_skip ?_
  refine q_then ?_
  refine c_seq ?_
  refine c_seq ?_
  refine c_region ?_
  refine o_move rfl rfl ?_
  refine o_len rfl rfl Try.underlying27 ?_
  refine o_move rfl rfl ?_
  refine l_nil ?_
  refine q_then ?_
  refine c_block ?_
  refine c_loop (α := Nat) (fun z => [(0, .slice a (xs).length c), (1, .slice b (ys).length d), (12, .int .i64 ((xs).length : Int)), (13, .int .i64 (z : Int))]) (fun z => F) (fun z => z ≤ xs.length ∧ SameTo xs ys z) (fun z => xs.length - z) (0) (by exact ⟨Nat.zero_le _, fun k x y h => absurd h (by omega)⟩) ⟨(by first | rfl | exact vint (by omega)), (by first | rfl | exact vint (by omega)), (by first | rfl | exact vint (by omega)), (by first | rfl | exact vint (by omega)), trivial⟩ (fun w S => S) ?_
  rintro i ⟨hi, hst⟩
  try dsimp only at *
  refine c_seq ?_
  refine c_region ?_
  refine o_bin rfl rfl rfl b_lss ?_
  refine l_nil ?_
  refine q_then ?_
  refine c_seq ?_
  refine c_cond rfl (fun h2 => ?_) (fun h2 => ?_)
  · -- h2T
   have h2b := h2
   try simp only [decide_eq_true_eq] at h2
   refine c_skip ?_
   refine q_then ?_
   refine c_seq ?_
   refine c_block ?_
   refine c_seq ?_
   refine c_region ?_
   refine o_move rfl rfl ?_
   refine o_assign rfl rfl ?_
   refine l_nil ?_
   refine q_then ?_
   refine c_seq ?_
   refine c_fact (p := ∃ ad, a = some ad) (rds_some (e := e_Item) (xs := xs) hx (by intro h0; have h00 := congrArg List.length h0; simp only [List.length_nil] at h00; omega)) ?_
   rintro ⟨adx, eadx⟩
   refine c_fact (p := ∃ ad, b = some ad) (rds_some (e := e_Item) (xs := ys) hy (by intro h0; have h00 := congrArg List.length h0; simp only [List.length_nil] at h00; omega)) ?_
   rintro ⟨ady, eady⟩
   refine c_heldF [] (F) (by kernel_rfl) ?_
   refine h_take 0 rfl rfl (by kernel_rfl) (by kernel_rfl) (by kernel_rfl) (fun L0 => v_move rfl rfl) ?_
   refine h_take 1 rfl rfl (by kernel_rfl) (by kernel_rfl) (by kernel_rfl) (fun L0 => v_move rfl rfl) ?_
   refine h_take 2 rfl rfl (by kernel_rfl) (by kernel_rfl) (by kernel_rfl) (fun L0 => v_indexK e_Item_ok eadx rfl rfl rfl Try.underlying27 (by omega) (by omega)) ?_
   obtain ⟨x18, hx18⟩ : ∃ x, (xs)[((i : Int)).toNat]? = some x := ⟨_, List.getElem?_eq_getElem (by omega)⟩
   refine h_take 3 rfl rfl (by kernel_rfl) (by kernel_rfl) (by kernel_rfl) (fun L0 => v_loadn (vs := e_Item.cells x18) rfl rfl Try.underlying42 rfl ti42 (rdn_sl e_Item_ok eadx (rds_app hx) hx18)) ?_
   refine h_take 4 rfl rfl (by kernel_rfl) (by kernel_rfl) (by kernel_rfl) (fun L0 => v_move rfl rfl) ?_
   refine h_take 5 rfl rfl (by kernel_rfl) (by kernel_rfl) (by kernel_rfl) (fun L0 => v_move rfl rfl) ?_
   refine h_take 6 rfl rfl (by kernel_rfl) (by kernel_rfl) (by kernel_rfl) (fun L0 => v_indexK e_Item_ok eady rfl rfl rfl Try.underlying27 (by omega) (by omega)) ?_
   obtain ⟨x22, hx22⟩ : ∃ x, (ys)[((i : Int)).toNat]? = some x := ⟨_, List.getElem?_eq_getElem (by omega)⟩
   refine h_take 7 rfl rfl (by kernel_rfl) (by kernel_rfl) (by kernel_rfl) (fun L0 => v_loadn (vs := e_Item.cells x22) rfl rfl Try.underlying42 rfl ti42 (rdn_sl e_Item_ok eady (rds_app hy) hx22)) ?_
   refine h_one 8 rfl (by kernel_rfl) ?_
   refine l_conv (L' := F) (fun w S => S.perm List.perm_append_comm) ?_
   refine o_call rfl cal21 rfl (sameItem_ (x := x18) (y := x22) (ox x18 (List.mem_of_getElem? hx18)) (oy x22 (List.mem_of_getElem? hx22))) ?_
   rintro _ _ ⟨rfl, rfl⟩
   refine l_nil ?_
   refine q_conv (L' := (F) ++ []) (fun w S => S.perm (List.perm_append_comm (l₁ := []) (l₂ := F))) ?_
   refine h_next ?_
   refine h_take 9 rfl rfl (by kernel_rfl) (by kernel_rfl) (by kernel_rfl) (fun L0 => v_not rfl rfl) ?_
   refine h_done (by kernel_rfl) ?_
   refine q_conv (L' := F) (fun w S => S.perm List.perm_append_comm) ?_
   refine q_then ?_
   refine c_cond rfl (fun h3 => ?_) (fun h3 => ?_)
   · -- h3T
    have h3b := h3
    try simp only [Bool.not_eq_true', decide_eq_false_iff_not, Int.not_lt, Int.not_le] at h3
    refine c_seq ?_
    refine c_region ?_
    refine o_assign rfl rfl ?_
    refine l_nil ?_
    refine q_then ?_
    refine c_ret ?_
    refine q_block_ret ?_
    refine q_pass_ret ?_
    refine q_pass_ret ?_
    refine q_block_ret ?_
    refine q_pass_ret ?_
    exact f_ret (r_one rfl rfl) (⟨vfalse' (fun h9 => (by simpa using h3b : ¬ SameI x18 x22) (h9.2 i x18 x22 hx18 hx22)), rfl⟩) (fun w S => S)
   · -- h3F
    have h3b := h3
    try simp only [Bool.not_eq_false', decide_eq_true_eq] at h3
    refine c_skip ?_
    refine q_block ?_
    refine q_then ?_
    refine c_region ?_
    refine o_bin rfl rfl rfl (b_add (wrap_i64 (by omega) (by omega))) ?_
    refine o_move rfl rfl ?_
    refine l_nil ?_
    exact q_round (i + 1) (by exact ⟨by omega, sameTo_on hst hx18 hx22 (by simpa using h3b)⟩) (by (try dsimp only); omega) ⟨(by first | rfl | exact vint (by omega)), (by first | rfl | exact vint (by omega)), (by first | rfl | exact vint (by omega)), (by first | rfl | exact vint (by omega)), trivial⟩ (fun w S => S)
  · -- h2F
   have h2b := h2
   try simp only [decide_eq_false_iff_not, Int.not_lt, Int.not_le] at h2
   refine c_exit ?_
   refine q_pass_exit ?_
   refine q_pass_exit ?_
   refine q_hit ?_
   refine q_then ?_
   refine c_seq ?_
   refine c_region ?_
   refine o_assign rfl rfl ?_
   refine l_nil ?_
   refine q_then ?_
   refine c_ret ?_
   exact f_ret (r_one rfl rfl) (⟨vtrue' ⟨by omega, fun k x y hx hy => hst k x y (by have := (List.getElem?_eq_some_iff.1 hx).1; omega) hx hy⟩, rfl⟩) (fun w S => S)

end Go.Proofs.Yteehongibjkjlaa
