/- Printed by eng2.py out of 14/spec.py. -/
import Derived.Test.YtjoigmbapnjhhaaSpeaks
import Derived.Test.YtjoigmbapnjhhaaRFirst
set_option linter.unusedVariables false
set_option linter.unusedSimpArgs false
set_option maxRecDepth 10000
namespace Go.Proofs.Ytjoigmbapnjhhaa
open Go.RowKit Classical
theorem fo_on {s : FS} {log : List Order} {i : Nat} {o : Order} (hl : log.length ≤ 40) (h : Vw s (-1) (-1) (oruns (log.take i))) (hx : log[((i : Int)).toNat]? = some o) :
    (if single o then false else (s.first o.tag).1) = decide (FirstG log i) ∧ Vw (if single o then s else (s.first o.tag).2) (-1) (-1) (oruns (log.take (i + 1))) ∧ (FirstG log i → 0 < cnt (if single o then s else (s.first o.tag).2).seen o.tag ∧ ¬ single o) := by
  have hx' : log[i]? = some o := hx
  have ht : log.take (i + 1) = log.take i ++ [o] := by rw [List.take_add_one, hx']; rfl
  have hb : oruns (log.take i) o.tag ≤ 1000000 := by have := oruns_le (log.take i) o.tag; rw [List.length_take] at this; omega
  by_cases hs : single o
  · rw [if_pos hs, if_pos hs, ht]
    refine ⟨by symm; rw [decide_eq_false_iff_not, firstG_iff hx']; exact fun h9 => h9.1 hs, ⟨h.region, h.last, fun t => ?_⟩, fun h9 => absurd hs ((firstG_iff hx').1 h9).1⟩
    rw [oruns_snoc, if_neg (fun h9 => h9.1 hs)]; exact h.cnt t
  · rw [if_neg hs, if_neg hs, ht]
    obtain ⟨h1, h2⟩ := h.first o.tag hb
    refine ⟨by rw [h1, decide_eq_decide, firstG_iff hx']; simp [hs], ⟨h2.region, h2.last, fun t => ?_⟩, fun _ => ⟨?_, hs⟩⟩
    · rw [oruns_snoc, h2.cnt]
      by_cases e : o.tag = t
      · rw [if_pos e, if_pos ⟨hs, e⟩]
      · rw [if_neg e, if_neg (fun h9 => e h9.2)]
    · rw [h2.cnt, if_pos rfl]; omega
set_option maxHeartbeats 4000000 in
theorem orders_ {W : World} {F : List Res} {log : List Order} {a : Option Addr} {c : Nat} (hs : RdS W F e_Order a log) (ho : ∀ x ∈ log, OrdR W F x) (hn : log.length ≤ c ∧ c ≤ 9223372036854775807) : CS Try.prog 5 #[.slice a log.length c] W (F) (fun r L' => r = .bool true ∧ F = L') := by
 refine f_door (l0 := [(0, .slice a log.length c)]) Try.func5 Try.ntmps5 rfl rfl rfl ?_
 refine c_seq ?_
 refine c_region ?_
 refine o_assign rfl rfl ?_
 refine l_nil ?_
 refine q_then ?_
 refine c_seq ?_
 refine c_seq ?_
 refine c_region ?_
 refine o_call rfl cal8 rfl (speaks_) ?_
 rintro _ _ ⟨rfl, rfl⟩
 refine o_not rfl rfl ?_
 refine l_nil ?_
 refine q_then ?_
 refine c_false rfl ?_
 refine c_skip ?_
 refine q_then ?_
 refine c_seq ?_
 refine c_seq ?_
 refine c_region ?_
 refine o_move rfl rfl ?_
 refine o_len rfl rfl Try.underlying48 ?_
 refine o_bin rfl rfl rfl b_gtr ?_
 refine l_nil ?_
 refine q_then ?_
 refine c_cond rfl (fun h1 => ?_) (fun h1 => ?_)
 · -- h1T
  have h1b := h1
  try simp only [decide_eq_true_eq] at h1
  refine c_seq ?_
  refine c_region ?_
  refine o_assign rfl rfl ?_
  refine l_nil ?_
  refine q_then ?_
  refine c_ret ?_
  refine q_pass_ret ?_
  exact f_ret (r_one rfl rfl) (⟨rfl, rfl⟩) (fun w S => S)
 · -- h1F
  have h1b := h1
  try simp only [decide_eq_false_iff_not, Int.not_lt, Int.not_le] at h1
  refine c_skip ?_
  refine q_then ?_
  refine c_seq ?_
  refine c_region ?_
  refine o_call rfl cal16 rfl (global_) ?_
  rintro _ _ ⟨b11, rfl, rfl⟩
  refine o_assign rfl rfl ?_
  refine l_nil ?_
  refine q_then ?_
  refine c_seq ?_
  refine c_seq ?_
  refine c_region ?_
  refine o_move rfl rfl ?_
  refine o_bin rfl rfl rfl (b_peq Try.underlying25 _) ?_
  refine l_nil ?_
  refine q_then ?_
  refine c_false rfl ?_
  refine c_skip ?_
  refine q_then ?_
  refine c_seq ?_
  refine c_seq ?_
  refine c_region ?_
  refine o_move rfl rfl ?_
  refine o_len rfl rfl Try.underlying48 ?_
  refine o_move rfl rfl ?_
  refine l_nil ?_
  refine q_then ?_
  refine c_block ?_
  refine c_loop (α := Nat × FS) (fun z => [(0, .slice a (log).length c), (3, .pointer (some ⟨b11, 0, none⟩)), (14, .slice a (log).length c), (15, .int .i64 ((log).length : Int)), (16, .int .i64 (z.1 : Int))]) (fun z => FltR b11 z.2 :: F) (fun z => z.1 ≤ log.length ∧ Vw z.2 (-1) (-1) (oruns (log.take z.1)) ∧ UpTo (fun x : Order => OSmall x) log z.1) (fun z => log.length - z.1) (0, ⟨-1, -1, []⟩) (by exact ⟨Nat.zero_le _, Vw.new _, upTo_0⟩) ⟨(by first | rfl | exact vint (by omega)), (by first | rfl | exact vint (by omega)), (by first | rfl | exact vint (by omega)), (by first | rfl | exact vint (by omega)), (by first | rfl | exact vint (by omega)), trivial⟩ (fun w S => S) ?_
  rintro ⟨i, s⟩ ⟨hi, hvw, hsa⟩
  try dsimp only at *
  refine c_seq ?_
  refine c_region ?_
  refine o_bin rfl rfl rfl b_lss ?_
  refine l_nil ?_
  refine q_then ?_
  refine c_seq ?_
  refine c_cond rfl (fun h2 => ?_) (fun h2 => ?_)
  · -- h2T
   have h2b := h2
   try simp only [decide_eq_true_eq] at h2
   refine c_skip ?_
   refine q_then ?_
   refine c_seq ?_
   refine c_block ?_
   refine c_seq ?_
   refine c_region ?_
   refine o_move rfl rfl ?_
   refine o_index e_Order_ok rfl rfl rfl Try.underlying48 (by omega) (by omega) (rds_c hs) fun ad19 ead19 => ?_
   obtain ⟨x19, hx19⟩ : ∃ x, (log)[((i : Int)).toNat]? = some x := ⟨_, List.getElem?_eq_getElem (by omega)⟩
   refine o_loadn (vs := e_Order.cells x19) rfl rfl Try.underlying39 rfl ti39 (rdn_sl e_Order_ok ead19 (rds_c hs) hx19) ?_
   refine o_alloc rfl ti39 fun b5 => ?_
   refine o_assign rfl rfl ?_
   refine o_storen rfl rfl ti39 rfl rfl rfl rfl ?_
   refine l_nil ?_
   refine q_then ?_
   refine c_seq ?_
   refine c_seq ?_
   refine c_region ?_
   refine o_loadn (vs := [_, _, _, _, _, _, _, _, _, _]) rfl rfl Try.underlying39 rfl ti39 (rdn_lit 0 rfl rfl) ?_
   refine o_call rfl cal17 rfl (rgreat_ (o := x19) (OrdR.c (OrdR.c (ho x19 (List.mem_of_getElem? hx19))))) ?_
   rintro _ _ ⟨g22, hg22, rfl, rfl⟩
   refine l_nil ?_
   refine q_then ?_
   refine c_cond rfl (fun h3 => ?_) (fun h3 => ?_)
   · -- h3T
    have h3b := h3
    try simp only [decide_eq_true_eq, decide_eq_false_iff_not, Bool.not_eq_eq_eq_not, Bool.not_true, Bool.not_false, Bool.not_eq_true', Bool.not_eq_false', Int.not_lt, Int.not_le, Bool.or_eq_true, Bool.and_eq_true] at h3
    refine c_seq ?_
    refine c_region ?_
    refine o_assign rfl rfl ?_
    refine l_nil ?_
    refine q_then ?_
    refine c_ret ?_
    refine q_pass_ret ?_
    refine q_block_ret ?_
    refine q_pass_ret ?_
    refine q_pass_ret ?_
    refine q_block_ret ?_
    refine q_pass_ret ?_
    refine q_conv (fun w S => S.tail) ?_
    refine q_conv (fun w S => S.tail) ?_
    exact f_ret (r_one rfl rfl) (⟨rfl, rfl⟩) (fun w S => S)
   · -- h3F
    have h3b := h3
    try simp only [decide_eq_true_eq, decide_eq_false_iff_not, Bool.not_eq_eq_eq_not, Bool.not_true, Bool.not_false, Bool.not_eq_true', Bool.not_eq_false', Int.not_lt, Int.not_le, Bool.or_eq_true, Bool.and_eq_true] at h3
    refine c_skip ?_
    refine q_then ?_
    refine c_seq ?_
    refine c_conv (fun w S => S.perm p1) ?_
    refine c_obj ?_
    rintro m_1 ok_1
    refine c_conv (L' := blk b11 (.cells #[.int .i64 s.region, .int .i64 s.last, .map (some m_1)] 64 (0, 0)) :: mapR kvTag vvInt m_1 s.seen :: _) (fun w S => S) ?_
    have hsx := hg22 (by assumption)
    have hmk : ∀ (j : Nat) x, j ≤ i → log[j]? = some x → x.f_Marks.xs.length ≤ 1000000 := fun j x hj hx => by by_cases e : j = i; subst e; rw [show log[j]? = some x19 from hx19] at hx; cases hx; have := hsx.m; omega; have := (hsa j x (by omega) hx).m; omega
    have hfo := fo_on (by omega) hvw hx19
    refine c_conv (fun w S => S.perm p1) ?_
    refine c_conv (fun w S => S.perm p1) ?_
    refine c_conv (fun w S => S.perm p2) ?_
    refine c_conv (fun w S => S.perm p2) ?_
    refine c_conv (fun w S => S.perm p2) ?_
    refine c_heldF [blk b11 (.cells #[.int .i64 s.region, .int .i64 s.last, .map (some m_1)] 64 (0, 0)), mapR kvTag vvInt m_1 s.seen] (blk b5 (.cells #[.int .i64 x19.f_Tag_Id_Node, .int .u64 x19.f_Tag_Id_Epoch, .int .u64 x19.f_Tag_Id_Seq, .int .i64 x19.f_Tag_Try, .int .i64 x19.f_Txn_Kind, .slice x19.f_Txn_Reads.a (x19.f_Txn_Reads.xs).length x19.f_Txn_Reads.c, .slice x19.f_Txn_Writes.a (x19.f_Txn_Writes.xs).length x19.f_Txn_Writes.c, .slice x19.f_Txn_Ops.a (x19.f_Txn_Ops.xs).length x19.f_Txn_Ops.c, .int .i64 x19.f_Txn_To, .slice x19.f_Marks.a (x19.f_Marks.xs).length x19.f_Marks.c] 39 (0, 0)) :: F) (by kernel_rfl) ?_
    refine h_take 0 rfl rfl (by kernel_rfl) (by kernel_rfl) (by kernel_rfl) (fun L0 => v_move rfl rfl) ?_
    refine h_take 1 rfl rfl (by kernel_rfl) (by kernel_rfl) (by kernel_rfl) (fun L0 => v_loadn (vs := [_, _, _, _, _, _, _, _, _, _]) rfl rfl Try.underlying39 rfl ti39 (rdn_lit 0 rfl rfl)) ?_
    refine h_take 3 rfl rfl (by kernel_rfl) (by kernel_rfl) (by kernel_rfl) (fun L0 => v_move rfl rfl) ?_
    refine h_take 4 rfl rfl (by kernel_rfl) (by kernel_rfl) (by kernel_rfl) (fun L0 => v_move rfl rfl) ?_
    refine h_one 2 rfl (by kernel_rfl) ?_
    refine l_conv (L' := blk b11 (.cells #[.int .i64 s.region, .int .i64 s.last, .map (some m_1)] 64 (0, 0)) :: mapR kvTag vvInt m_1 s.seen :: blk b5 (.cells #[.int .i64 x19.f_Tag_Id_Node, .int .u64 x19.f_Tag_Id_Epoch, .int .u64 x19.f_Tag_Id_Seq, .int .i64 x19.f_Tag_Try, .int .i64 x19.f_Txn_Kind, .slice x19.f_Txn_Reads.a (x19.f_Txn_Reads.xs).length x19.f_Txn_Reads.c, .slice x19.f_Txn_Writes.a (x19.f_Txn_Writes.xs).length x19.f_Txn_Writes.c, .slice x19.f_Txn_Ops.a (x19.f_Txn_Ops.xs).length x19.f_Txn_Ops.c, .int .i64 x19.f_Txn_To, .slice x19.f_Marks.a (x19.f_Marks.xs).length x19.f_Marks.c] 39 (0, 0)) :: F) (fun w S => S.perm List.perm_append_comm) ?_
    refine l_conv (L' := FltR b11 s :: _) (fun w S => Sat.obj_mk m_1 ok_1 S) ?_
    refine o_call rfl cal18 rfl (forder_ (o := x19) (OrdR.c (ho x19 (List.mem_of_getElem? hx19))) (hmk i x19 (Nat.le_refl _) hx19)) ?_
    rintro _ _ ⟨rfl, rfl⟩
    refine l_nil ?_
    refine q_conv (L' := (blk b5 (.cells #[.int .i64 x19.f_Tag_Id_Node, .int .u64 x19.f_Tag_Id_Epoch, .int .u64 x19.f_Tag_Id_Seq, .int .i64 x19.f_Tag_Try, .int .i64 x19.f_Txn_Kind, .slice x19.f_Txn_Reads.a (x19.f_Txn_Reads.xs).length x19.f_Txn_Reads.c, .slice x19.f_Txn_Writes.a (x19.f_Txn_Writes.xs).length x19.f_Txn_Writes.c, .slice x19.f_Txn_Ops.a (x19.f_Txn_Ops.xs).length x19.f_Txn_Ops.c, .int .i64 x19.f_Txn_To, .slice x19.f_Marks.a (x19.f_Marks.xs).length x19.f_Marks.c] 39 (0, 0)) :: F) ++ [FltR b11 (if single x19 then s else (s.first x19.tag).2)]) (fun w S => S.perm (List.perm_append_comm (l₁ := [FltR b11 (if single x19 then s else (s.first x19.tag).2)]) (l₂ := blk b5 (.cells #[.int .i64 x19.f_Tag_Id_Node, .int .u64 x19.f_Tag_Id_Epoch, .int .u64 x19.f_Tag_Id_Seq, .int .i64 x19.f_Tag_Try, .int .i64 x19.f_Txn_Kind, .slice x19.f_Txn_Reads.a (x19.f_Txn_Reads.xs).length x19.f_Txn_Reads.c, .slice x19.f_Txn_Writes.a (x19.f_Txn_Writes.xs).length x19.f_Txn_Writes.c, .slice x19.f_Txn_Ops.a (x19.f_Txn_Ops.xs).length x19.f_Txn_Ops.c, .int .i64 x19.f_Txn_To, .slice x19.f_Marks.a (x19.f_Marks.xs).length x19.f_Marks.c] 39 (0, 0)) :: F))) ?_
    refine h_next ?_
    refine h_one 5 rfl (by kernel_rfl) ?_
    refine l_conv (L' := FltR b11 (if single x19 then s else (s.first x19.tag).2) :: blk b5 (.cells #[.int .i64 x19.f_Tag_Id_Node, .int .u64 x19.f_Tag_Id_Epoch, .int .u64 x19.f_Tag_Id_Seq, .int .i64 x19.f_Tag_Try, .int .i64 x19.f_Txn_Kind, .slice x19.f_Txn_Reads.a (x19.f_Txn_Reads.xs).length x19.f_Txn_Reads.c, .slice x19.f_Txn_Writes.a (x19.f_Txn_Writes.xs).length x19.f_Txn_Writes.c, .slice x19.f_Txn_Ops.a (x19.f_Txn_Ops.xs).length x19.f_Txn_Ops.c, .int .i64 x19.f_Txn_To, .slice x19.f_Marks.a (x19.f_Marks.xs).length x19.f_Marks.c] 39 (0, 0)) :: F) (fun w S => S.perm List.perm_append_comm) ?_
    refine o_call rfl cal19 rfl (rfirst_ (i := i) (rds_c (rds_c hs)) (fun x hx => (OrdR.c (OrdR.c (ho x hx)))) (by omega) (by omega) hmk) ?_
    rintro _ _ ⟨rfl, rfl⟩
    refine l_nil ?_
    refine q_conv (L' := (blk b5 (.cells #[.int .i64 x19.f_Tag_Id_Node, .int .u64 x19.f_Tag_Id_Epoch, .int .u64 x19.f_Tag_Id_Seq, .int .i64 x19.f_Tag_Try, .int .i64 x19.f_Txn_Kind, .slice x19.f_Txn_Reads.a (x19.f_Txn_Reads.xs).length x19.f_Txn_Reads.c, .slice x19.f_Txn_Writes.a (x19.f_Txn_Writes.xs).length x19.f_Txn_Writes.c, .slice x19.f_Txn_Ops.a (x19.f_Txn_Ops.xs).length x19.f_Txn_Ops.c, .int .i64 x19.f_Txn_To, .slice x19.f_Marks.a (x19.f_Marks.xs).length x19.f_Marks.c] 39 (0, 0)) :: F) ++ [FltR b11 (if single x19 then s else (s.first x19.tag).2)]) (fun w S => S.perm (List.perm_append_comm (l₁ := [FltR b11 (if single x19 then s else (s.first x19.tag).2)]) (l₂ := blk b5 (.cells #[.int .i64 x19.f_Tag_Id_Node, .int .u64 x19.f_Tag_Id_Epoch, .int .u64 x19.f_Tag_Id_Seq, .int .i64 x19.f_Tag_Try, .int .i64 x19.f_Txn_Kind, .slice x19.f_Txn_Reads.a (x19.f_Txn_Reads.xs).length x19.f_Txn_Reads.c, .slice x19.f_Txn_Writes.a (x19.f_Txn_Writes.xs).length x19.f_Txn_Writes.c, .slice x19.f_Txn_Ops.a (x19.f_Txn_Ops.xs).length x19.f_Txn_Ops.c, .int .i64 x19.f_Txn_To, .slice x19.f_Marks.a (x19.f_Marks.xs).length x19.f_Marks.c] 39 (0, 0)) :: F))) ?_
    refine h_next ?_
    refine h_take 6 rfl rfl (by kernel_rfl) (by kernel_rfl) (by kernel_rfl) (fun L0 => v_bin rfl rfl rfl (b_bne Try.underlying4 _ _)) ?_
    refine h_eq (t := 29) (v' := .bool false) rfl (show _ = Value.bool false from by rw [hfo.1]; simp) ?_
    refine h_take 7 rfl rfl (by kernel_rfl) (by kernel_rfl) (by kernel_rfl) (fun L0 => v_move rfl rfl) ?_
    refine h_take_yes 8 rfl rfl rfl rfl rfl (by kernel_rfl) (by kernel_rfl) (by kernel_rfl) (fun L0 => v_move rfl rfl) ?_
    refine h_take_yes 9 rfl rfl rfl rfl rfl (by kernel_rfl) (by kernel_rfl) (by kernel_rfl) (fun L0 => v_fieldAddr (q := ⟨b5, 0, none⟩) rfl rfl Try.underlying39 rfl ti32 rfl) ?_
    refine h_take_yes 10 rfl rfl rfl rfl rfl (by kernel_rfl) (by kernel_rfl) (by kernel_rfl) (fun L0 => v_loadn (vs := [_, _, _, _]) rfl rfl Try.underlying32 rfl ti32 (rdn_lit 0 rfl rfl)) ?_
    refine h_take_yes 12 rfl rfl rfl rfl rfl (by kernel_rfl) (by kernel_rfl) (by kernel_rfl) (fun L0 => v_loadn (vs := [_, _, _, _, _, _, _, _, _, _]) rfl rfl Try.underlying39 rfl ti39 (rdn_lit 0 rfl rfl)) ?_
    refine h_one 11 rfl (by kernel_rfl) ?_
    refine l_conv (L' := FltR b11 (if single x19 then s else (s.first x19.tag).2) :: blk b5 (.cells #[.int .i64 x19.f_Tag_Id_Node, .int .u64 x19.f_Tag_Id_Epoch, .int .u64 x19.f_Tag_Id_Seq, .int .i64 x19.f_Tag_Try, .int .i64 x19.f_Txn_Kind, .slice x19.f_Txn_Reads.a (x19.f_Txn_Reads.xs).length x19.f_Txn_Reads.c, .slice x19.f_Txn_Writes.a (x19.f_Txn_Writes.xs).length x19.f_Txn_Writes.c, .slice x19.f_Txn_Ops.a (x19.f_Txn_Ops.xs).length x19.f_Txn_Ops.c, .int .i64 x19.f_Txn_To, .slice x19.f_Marks.a (x19.f_Marks.xs).length x19.f_Marks.c] 39 (0, 0)) :: F) (fun w S => S.perm List.perm_append_comm) ?_
    refine o_yes rfl rfl rfl ?_
    refine o_call rfl cal14 rfl (fhas_ (tg := x19.tag)) ?_
    rintro _ _ ⟨rfl, rfl⟩
    refine l_nil ?_
    refine q_conv (L' := (blk b5 (.cells #[.int .i64 x19.f_Tag_Id_Node, .int .u64 x19.f_Tag_Id_Epoch, .int .u64 x19.f_Tag_Id_Seq, .int .i64 x19.f_Tag_Try, .int .i64 x19.f_Txn_Kind, .slice x19.f_Txn_Reads.a (x19.f_Txn_Reads.xs).length x19.f_Txn_Reads.c, .slice x19.f_Txn_Writes.a (x19.f_Txn_Writes.xs).length x19.f_Txn_Writes.c, .slice x19.f_Txn_Ops.a (x19.f_Txn_Ops.xs).length x19.f_Txn_Ops.c, .int .i64 x19.f_Txn_To, .slice x19.f_Marks.a (x19.f_Marks.xs).length x19.f_Marks.c] 39 (0, 0)) :: F) ++ [FltR b11 (if single x19 then s else (s.first x19.tag).2)]) (fun w S => S.perm (List.perm_append_comm (l₁ := [FltR b11 (if single x19 then s else (s.first x19.tag).2)]) (l₂ := blk b5 (.cells #[.int .i64 x19.f_Tag_Id_Node, .int .u64 x19.f_Tag_Id_Epoch, .int .u64 x19.f_Tag_Id_Seq, .int .i64 x19.f_Tag_Try, .int .i64 x19.f_Txn_Kind, .slice x19.f_Txn_Reads.a (x19.f_Txn_Reads.xs).length x19.f_Txn_Reads.c, .slice x19.f_Txn_Writes.a (x19.f_Txn_Writes.xs).length x19.f_Txn_Writes.c, .slice x19.f_Txn_Ops.a (x19.f_Txn_Ops.xs).length x19.f_Txn_Ops.c, .int .i64 x19.f_Txn_To, .slice x19.f_Marks.a (x19.f_Marks.xs).length x19.f_Marks.c] 39 (0, 0)) :: F))) ?_
    refine h_next ?_
    refine h_one 13 rfl (by kernel_rfl) ?_
    refine l_conv (L' := FltR b11 (if single x19 then s else (s.first x19.tag).2) :: blk b5 (.cells #[.int .i64 x19.f_Tag_Id_Node, .int .u64 x19.f_Tag_Id_Epoch, .int .u64 x19.f_Tag_Id_Seq, .int .i64 x19.f_Tag_Try, .int .i64 x19.f_Txn_Kind, .slice x19.f_Txn_Reads.a (x19.f_Txn_Reads.xs).length x19.f_Txn_Reads.c, .slice x19.f_Txn_Writes.a (x19.f_Txn_Writes.xs).length x19.f_Txn_Writes.c, .slice x19.f_Txn_Ops.a (x19.f_Txn_Ops.xs).length x19.f_Txn_Ops.c, .int .i64 x19.f_Txn_To, .slice x19.f_Marks.a (x19.f_Marks.xs).length x19.f_Marks.c] 39 (0, 0)) :: F) (fun w S => S.perm List.perm_append_comm) ?_
    refine o_yes rfl rfl rfl ?_
    refine o_call rfl cal20 rfl (rsingle_ (o := x19) (OrdR.c (OrdR.c (ho x19 (List.mem_of_getElem? hx19)))) (hmk i x19 (Nat.le_refl _) hx19)) ?_
    rintro _ _ ⟨rfl, rfl⟩
    refine l_nil ?_
    refine q_conv (L' := (blk b5 (.cells #[.int .i64 x19.f_Tag_Id_Node, .int .u64 x19.f_Tag_Id_Epoch, .int .u64 x19.f_Tag_Id_Seq, .int .i64 x19.f_Tag_Try, .int .i64 x19.f_Txn_Kind, .slice x19.f_Txn_Reads.a (x19.f_Txn_Reads.xs).length x19.f_Txn_Reads.c, .slice x19.f_Txn_Writes.a (x19.f_Txn_Writes.xs).length x19.f_Txn_Writes.c, .slice x19.f_Txn_Ops.a (x19.f_Txn_Ops.xs).length x19.f_Txn_Ops.c, .int .i64 x19.f_Txn_To, .slice x19.f_Marks.a (x19.f_Marks.xs).length x19.f_Marks.c] 39 (0, 0)) :: F) ++ [FltR b11 (if single x19 then s else (s.first x19.tag).2)]) (fun w S => S.perm (List.perm_append_comm (l₁ := [FltR b11 (if single x19 then s else (s.first x19.tag).2)]) (l₂ := blk b5 (.cells #[.int .i64 x19.f_Tag_Id_Node, .int .u64 x19.f_Tag_Id_Epoch, .int .u64 x19.f_Tag_Id_Seq, .int .i64 x19.f_Tag_Try, .int .i64 x19.f_Txn_Kind, .slice x19.f_Txn_Reads.a (x19.f_Txn_Reads.xs).length x19.f_Txn_Reads.c, .slice x19.f_Txn_Writes.a (x19.f_Txn_Writes.xs).length x19.f_Txn_Writes.c, .slice x19.f_Txn_Ops.a (x19.f_Txn_Ops.xs).length x19.f_Txn_Ops.c, .int .i64 x19.f_Txn_To, .slice x19.f_Marks.a (x19.f_Marks.xs).length x19.f_Marks.c] 39 (0, 0)) :: F))) ?_
    refine h_next ?_
    refine h_take_yes 14 rfl rfl rfl rfl rfl (by kernel_rfl) (by kernel_rfl) (by kernel_rfl) (fun L0 => v_bin rfl rfl rfl (b_beq Try.underlying4 _ _)) ?_
    refine h_take_yes 15 rfl rfl rfl rfl rfl (by kernel_rfl) (by kernel_rfl) (by kernel_rfl) (fun L0 => v_move rfl rfl) ?_
    refine h_split (t := 38) rfl (fun h4 => ?_) (fun h4 => ?_)
    · -- h4T
     have h4b := h4
     try simp only [decide_eq_true_eq, decide_eq_false_iff_not, Bool.not_eq_eq_eq_not, Bool.not_true, Bool.not_false, Bool.not_eq_true', Bool.not_eq_false', Int.not_lt, Int.not_le, Bool.or_eq_true, Bool.and_eq_true] at h4
     refine h_take_yes 16 rfl rfl rfl rfl rfl (by kernel_rfl) (by kernel_rfl) (by kernel_rfl) (fun L0 => v_move rfl rfl) ?_
     refine h_take_yes 17 rfl rfl rfl rfl rfl (by kernel_rfl) (by kernel_rfl) (by kernel_rfl) (fun L0 => v_move rfl rfl) ?_
     refine h_one 18 rfl (by kernel_rfl) ?_
     refine l_conv (L' := FltR b11 (if single x19 then s else (s.first x19.tag).2) :: blk b5 (.cells #[.int .i64 x19.f_Tag_Id_Node, .int .u64 x19.f_Tag_Id_Epoch, .int .u64 x19.f_Tag_Id_Seq, .int .i64 x19.f_Tag_Try, .int .i64 x19.f_Txn_Kind, .slice x19.f_Txn_Reads.a (x19.f_Txn_Reads.xs).length x19.f_Txn_Reads.c, .slice x19.f_Txn_Writes.a (x19.f_Txn_Writes.xs).length x19.f_Txn_Writes.c, .slice x19.f_Txn_Ops.a (x19.f_Txn_Ops.xs).length x19.f_Txn_Ops.c, .int .i64 x19.f_Txn_To, .slice x19.f_Marks.a (x19.f_Marks.xs).length x19.f_Marks.c] 39 (0, 0)) :: F) (fun w S => S.perm List.perm_append_comm) ?_
     refine o_yes rfl rfl rfl ?_
     refine o_call rfl cal19 rfl (rfirst_ (i := i) (rds_c (rds_c hs)) (fun x hx => (OrdR.c (OrdR.c (ho x hx)))) (by omega) (by omega) hmk) ?_
     rintro _ _ ⟨rfl, rfl⟩
     refine l_nil ?_
     refine q_conv (L' := (blk b5 (.cells #[.int .i64 x19.f_Tag_Id_Node, .int .u64 x19.f_Tag_Id_Epoch, .int .u64 x19.f_Tag_Id_Seq, .int .i64 x19.f_Tag_Try, .int .i64 x19.f_Txn_Kind, .slice x19.f_Txn_Reads.a (x19.f_Txn_Reads.xs).length x19.f_Txn_Reads.c, .slice x19.f_Txn_Writes.a (x19.f_Txn_Writes.xs).length x19.f_Txn_Writes.c, .slice x19.f_Txn_Ops.a (x19.f_Txn_Ops.xs).length x19.f_Txn_Ops.c, .int .i64 x19.f_Txn_To, .slice x19.f_Marks.a (x19.f_Marks.xs).length x19.f_Marks.c] 39 (0, 0)) :: F) ++ [FltR b11 (if single x19 then s else (s.first x19.tag).2)]) (fun w S => S.perm (List.perm_append_comm (l₁ := [FltR b11 (if single x19 then s else (s.first x19.tag).2)]) (l₂ := blk b5 (.cells #[.int .i64 x19.f_Tag_Id_Node, .int .u64 x19.f_Tag_Id_Epoch, .int .u64 x19.f_Tag_Id_Seq, .int .i64 x19.f_Tag_Try, .int .i64 x19.f_Txn_Kind, .slice x19.f_Txn_Reads.a (x19.f_Txn_Reads.xs).length x19.f_Txn_Reads.c, .slice x19.f_Txn_Writes.a (x19.f_Txn_Writes.xs).length x19.f_Txn_Writes.c, .slice x19.f_Txn_Ops.a (x19.f_Txn_Ops.xs).length x19.f_Txn_Ops.c, .int .i64 x19.f_Txn_To, .slice x19.f_Marks.a (x19.f_Marks.xs).length x19.f_Marks.c] 39 (0, 0)) :: F))) ?_
     refine h_next ?_
     refine h_eq (t := 41) (v' := .bool false) rfl (show _ = Value.bool false from by rw [decide_eq_false (fun h9 => by have h8 := hfo.2.2 h9; simp_all)]) ?_
     refine h_take_yes 19 rfl rfl rfl rfl rfl (by kernel_rfl) (by kernel_rfl) (by kernel_rfl) (fun L0 => v_pick_true rfl rfl rfl) ?_
     refine h_take 20 rfl rfl (by kernel_rfl) (by kernel_rfl) (by kernel_rfl) (fun L0 => v_pick_false rfl rfl rfl) ?_
     refine h_done (by kernel_rfl) ?_
     refine q_conv (L' := FltR b11 (if single x19 then s else (s.first x19.tag).2) :: blk b5 (.cells #[.int .i64 x19.f_Tag_Id_Node, .int .u64 x19.f_Tag_Id_Epoch, .int .u64 x19.f_Tag_Id_Seq, .int .i64 x19.f_Tag_Try, .int .i64 x19.f_Txn_Kind, .slice x19.f_Txn_Reads.a (x19.f_Txn_Reads.xs).length x19.f_Txn_Reads.c, .slice x19.f_Txn_Writes.a (x19.f_Txn_Writes.xs).length x19.f_Txn_Writes.c, .slice x19.f_Txn_Ops.a (x19.f_Txn_Ops.xs).length x19.f_Txn_Ops.c, .int .i64 x19.f_Txn_To, .slice x19.f_Marks.a (x19.f_Marks.xs).length x19.f_Marks.c] 39 (0, 0)) :: F) (fun w S => S.perm List.perm_append_comm) ?_
     refine q_then ?_
     refine c_false rfl ?_
     refine c_skip ?_
     refine q_block ?_
     refine q_then ?_
     refine c_region ?_
     refine o_bin rfl rfl rfl (b_add (wrap_i64 (by omega) (by omega))) ?_
     refine o_move rfl rfl ?_
     refine l_nil ?_
     refine q_conv (fun w S => (S.perm p1).tail) ?_
     exact q_round (i + 1, (if single x19 then s else (s.first x19.tag).2)) (by exact ⟨by omega, hfo.2.1, upTo_on hsa hx19 hsx⟩) (by (try dsimp only); omega) ⟨(by first | rfl | exact vint (by omega)), (by first | rfl | exact vint (by omega)), (by first | rfl | exact vint (by omega)), (by first | rfl | exact vint (by omega)), (by first | rfl | exact vint (by omega)), trivial⟩ (fun w S => S)
    · -- h4F
     have h4b := h4
     try simp only [decide_eq_true_eq, decide_eq_false_iff_not, Bool.not_eq_eq_eq_not, Bool.not_true, Bool.not_false, Bool.not_eq_true', Bool.not_eq_false', Int.not_lt, Int.not_le, Bool.or_eq_true, Bool.and_eq_true] at h4
     refine h_take_no 16 rfl rfl rfl rfl rfl (by kernel_rfl) (by kernel_rfl) (by kernel_rfl) ?_
     refine h_take_no 17 rfl rfl rfl rfl rfl (by kernel_rfl) (by kernel_rfl) (by kernel_rfl) ?_
     refine h_take_no 18 rfl rfl rfl rfl rfl (by kernel_rfl) (by kernel_rfl) (by kernel_rfl) ?_
     refine h_take_yes 19 rfl rfl rfl rfl rfl (by kernel_rfl) (by kernel_rfl) (by kernel_rfl) (fun L0 => v_pick_false rfl rfl rfl) ?_
     refine h_take 20 rfl rfl (by kernel_rfl) (by kernel_rfl) (by kernel_rfl) (fun L0 => v_pick_false rfl rfl rfl) ?_
     refine h_done (by kernel_rfl) ?_
     refine q_conv (L' := FltR b11 (if single x19 then s else (s.first x19.tag).2) :: blk b5 (.cells #[.int .i64 x19.f_Tag_Id_Node, .int .u64 x19.f_Tag_Id_Epoch, .int .u64 x19.f_Tag_Id_Seq, .int .i64 x19.f_Tag_Try, .int .i64 x19.f_Txn_Kind, .slice x19.f_Txn_Reads.a (x19.f_Txn_Reads.xs).length x19.f_Txn_Reads.c, .slice x19.f_Txn_Writes.a (x19.f_Txn_Writes.xs).length x19.f_Txn_Writes.c, .slice x19.f_Txn_Ops.a (x19.f_Txn_Ops.xs).length x19.f_Txn_Ops.c, .int .i64 x19.f_Txn_To, .slice x19.f_Marks.a (x19.f_Marks.xs).length x19.f_Marks.c] 39 (0, 0)) :: F) (fun w S => S.perm List.perm_append_comm) ?_
     refine q_then ?_
     refine c_false rfl ?_
     refine c_skip ?_
     refine q_block ?_
     refine q_then ?_
     refine c_region ?_
     refine o_bin rfl rfl rfl (b_add (wrap_i64 (by omega) (by omega))) ?_
     refine o_move rfl rfl ?_
     refine l_nil ?_
     refine q_conv (fun w S => (S.perm p1).tail) ?_
     exact q_round (i + 1, (if single x19 then s else (s.first x19.tag).2)) (by exact ⟨by omega, hfo.2.1, upTo_on hsa hx19 hsx⟩) (by (try dsimp only); omega) ⟨(by first | rfl | exact vint (by omega)), (by first | rfl | exact vint (by omega)), (by first | rfl | exact vint (by omega)), (by first | rfl | exact vint (by omega)), (by first | rfl | exact vint (by omega)), trivial⟩ (fun w S => S)
  · -- h2F
   have h2b := h2
   try simp only [decide_eq_false_iff_not, Int.not_lt, Int.not_le] at h2
   refine c_exit ?_
   refine q_pass_exit ?_
   refine q_pass_exit ?_
   refine q_hit ?_
   refine q_then ?_
   refine c_seq ?_
   refine c_region ?_
   refine o_assign rfl rfl ?_
   refine l_nil ?_
   refine q_then ?_
   refine c_ret ?_
   refine q_conv (fun w S => S.tail) ?_
   exact f_ret (r_one rfl rfl) (⟨rfl, rfl⟩) (fun w S => S)

end Go.Proofs.Ytjoigmbapnjhhaa
