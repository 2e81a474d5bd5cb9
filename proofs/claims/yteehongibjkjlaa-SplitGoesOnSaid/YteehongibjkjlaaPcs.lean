/- Printed by eng2.py out of 15/spec.py. -/
import Derived.Test.YteehongibjkjlaaPcsp
import Derived.Test.YteehongibjkjlaaFil
import Derived.Test.YteehongibjkjlaaRHomes
import Derived.Test.YteehongibjkjlaaOCopyP
import Derived.Test.YteehongibjkjlaaIterM
import Derived.Test.YteehongibjkjlaaPart
set_option linter.unusedVariables false
set_option linter.unusedSimpArgs false
set_option maxRecDepth 10000
namespace Go.Proofs.Yteehongibjkjlaa
open Go.RowKit Classical
theorem fo_on {s : FS} {log : List Order} {i : Nat} {o : Order} (hl : log.length ≤ 40) (h : Vw s (-1) (-1) (oruns (log.take i))) (hx : log[((i : Int)).toNat]? = some o) :
    (if single o then false else (s.first o.tag).1) = decide (FirstG log i) ∧ Vw (if single o then s else (s.first o.tag).2) (-1) (-1) (oruns (log.take (i + 1))) := by
  have hx' : log[i]? = some o := hx
  have ht : log.take (i + 1) = log.take i ++ [o] := by rw [List.take_add_one, hx']; rfl
  have hb : oruns (log.take i) o.tag ≤ 1000000 := by have := oruns_le (log.take i) o.tag; rw [List.length_take] at this; omega
  by_cases hs : single o
  · rw [if_pos hs, if_pos hs, ht]
    refine ⟨by symm; rw [decide_eq_false_iff_not, firstG_iff hx']; exact fun h9 => h9.1 hs, ⟨h.region, h.last, fun t => ?_⟩⟩
    rw [oruns_snoc, if_neg (fun h9 => h9.1 hs)]; exact h.cnt t
  · rw [if_neg hs, if_neg hs, ht]
    obtain ⟨h1, h2⟩ := h.first o.tag hb
    refine ⟨by rw [h1, decide_eq_decide, firstG_iff hx']; simp [hs], ⟨h2.region, h2.last, fun t => ?_⟩⟩
    rw [oruns_snoc, h2.cnt]
    by_cases e : o.tag = t
    · rw [if_pos e, if_pos ⟨hs, e⟩]
    · rw [if_neg e, if_neg (fun h9 => e h9.2)]
set_option maxHeartbeats 4000000 in
theorem pieces_iter {W : World} {g : Int} {b k : Nat} {log : List Order} {a : Option Addr} {c : Nat} (hs : SlR W e_Order a log) (ho : ∀ x ∈ log, ∀ L, OrdR W L x) (hc : log.length ≤ c ∧ c ≤ 9223372036854775807) (hl : log.length ≤ 40) (hsm : ∀ x ∈ log, OSmall x) : IterM Try.prog 37 #[.pointer (some ⟨b, 0, none⟩), .pointer (some ⟨k, 0, none⟩)] (fun x : Item => [Value.agg (e_Item.cells x).toArray]) W [blk b (.cells #[.slice a (log).length c] 22 (0, 0)), blk k (.cells #[.int .i64 g] 3 (0, 0))] (fun x : Item => ordM x.ord) (OkP g log) (DnP g log) := by
 intro y I J L0 h0 hy
 show CS Try.prog 37 #[y, .pointer (some ⟨b, 0, none⟩), .pointer (some ⟨k, 0, none⟩)] W (blk b (.cells #[.slice a (log).length c] 22 (0, 0)) :: blk k (.cells #[.int .i64 g] 3 (0, 0)) :: L0) (fun _ L' => ∃ L2, ((∃ xs, DnP g log xs ∧ I xs L2) ∨ J L2) ∧ L' = [blk b (.cells #[.slice a (log).length c] 22 (0, 0)), blk k (.cells #[.int .i64 g] 3 (0, 0))] ++ L2)
 have hmk : ∀ x ∈ log, x.f_Marks.xs.length ≤ 1000000 := fun x hx => by have := (hsm x hx).m; omega
 refine f_door (l0 := [(0, y), (1, .pointer (some ⟨b, 0, none⟩)), (2, .pointer (some ⟨k, 0, none⟩))]) Try.func37 Try.ntmps37 rfl rfl rfl ?_
 refine c_seq ?_
 refine c_region ?_
 refine o_call rfl cal38 rfl (global_) ?_
 rintro _ _ ⟨b7, rfl, rfl⟩
 refine o_assign rfl rfl ?_
 refine l_nil ?_
 refine q_then ?_
 refine c_seq ?_
 refine c_region ?_
 refine o_load1 rfl rfl Try.underlying22 rfl (rd_mem 1 rfl rfl) ?_
 refine o_len rfl rfl Try.underlying22 ?_
 refine o_move rfl rfl ?_
 refine l_nil ?_
 refine q_then ?_
 refine c_block ?_
 refine c_loop (α := Nat × FS × (List Item) × (List Res)) (fun z => [(0, y), (2, .pointer (some ⟨k, 0, none⟩)), (4, .pointer (some ⟨b7, 0, none⟩)), (8, .slice a (log).length c), (9, .int .i64 ((log).length : Int)), (10, .int .i64 (z.1 : Int))]) (fun z => FltR b7 z.2.1 :: blk b (.cells #[.slice a (log).length c] 22 (0, 0)) :: blk k (.cells #[.int .i64 g] 3 (0, 0)) :: z.2.2.2) (fun z => I z.2.2.1 z.2.2.2 ∧ z.1 ≤ log.length ∧ Vw z.2.1 (-1) (-1) (oruns (log.take z.1)) ∧ PcsOf g log z.1 z.2.2.1 ∧ ItsLen z.2.2.1) (fun z => log.length - z.1) (0, ⟨-1, -1, []⟩, [], L0) (by exact ⟨h0, Nat.zero_le _, Vw.new _, pcs_0 _ _, fun x hx => by cases hx⟩) ⟨(by first | rfl | exact vint (by omega)), (by first | rfl | exact vint (by omega)), (by first | rfl | exact vint (by omega)), (by first | rfl | exact vint (by omega)), (by first | rfl | exact vint (by omega)), (by first | rfl | exact vint (by omega)), trivial⟩ (fun w S => S) ?_
 rintro ⟨i, s, pre, Lp⟩ ⟨hI, hi, hvw, hpcs, hits⟩
 try dsimp only at *
 refine c_seq ?_
 refine c_region ?_
 refine o_bin rfl rfl rfl b_lss ?_
 refine l_nil ?_
 refine q_then ?_
 refine c_seq ?_
 refine c_cond rfl (fun h1 => ?_) (fun h1 => ?_)
 · -- h1T
  have h1b := h1
  try simp only [decide_eq_true_eq] at h1
  refine c_skip ?_
  refine q_then ?_
  refine c_seq ?_
  refine c_block ?_
  refine c_seq ?_
  refine c_region ?_
  refine o_move rfl rfl ?_
  refine o_index e_Order_ok rfl rfl rfl Try.underlying22 (by omega) (by omega) (rds_old hs) fun ad13 ead13 => ?_
  obtain ⟨x13, hx13⟩ : ∃ x, (log)[((i : Int)).toNat]? = some x := ⟨_, List.getElem?_eq_getElem (by omega)⟩
  refine o_loadn (vs := e_Order.cells x13) rfl rfl Try.underlying40 rfl ti40 (rdn_sl e_Order_ok ead13 (rds_old hs) hx13) ?_
  refine o_alloc rfl ti40 fun b6 => ?_
  refine o_assign rfl rfl ?_
  refine o_storen rfl rfl ti40 rfl rfl rfl rfl ?_
  refine l_nil ?_
  refine q_then ?_
  refine c_seq ?_
  refine c_seq ?_
  have hx13' : log[i]? = some x13 := hx13
  have hvo := fo_on hl hvw hx13
  have hm13 := (hsm x13 (List.mem_of_getElem? hx13)).m
  refine c_conv (fun w S => S.perm p1) ?_
  refine c_conv (fun w S => S.perm p3) ?_
  refine c_conv (fun w S => S.perm p3) ?_
  refine c_conv (fun w S => S.perm p3) ?_
  refine c_conv (fun w S => S.perm p2) ?_
  refine c_conv (fun w S => S.perm p2) ?_
  refine c_conv (fun w S => S.perm p2) ?_
  refine c_conv (fun w S => S.perm p3) ?_
  refine c_heldF [FltR b7 s] (blk b6 (.cells #[.int .i64 x13.f_Tag_Id_Node, .int .u64 x13.f_Tag_Id_Epoch, .int .u64 x13.f_Tag_Id_Seq, .int .i64 x13.f_Tag_Try, .int .i64 x13.f_Txn_Kind, .slice x13.f_Txn_Reads.a (x13.f_Txn_Reads.xs).length x13.f_Txn_Reads.c, .slice x13.f_Txn_Writes.a (x13.f_Txn_Writes.xs).length x13.f_Txn_Writes.c, .slice x13.f_Txn_Ops.a (x13.f_Txn_Ops.xs).length x13.f_Txn_Ops.c, .int .i64 x13.f_Txn_To, .slice x13.f_Marks.a (x13.f_Marks.xs).length x13.f_Marks.c] 40 (0, 0)) :: blk b (.cells #[.slice a (log).length c] 22 (0, 0)) :: blk k (.cells #[.int .i64 g] 3 (0, 0)) :: Lp) (by kernel_rfl) ?_
  refine h_take 0 rfl rfl (by kernel_rfl) (by kernel_rfl) (by kernel_rfl) (fun L0 => v_move rfl rfl) ?_
  refine h_take 1 rfl rfl (by kernel_rfl) (by kernel_rfl) (by kernel_rfl) (fun L0 => v_loadn (vs := [_, _, _, _, _, _, _, _, _, _]) rfl rfl Try.underlying40 rfl ti40 (rdn_lit 0 rfl rfl)) ?_
  refine h_one 2 rfl (by kernel_rfl) ?_
  refine l_conv (L' := FltR b7 s :: blk b6 (.cells #[.int .i64 x13.f_Tag_Id_Node, .int .u64 x13.f_Tag_Id_Epoch, .int .u64 x13.f_Tag_Id_Seq, .int .i64 x13.f_Tag_Try, .int .i64 x13.f_Txn_Kind, .slice x13.f_Txn_Reads.a (x13.f_Txn_Reads.xs).length x13.f_Txn_Reads.c, .slice x13.f_Txn_Writes.a (x13.f_Txn_Writes.xs).length x13.f_Txn_Writes.c, .slice x13.f_Txn_Ops.a (x13.f_Txn_Ops.xs).length x13.f_Txn_Ops.c, .int .i64 x13.f_Txn_To, .slice x13.f_Marks.a (x13.f_Marks.xs).length x13.f_Marks.c] 40 (0, 0)) :: blk b (.cells #[.slice a (log).length c] 22 (0, 0)) :: blk k (.cells #[.int .i64 g] 3 (0, 0)) :: Lp) (fun w S => S.perm List.perm_append_comm) ?_
  refine o_call rfl cal39 rfl (forder_ (o := x13) (ho x13 (List.mem_of_getElem? hx13) _) (hmk x13 (List.mem_of_getElem? hx13))) ?_
  rintro _ _ ⟨rfl, rfl⟩
  refine l_nil ?_
  refine q_conv (L' := (blk b6 (.cells #[.int .i64 x13.f_Tag_Id_Node, .int .u64 x13.f_Tag_Id_Epoch, .int .u64 x13.f_Tag_Id_Seq, .int .i64 x13.f_Tag_Try, .int .i64 x13.f_Txn_Kind, .slice x13.f_Txn_Reads.a (x13.f_Txn_Reads.xs).length x13.f_Txn_Reads.c, .slice x13.f_Txn_Writes.a (x13.f_Txn_Writes.xs).length x13.f_Txn_Writes.c, .slice x13.f_Txn_Ops.a (x13.f_Txn_Ops.xs).length x13.f_Txn_Ops.c, .int .i64 x13.f_Txn_To, .slice x13.f_Marks.a (x13.f_Marks.xs).length x13.f_Marks.c] 40 (0, 0)) :: blk b (.cells #[.slice a (log).length c] 22 (0, 0)) :: blk k (.cells #[.int .i64 g] 3 (0, 0)) :: Lp) ++ [FltR b7 (if single x13 then s else (s.first x13.tag).2)]) (fun w S => S.perm (List.perm_append_comm (l₁ := [FltR b7 (if single x13 then s else (s.first x13.tag).2)]) (l₂ := blk b6 (.cells #[.int .i64 x13.f_Tag_Id_Node, .int .u64 x13.f_Tag_Id_Epoch, .int .u64 x13.f_Tag_Id_Seq, .int .i64 x13.f_Tag_Try, .int .i64 x13.f_Txn_Kind, .slice x13.f_Txn_Reads.a (x13.f_Txn_Reads.xs).length x13.f_Txn_Reads.c, .slice x13.f_Txn_Writes.a (x13.f_Txn_Writes.xs).length x13.f_Txn_Writes.c, .slice x13.f_Txn_Ops.a (x13.f_Txn_Ops.xs).length x13.f_Txn_Ops.c, .int .i64 x13.f_Txn_To, .slice x13.f_Marks.a (x13.f_Marks.xs).length x13.f_Marks.c] 40 (0, 0)) :: blk b (.cells #[.slice a (log).length c] 22 (0, 0)) :: blk k (.cells #[.int .i64 g] 3 (0, 0)) :: Lp))) ?_
  refine h_next ?_
  refine h_take 3 rfl rfl (by kernel_rfl) (by kernel_rfl) (by kernel_rfl) (fun L0 => v_not rfl rfl) ?_
  refine h_take 4 rfl rfl (by kernel_rfl) (by kernel_rfl) (by kernel_rfl) (fun L0 => v_move rfl rfl) ?_
  refine h_split (t := 19) rfl (fun h2 => ?_) (fun h2 => ?_)
  · -- h2T
   have h2b := h2
   try simp only [decide_eq_true_eq, decide_eq_false_iff_not, Bool.not_eq_eq_eq_not, Bool.not_true, Bool.not_false, Bool.not_eq_true', Bool.not_eq_false', Int.not_lt, Int.not_le, Bool.or_eq_true, Bool.and_eq_true] at h2
   have hnf : ¬ FirstG log i := by rw [hvo.1] at h2b; simpa using h2b
   refine h_take_no 5 rfl rfl rfl rfl rfl (by kernel_rfl) (by kernel_rfl) (by kernel_rfl) ?_
   refine h_take_no 6 rfl rfl rfl rfl rfl (by kernel_rfl) (by kernel_rfl) (by kernel_rfl) ?_
   refine h_take_no 7 rfl rfl rfl rfl rfl (by kernel_rfl) (by kernel_rfl) (by kernel_rfl) ?_
   refine h_take_no 8 rfl rfl rfl rfl rfl (by kernel_rfl) (by kernel_rfl) (by kernel_rfl) ?_
   refine h_take_no 9 rfl rfl rfl rfl rfl (by kernel_rfl) (by kernel_rfl) (by kernel_rfl) ?_
   refine h_take 10 rfl rfl (by kernel_rfl) (by kernel_rfl) (by kernel_rfl) (fun L0 => v_pick_true rfl rfl rfl) ?_
   refine h_done (by kernel_rfl) ?_
   refine q_conv (L' := FltR b7 (if single x13 then s else (s.first x13.tag).2) :: blk b6 (.cells #[.int .i64 x13.f_Tag_Id_Node, .int .u64 x13.f_Tag_Id_Epoch, .int .u64 x13.f_Tag_Id_Seq, .int .i64 x13.f_Tag_Try, .int .i64 x13.f_Txn_Kind, .slice x13.f_Txn_Reads.a (x13.f_Txn_Reads.xs).length x13.f_Txn_Reads.c, .slice x13.f_Txn_Writes.a (x13.f_Txn_Writes.xs).length x13.f_Txn_Writes.c, .slice x13.f_Txn_Ops.a (x13.f_Txn_Ops.xs).length x13.f_Txn_Ops.c, .int .i64 x13.f_Txn_To, .slice x13.f_Marks.a (x13.f_Marks.xs).length x13.f_Marks.c] 40 (0, 0)) :: blk b (.cells #[.slice a (log).length c] 22 (0, 0)) :: blk k (.cells #[.int .i64 g] 3 (0, 0)) :: Lp) (fun w S => S.perm List.perm_append_comm) ?_
   refine q_then ?_
   refine c_true rfl ?_
   refine c_exit ?_
   refine q_pass_exit ?_
   refine q_hit ?_
   refine q_then ?_
   refine c_region ?_
   refine o_bin rfl rfl rfl (b_add (wrap_i64 (by omega) (by omega))) ?_
   refine o_move rfl rfl ?_
   refine l_nil ?_
   refine q_conv (fun w S => (S.perm p1).tail) ?_
   exact q_round (i + 1, (if single x13 then s else (s.first x13.tag).2), pre, Lp) (by exact ⟨hI, by omega, hvo.2, pcs_no hpcs (pc_not1 hnf), hits⟩) (by (try dsimp only); omega) ⟨(by first | rfl | exact vint (by omega)), (by first | rfl | exact vint (by omega)), (by first | rfl | exact vint (by omega)), (by first | rfl | exact vint (by omega)), (by first | rfl | exact vint (by omega)), (by first | rfl | exact vint (by omega)), trivial⟩ (fun w S => S)
  · -- h2F
   have h2b := h2
   try simp only [decide_eq_true_eq, decide_eq_false_iff_not, Bool.not_eq_eq_eq_not, Bool.not_true, Bool.not_false, Bool.not_eq_true', Bool.not_eq_false', Int.not_lt, Int.not_le, Bool.or_eq_true, Bool.and_eq_true] at h2
   have hfst : FirstG log i := by rw [hvo.1] at h2b; simpa using h2b
   refine h_take_yes 5 rfl rfl rfl rfl rfl (by kernel_rfl) (by kernel_rfl) (by kernel_rfl) (fun L0 => v_loadn (vs := [_, _, _, _, _, _, _, _, _, _]) rfl rfl Try.underlying40 rfl ti40 (rdn_lit 0 rfl rfl)) ?_
   refine h_take_yes 7 rfl rfl rfl rfl rfl (by kernel_rfl) (by kernel_rfl) (by kernel_rfl) (fun L0 => v_load1 rfl rfl Try.underlying3 rfl (rd_mem 2 rfl rfl)) ?_
   refine h_one 6 rfl (by kernel_rfl) ?_
   refine l_conv (L' := FltR b7 (if single x13 then s else (s.first x13.tag).2) :: blk b6 (.cells #[.int .i64 x13.f_Tag_Id_Node, .int .u64 x13.f_Tag_Id_Epoch, .int .u64 x13.f_Tag_Id_Seq, .int .i64 x13.f_Tag_Try, .int .i64 x13.f_Txn_Kind, .slice x13.f_Txn_Reads.a (x13.f_Txn_Reads.xs).length x13.f_Txn_Reads.c, .slice x13.f_Txn_Writes.a (x13.f_Txn_Writes.xs).length x13.f_Txn_Writes.c, .slice x13.f_Txn_Ops.a (x13.f_Txn_Ops.xs).length x13.f_Txn_Ops.c, .int .i64 x13.f_Txn_To, .slice x13.f_Marks.a (x13.f_Marks.xs).length x13.f_Marks.c] 40 (0, 0)) :: blk b (.cells #[.slice a (log).length c] 22 (0, 0)) :: blk k (.cells #[.int .i64 g] 3 (0, 0)) :: Lp) (fun w S => S.perm List.perm_append_comm) ?_
   refine o_yes rfl rfl rfl ?_
   refine o_call rfl cal33 rfl (homes_ (o := x13) (ho x13 (List.mem_of_getElem? hx13) _) (hmk x13 (List.mem_of_getElem? hx13))) ?_
   rintro _ _ ⟨a21, c21, rfl, rfl⟩
   have hhl21 := homes_len x13
   refine l_nil ?_
   refine q_conv (L' := (blk b6 (.cells #[.int .i64 x13.f_Tag_Id_Node, .int .u64 x13.f_Tag_Id_Epoch, .int .u64 x13.f_Tag_Id_Seq, .int .i64 x13.f_Tag_Try, .int .i64 x13.f_Txn_Kind, .slice x13.f_Txn_Reads.a (x13.f_Txn_Reads.xs).length x13.f_Txn_Reads.c, .slice x13.f_Txn_Writes.a (x13.f_Txn_Writes.xs).length x13.f_Txn_Writes.c, .slice x13.f_Txn_Ops.a (x13.f_Txn_Ops.xs).length x13.f_Txn_Ops.c, .int .i64 x13.f_Txn_To, .slice x13.f_Marks.a (x13.f_Marks.xs).length x13.f_Marks.c] 40 (0, 0)) :: blk b (.cells #[.slice a (log).length c] 22 (0, 0)) :: blk k (.cells #[.int .i64 g] 3 (0, 0)) :: Lp) ++ [row e_I.T e_I.sz a21 (homes x13).length c21 (flat e_I (homes x13)), FltR b7 (if single x13 then s else (s.first x13.tag).2)]) (fun w S => S.perm (List.perm_append_comm (l₁ := [row e_I.T e_I.sz a21 (homes x13).length c21 (flat e_I (homes x13)), FltR b7 (if single x13 then s else (s.first x13.tag).2)]) (l₂ := blk b6 (.cells #[.int .i64 x13.f_Tag_Id_Node, .int .u64 x13.f_Tag_Id_Epoch, .int .u64 x13.f_Tag_Id_Seq, .int .i64 x13.f_Tag_Try, .int .i64 x13.f_Txn_Kind, .slice x13.f_Txn_Reads.a (x13.f_Txn_Reads.xs).length x13.f_Txn_Reads.c, .slice x13.f_Txn_Writes.a (x13.f_Txn_Writes.xs).length x13.f_Txn_Writes.c, .slice x13.f_Txn_Ops.a (x13.f_Txn_Ops.xs).length x13.f_Txn_Ops.c, .int .i64 x13.f_Txn_To, .slice x13.f_Marks.a (x13.f_Marks.xs).length x13.f_Marks.c] 40 (0, 0)) :: blk b (.cells #[.slice a (log).length c] 22 (0, 0)) :: blk k (.cells #[.int .i64 g] 3 (0, 0)) :: Lp))) ?_
   refine h_next ?_
   refine h_one 8 rfl (by kernel_rfl) ?_
   refine l_conv (L' := row e_I.T e_I.sz a21 (homes x13).length c21 (flat e_I (homes x13)) :: FltR b7 (if single x13 then s else (s.first x13.tag).2) :: blk b6 (.cells #[.int .i64 x13.f_Tag_Id_Node, .int .u64 x13.f_Tag_Id_Epoch, .int .u64 x13.f_Tag_Id_Seq, .int .i64 x13.f_Tag_Try, .int .i64 x13.f_Txn_Kind, .slice x13.f_Txn_Reads.a (x13.f_Txn_Reads.xs).length x13.f_Txn_Reads.c, .slice x13.f_Txn_Writes.a (x13.f_Txn_Writes.xs).length x13.f_Txn_Writes.c, .slice x13.f_Txn_Ops.a (x13.f_Txn_Ops.xs).length x13.f_Txn_Ops.c, .int .i64 x13.f_Txn_To, .slice x13.f_Marks.a (x13.f_Marks.xs).length x13.f_Marks.c] 40 (0, 0)) :: blk b (.cells #[.slice a (log).length c] 22 (0, 0)) :: blk k (.cells #[.int .i64 g] 3 (0, 0)) :: Lp) (fun w S => S.perm List.perm_append_comm) ?_
   refine o_yes rfl rfl rfl ?_
   refine o_call rfl cal32 rfl (containsI_ (key := g) (rds_own e_I_ok 0 rfl) (by omega)) ?_
   rintro _ _ ⟨rfl, rfl⟩
   refine l_nil ?_
   refine q_conv (L' := (blk b6 (.cells #[.int .i64 x13.f_Tag_Id_Node, .int .u64 x13.f_Tag_Id_Epoch, .int .u64 x13.f_Tag_Id_Seq, .int .i64 x13.f_Tag_Try, .int .i64 x13.f_Txn_Kind, .slice x13.f_Txn_Reads.a (x13.f_Txn_Reads.xs).length x13.f_Txn_Reads.c, .slice x13.f_Txn_Writes.a (x13.f_Txn_Writes.xs).length x13.f_Txn_Writes.c, .slice x13.f_Txn_Ops.a (x13.f_Txn_Ops.xs).length x13.f_Txn_Ops.c, .int .i64 x13.f_Txn_To, .slice x13.f_Marks.a (x13.f_Marks.xs).length x13.f_Marks.c] 40 (0, 0)) :: blk b (.cells #[.slice a (log).length c] 22 (0, 0)) :: blk k (.cells #[.int .i64 g] 3 (0, 0)) :: Lp) ++ [row e_I.T e_I.sz a21 (homes x13).length c21 (flat e_I (homes x13)), FltR b7 (if single x13 then s else (s.first x13.tag).2)]) (fun w S => S.perm (List.perm_append_comm (l₁ := [row e_I.T e_I.sz a21 (homes x13).length c21 (flat e_I (homes x13)), FltR b7 (if single x13 then s else (s.first x13.tag).2)]) (l₂ := blk b6 (.cells #[.int .i64 x13.f_Tag_Id_Node, .int .u64 x13.f_Tag_Id_Epoch, .int .u64 x13.f_Tag_Id_Seq, .int .i64 x13.f_Tag_Try, .int .i64 x13.f_Txn_Kind, .slice x13.f_Txn_Reads.a (x13.f_Txn_Reads.xs).length x13.f_Txn_Reads.c, .slice x13.f_Txn_Writes.a (x13.f_Txn_Writes.xs).length x13.f_Txn_Writes.c, .slice x13.f_Txn_Ops.a (x13.f_Txn_Ops.xs).length x13.f_Txn_Ops.c, .int .i64 x13.f_Txn_To, .slice x13.f_Marks.a (x13.f_Marks.xs).length x13.f_Marks.c] 40 (0, 0)) :: blk b (.cells #[.slice a (log).length c] 22 (0, 0)) :: blk k (.cells #[.int .i64 g] 3 (0, 0)) :: Lp))) ?_
   refine h_next ?_
   refine h_take_yes 9 rfl rfl rfl rfl rfl (by kernel_rfl) (by kernel_rfl) (by kernel_rfl) (fun L0 => v_not rfl rfl) ?_
   refine h_take 10 rfl rfl (by kernel_rfl) (by kernel_rfl) (by kernel_rfl) (fun L0 => v_pick_false rfl rfl rfl) ?_
   refine h_done (by kernel_rfl) ?_
   refine q_conv (L' := row e_I.T e_I.sz a21 (homes x13).length c21 (flat e_I (homes x13)) :: FltR b7 (if single x13 then s else (s.first x13.tag).2) :: blk b6 (.cells #[.int .i64 x13.f_Tag_Id_Node, .int .u64 x13.f_Tag_Id_Epoch, .int .u64 x13.f_Tag_Id_Seq, .int .i64 x13.f_Tag_Try, .int .i64 x13.f_Txn_Kind, .slice x13.f_Txn_Reads.a (x13.f_Txn_Reads.xs).length x13.f_Txn_Reads.c, .slice x13.f_Txn_Writes.a (x13.f_Txn_Writes.xs).length x13.f_Txn_Writes.c, .slice x13.f_Txn_Ops.a (x13.f_Txn_Ops.xs).length x13.f_Txn_Ops.c, .int .i64 x13.f_Txn_To, .slice x13.f_Marks.a (x13.f_Marks.xs).length x13.f_Marks.c] 40 (0, 0)) :: blk b (.cells #[.slice a (log).length c] 22 (0, 0)) :: blk k (.cells #[.int .i64 g] 3 (0, 0)) :: Lp) (fun w S => S.perm List.perm_append_comm) ?_
   refine q_then ?_
   refine c_cond rfl (fun h3 => ?_) (fun h3 => ?_)
   · -- h3T
    have h3b := h3
    try simp only [Bool.not_eq_true', decide_eq_false_iff_not, Int.not_lt, Int.not_le] at h3
    refine c_exit ?_
    refine q_pass_exit ?_
    refine q_hit ?_
    refine q_then ?_
    refine c_region ?_
    refine o_bin rfl rfl rfl (b_add (wrap_i64 (by omega) (by omega))) ?_
    refine o_move rfl rfl ?_
    refine l_nil ?_
    refine q_conv (fun w S => S.tail) ?_
    refine q_conv (fun w S => (S.perm p1).tail) ?_
    exact q_round (i + 1, (if single x13 then s else (s.first x13.tag).2), pre, Lp) (by exact ⟨hI, by omega, hvo.2, pcs_no hpcs (pc_not2 hx13 (by simpa using h3b)), hits⟩) (by (try dsimp only); omega) ⟨(by first | rfl | exact vint (by omega)), (by first | rfl | exact vint (by omega)), (by first | rfl | exact vint (by omega)), (by first | rfl | exact vint (by omega)), (by first | rfl | exact vint (by omega)), (by first | rfl | exact vint (by omega)), trivial⟩ (fun w S => S)
   · -- h3F
    have h3b := h3
    try simp only [Bool.not_eq_false', decide_eq_true_eq] at h3
    refine c_skip ?_
    refine q_then ?_
    refine c_seq ?_
    refine c_region ?_
    refine o_move rfl rfl ?_
    refine o_move rfl rfl ?_
    refine o_loadn (vs := [_, _, _, _, _, _, _, _, _, _]) rfl rfl Try.underlying40 rfl ti40 (rdn_lit 2 rfl rfl) ?_
    refine o_call rfl cal40 rfl (ocopy_ (o := x13) (ho x13 (List.mem_of_getElem? hx13) _) (hsm x13 (List.mem_of_getElem? hx13))) ?_
    rintro _ _ ⟨c29, hs_c29, rfl, rfl⟩
    have L_c29 : OrdLen c29 := OrdLen.same (ho x13 (List.mem_of_getElem? hx13) []).len hs_c29
    refine o_build rfl sp42 ti42 rfl ((fill_cons (cells' := [.int .i64 2, .int .i64 0, .int .i64 0, .int .u64 0, .int .u64 0, .int .i64 0, .int .i64 0, .slice none 0 0, .slice none 0 0, .slice none 0 0, .int .i64 0, .slice none 0 0]) rfl rfl rfl rfl (fill_cons (cells' := [.int .i64 2, .int .i64 (i : Int), .int .i64 0, .int .u64 0, .int .u64 0, .int .i64 0, .int .i64 0, .slice none 0 0, .slice none 0 0, .slice none 0 0, .int .i64 0, .slice none 0 0]) rfl rfl rfl rfl (fill_cons (cells' := [.int .i64 2, .int .i64 (i : Int), .int .i64 c29.f_Tag_Id_Node, .int .u64 c29.f_Tag_Id_Epoch, .int .u64 c29.f_Tag_Id_Seq, .int .i64 c29.f_Tag_Try, .int .i64 c29.f_Txn_Kind, .slice c29.f_Txn_Reads.a (c29.f_Txn_Reads.xs).length c29.f_Txn_Reads.c, .slice c29.f_Txn_Writes.a (c29.f_Txn_Writes.xs).length c29.f_Txn_Writes.c, .slice c29.f_Txn_Ops.a (c29.f_Txn_Ops.xs).length c29.f_Txn_Ops.c, .int .i64 c29.f_Txn_To, .slice c29.f_Marks.a (c29.f_Marks.xs).length c29.f_Marks.c]) rfl rfl rfl rfl fill_nil)))) ?_
    have hpc : PcsOf g log (i + 1) (pre ++ [(⟨2, (i : Int), c29.f_Tag_Id_Node, c29.f_Tag_Id_Epoch, c29.f_Tag_Id_Seq, c29.f_Tag_Try, c29.f_Txn_Kind, c29.f_Txn_Reads, c29.f_Txn_Writes, c29.f_Txn_Ops, c29.f_Txn_To, c29.f_Marks⟩ : Item)]) := pcs_on hpcs (pc_yes hx13 hfst (by assumption)) ⟨rfl, rfl, x13, hx13', hs_c29⟩
    have hln : ItsLen (pre ++ [(⟨2, (i : Int), c29.f_Tag_Id_Node, c29.f_Tag_Id_Epoch, c29.f_Tag_Id_Seq, c29.f_Tag_Try, c29.f_Txn_Kind, c29.f_Txn_Reads, c29.f_Txn_Writes, c29.f_Txn_Ops, c29.f_Txn_To, c29.f_Marks⟩ : Item)]) := itsLen_snoc hits L_c29
    refine o_callV rfl rfl rfl (hy [row e_I.T e_I.sz a21 (homes x13).length c21 (flat e_I (homes x13)), FltR b7 (if single x13 then s else (s.first x13.tag).2), blk b6 (.cells #[.int .i64 x13.f_Tag_Id_Node, .int .u64 x13.f_Tag_Id_Epoch, .int .u64 x13.f_Tag_Id_Seq, .int .i64 x13.f_Tag_Try, .int .i64 x13.f_Txn_Kind, .slice x13.f_Txn_Reads.a (x13.f_Txn_Reads.xs).length x13.f_Txn_Reads.c, .slice x13.f_Txn_Writes.a (x13.f_Txn_Writes.xs).length x13.f_Txn_Writes.c, .slice x13.f_Txn_Ops.a (x13.f_Txn_Ops.xs).length x13.f_Txn_Ops.c, .int .i64 x13.f_Txn_To, .slice x13.f_Marks.a (x13.f_Marks.xs).length x13.f_Marks.c] 40 (0, 0)), blk b (.cells #[.slice a (log).length c] 22 (0, 0)), blk k (.cells #[.int .i64 g] 3 (0, 0))] pre (⟨2, (i : Int), c29.f_Tag_Id_Node, c29.f_Tag_Id_Epoch, c29.f_Tag_Id_Seq, c29.f_Tag_Try, c29.f_Txn_Kind, c29.f_Txn_Reads, c29.f_Txn_Writes, c29.f_Txn_Ops, c29.f_Txn_To, c29.f_Marks⟩ : Item) _ hI ⟨⟨i + 1, by omega, hpc⟩, hln⟩) ?_
    rintro _ _ ⟨bb, L31, rfl, hyy, rfl⟩
    refine l_conv (L' := row e_I.T e_I.sz a21 (homes x13).length c21 (flat e_I (homes x13)) :: FltR b7 (if single x13 then s else (s.first x13.tag).2) :: blk b6 (.cells #[.int .i64 x13.f_Tag_Id_Node, .int .u64 x13.f_Tag_Id_Epoch, .int .u64 x13.f_Tag_Id_Seq, .int .i64 x13.f_Tag_Try, .int .i64 x13.f_Txn_Kind, .slice x13.f_Txn_Reads.a (x13.f_Txn_Reads.xs).length x13.f_Txn_Reads.c, .slice x13.f_Txn_Writes.a (x13.f_Txn_Writes.xs).length x13.f_Txn_Writes.c, .slice x13.f_Txn_Ops.a (x13.f_Txn_Ops.xs).length x13.f_Txn_Ops.c, .int .i64 x13.f_Txn_To, .slice x13.f_Marks.a (x13.f_Marks.xs).length x13.f_Marks.c] 40 (0, 0)) :: blk b (.cells #[.slice a (log).length c] 22 (0, 0)) :: blk k (.cells #[.int .i64 g] 3 (0, 0)) :: L31) (fun w S => S) ?_
    refine o_not rfl rfl ?_
    refine l_nil ?_
    refine q_then ?_
    refine c_cond rfl (fun h4 => ?_) (fun h4 => ?_)
    · -- h4T
     have h4b := h4
     try simp only [decide_eq_true_eq, decide_eq_false_iff_not, Bool.not_eq_eq_eq_not, Bool.not_true, Bool.not_false, Bool.not_eq_true', Bool.not_eq_false', Int.not_lt, Int.not_le, Bool.or_eq_true, Bool.and_eq_true] at h4
     refine c_ret ?_
     refine q_block_ret ?_
     refine q_pass_ret ?_
     refine q_pass_ret ?_
     refine q_block_ret ?_
     refine q_conv (fun w S => S.tail) ?_
     refine q_conv (fun w S => S.tail) ?_
     refine q_conv (fun w S => S.tail) ?_
     exact f_ret (r_none rfl) (⟨L31, .inr (by rcases hyy with ⟨q, _⟩ | ⟨_, q⟩; (rw [q] at h4b; cases h4b); exact q), rfl⟩) (fun w S => S)
    · -- h4F
     have h4b := h4
     try simp only [decide_eq_true_eq, decide_eq_false_iff_not, Bool.not_eq_eq_eq_not, Bool.not_true, Bool.not_false, Bool.not_eq_true', Bool.not_eq_false', Int.not_lt, Int.not_le, Bool.or_eq_true, Bool.and_eq_true] at h4
     refine c_skip ?_
     refine q_block ?_
     refine q_then ?_
     refine c_region ?_
     refine o_bin rfl rfl rfl (b_add (wrap_i64 (by omega) (by omega))) ?_
     refine o_move rfl rfl ?_
     refine l_nil ?_
     refine q_conv (fun w S => S.tail) ?_
     refine q_conv (fun w S => (S.perm p1).tail) ?_
     exact q_round (i + 1, (if single x13 then s else (s.first x13.tag).2), pre ++ [(⟨2, (i : Int), c29.f_Tag_Id_Node, c29.f_Tag_Id_Epoch, c29.f_Tag_Id_Seq, c29.f_Tag_Try, c29.f_Txn_Kind, c29.f_Txn_Reads, c29.f_Txn_Writes, c29.f_Txn_Ops, c29.f_Txn_To, c29.f_Marks⟩ : Item)], L31) (by exact ⟨(by rcases hyy with ⟨_, q⟩ | ⟨q, _⟩; exact q; (rw [q] at h4b; cases h4b)), by omega, hvo.2, hpc, hln⟩) (by (try dsimp only); omega) ⟨(by first | rfl | exact vint (by omega)), (by first | rfl | exact vint (by omega)), (by first | rfl | exact vint (by omega)), (by first | rfl | exact vint (by omega)), (by first | rfl | exact vint (by omega)), (by first | rfl | exact vint (by omega)), trivial⟩ (fun w S => S)
 · -- h1F
  have h1b := h1
  try simp only [decide_eq_false_iff_not, Int.not_lt, Int.not_le] at h1
  refine c_exit ?_
  refine q_pass_exit ?_
  refine q_pass_exit ?_
  refine q_hit ?_
  refine q_conv (fun w S => S.tail) ?_
  exact f_end (r_none rfl) (⟨Lp, .inl ⟨pre, ⟨by rw [← show i = log.length by omega]; exact hpcs, hits⟩, hI⟩, rfl⟩) (fun w S => S)

end Go.Proofs.Yteehongibjkjlaa
