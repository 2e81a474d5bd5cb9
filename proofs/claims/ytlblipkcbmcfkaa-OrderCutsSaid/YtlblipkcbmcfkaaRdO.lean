/- Printed by eng2.py out of 09a/spec.py. -/
import Derived.Test.YtlblipkcbmcfkaaRdT
import Derived.Test.YtlblipkcbmcfkaaORdq
import Derived.Test.YtlblipkcbmcfkaaKeys
set_option linter.unusedVariables false
set_option linter.unusedSimpArgs false
set_option maxRecDepth 10000
namespace Go.Proofs.Ytlblipkcbmcfkaa
open Go.RowKit Classical
theorem vals_rv {W : World} {L : List Res} {os : List Op} (i : Nat) (h : L[i]? = some (stars ((os.map Op.f_Value).map (vrow e8)))) : ∀ o ∈ os, RdS W L e8 o.f_Value.a o.f_Value.xs := fun o ho => rds_stars e8_ok i h (List.mem_map.2 ⟨o.f_Value, List.mem_map.2 ⟨o, ho, rfl⟩, rfl⟩)
set_option maxHeartbeats 4000000 in
theorem rorder_ {W : World} {F : List Res} {k i : Nat} {bs ys : List UInt8} {a ay : Option Addr} {c cy : Nat} (ok : EyeOk W a bs i ys ay cy) : CS Try.prog 37 #[.agg #[.pointer (some ⟨k, 0, none⟩)]] W (blk k (.cells #[.slice ay (ys).length cy] 98 (0, 0)) :: row e8.T e8.sz a (bs).length c (flat e8 bs) :: F) (fun r L' => ∃ (q : Order) (ys' : List UInt8) (ay' : Option Addr) (cy' i' : Nat), OWf q ∧ OrdLen q ∧ (q.f_Txn_Reads.xs.length ≤ 9 ∧ q.f_Txn_Writes.xs.length ≤ 9 ∧ q.f_Txn_Ops.xs.length ≤ 17 ∧ q.f_Marks.xs.length ≤ 18) ∧ (∀ o, GoodO o ys → SameO q o) ∧ EyeOk W a bs i' ys' ay' cy' ∧ r = .agg (e_Order.cells q).toArray ∧ L' = ordM q :: blk k (.cells #[.slice ay' (ys').length cy'] 98 (0, 0)) :: row e8.T e8.sz a (bs).length c (flat e8 bs) :: F) := by
 refine f_door (l0 := [(0, .agg #[.pointer (some ⟨k, 0, none⟩)])]) Try.func37 Try.ntmps37 rfl rfl rfl ?_
 refine c_seq ?_
 refine c_region ?_
 refine o_box rfl rfl fun b1 => ?_
 refine o_alloc rfl ti33 fun b2 => ?_
 refine l_nil ?_
 refine q_then ?_
 refine c_seq ?_
 refine c_conv (fun w S => S.perm p2) ?_
 refine c_conv (fun w S => S.perm p1) ?_
 refine c_conv (fun w S => S.perm p3) ?_
 refine c_conv (fun w S => S.perm p3) ?_
 refine c_held [blk b1 (.cells #[.pointer (some ⟨k, 0, none⟩)] 75 (0, 0)), row e8.T e8.sz a (bs).length c (flat e8 bs)] (by kernel_rfl) rfl ?_
 refine h_take 0 rfl rfl (by kernel_rfl) (by kernel_rfl) (by kernel_rfl) (fun L0 => v_loadn (vs := [_]) rfl rfl Try.underlying75 rfl ti75 (rdn_lit 0 rfl rfl)) ?_
 refine h_take 2 rfl rfl (by kernel_rfl) (by kernel_rfl) (by kernel_rfl) (fun L0 => v_loadn (vs := [_]) rfl rfl Try.underlying75 rfl ti75 (rdn_lit 0 rfl rfl)) ?_
 refine h_take 4 rfl rfl (by kernel_rfl) (by kernel_rfl) (by kernel_rfl) (fun L0 => v_loadn (vs := [_]) rfl rfl Try.underlying75 rfl ti75 (rdn_lit 0 rfl rfl)) ?_
 refine h_take 6 rfl rfl (by kernel_rfl) (by kernel_rfl) (by kernel_rfl) (fun L0 => v_loadn (vs := [_]) rfl rfl Try.underlying75 rfl ti75 (rdn_lit 0 rfl rfl)) ?_
 refine h_one 1 rfl (by kernel_rfl) ?_
 refine l_f1 ?_
 refine l_f3 ?_
 refine o_call rfl cal60 rfl (rsmall_ ok) ?_
 rintro _ _ ⟨ys8, ay8, cy8, ok8, rfl, rfl⟩
 have dr8 : ys8 = ys.drop (numR 0 0 ys).2.2 := EyeOk.next ok ok8
 refine l_nil ?_
 refine q_conv (fun w S => S.perm p3) ?_
 refine q_conv (fun w S => S.perm p1) ?_
 refine q_conv (fun w S => S.perm p2) ?_
 refine q_conv (fun w S => S.perm p3) ?_
 refine h_next ?_
 refine h_take 8 rfl rfl (by kernel_rfl) (by kernel_rfl) (by kernel_rfl) (fun L0 => v_fieldAddr (q := ⟨b2, 0, none⟩) rfl rfl Try.underlying33 rfl ti26 rfl) ?_
 refine h_take 9 rfl rfl (by kernel_rfl) (by kernel_rfl) (by kernel_rfl) (fun L0 => v_fieldAddr (q := ⟨b2, 0, none⟩) rfl rfl Try.underlying26 rfl ti24 rfl) ?_
 refine h_take 10 rfl rfl (by kernel_rfl) (by kernel_rfl) (by kernel_rfl) (fun L0 => v_fieldAddr (q := ⟨b2, 0, none⟩) rfl rfl Try.underlying24 rfl ti3 rfl) ?_
 refine h_one 3 rfl (by kernel_rfl) ?_
 refine l_f1 ?_
 refine l_f2 ?_
 refine o_call rfl cal61 rfl (rnum_ ok8) ?_
 rintro _ _ ⟨ys10, ay10, cy10, ok10, rfl, rfl⟩
 have dr10 : ys10 = ys8.drop (numR 0 0 ys8).2.2 := EyeOk.next ok8 ok10
 refine l_nil ?_
 refine q_conv (fun w S => S.perm p3) ?_
 refine q_conv (fun w S => S.perm p1) ?_
 refine q_conv (fun w S => S.perm p2) ?_
 refine q_conv (fun w S => S.perm p3) ?_
 refine h_next ?_
 refine h_one 5 rfl (by kernel_rfl) ?_
 refine l_f1 ?_
 refine l_f2 ?_
 refine o_call rfl cal61 rfl (rnum_ ok10) ?_
 rintro _ _ ⟨ys12, ay12, cy12, ok12, rfl, rfl⟩
 have dr12 : ys12 = ys10.drop (numR 0 0 ys10).2.2 := EyeOk.next ok10 ok12
 refine l_nil ?_
 refine q_conv (fun w S => S.perm p3) ?_
 refine q_conv (fun w S => S.perm p1) ?_
 refine q_conv (fun w S => S.perm p2) ?_
 refine q_conv (fun w S => S.perm p3) ?_
 refine h_next ?_
 refine h_one 7 rfl (by kernel_rfl) ?_
 refine l_f1 ?_
 refine l_f2 ?_
 refine o_call rfl cal60 rfl (rsmall_ ok12) ?_
 rintro _ _ ⟨ys14, ay14, cy14, ok14, rfl, rfl⟩
 have dr14 : ys14 = ys12.drop (numR 0 0 ys12).2.2 := EyeOk.next ok12 ok14
 refine l_nil ?_
 refine q_conv (fun w S => S.perm p3) ?_
 refine q_conv (fun w S => S.perm p1) ?_
 refine q_conv (fun w S => S.perm p2) ?_
 refine q_conv (fun w S => S.perm p3) ?_
 refine h_next ?_
 refine h_one 11 rfl (by kernel_rfl) ?_
 refine l_f3 ?_
 refine o_store1 rfl rfl rfl ti3 rfl rfl ?_
 refine l_nil ?_
 refine q_conv (fun w S => S.perm p3) ?_
 refine q_conv (fun w S => S.perm p1) ?_
 refine q_conv (fun w S => S.perm p3) ?_
 refine q_conv (fun w S => S.perm p3) ?_
 refine h_next ?_
 refine h_take 12 rfl rfl (by kernel_rfl) (by kernel_rfl) (by kernel_rfl) (fun L0 => v_fieldAddr (q := ⟨b2, 0, none⟩) rfl rfl Try.underlying33 rfl ti26 rfl) ?_
 refine h_take 13 rfl rfl (by kernel_rfl) (by kernel_rfl) (by kernel_rfl) (fun L0 => v_fieldAddr (q := ⟨b2, 0, none⟩) rfl rfl Try.underlying26 rfl ti24 rfl) ?_
 refine h_take 14 rfl rfl (by kernel_rfl) (by kernel_rfl) (by kernel_rfl) (fun L0 => v_fieldAddr (q := ⟨b2, 1, none⟩) rfl rfl Try.underlying24 rfl ti22 rfl) ?_
 refine h_one 15 rfl (by kernel_rfl) ?_
 refine l_f2 ?_
 refine o_store1 rfl rfl rfl ti22 rfl rfl ?_
 refine l_nil ?_
 refine q_conv (fun w S => S.perm p3) ?_
 refine q_conv (fun w S => S.perm p1) ?_
 refine q_conv (fun w S => S.perm p3) ?_
 refine q_conv (fun w S => S.perm p3) ?_
 refine h_next ?_
 refine h_take 16 rfl rfl (by kernel_rfl) (by kernel_rfl) (by kernel_rfl) (fun L0 => v_fieldAddr (q := ⟨b2, 0, none⟩) rfl rfl Try.underlying33 rfl ti26 rfl) ?_
 refine h_take 17 rfl rfl (by kernel_rfl) (by kernel_rfl) (by kernel_rfl) (fun L0 => v_fieldAddr (q := ⟨b2, 0, none⟩) rfl rfl Try.underlying26 rfl ti24 rfl) ?_
 refine h_take 18 rfl rfl (by kernel_rfl) (by kernel_rfl) (by kernel_rfl) (fun L0 => v_fieldAddr (q := ⟨b2, 2, none⟩) rfl rfl Try.underlying24 rfl ti22 rfl) ?_
 refine h_one 19 rfl (by kernel_rfl) ?_
 refine l_f2 ?_
 refine o_store1 rfl rfl rfl ti22 rfl rfl ?_
 refine l_nil ?_
 refine q_conv (fun w S => S.perm p3) ?_
 refine q_conv (fun w S => S.perm p1) ?_
 refine q_conv (fun w S => S.perm p3) ?_
 refine q_conv (fun w S => S.perm p3) ?_
 refine h_next ?_
 refine h_take 20 rfl rfl (by kernel_rfl) (by kernel_rfl) (by kernel_rfl) (fun L0 => v_fieldAddr (q := ⟨b2, 0, none⟩) rfl rfl Try.underlying33 rfl ti26 rfl) ?_
 refine h_take 21 rfl rfl (by kernel_rfl) (by kernel_rfl) (by kernel_rfl) (fun L0 => v_fieldAddr (q := ⟨b2, 3, none⟩) rfl rfl Try.underlying26 rfl ti3 rfl) ?_
 refine h_one 22 rfl (by kernel_rfl) ?_
 refine l_f2 ?_
 refine o_store1 rfl rfl rfl ti3 rfl rfl ?_
 refine l_nil ?_
 refine q_conv (fun w S => S.perm p3) ?_
 refine q_conv (fun w S => S.perm p1) ?_
 refine q_conv (fun w S => S.perm p3) ?_
 refine q_conv (fun w S => S.perm p3) ?_
 refine h_next ?_
 refine h_done (by kernel_rfl) ?_
 refine q_then ?_
 refine c_seq ?_
 refine c_held [blk b1 (.cells #[.pointer (some ⟨k, 0, none⟩)] 75 (0, 0)), row e8.T e8.sz a (bs).length c (flat e8 bs)] (by kernel_rfl) rfl ?_
 refine h_take 0 rfl rfl (by kernel_rfl) (by kernel_rfl) (by kernel_rfl) (fun L0 => v_loadn (vs := [_]) rfl rfl Try.underlying75 rfl ti75 (rdn_lit 0 rfl rfl)) ?_
 refine h_take 2 rfl rfl (by kernel_rfl) (by kernel_rfl) (by kernel_rfl) (fun L0 => v_loadn (vs := [_]) rfl rfl Try.underlying75 rfl ti75 (rdn_lit 0 rfl rfl)) ?_
 refine h_take 4 rfl rfl (by kernel_rfl) (by kernel_rfl) (by kernel_rfl) (fun L0 => v_loadn (vs := [_]) rfl rfl Try.underlying75 rfl ti75 (rdn_lit 0 rfl rfl)) ?_
 refine h_take 6 rfl rfl (by kernel_rfl) (by kernel_rfl) (by kernel_rfl) (fun L0 => v_loadn (vs := [_]) rfl rfl Try.underlying75 rfl ti75 (rdn_lit 0 rfl rfl)) ?_
 refine h_one 1 rfl (by kernel_rfl) ?_
 refine l_f1 ?_
 refine l_f3 ?_
 refine o_call rfl cal60 rfl (rsmall_ ok14) ?_
 rintro _ _ ⟨ys27, ay27, cy27, ok27, rfl, rfl⟩
 have dr27 : ys27 = ys14.drop (numR 0 0 ys14).2.2 := EyeOk.next ok14 ok27
 refine l_nil ?_
 refine q_conv (fun w S => S.perm p3) ?_
 refine q_conv (fun w S => S.perm p1) ?_
 refine q_conv (fun w S => S.perm p2) ?_
 refine q_conv (fun w S => S.perm p3) ?_
 refine h_next ?_
 refine h_take 8 rfl rfl (by kernel_rfl) (by kernel_rfl) (by kernel_rfl) (fun L0 => v_fieldAddr (q := ⟨b2, 4, none⟩) rfl rfl Try.underlying33 rfl ti30 rfl) ?_
 refine h_take 9 rfl rfl (by kernel_rfl) (by kernel_rfl) (by kernel_rfl) (fun L0 => v_fieldAddr (q := ⟨b2, 4, none⟩) rfl rfl Try.underlying30 rfl ti3 rfl) ?_
 refine h_one 3 rfl (by kernel_rfl) ?_
 refine l_f1 ?_
 refine l_f2 ?_
 refine o_call rfl cal60 rfl (rsmall_ ok27) ?_
 rintro _ _ ⟨ys29, ay29, cy29, ok29, rfl, rfl⟩
 have dr29 : ys29 = ys27.drop (numR 0 0 ys27).2.2 := EyeOk.next ok27 ok29
 refine l_nil ?_
 refine q_conv (fun w S => S.perm p3) ?_
 refine q_conv (fun w S => S.perm p1) ?_
 refine q_conv (fun w S => S.perm p2) ?_
 refine q_conv (fun w S => S.perm p3) ?_
 refine h_next ?_
 refine h_one 5 rfl (by kernel_rfl) ?_
 refine l_f1 ?_
 refine l_f2 ?_
 refine o_call rfl cal62 rfl (rtexts_ ok29) ?_
 rintro _ _ ⟨out31, ys31, ay31, cy31, i31, a31, c31, hln31, htx31, ok31, rfl, rfl⟩
 refine l_nil ?_
 refine q_conv (fun w S => S.perm p4) ?_
 refine q_conv (fun w S => S.perm p2) ?_
 refine q_conv (fun w S => S.perm p2) ?_
 refine q_conv (fun w S => S.perm p3) ?_
 refine q_conv (fun w S => S.perm p4) ?_
 refine h_next ?_
 refine h_one 7 rfl (by kernel_rfl) ?_
 refine l_f1 ?_
 refine l_f3 ?_
 refine o_call rfl cal62 rfl (rtexts_ ok31) ?_
 rintro _ _ ⟨out33, ys33, ay33, cy33, i33, a33, c33, hln33, htx33, ok33, rfl, rfl⟩
 refine l_nil ?_
 refine q_conv (fun w S => S.perm p5) ?_
 refine q_conv (fun w S => S.perm p5) ?_
 refine q_conv (fun w S => S.perm p3) ?_
 refine q_conv (fun w S => S.perm p3) ?_
 refine q_conv (fun w S => S.perm p4) ?_
 refine q_conv (fun w S => S.perm p5) ?_
 refine h_next ?_
 refine h_one 10 rfl (by kernel_rfl) ?_
 refine l_f5 ?_
 refine o_store1 rfl rfl rfl ti3 rfl rfl ?_
 refine l_nil ?_
 refine q_conv (fun w S => S.perm p5) ?_
 refine q_conv (fun w S => S.perm p5) ?_
 refine q_conv (fun w S => S.perm p5) ?_
 refine q_conv (fun w S => S.perm p3) ?_
 refine q_conv (fun w S => S.perm p5) ?_
 refine q_conv (fun w S => S.perm p5) ?_
 refine h_next ?_
 refine h_take 11 rfl rfl (by kernel_rfl) (by kernel_rfl) (by kernel_rfl) (fun L0 => v_fieldAddr (q := ⟨b2, 4, none⟩) rfl rfl Try.underlying33 rfl ti30 rfl) ?_
 refine h_take 12 rfl rfl (by kernel_rfl) (by kernel_rfl) (by kernel_rfl) (fun L0 => v_fieldAddr (q := ⟨b2, 8, none⟩) rfl rfl Try.underlying30 rfl ti3 rfl) ?_
 refine h_one 13 rfl (by kernel_rfl) ?_
 refine l_f2 ?_
 refine o_store1 rfl rfl rfl ti3 rfl rfl ?_
 refine l_nil ?_
 refine q_conv (fun w S => S.perm p5) ?_
 refine q_conv (fun w S => S.perm p5) ?_
 refine q_conv (fun w S => S.perm p5) ?_
 refine q_conv (fun w S => S.perm p3) ?_
 refine q_conv (fun w S => S.perm p5) ?_
 refine q_conv (fun w S => S.perm p5) ?_
 refine h_next ?_
 refine h_take 14 rfl rfl (by kernel_rfl) (by kernel_rfl) (by kernel_rfl) (fun L0 => v_fieldAddr (q := ⟨b2, 4, none⟩) rfl rfl Try.underlying33 rfl ti30 rfl) ?_
 refine h_take 15 rfl rfl (by kernel_rfl) (by kernel_rfl) (by kernel_rfl) (fun L0 => v_fieldAddr (q := ⟨b2, 5, none⟩) rfl rfl Try.underlying30 rfl ti27 rfl) ?_
 refine h_one 16 rfl (by kernel_rfl) ?_
 refine l_f2 ?_
 refine o_store1 rfl rfl rfl ti27 rfl rfl ?_
 refine l_nil ?_
 refine q_conv (fun w S => S.perm p5) ?_
 refine q_conv (fun w S => S.perm p5) ?_
 refine q_conv (fun w S => S.perm p5) ?_
 refine q_conv (fun w S => S.perm p3) ?_
 refine q_conv (fun w S => S.perm p5) ?_
 refine q_conv (fun w S => S.perm p5) ?_
 refine h_next ?_
 refine h_take 17 rfl rfl (by kernel_rfl) (by kernel_rfl) (by kernel_rfl) (fun L0 => v_fieldAddr (q := ⟨b2, 4, none⟩) rfl rfl Try.underlying33 rfl ti30 rfl) ?_
 refine h_take 18 rfl rfl (by kernel_rfl) (by kernel_rfl) (by kernel_rfl) (fun L0 => v_fieldAddr (q := ⟨b2, 6, none⟩) rfl rfl Try.underlying30 rfl ti27 rfl) ?_
 refine h_one 19 rfl (by kernel_rfl) ?_
 refine l_f2 ?_
 refine o_store1 rfl rfl rfl ti27 rfl rfl ?_
 refine l_nil ?_
 refine q_conv (fun w S => S.perm p5) ?_
 refine q_conv (fun w S => S.perm p5) ?_
 refine q_conv (fun w S => S.perm p5) ?_
 refine q_conv (fun w S => S.perm p3) ?_
 refine q_conv (fun w S => S.perm p5) ?_
 refine q_conv (fun w S => S.perm p5) ?_
 refine h_next ?_
 refine h_done (by kernel_rfl) ?_
 refine q_then ?_
 refine c_seq ?_
 refine c_seq ?_
 refine c_nilrow e_Op ?_
 refine c_conv (L' := stars ((([] : List Op).map Op.f_Value).map (vrow e8)) :: _) (fun w S => S.stars_nil) ?_
 refine c_region ?_
 refine o_loadn (vs := [_]) rfl rfl Try.underlying75 rfl ti75 (rdn_lit 2 rfl rfl) ?_
 refine l_f3 ?_
 refine l_f6 ?_
 refine o_call rfl cal60 rfl (rsmall_ ok33) ?_
 rintro _ _ ⟨ys43, ay43, cy43, ok43, rfl, rfl⟩
 have dr43 : ys43 = ys33.drop (numR 0 0 ys33).2.2 := EyeOk.next ok33 ok43
 refine o_min rfl rfl rfl Try.underlying3 ?_
 obtain ⟨n, hn⟩ : ∃ n : Nat, (n : Int) = min (smR ys33) 17 := ⟨(min (smR ys33) 17).toNat, by have := smR_0 ys33; omega⟩
 have hhd : ∀ o, GoodO o ys → n = o.f_Txn_Ops.xs.length ∧ ys43 = opT o 0 := fun o g => by obtain ⟨_, e1⟩ := rd_head g dr8 dr10 dr12 dr14 dr27 dr29; obtain ⟨_, e2⟩ := htx31 _ _ (rd_reads g.ok e1); obtain ⟨_, e3⟩ := htx33 _ _ (rd_writes g.ok e2); exact rd_nops g.ok e3 hn dr43
 refine l_eq (t := 44) (v' := .int .i64 (n : Int)) rfl (by exact congrArg (Value.int .i64) hn.symm) ?_
 refine o_move rfl rfl ?_
 refine l_nil ?_
 refine q_then ?_
 refine c_block ?_
 refine c_loop (α := Nat × (List Op) × (Option Addr) × Nat × (List UInt8) × (Option Addr) × Nat × Nat) (fun z => [(1, .pointer (some ⟨b1, 0, none⟩)), (2, .pointer (some ⟨b2, 0, none⟩)), (44, .int .i64 (n : Int)), (45, .int .i64 (z.1 : Int))]) (fun z => blk k (.cells #[.slice z.2.2.2.2.2.1 (z.2.2.2.2.1).length z.2.2.2.2.2.2.1] 98 (0, 0)) :: row e8.T e8.sz a (bs).length c (flat e8 bs) :: stars ((z.2.1.map Op.f_Value).map (vrow e8)) :: row e_Op.T e_Op.sz z.2.2.1 (z.2.1).length z.2.2.2.1 (flat e_Op z.2.1) :: blk b1 (.cells #[.pointer (some ⟨k, 0, none⟩)] 75 (0, 0)) :: blk b2 (.cells #[.int .i64 (smR ys), .int .u64 ((numR 0 0 ys8).1 : Int), .int .u64 ((numR 0 0 ys10).1 : Int), .int .i64 (smR ys12), .int .i64 (smR ys14), .slice a31 (out31).length c31, .slice a33 (out33).length c33, .slice z.2.2.1 (z.2.1).length z.2.2.2.1, .int .i64 (smR ys27), .slice none 0 0] 33 (0, 0)) :: row e_S.T e_S.sz a33 (out33).length c33 (flat e_S out33) :: row e_S.T e_S.sz a31 (out31).length c31 (flat e_S out31) :: F) (fun z => z.1 ≤ n ∧ EyeOk W a bs z.2.2.2.2.2.2.2 z.2.2.2.2.1 z.2.2.2.2.2.1 z.2.2.2.2.2.2.1 ∧ OpInv ys n z.1 z.2.1 z.2.2.2.2.1) (fun z => n - z.1) (0, [], none, 0, ys43, ay43, cy43, _) (by exact ⟨Nat.zero_le _, ok43, OpInv.start hhd⟩) ⟨(by first | rfl | exact vint (by omega)), (by first | rfl | exact vint (by omega)), (by first | rfl | exact vint (by omega)), (by first | rfl | exact vint (by omega)), trivial⟩ (fun w S => S) ?_
 rintro ⟨i, os, a7, c7, ye, ae, ce, ei⟩ ⟨hi, oke, hO⟩
 try dsimp only at *
 have hoL := hO.len
 have hn9 : n ≤ 17 := by omega
 refine c_seq ?_
 refine c_region ?_
 refine o_bin rfl rfl rfl b_lss ?_
 refine l_nil ?_
 refine q_then ?_
 refine c_seq ?_
 refine c_cond rfl (fun h1 => ?_) (fun h1 => ?_)
 · -- h1T
  have h1b := h1
  try simp only [decide_eq_true_eq] at h1
  refine c_skip ?_
  refine q_then ?_
  refine c_seq ?_
  refine c_block ?_
  refine c_seq ?_
  refine c_mid (α := Nat × (Option Addr) × Nat × (Option Addr) × Nat × (List UInt8) × (List UInt8) × (List UInt8) × (List UInt8) × (List UInt8) × (Option Addr) × Nat × Nat) (fun z => [(1, .pointer (some ⟨b1, 0, none⟩)), (2, .pointer (some ⟨b2, 0, none⟩)), (3, .pointer (some ⟨z.1, 0, none⟩)), (44, .int .i64 (n : Int)), (45, .int .i64 (i : Int)), (46, .bool (decide ((i : Int) < (n : Int)))), (47, .agg #[.pointer (some ⟨k, 0, none⟩)]), (48, .int .i64 (smR ye)), (49, .agg #[.pointer (some ⟨k, 0, none⟩)]), (50, .slice z.2.2.2.1 (z.2.2.2.2.2.2.2.2.1).length z.2.2.2.2.1), (51, .string (bts z.2.2.2.2.2.2.2.2.1)), (52, .agg #[.pointer (some ⟨k, 0, none⟩)]), (53, .slice z.2.1 (z.2.2.2.2.2.2.2.2.2.1).length z.2.2.1), (54, .agg #[.int .i64 (smR ye), .string (bts z.2.2.2.2.2.2.2.2.1), .slice z.2.1 (z.2.2.2.2.2.2.2.2.2.1).length z.2.2.1, .int .i64 0])]) (fun z => blk z.1 (.cells #[.int .i64 (smR ye), .string (bts z.2.2.2.2.2.2.2.2.1), .slice z.2.1 (z.2.2.2.2.2.2.2.2.2.1).length z.2.2.1, .int .i64 0] 53 (0, 0)) :: row e8.T e8.sz z.2.1 (z.2.2.2.2.2.2.2.2.2.1).length z.2.2.1 (flat e8 z.2.2.2.2.2.2.2.2.2.1) :: blk k (.cells #[.slice z.2.2.2.2.2.2.2.2.2.2.1 (z.2.2.2.2.2.2.2.1).length z.2.2.2.2.2.2.2.2.2.2.2.1] 98 (0, 0)) :: row e8.T e8.sz a (bs).length c (flat e8 bs) :: row e8.T e8.sz z.2.2.2.1 (z.2.2.2.2.2.2.2.2.1).length z.2.2.2.2.1 (flat e8 z.2.2.2.2.2.2.2.2.1) :: stars ((os.map Op.f_Value).map (vrow e8)) :: row e_Op.T e_Op.sz a7 (os).length c7 (flat e_Op os) :: blk b1 (.cells #[.pointer (some ⟨k, 0, none⟩)] 75 (0, 0)) :: blk b2 (.cells #[.int .i64 (smR ys), .int .u64 ((numR 0 0 ys8).1 : Int), .int .u64 ((numR 0 0 ys10).1 : Int), .int .i64 (smR ys12), .int .i64 (smR ys14), .slice a31 (out31).length c31, .slice a33 (out33).length c33, .slice a7 (os).length c7, .int .i64 (smR ys27), .slice none 0 0] 33 (0, 0)) :: row e_S.T e_S.sz a33 (out33).length c33 (flat e_S out33) :: row e_S.T e_S.sz a31 (out31).length c31 (flat e_S out31) :: F) (fun z => EyeOk W a bs z.2.2.2.2.2.2.2.2.2.2.2.2 z.2.2.2.2.2.2.2.1 z.2.2.2.2.2.2.2.2.2.2.1 z.2.2.2.2.2.2.2.2.2.2.2.1 ∧ z.2.2.2.2.2.1 = ye.drop (numR 0 0 ye).2.2 ∧ z.2.2.2.2.2.2.1 = z.2.2.2.2.2.1.drop (textR z.2.2.2.2.2.1).2.2 ∧ z.2.2.2.2.2.2.2.1 = z.2.2.2.2.2.2.1.drop (textR z.2.2.2.2.2.2.1).2.2 ∧ z.2.2.2.2.2.2.2.2.1 = (textR z.2.2.2.2.2.1).1 ∧ z.2.2.2.2.2.2.2.2.2.1 = (textR z.2.2.2.2.2.2.1).1) ?_ ?_
  · -- cut
   refine c_conv (fun w S => S.perm p7) ?_
   refine c_conv (fun w S => S.perm p7) ?_
   refine c_conv (fun w S => S.perm p7) ?_
   refine c_conv (fun w S => S.perm p7) ?_
   refine c_conv (fun w S => S.perm p7) ?_
   refine c_conv (fun w S => S.perm p7) ?_
   refine c_conv (fun w S => S.perm p7) ?_
   refine c_held [row e8.T e8.sz a (bs).length c (flat e8 bs), stars ((os.map Op.f_Value).map (vrow e8)), row e_Op.T e_Op.sz a7 (os).length c7 (flat e_Op os), blk b1 (.cells #[.pointer (some ⟨k, 0, none⟩)] 75 (0, 0)), blk b2 (.cells #[.int .i64 (smR ys), .int .u64 ((numR 0 0 ys8).1 : Int), .int .u64 ((numR 0 0 ys10).1 : Int), .int .i64 (smR ys12), .int .i64 (smR ys14), .slice a31 (out31).length c31, .slice a33 (out33).length c33, .slice a7 (os).length c7, .int .i64 (smR ys27), .slice none 0 0] 33 (0, 0)), row e_S.T e_S.sz a33 (out33).length c33 (flat e_S out33), row e_S.T e_S.sz a31 (out31).length c31 (flat e_S out31)] (by kernel_rfl) rfl ?_
   refine h_take 0 rfl rfl (by kernel_rfl) (by kernel_rfl) (by kernel_rfl) (fun L0 => v_loadn (vs := [_]) rfl rfl Try.underlying75 rfl ti75 (rdn_lit 3 rfl rfl)) ?_
   refine h_take 2 rfl rfl (by kernel_rfl) (by kernel_rfl) (by kernel_rfl) (fun L0 => v_loadn (vs := [_]) rfl rfl Try.underlying75 rfl ti75 (rdn_lit 3 rfl rfl)) ?_
   refine h_take 5 rfl rfl (by kernel_rfl) (by kernel_rfl) (by kernel_rfl) (fun L0 => v_loadn (vs := [_]) rfl rfl Try.underlying75 rfl ti75 (rdn_lit 3 rfl rfl)) ?_
   refine h_many (is := [1, 8]) (by kernel_rfl) (by decide) (forall_cons ⟨_, rfl, ?_⟩ (forall_cons ⟨_, rfl, ?_⟩ forall_nil))
   · -- 1 comes first
    refine l_f7 ?_
    refine o_call rfl cal60 rfl (rsmall_ oke) ?_
    rintro _ _ ⟨ys48, ay48, cy48, ok48, rfl, rfl⟩
    have dr48 : ys48 = ye.drop (numR 0 0 ye).2.2 := EyeOk.next oke ok48
    refine l_nil ?_
    refine q_conv (fun w S => S.perm p7) ?_
    refine q_conv (fun w S => S.perm p7) ?_
    refine q_conv (fun w S => S.perm p7) ?_
    refine q_conv (fun w S => S.perm p7) ?_
    refine q_conv (fun w S => S.perm p7) ?_
    refine q_conv (fun w S => S.perm p7) ?_
    refine q_conv (fun w S => S.perm p7) ?_
    refine h_next ?_
    refine h_many (is := [3, 8]) (by kernel_rfl) (by decide) (forall_cons ⟨_, rfl, ?_⟩ (forall_cons ⟨_, rfl, ?_⟩ forall_nil))
    · -- 3 comes first
     refine l_f7 ?_
     refine o_call rfl cal63 rfl (rtext_ ok48) ?_
     rintro _ _ ⟨out50, ys50, ay50, cy50, a50, c50, hout50, ok50, rfl, rfl⟩
     have dr50 : ys50 = ys48.drop (textR ys48).2.2 := EyeOk.next ok48 ok50
     refine l_nil ?_
     refine q_conv (fun w S => S.perm p1) ?_
     refine q_conv (fun w S => S.perm p1) ?_
     refine q_conv (fun w S => S.perm p8) ?_
     refine q_conv (fun w S => S.perm p8) ?_
     refine q_conv (fun w S => S.perm p8) ?_
     refine q_conv (fun w S => S.perm p8) ?_
     refine q_conv (fun w S => S.perm p8) ?_
     refine q_conv (fun w S => S.perm p8) ?_
     refine q_conv (fun w S => S.perm p8) ?_
     refine h_next ?_
     refine h_more [row e8.T e8.sz a50 (out50).length c50 (flat e8 out50)] rfl ?_
     refine h_take 4 rfl rfl (by kernel_rfl) (by kernel_rfl) (by kernel_rfl) (fun L0 => v_bytesStr (e := e8) rfl rfl rfl Try.underlying45 Try.underlying5 Try.underlying9 (rds_own e8_ok 7 rfl)) ?_
     refine h_many (is := [6, 8]) (by kernel_rfl) (by decide) (forall_cons ⟨_, rfl, ?_⟩ (forall_cons ⟨_, rfl, ?_⟩ forall_nil))
     · -- 6 comes first
      refine l_f8 ?_
      refine o_call rfl cal63 rfl (rtext_ ok50) ?_
      rintro _ _ ⟨out53, ys53, ay53, cy53, a53, c53, hout53, ok53, rfl, rfl⟩
      have dr53 : ys53 = ys50.drop (textR ys50).2.2 := EyeOk.next ok50 ok53
      refine l_nil ?_
      refine q_conv (fun w S => S.perm p1) ?_
      refine q_conv (fun w S => S.perm p1) ?_
      refine q_conv (fun w S => S.perm p9) ?_
      refine q_conv (fun w S => S.perm p9) ?_
      refine q_conv (fun w S => S.perm p9) ?_
      refine q_conv (fun w S => S.perm p9) ?_
      refine q_conv (fun w S => S.perm p9) ?_
      refine q_conv (fun w S => S.perm p9) ?_
      refine q_conv (fun w S => S.perm p9) ?_
      refine q_conv (fun w S => S.perm p9) ?_
      refine h_next ?_
      refine h_take 7 rfl rfl (by kernel_rfl) (by kernel_rfl) (by kernel_rfl) (fun L0 => v_build rfl sp53 ti53 rfl ((fill_cons (cells' := [.int .i64 (smR ye), .string ByteArray.empty, .slice none 0 0, .int .i64 0]) rfl rfl rfl rfl (fill_cons (cells' := [.int .i64 (smR ye), .string (bts out50), .slice none 0 0, .int .i64 0]) rfl rfl rfl rfl (fill_cons (cells' := [.int .i64 (smR ye), .string (bts out50), .slice a53 (out53).length c53, .int .i64 0]) rfl rfl rfl rfl fill_nil))))) ?_
      refine h_one 8 rfl (by kernel_rfl) ?_
      refine o_alloc rfl ti53 fun b3 => ?_
      refine l_nil ?_
      refine q_conv (fun w S => S.perm p10) ?_
      refine q_conv (fun w S => S.perm p10) ?_
      refine q_conv (fun w S => S.perm p2) ?_
      refine q_conv (fun w S => S.perm p10) ?_
      refine q_conv (fun w S => S.perm p10) ?_
      refine q_conv (fun w S => S.perm p10) ?_
      refine q_conv (fun w S => S.perm p10) ?_
      refine q_conv (fun w S => S.perm p10) ?_
      refine q_conv (fun w S => S.perm p10) ?_
      refine q_conv (fun w S => S.perm p10) ?_
      refine q_conv (fun w S => S.perm p10) ?_
      refine h_next ?_
      refine h_one 9 rfl (by kernel_rfl) ?_
      refine l_f8 ?_
      refine o_storen rfl rfl ti53 rfl rfl rfl rfl ?_
      refine l_nil ?_
      refine q_conv (fun w S => S.perm p10) ?_
      refine q_conv (fun w S => S.perm p10) ?_
      refine q_conv (fun w S => S.perm p2) ?_
      refine q_conv (fun w S => S.perm p10) ?_
      refine q_conv (fun w S => S.perm p10) ?_
      refine q_conv (fun w S => S.perm p10) ?_
      refine q_conv (fun w S => S.perm p10) ?_
      refine q_conv (fun w S => S.perm p10) ?_
      refine q_conv (fun w S => S.perm p10) ?_
      refine q_conv (fun w S => S.perm p10) ?_
      refine q_conv (fun w S => S.perm p10) ?_
      refine h_next ?_
      refine h_done (by kernel_rfl) ?_
      refine q_conv (fun w S => S.perm p6) ?_
      refine q_conv (fun w S => S.perm p6) ?_
      refine q_conv (fun w S => S.perm p6) ?_
      refine q_conv (fun w S => S.perm p6) ?_
      refine q_conv (fun w S => S.perm p6) ?_
      refine q_conv (fun w S => S.perm p6) ?_
      refine q_conv (fun w S => S.perm p7) ?_
      refine q_conv (fun w S => S.perm p7) ?_
      refine q_conv (fun w S => S.perm p10) ?_
      refine q_conv (fun w S => S.perm p10) ?_
      refine q_conv (fun w S => S.perm p10) ?_
      exact q_mid (b3, a53, c53, a50, c50, ys48, ys50, ys53, out50, out53, ay53, cy53, _) (by exact ⟨ok53, dr48, dr50, dr53, hout50, hout53⟩) ⟨(by first | rfl | exact vint (by omega)), (by first | rfl | exact vint (by omega)), (by first | rfl | exact vint (by omega)), (by first | rfl | exact vint (by omega)), (by first | rfl | exact vint (by omega)), (by first | rfl | exact vint (by omega)), (by first | rfl | exact vint (by omega)), (by first | rfl | exact vint (by omega)), (by first | rfl | exact vint (by omega)), (by first | rfl | exact vint (by omega)), (by first | rfl | exact vint (by omega)), (by first | rfl | exact vint (by omega)), (by first | rfl | exact vint (by omega)), (by first | rfl | exact vint (by omega)), trivial⟩ (fun w S => S)
     · -- 8 comes first
      refine o_alloc rfl ti53 fun b3 => ?_
      refine l_nil ?_
      refine q_conv (fun w S => S.perm p9) ?_
      refine q_conv (fun w S => S.perm p1) ?_
      refine q_conv (fun w S => S.perm p9) ?_
      refine q_conv (fun w S => S.perm p9) ?_
      refine q_conv (fun w S => S.perm p9) ?_
      refine q_conv (fun w S => S.perm p9) ?_
      refine q_conv (fun w S => S.perm p9) ?_
      refine q_conv (fun w S => S.perm p9) ?_
      refine q_conv (fun w S => S.perm p9) ?_
      refine q_conv (fun w S => S.perm p9) ?_
      refine h_next ?_
      refine h_one 6 rfl (by kernel_rfl) ?_
      refine l_f9 ?_
      refine o_call rfl cal63 rfl (rtext_ ok50) ?_
      rintro _ _ ⟨out53, ys53, ay53, cy53, a53, c53, hout53, ok53, rfl, rfl⟩
      have dr53 : ys53 = ys50.drop (textR ys50).2.2 := EyeOk.next ok50 ok53
      refine l_nil ?_
      refine q_conv (fun w S => S.perm p10) ?_
      refine q_conv (fun w S => S.perm p2) ?_
      refine q_conv (fun w S => S.perm p2) ?_
      refine q_conv (fun w S => S.perm p10) ?_
      refine q_conv (fun w S => S.perm p10) ?_
      refine q_conv (fun w S => S.perm p10) ?_
      refine q_conv (fun w S => S.perm p10) ?_
      refine q_conv (fun w S => S.perm p10) ?_
      refine q_conv (fun w S => S.perm p10) ?_
      refine q_conv (fun w S => S.perm p10) ?_
      refine q_conv (fun w S => S.perm p10) ?_
      refine h_next ?_
      refine h_take 7 rfl rfl (by kernel_rfl) (by kernel_rfl) (by kernel_rfl) (fun L0 => v_build rfl sp53 ti53 rfl ((fill_cons (cells' := [.int .i64 (smR ye), .string ByteArray.empty, .slice none 0 0, .int .i64 0]) rfl rfl rfl rfl (fill_cons (cells' := [.int .i64 (smR ye), .string (bts out50), .slice none 0 0, .int .i64 0]) rfl rfl rfl rfl (fill_cons (cells' := [.int .i64 (smR ye), .string (bts out50), .slice a53 (out53).length c53, .int .i64 0]) rfl rfl rfl rfl fill_nil))))) ?_
      refine h_one 9 rfl (by kernel_rfl) ?_
      refine l_f10 ?_
      refine o_storen rfl rfl ti53 rfl rfl rfl rfl ?_
      refine l_nil ?_
      refine q_conv (fun w S => S.perm p10) ?_
      refine q_conv (fun w S => S.perm p10) ?_
      refine q_conv (fun w S => S.perm p2) ?_
      refine q_conv (fun w S => S.perm p10) ?_
      refine q_conv (fun w S => S.perm p10) ?_
      refine q_conv (fun w S => S.perm p10) ?_
      refine q_conv (fun w S => S.perm p10) ?_
      refine q_conv (fun w S => S.perm p10) ?_
      refine q_conv (fun w S => S.perm p10) ?_
      refine q_conv (fun w S => S.perm p10) ?_
      refine q_conv (fun w S => S.perm p10) ?_
      refine h_next ?_
      refine h_done (by kernel_rfl) ?_
      refine q_conv (fun w S => S.perm p6) ?_
      refine q_conv (fun w S => S.perm p6) ?_
      refine q_conv (fun w S => S.perm p6) ?_
      refine q_conv (fun w S => S.perm p6) ?_
      refine q_conv (fun w S => S.perm p6) ?_
      refine q_conv (fun w S => S.perm p6) ?_
      refine q_conv (fun w S => S.perm p7) ?_
      refine q_conv (fun w S => S.perm p7) ?_
      refine q_conv (fun w S => S.perm p10) ?_
      refine q_conv (fun w S => S.perm p10) ?_
      refine q_conv (fun w S => S.perm p10) ?_
      exact q_mid (b3, a53, c53, a50, c50, ys48, ys50, ys53, out50, out53, ay53, cy53, _) (by exact ⟨ok53, dr48, dr50, dr53, hout50, hout53⟩) ⟨(by first | rfl | exact vint (by omega)), (by first | rfl | exact vint (by omega)), (by first | rfl | exact vint (by omega)), (by first | rfl | exact vint (by omega)), (by first | rfl | exact vint (by omega)), (by first | rfl | exact vint (by omega)), (by first | rfl | exact vint (by omega)), (by first | rfl | exact vint (by omega)), (by first | rfl | exact vint (by omega)), (by first | rfl | exact vint (by omega)), (by first | rfl | exact vint (by omega)), (by first | rfl | exact vint (by omega)), (by first | rfl | exact vint (by omega)), (by first | rfl | exact vint (by omega)), trivial⟩ (fun w S => S)
    · -- 8 comes first
     refine o_alloc rfl ti53 fun b3 => ?_
     refine l_nil ?_
     refine q_conv (fun w S => S.perm p8) ?_
     refine q_conv (fun w S => S.perm p1) ?_
     refine q_conv (fun w S => S.perm p8) ?_
     refine q_conv (fun w S => S.perm p8) ?_
     refine q_conv (fun w S => S.perm p8) ?_
     refine q_conv (fun w S => S.perm p8) ?_
     refine q_conv (fun w S => S.perm p8) ?_
     refine q_conv (fun w S => S.perm p8) ?_
     refine q_conv (fun w S => S.perm p8) ?_
     refine h_next ?_
     refine h_one 3 rfl (by kernel_rfl) ?_
     refine l_f8 ?_
     refine o_call rfl cal63 rfl (rtext_ ok48) ?_
     rintro _ _ ⟨out50, ys50, ay50, cy50, a50, c50, hout50, ok50, rfl, rfl⟩
     have dr50 : ys50 = ys48.drop (textR ys48).2.2 := EyeOk.next ok48 ok50
     refine l_nil ?_
     refine q_conv (fun w S => S.perm p9) ?_
     refine q_conv (fun w S => S.perm p2) ?_
     refine q_conv (fun w S => S.perm p2) ?_
     refine q_conv (fun w S => S.perm p9) ?_
     refine q_conv (fun w S => S.perm p9) ?_
     refine q_conv (fun w S => S.perm p9) ?_
     refine q_conv (fun w S => S.perm p9) ?_
     refine q_conv (fun w S => S.perm p9) ?_
     refine q_conv (fun w S => S.perm p9) ?_
     refine q_conv (fun w S => S.perm p9) ?_
     refine h_next ?_
     refine h_more [row e8.T e8.sz a50 (out50).length c50 (flat e8 out50)] rfl ?_
     refine h_take 4 rfl rfl (by kernel_rfl) (by kernel_rfl) (by kernel_rfl) (fun L0 => v_bytesStr (e := e8) rfl rfl rfl Try.underlying45 Try.underlying5 Try.underlying9 (rds_own e8_ok 7 rfl)) ?_
     refine h_one 6 rfl (by kernel_rfl) ?_
     refine l_f8 ?_
     refine o_call rfl cal63 rfl (rtext_ ok50) ?_
     rintro _ _ ⟨out53, ys53, ay53, cy53, a53, c53, hout53, ok53, rfl, rfl⟩
     have dr53 : ys53 = ys50.drop (textR ys50).2.2 := EyeOk.next ok50 ok53
     refine l_nil ?_
     refine q_conv (fun w S => S.perm p10) ?_
     refine q_conv (fun w S => S.perm p2) ?_
     refine q_conv (fun w S => S.perm p2) ?_
     refine q_conv (fun w S => S.perm p10) ?_
     refine q_conv (fun w S => S.perm p10) ?_
     refine q_conv (fun w S => S.perm p10) ?_
     refine q_conv (fun w S => S.perm p10) ?_
     refine q_conv (fun w S => S.perm p10) ?_
     refine q_conv (fun w S => S.perm p10) ?_
     refine q_conv (fun w S => S.perm p10) ?_
     refine q_conv (fun w S => S.perm p10) ?_
     refine h_next ?_
     refine h_take 7 rfl rfl (by kernel_rfl) (by kernel_rfl) (by kernel_rfl) (fun L0 => v_build rfl sp53 ti53 rfl ((fill_cons (cells' := [.int .i64 (smR ye), .string ByteArray.empty, .slice none 0 0, .int .i64 0]) rfl rfl rfl rfl (fill_cons (cells' := [.int .i64 (smR ye), .string (bts out50), .slice none 0 0, .int .i64 0]) rfl rfl rfl rfl (fill_cons (cells' := [.int .i64 (smR ye), .string (bts out50), .slice a53 (out53).length c53, .int .i64 0]) rfl rfl rfl rfl fill_nil))))) ?_
     refine h_one 9 rfl (by kernel_rfl) ?_
     refine l_f10 ?_
     refine o_storen rfl rfl ti53 rfl rfl rfl rfl ?_
     refine l_nil ?_
     refine q_conv (fun w S => S.perm p10) ?_
     refine q_conv (fun w S => S.perm p10) ?_
     refine q_conv (fun w S => S.perm p2) ?_
     refine q_conv (fun w S => S.perm p10) ?_
     refine q_conv (fun w S => S.perm p10) ?_
     refine q_conv (fun w S => S.perm p10) ?_
     refine q_conv (fun w S => S.perm p10) ?_
     refine q_conv (fun w S => S.perm p10) ?_
     refine q_conv (fun w S => S.perm p10) ?_
     refine q_conv (fun w S => S.perm p10) ?_
     refine q_conv (fun w S => S.perm p10) ?_
     refine h_next ?_
     refine h_done (by kernel_rfl) ?_
     refine q_conv (fun w S => S.perm p6) ?_
     refine q_conv (fun w S => S.perm p6) ?_
     refine q_conv (fun w S => S.perm p6) ?_
     refine q_conv (fun w S => S.perm p6) ?_
     refine q_conv (fun w S => S.perm p6) ?_
     refine q_conv (fun w S => S.perm p6) ?_
     refine q_conv (fun w S => S.perm p7) ?_
     refine q_conv (fun w S => S.perm p7) ?_
     refine q_conv (fun w S => S.perm p10) ?_
     refine q_conv (fun w S => S.perm p10) ?_
     refine q_conv (fun w S => S.perm p10) ?_
     exact q_mid (b3, a53, c53, a50, c50, ys48, ys50, ys53, out50, out53, ay53, cy53, _) (by exact ⟨ok53, dr48, dr50, dr53, hout50, hout53⟩) ⟨(by first | rfl | exact vint (by omega)), (by first | rfl | exact vint (by omega)), (by first | rfl | exact vint (by omega)), (by first | rfl | exact vint (by omega)), (by first | rfl | exact vint (by omega)), (by first | rfl | exact vint (by omega)), (by first | rfl | exact vint (by omega)), (by first | rfl | exact vint (by omega)), (by first | rfl | exact vint (by omega)), (by first | rfl | exact vint (by omega)), (by first | rfl | exact vint (by omega)), (by first | rfl | exact vint (by omega)), (by first | rfl | exact vint (by omega)), (by first | rfl | exact vint (by omega)), trivial⟩ (fun w S => S)
   · -- 8 comes first
    refine o_alloc rfl ti53 fun b3 => ?_
    refine l_nil ?_
    refine q_conv (fun w S => S.perm p8) ?_
    refine q_conv (fun w S => S.perm p1) ?_
    refine q_conv (fun w S => S.perm p8) ?_
    refine q_conv (fun w S => S.perm p8) ?_
    refine q_conv (fun w S => S.perm p8) ?_
    refine q_conv (fun w S => S.perm p8) ?_
    refine q_conv (fun w S => S.perm p8) ?_
    refine q_conv (fun w S => S.perm p8) ?_
    refine q_conv (fun w S => S.perm p8) ?_
    refine h_next ?_
    refine h_one 1 rfl (by kernel_rfl) ?_
    refine l_f8 ?_
    refine o_call rfl cal60 rfl (rsmall_ oke) ?_
    rintro _ _ ⟨ys48, ay48, cy48, ok48, rfl, rfl⟩
    have dr48 : ys48 = ye.drop (numR 0 0 ye).2.2 := EyeOk.next oke ok48
    refine l_nil ?_
    refine q_conv (fun w S => S.perm p8) ?_
    refine q_conv (fun w S => S.perm p1) ?_
    refine q_conv (fun w S => S.perm p8) ?_
    refine q_conv (fun w S => S.perm p8) ?_
    refine q_conv (fun w S => S.perm p8) ?_
    refine q_conv (fun w S => S.perm p8) ?_
    refine q_conv (fun w S => S.perm p8) ?_
    refine q_conv (fun w S => S.perm p8) ?_
    refine q_conv (fun w S => S.perm p8) ?_
    refine h_next ?_
    refine h_one 3 rfl (by kernel_rfl) ?_
    refine l_f7 ?_
    refine o_call rfl cal63 rfl (rtext_ ok48) ?_
    rintro _ _ ⟨out50, ys50, ay50, cy50, a50, c50, hout50, ok50, rfl, rfl⟩
    have dr50 : ys50 = ys48.drop (textR ys48).2.2 := EyeOk.next ok48 ok50
    refine l_nil ?_
    refine q_conv (fun w S => S.perm p9) ?_
    refine q_conv (fun w S => S.perm p2) ?_
    refine q_conv (fun w S => S.perm p2) ?_
    refine q_conv (fun w S => S.perm p9) ?_
    refine q_conv (fun w S => S.perm p9) ?_
    refine q_conv (fun w S => S.perm p9) ?_
    refine q_conv (fun w S => S.perm p9) ?_
    refine q_conv (fun w S => S.perm p9) ?_
    refine q_conv (fun w S => S.perm p9) ?_
    refine q_conv (fun w S => S.perm p9) ?_
    refine h_next ?_
    refine h_more [row e8.T e8.sz a50 (out50).length c50 (flat e8 out50)] rfl ?_
    refine h_take 4 rfl rfl (by kernel_rfl) (by kernel_rfl) (by kernel_rfl) (fun L0 => v_bytesStr (e := e8) rfl rfl rfl Try.underlying45 Try.underlying5 Try.underlying9 (rds_own e8_ok 7 rfl)) ?_
    refine h_one 6 rfl (by kernel_rfl) ?_
    refine l_f8 ?_
    refine o_call rfl cal63 rfl (rtext_ ok50) ?_
    rintro _ _ ⟨out53, ys53, ay53, cy53, a53, c53, hout53, ok53, rfl, rfl⟩
    have dr53 : ys53 = ys50.drop (textR ys50).2.2 := EyeOk.next ok50 ok53
    refine l_nil ?_
    refine q_conv (fun w S => S.perm p10) ?_
    refine q_conv (fun w S => S.perm p2) ?_
    refine q_conv (fun w S => S.perm p2) ?_
    refine q_conv (fun w S => S.perm p10) ?_
    refine q_conv (fun w S => S.perm p10) ?_
    refine q_conv (fun w S => S.perm p10) ?_
    refine q_conv (fun w S => S.perm p10) ?_
    refine q_conv (fun w S => S.perm p10) ?_
    refine q_conv (fun w S => S.perm p10) ?_
    refine q_conv (fun w S => S.perm p10) ?_
    refine q_conv (fun w S => S.perm p10) ?_
    refine h_next ?_
    refine h_take 7 rfl rfl (by kernel_rfl) (by kernel_rfl) (by kernel_rfl) (fun L0 => v_build rfl sp53 ti53 rfl ((fill_cons (cells' := [.int .i64 (smR ye), .string ByteArray.empty, .slice none 0 0, .int .i64 0]) rfl rfl rfl rfl (fill_cons (cells' := [.int .i64 (smR ye), .string (bts out50), .slice none 0 0, .int .i64 0]) rfl rfl rfl rfl (fill_cons (cells' := [.int .i64 (smR ye), .string (bts out50), .slice a53 (out53).length c53, .int .i64 0]) rfl rfl rfl rfl fill_nil))))) ?_
    refine h_one 9 rfl (by kernel_rfl) ?_
    refine l_f10 ?_
    refine o_storen rfl rfl ti53 rfl rfl rfl rfl ?_
    refine l_nil ?_
    refine q_conv (fun w S => S.perm p10) ?_
    refine q_conv (fun w S => S.perm p10) ?_
    refine q_conv (fun w S => S.perm p2) ?_
    refine q_conv (fun w S => S.perm p10) ?_
    refine q_conv (fun w S => S.perm p10) ?_
    refine q_conv (fun w S => S.perm p10) ?_
    refine q_conv (fun w S => S.perm p10) ?_
    refine q_conv (fun w S => S.perm p10) ?_
    refine q_conv (fun w S => S.perm p10) ?_
    refine q_conv (fun w S => S.perm p10) ?_
    refine q_conv (fun w S => S.perm p10) ?_
    refine h_next ?_
    refine h_done (by kernel_rfl) ?_
    refine q_conv (fun w S => S.perm p6) ?_
    refine q_conv (fun w S => S.perm p6) ?_
    refine q_conv (fun w S => S.perm p6) ?_
    refine q_conv (fun w S => S.perm p6) ?_
    refine q_conv (fun w S => S.perm p6) ?_
    refine q_conv (fun w S => S.perm p6) ?_
    refine q_conv (fun w S => S.perm p7) ?_
    refine q_conv (fun w S => S.perm p7) ?_
    refine q_conv (fun w S => S.perm p10) ?_
    refine q_conv (fun w S => S.perm p10) ?_
    refine q_conv (fun w S => S.perm p10) ?_
    exact q_mid (b3, a53, c53, a50, c50, ys48, ys50, ys53, out50, out53, ay53, cy53, _) (by exact ⟨ok53, dr48, dr50, dr53, hout50, hout53⟩) ⟨(by first | rfl | exact vint (by omega)), (by first | rfl | exact vint (by omega)), (by first | rfl | exact vint (by omega)), (by first | rfl | exact vint (by omega)), (by first | rfl | exact vint (by omega)), (by first | rfl | exact vint (by omega)), (by first | rfl | exact vint (by omega)), (by first | rfl | exact vint (by omega)), (by first | rfl | exact vint (by omega)), (by first | rfl | exact vint (by omega)), (by first | rfl | exact vint (by omega)), (by first | rfl | exact vint (by omega)), (by first | rfl | exact vint (by omega)), (by first | rfl | exact vint (by omega)), trivial⟩ (fun w S => S)
  · -- behind the cut
   rintro ⟨b3, a53, c53, a50, c50, ys48, ys50, ys53, out50, out53, ay53, cy53, i53⟩ ⟨ok53, dr48, dr50, dr53, hout50, hout53⟩
   try dsimp only at *
   refine c_seq ?_
   refine c_region ?_
   refine o_loadn (vs := [_]) rfl rfl Try.underlying75 rfl ti75 (rdn_lit 7 rfl rfl) ?_
   refine l_f3 ?_
   refine l_f3 ?_
   refine o_call rfl cal61 rfl (rnum_ ok53) ?_
   rintro _ _ ⟨ys56, ay56, cy56, ok56, rfl, rfl⟩
   have dr56 : ys56 = ys53.drop (numR 0 0 ys53).2.2 := EyeOk.next ok53 ok56
   refine o_call rfl cal64 rfl (back_ (n := ((numR 0 0 ys53).1)) (num_0 _)) ?_
   rintro _ _ ⟨rfl, rfl⟩
   refine o_fieldAddr (q := ⟨b3, 3, none⟩) rfl rfl Try.underlying53 rfl ti2 rfl ?_
   refine l_f2 ?_
   refine o_store1 rfl rfl rfl ti2 rfl rfl ?_
   refine l_nil ?_
   refine q_then ?_
   refine c_region ?_
   refine o_fieldAddr (q := ⟨b2, 4, none⟩) rfl rfl Try.underlying33 rfl ti30 rfl ?_
   refine o_fieldAddr (q := ⟨b2, 7, none⟩) rfl rfl Try.underlying30 rfl ti28 rfl ?_
   refine o_load1 rfl rfl Try.underlying28 rfl (rd_mem 8 rfl rfl) ?_
   refine o_loadn (vs := [_, _, _, _]) rfl rfl Try.underlying53 rfl ti53 (rdn_lit 0 rfl rfl) ?_
   refine o_lit e_Op_ok rfl Try.underlying28 rfl rfl rfl (lit_ok rfl) [(⟨smR ye, bts out50, ⟨a53, out53, c53⟩, unzig ((numR 0 0 ys53).1 : Int)⟩ : Op)] rfl rfl fun a63 => ?_
   refine l_f7 ?_
   refine o_append e_Op_ok rfl rfl rfl Try.underlying28 (rds_own e_Op_ok 1 rfl) (by show (_ + _) * _ ≤ _; simp only [List.length_cons, List.length_nil]; omega) (by simp only [List.length_cons, List.length_nil]; omega) fun a64 c64 => ?_
   refine l_f1 ?_
   refine l_drop ?_
   refine o_fieldAddr (q := ⟨b2, 4, none⟩) rfl rfl Try.underlying33 rfl ti30 rfl ?_
   refine o_fieldAddr (q := ⟨b2, 7, none⟩) rfl rfl Try.underlying30 rfl ti28 rfl ?_
   refine l_f8 ?_
   refine o_store1 rfl rfl rfl ti28 rfl rfl ?_
   refine l_nil ?_
   refine q_block ?_
   refine q_then ?_
   refine c_region ?_
   refine o_bin rfl rfl rfl (b_add (wrap_i64 (by omega) (by omega))) ?_
   refine o_move rfl rfl ?_
   refine l_nil ?_
   refine q_conv (fun w S => S.perm p10) ?_
   refine q_conv (fun w S => S.perm p10) ?_
   refine q_conv (fun w S => S.perm p10) ?_
   refine q_conv (fun w S => S.perm p9) ?_
   refine q_conv (fun w S => S.perm p8) ?_
   refine q_conv (fun w S => S.perm p8) ?_
   refine q_conv (fun w S => S.perm p8) ?_
   refine q_conv (fun w S => S.perm p8) ?_
   refine q_conv (fun w S => S.perm p8) ?_
   refine q_conv (fun w S => S.perm p10) ?_
   refine q_conv (fun w S => S.perm p10) ?_
   refine q_conv (L' := stars (((os ++ [(⟨smR ye, bts out50, ⟨a53, out53, c53⟩, unzig ((numR 0 0 ys53).1 : Int)⟩ : Op)]).map Op.f_Value).map (vrow e8)) :: _) (fun w S => vals_snoc (y := (⟨smR ye, bts out50, ⟨a53, out53, c53⟩, unzig ((numR 0 0 ys53).1 : Int)⟩ : Op)) S) ?_
   refine q_conv (fun w S => (S.perm p3).tail) ?_
   refine q_conv (fun w S => (S.perm p5).tail) ?_
   refine q_conv (fun w S => S.perm p7) ?_
   refine q_conv (fun w S => S.perm p7) ?_
   refine q_conv (fun w S => S.perm p3) ?_
   refine q_conv (fun w S => S.perm p7) ?_
   refine q_conv (fun w S => S.perm p5) ?_
   refine q_conv (fun w S => S.perm p5) ?_
   refine q_conv (fun w S => S.perm p7) ?_
   refine q_conv (fun w S => S.perm p7) ?_
   exact q_round (i + 1, os ++ [(⟨smR ye, bts out50, ⟨a53, out53, c53⟩, unzig ((numR 0 0 ys53).1 : Int)⟩ : Op)], a64, c64, ys56, ay56, cy56, _) (by exact ⟨by omega, ok56, by have h9 := hO.on (a := a53) (c := c53) (by omega) dr48 dr50 dr53 dr56 (by have h7 := textR_len ys50; have h8 : ys50.length ≤ ye.length := (by rw [dr50, dr48, List.length_drop, List.length_drop]; omega); have h6 : ye.length ≤ bs.length := (by rw [oke.is, List.length_drop]; omega); have := oke.small; omega); rw [← hout50, ← hout53] at h9; exact h9⟩) (by (try dsimp only); omega) ⟨(by first | rfl | exact vint (by omega)), (by first | rfl | exact vint (by omega)), (by first | rfl | exact vint (by omega)), (by first | rfl | exact vint (by omega)), trivial⟩ (fun w S => S)
 · -- h1F
  have h1b := h1
  try simp only [decide_eq_false_iff_not, Int.not_lt, Int.not_le] at h1
  refine c_exit ?_
  refine q_pass_exit ?_
  refine q_pass_exit ?_
  refine q_hit ?_
  refine q_then ?_
  refine c_seq ?_
  refine c_seq ?_
  have hol := hO.len
  have hn17 : n ≤ 17 := by omega
  have hks : ∀ o, GoodO o ys → SameT (⟨smR ys14, ⟨a31, out31, c31⟩, ⟨a33, out33, c33⟩, ⟨a7, os, c7⟩, smR ys27⟩ : Txn) o.txn := fun o g => by obtain ⟨⟨_, _, _, _, e5, e6⟩, e1⟩ := rd_head g dr8 dr10 dr12 dr14 dr27 dr29; obtain ⟨r1, e2⟩ := htx31 _ _ (rd_reads g.ok e1); obtain ⟨r2, e3⟩ := htx33 _ _ (rd_writes g.ok e2); obtain ⟨o1, o2, _⟩ := hO.is o g; exact ⟨e5, e6, r1, r2, (show os.length = o.f_Txn_Ops.xs.length by omega), fun j x y _ hx hy => o2 j x y hx hy⟩
  have hkl := keysT_len (⟨smR ys14, ⟨a31, out31, c31⟩, ⟨a33, out33, c33⟩, ⟨a7, os, c7⟩, smR ys27⟩ : Txn)
  refine c_nilrow e_Mark ?_
  have hkl2 : (keysT (⟨smR ys14, ⟨a31, out31, c31⟩, ⟨a33, out33, c33⟩, ⟨a7, os, c7⟩, smR ys27⟩ : Txn)).length ≤ 18 := by have e : (keysT (⟨smR ys14, ⟨a31, out31, c31⟩, ⟨a33, out33, c33⟩, ⟨a7, os, c7⟩, smR ys27⟩ : Txn)).length ≤ out31.length + out33.length := hkl; omega
  refine c_region ?_
  refine o_fieldAddr (q := ⟨b2, 4, none⟩) rfl rfl Try.underlying33 rfl ti30 rfl ?_
  refine o_loadn (vs := [_, _, _, _, _]) rfl rfl Try.underlying30 rfl ti30 (rdn_lit 6 rfl rfl) ?_
  refine o_call rfl cal26 rfl (keys_ (t := (⟨smR ys14, ⟨a31, out31, c31⟩, ⟨a33, out33, c33⟩, ⟨a7, os, c7⟩, smR ys27⟩ : Txn)) (TxR.mk (t := (⟨smR ys14, ⟨a31, out31, c31⟩, ⟨a33, out33, c33⟩, ⟨a7, os, c7⟩, smR ys27⟩ : Txn)) (rds_own e_S_ok 8 rfl) (rds_own e_S_ok 7 rfl) (rds_own e_Op_ok 4 rfl) (vals_rv (os := os) 3 rfl) ⟨(by (try dsimp only); omega), (by (try dsimp only); omega), (by (try dsimp only); omega), fun x hx => by have := (hO.wf x hx).2; omega⟩) (by (try dsimp only); omega)) ?_
  rintro _ _ ⟨a70, c70, rfl, rfl⟩
  refine o_len rfl rfl Try.underlying27 ?_
  refine o_move rfl rfl ?_
  refine l_nil ?_
  refine q_then ?_
  refine c_block ?_
  refine c_loop (α := Nat × (List Mark) × (Option Addr) × Nat × (List UInt8) × (Option Addr) × Nat × Nat) (fun z => [(1, .pointer (some ⟨b1, 0, none⟩)), (2, .pointer (some ⟨b2, 0, none⟩)), (70, .slice a70 (keysT (⟨smR ys14, ⟨a31, out31, c31⟩, ⟨a33, out33, c33⟩, ⟨a7, os, c7⟩, smR ys27⟩ : Txn)).length c70), (71, .int .i64 ((keysT (⟨smR ys14, ⟨a31, out31, c31⟩, ⟨a33, out33, c33⟩, ⟨a7, os, c7⟩, smR ys27⟩ : Txn)).length : Int)), (72, .int .i64 (z.1 : Int))]) (fun z => row e_S.T e_S.sz a70 (keysT (⟨smR ys14, ⟨a31, out31, c31⟩, ⟨a33, out33, c33⟩, ⟨a7, os, c7⟩, smR ys27⟩ : Txn)).length c70 (flat e_S (keysT (⟨smR ys14, ⟨a31, out31, c31⟩, ⟨a33, out33, c33⟩, ⟨a7, os, c7⟩, smR ys27⟩ : Txn))) :: row e_Mark.T e_Mark.sz z.2.2.1 (z.2.1).length z.2.2.2.1 (flat e_Mark z.2.1) :: blk k (.cells #[.slice z.2.2.2.2.2.1 (z.2.2.2.2.1).length z.2.2.2.2.2.2.1] 98 (0, 0)) :: row e8.T e8.sz a (bs).length c (flat e8 bs) :: stars ((os.map Op.f_Value).map (vrow e8)) :: row e_Op.T e_Op.sz a7 (os).length c7 (flat e_Op os) :: blk b1 (.cells #[.pointer (some ⟨k, 0, none⟩)] 75 (0, 0)) :: blk b2 (.cells #[.int .i64 (smR ys), .int .u64 ((numR 0 0 ys8).1 : Int), .int .u64 ((numR 0 0 ys10).1 : Int), .int .i64 (smR ys12), .int .i64 (smR ys14), .slice a31 (out31).length c31, .slice a33 (out33).length c33, .slice a7 (os).length c7, .int .i64 (smR ys27), .slice z.2.2.1 (z.2.1).length z.2.2.2.1] 33 (0, 0)) :: row e_S.T e_S.sz a33 (out33).length c33 (flat e_S out33) :: row e_S.T e_S.sz a31 (out31).length c31 (flat e_S out31) :: F) (fun z => z.1 ≤ (keysT (⟨smR ys14, ⟨a31, out31, c31⟩, ⟨a33, out33, c33⟩, ⟨a7, os, c7⟩, smR ys27⟩ : Txn)).length ∧ EyeOk W a bs z.2.2.2.2.2.2.2 z.2.2.2.2.1 z.2.2.2.2.2.1 z.2.2.2.2.2.2.1 ∧ MkInv ys (keysT (⟨smR ys14, ⟨a31, out31, c31⟩, ⟨a33, out33, c33⟩, ⟨a7, os, c7⟩, smR ys27⟩ : Txn)) z.1 z.2.1 z.2.2.2.2.1) (fun z => (keysT (⟨smR ys14, ⟨a31, out31, c31⟩, ⟨a33, out33, c33⟩, ⟨a7, os, c7⟩, smR ys27⟩ : Txn)).length - z.1) (0, [], none, 0, ye, ae, ce, _) (by exact ⟨Nat.zero_le _, oke, MkInv.start fun o g => by obtain ⟨o1, _, o3⟩ := hO.is o g; exact o3.trans (congrArg (opT o) (by omega))⟩) ⟨(by first | rfl | exact vint (by omega)), (by first | rfl | exact vint (by omega)), (by first | rfl | exact vint (by omega)), (by first | rfl | exact vint (by omega)), (by first | rfl | exact vint (by omega)), trivial⟩ (fun w S => S) ?_
  rintro ⟨j, ms, a8, c8, ye, ae, ce, ei⟩ ⟨hj, oke, hM⟩
  try dsimp only at *
  have hmL := hM.len
  refine c_seq ?_
  refine c_region ?_
  refine o_bin rfl rfl rfl b_lss ?_
  refine l_nil ?_
  refine q_then ?_
  refine c_seq ?_
  refine c_cond rfl (fun h2 => ?_) (fun h2 => ?_)
  · -- h2T
   have h2b := h2
   try simp only [decide_eq_true_eq] at h2
   refine c_skip ?_
   refine q_then ?_
   refine c_seq ?_
   refine c_block ?_
   refine c_seq ?_
   refine c_region ?_
   refine o_index e_S_ok rfl rfl rfl Try.underlying27 (by omega) (by omega) (rds_own e_S_ok 0 rfl) fun ad74 ead74 => ?_
   obtain ⟨x74, hx74⟩ : ∃ x, (keysT (⟨smR ys14, ⟨a31, out31, c31⟩, ⟨a33, out33, c33⟩, ⟨a7, os, c7⟩, smR ys27⟩ : Txn))[((j : Int)).toNat]? = some x := ⟨_, List.getElem?_eq_getElem (by omega)⟩
   refine o_load1 rfl rfl Try.underlying9 rfl (rd_sl0 e_S_ok ead74 (rds_own e_S_ok 0 rfl) hx74 rfl) ?_
   refine o_assign rfl rfl ?_
   refine l_nil ?_
   refine q_then ?_
   refine c_seq ?_
   refine c_region ?_
   refine o_move rfl rfl ?_
   refine o_loadn (vs := [_]) rfl rfl Try.underlying75 rfl ti75 (rdn_lit 6 rfl rfl) ?_
   refine l_f3 ?_
   refine l_f3 ?_
   refine o_call rfl cal60 rfl (rsmall_ oke) ?_
   rintro _ _ ⟨ys78, ay78, cy78, ok78, rfl, rfl⟩
   have dr78 : ys78 = ye.drop (numR 0 0 ye).2.2 := EyeOk.next oke ok78
   refine o_build rfl sp51 ti51 rfl ((fill_cons (cells' := [.string x74, .int .i64 0, .int .u64 0]) rfl rfl rfl rfl (fill_cons (cells' := [.string x74, .int .i64 (smR ye), .int .u64 0]) rfl rfl rfl rfl fill_nil))) ?_
   refine o_alloc rfl ti51 fun b6 => ?_
   refine o_storen rfl rfl ti51 rfl rfl rfl rfl ?_
   refine l_nil ?_
   refine q_then ?_
   refine c_seq ?_
   refine c_region ?_
   refine o_loadn (vs := [_]) rfl rfl Try.underlying75 rfl ti75 (rdn_lit 7 rfl rfl) ?_
   refine l_f2 ?_
   refine l_f2 ?_
   refine o_call rfl cal61 rfl (rnum_ ok78) ?_
   rintro _ _ ⟨ys81, ay81, cy81, ok81, rfl, rfl⟩
   have dr81 : ys81 = ys78.drop (numR 0 0 ys78).2.2 := EyeOk.next ok78 ok81
   refine o_fieldAddr (q := ⟨b6, 2, none⟩) rfl rfl Try.underlying51 rfl ti22 rfl ?_
   refine l_f2 ?_
   refine o_store1 rfl rfl rfl ti22 rfl rfl ?_
   refine l_nil ?_
   refine q_then ?_
   refine c_region ?_
   refine o_fieldAddr (q := ⟨b2, 9, none⟩) rfl rfl Try.underlying33 rfl ti31 rfl ?_
   refine o_load1 rfl rfl Try.underlying31 rfl (rd_mem 8 rfl rfl) ?_
   refine o_loadn (vs := [_, _, _]) rfl rfl Try.underlying51 rfl ti51 (rdn_lit 0 rfl rfl) ?_
   refine o_lit e_Mark_ok rfl Try.underlying31 rfl rfl rfl (lit_ok rfl) [(⟨x74, smR ye, ((numR 0 0 ys78).1 : Int)⟩ : Mark)] rfl rfl fun a86 => ?_
   refine l_f5 ?_
   refine o_append e_Mark_ok rfl rfl rfl Try.underlying31 (rds_own e_Mark_ok 1 rfl) (by show (_ + _) * _ ≤ _; simp only [List.length_cons, List.length_nil]; omega) (by simp only [List.length_cons, List.length_nil]; omega) fun a87 c87 => ?_
   refine l_f1 ?_
   refine l_drop ?_
   refine o_fieldAddr (q := ⟨b2, 9, none⟩) rfl rfl Try.underlying33 rfl ti31 rfl ?_
   refine l_f8 ?_
   refine o_store1 rfl rfl rfl ti31 rfl rfl ?_
   refine l_nil ?_
   refine q_block ?_
   refine q_then ?_
   refine c_region ?_
   refine o_bin rfl rfl rfl (b_add (wrap_i64 (by omega) (by omega))) ?_
   refine o_move rfl rfl ?_
   refine l_nil ?_
   refine q_conv (fun w S => (S.perm p2).tail) ?_
   refine q_conv (fun w S => S.perm p9) ?_
   refine q_conv (fun w S => S.perm p9) ?_
   refine q_conv (fun w S => S.perm p2) ?_
   refine q_conv (fun w S => S.perm p9) ?_
   refine q_conv (fun w S => S.perm p9) ?_
   refine q_conv (fun w S => S.perm p9) ?_
   refine q_conv (fun w S => S.perm p8) ?_
   refine q_conv (fun w S => S.perm p8) ?_
   refine q_conv (fun w S => S.perm p8) ?_
   refine q_conv (fun w S => S.perm p9) ?_
   exact q_round (j + 1, ms ++ [(⟨x74, smR ye, ((numR 0 0 ys78).1 : Int)⟩ : Mark)], a87, c87, ys81, ay81, cy81, _) (by exact ⟨by omega, ok81, hM.on hx74 (fun o g => keysT_same (hks o g)) dr78 dr81⟩) (by (try dsimp only); omega) ⟨(by first | rfl | exact vint (by omega)), (by first | rfl | exact vint (by omega)), (by first | rfl | exact vint (by omega)), (by first | rfl | exact vint (by omega)), (by first | rfl | exact vint (by omega)), trivial⟩ (fun w S => S)
  · -- h2F
   have h2b := h2
   try simp only [decide_eq_false_iff_not, Int.not_lt, Int.not_le] at h2
   refine c_exit ?_
   refine q_pass_exit ?_
   refine q_pass_exit ?_
   refine q_hit ?_
   refine q_then ?_
   refine c_seq ?_
   have hml := hM.len
   have hms : ms.length ≤ 18 := by omega
   have hSame : ∀ o, GoodO o ys → SameO (⟨smR ys, ((numR 0 0 ys8).1 : Int), ((numR 0 0 ys10).1 : Int), smR ys12, smR ys14, ⟨a31, out31, c31⟩, ⟨a33, out33, c33⟩, ⟨a7, os, c7⟩, smR ys27, ⟨a8, ms, c8⟩⟩ : Order) o := fun o g => by obtain ⟨⟨e1, e2, e3, e4, _, _⟩, _⟩ := rd_head g dr8 dr10 dr12 dr14 dr27 dr29; obtain ⟨m1, _⟩ := hM.is o g; have k1 := keysT_same (hks o g); have k2 := g.ok.2.2.1; rw [← k1] at k2; exact ⟨by show (⟨_, _, _, _⟩ : Tag) = ⟨_, _, _, _⟩; rw [e1, e2, e3, e4], hks o g, by show ms = _; rw [m1, List.take_of_length_le (by omega)]⟩
   refine c_region ?_
   refine o_loadn (vs := [_, _, _, _, _, _, _, _, _, _]) rfl rfl Try.underlying33 rfl ti33 (rdn_lit 7 rfl rfl) ?_
   refine l_f7 ?_
   refine o_storen rfl rfl ti33 rfl rfl rfl rfl ?_
   refine l_nil ?_
   refine q_then ?_
   refine c_ret ?_
   refine f_retq (.inl rfl) (rs_1 rfl (rs_celln (vs := [.int .i64 (smR ys), .int .u64 ((numR 0 0 ys8).1 : Int), .int .u64 ((numR 0 0 ys10).1 : Int), .int .i64 (smR ys12), .int .i64 (smR ys14), .slice a31 (out31).length c31, .slice a33 (out33).length c33, .slice a7 (os).length c7, .int .i64 (smR ys27), .slice a8 (ms).length c8]) rfl Try.underlying33 rfl ti33 (rdn_lit 0 rfl rfl))) (fun w S => ?_)
   replace S := S.tail
   replace S := S.tail
   replace S := (S.perm p5).tail
   replace S := S.perm p2
   replace S := S.perm p2
   replace S := S.perm p2
   replace S := S.perm p3
   replace S := S.perm p4
   replace S := S.perm p5
   replace S := S.perm p6
   exact ⟨_, ⟨(⟨smR ys, ((numR 0 0 ys8).1 : Int), ((numR 0 0 ys10).1 : Int), smR ys12, smR ys14, ⟨a31, out31, c31⟩, ⟨a33, out33, c33⟩, ⟨a7, os, c7⟩, smR ys27, ⟨a8, ms, c8⟩⟩ : Order), ye, ae, ce, ei, ⟨by have := num_0 ys8; exact ⟨by dsimp only; omega, by dsimp only; omega⟩, by have := num_0 ys10; exact ⟨by dsimp only; omega, by dsimp only; omega⟩, hM.wf, fun x hx => (hO.wf x hx).1⟩, ⟨by (try dsimp only); omega, ⟨by (try dsimp only); omega, by (try dsimp only); omega, by (try dsimp only); omega, fun x hx => by have := (hO.wf x hx).2; omega⟩⟩, ⟨hln31, hln33, by (try dsimp only); omega, by (try dsimp only); omega⟩, hSame, oke, rfl, rfl⟩, (fun w S => Sat.unflat (Ls := [txM (⟨smR ys, ((numR 0 0 ys8).1 : Int), ((numR 0 0 ys10).1 : Int), smR ys12, smR ys14, ⟨a31, out31, c31⟩, ⟨a33, out33, c33⟩, ⟨a7, os, c7⟩, smR ys27, ⟨a8, ms, c8⟩⟩ : Order).txn, vrow e_Mark (⟨smR ys, ((numR 0 0 ys8).1 : Int), ((numR 0 0 ys10).1 : Int), smR ys12, smR ys14, ⟨a31, out31, c31⟩, ⟨a33, out33, c33⟩, ⟨a7, os, c7⟩, smR ys27, ⟨a8, ms, c8⟩⟩ : Order).f_Marks]) (Sat.unflat (Ls := txL (⟨smR ys, ((numR 0 0 ys8).1 : Int), ((numR 0 0 ys10).1 : Int), smR ys12, smR ys14, ⟨a31, out31, c31⟩, ⟨a33, out33, c33⟩, ⟨a7, os, c7⟩, smR ys27, ⟨a8, ms, c8⟩⟩ : Order).txn) S)) w S⟩

end Go.Proofs.Ytlblipkcbmcfkaa
