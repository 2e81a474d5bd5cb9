/- Printed by eng2.py out of 12/spec2.py. -/
import Derived.Test.YtakjmdeckngnlaaPut
import Derived.Test.YtakjmdeckngnlaaWalk
set_option linter.unusedVariables false
set_option linter.unusedSimpArgs false
set_option maxRecDepth 10000
namespace Go.Proofs.Ytakjmdeckngnlaa
open Go.RowKit Classical
theorem new_A {W : World} {F : List Res}  : CS Try.prog 45 #[] W (F) (fun r L' => ∃ t : Nat, r = .pointer (some ⟨t, 0, none⟩) ∧ L' = treeR e_ItA eN126 130 132 ItA.f_key ilt t ([] : List ItA) :: F) := by
 refine f_door (l0 := []) Try.func45 Try.ntmps45 rfl rfl rfl ?_
 refine c_seq ?_
 refine c_region ?_
 refine o_assign rfl rfl ?_
 refine l_nil ?_
 refine q_then ?_
 refine c_seq ?_
 refine c_region ?_
 refine o_build rfl sp130 ti130 rfl rfl ?_
 refine o_box rfl rfl fun b2 => ?_
 refine o_build rfl sp132 ti132 rfl ((fill_cons (cells' := [.pointer (some ⟨b2, 0, none⟩), .int .i64 0]) rfl rfl rfl rfl fill_nil)) ?_
 refine o_box rfl rfl fun b4 => ?_
 refine o_assign rfl rfl ?_
 refine l_nil ?_
 refine q_then ?_
 refine c_ret ?_
 exact f_ret (r_one rfl rfl) (⟨b4, rfl, rfl⟩) (fun w S => tree_new S)

set_option maxHeartbeats 1000000 in
theorem tput_A {W : World} {F : List Res} {t : Nat} {xs : List ItA} {k : Int} {v : (Vt ByteArray)} (hb : (xs.length : Int) < 9223372036854775807) : CS Try.prog 47 #[.pointer (some ⟨t, 0, none⟩), .int .i64 k, .agg #[.int .i64 v.Slot, .int .u64 v.Ballot, .string v.Value]] W (treeR e_ItA eN126 130 132 ItA.f_key ilt t xs :: F) (fun r L' => ∃ (old : (Vt ByteArray)) (had : Bool), (Old ItA.f_key ItA.f_value (⟨0, 0, ByteArray.empty⟩ : (Vt ByteArray)) (⟨k, v⟩ : ItA) xs old had ∧ Srt ItA.f_key ilt xs) ∧ r = .tuple #[.agg #[.int .i64 old.Slot, .int .u64 old.Ballot, .string old.Value], .bool had] ∧ L' = treeR e_ItA eN126 130 132 ItA.f_key ilt t (ins ItA.f_key ilt (⟨k, v⟩ : ItA) xs) :: F) := by
 refine f_door (l0 := [(0, .pointer (some ⟨t, 0, none⟩)), (1, .int .i64 k), (2, .agg #[.int .i64 v.Slot, .int .u64 v.Ballot, .string v.Value])]) Try.func47 Try.ntmps47 rfl rfl rfl ?_
 refine c_seq ?_
 refine c_tree ?_
 rintro d rb srt
 refine c_conv (L' := blk t (.cells #[.pointer (some ⟨rb, 0, none⟩), .int .i64 ((xs).length : Int)] 132 (0, 0)) :: nodeR e_ItA eN126 130 d 0 rb xs :: F) (fun w S => S) ?_
 refine c_region ?_
 refine o_box rfl rfl fun b5 => ?_
 refine o_alloc rfl ti40 fun b6 => ?_
 refine o_assign rfl rfl ?_
 refine l_nil ?_
 refine q_then ?_
 refine c_seq ?_
 refine c_mid (α := Nat × ((Vt ByteArray)) × Bool × (List ItA) × (Option (Nat × ItA × Nat × List ItA))) (fun z => [(0, .pointer (some ⟨t, 0, none⟩)), (1, .int .i64 k), (2, .agg #[.int .i64 v.Slot, .int .u64 v.Ballot, .string v.Value]), (5, .pointer (some ⟨b5, 0, none⟩)), (6, .pointer (some ⟨b6, 0, none⟩)), (7, .bool false), (8, .pointer (some ⟨z.1, 0, none⟩)), (9, .bool z.2.2.1), (10, .pointer (z.2.2.2.2.map fun z => (⟨z.1, 0, none⟩ : Addr))), (11, .pointer (z.2.2.2.2.map fun z => (⟨z.2.2.1, 0, none⟩ : Addr))), (12, .tuple #[.agg #[.int .i64 z.2.1.Slot, .int .u64 z.2.1.Ballot, .string z.2.1.Value], .bool z.2.2.1, .pointer (z.2.2.2.2.map fun z => (⟨z.1, 0, none⟩ : Addr)), .pointer (z.2.2.2.2.map fun z => (⟨z.2.2.1, 0, none⟩ : Addr))]), (13, .pointer (some ⟨t, 0, none⟩)), (14, .pointer (some ⟨t, 0, none⟩)), (15, .pointer (some ⟨t, 0, none⟩)), (16, .pointer (some ⟨rb, 0, none⟩)), (17, .int .i64 k), (18, .agg #[.int .i64 v.Slot, .int .u64 v.Ballot, .string v.Value]), (19, .agg #[.int .i64 k, .int .i64 v.Slot, .int .u64 v.Ballot, .string v.Value]), (20, .tuple #[.agg #[.int .i64 z.2.1.Slot, .int .u64 z.2.1.Ballot, .string z.2.1.Value], .bool z.2.2.1, .pointer (z.2.2.2.2.map fun z => (⟨z.1, 0, none⟩ : Addr)), .pointer (z.2.2.2.2.map fun z => (⟨z.2.2.1, 0, none⟩ : Addr))]), (21, .agg #[.int .i64 z.2.1.Slot, .int .u64 z.2.1.Ballot, .string z.2.1.Value]), (22, .bool z.2.2.1), (23, .pointer (z.2.2.2.2.map fun z => (⟨z.1, 0, none⟩ : Addr))), (24, .pointer (z.2.2.2.2.map fun z => (⟨z.2.2.1, 0, none⟩ : Addr)))]) (fun z => blk z.1 (.cells #[.int .i64 z.2.1.Slot, .int .u64 z.2.1.Ballot, .string z.2.1.Value] 40 (0, 0)) :: nodeR e_ItA eN126 130 d (mnO 0 z.2.2.2.2) rb z.2.2.2.1 :: midR e_ItA eN126 130 d z.2.2.2.2 :: blk b6 (.cells #[.int .i64 0, .int .u64 0, .string ByteArray.empty] 40 (0, 0)) :: blk b5 (.cells #[.int .i64 v.Slot, .int .u64 v.Ballot, .string v.Value] 40 (0, 0)) :: blk t (.cells #[.pointer (some ⟨rb, 0, none⟩), .int .i64 ((xs).length : Int)] 132 (0, 0)) :: F) (fun z => ins ItA.f_key ilt (⟨k, v⟩ : ItA) xs = insS z.2.2.2.1 z.2.2.2.2 ∧ Old ItA.f_key ItA.f_value (⟨0, 0, ByteArray.empty⟩ : (Vt ByteArray)) (⟨k, v⟩ : ItA) xs z.2.1 z.2.2.1) ?_ ?_
 · -- cut
  refine c_held [blk b6 (.cells #[.int .i64 0, .int .u64 0, .string ByteArray.empty] 40 (0, 0)), blk b5 (.cells #[.int .i64 v.Slot, .int .u64 v.Ballot, .string v.Value] 40 (0, 0)), blk t (.cells #[.pointer (some ⟨rb, 0, none⟩), .int .i64 ((xs).length : Int)] 132 (0, 0))] (by kernel_rfl) rfl ?_
  refine h_take 0 rfl rfl (by kernel_rfl) (by kernel_rfl) (by kernel_rfl) (fun L0 => v_move rfl rfl) ?_
  refine h_take 1 rfl rfl (by kernel_rfl) (by kernel_rfl) (by kernel_rfl) (fun L0 => v_nil rfl rfl) ?_
  refine h_take 2 rfl rfl (by kernel_rfl) (by kernel_rfl) (by kernel_rfl) (fun L0 => v_fieldAddr (q := ⟨t, 0, none⟩) rfl rfl Try.underlying132 rfl ti126 rfl) ?_
  refine h_take 3 rfl rfl (by kernel_rfl) (by kernel_rfl) (by kernel_rfl) (fun L0 => v_load1 rfl rfl Try.underlying126 rfl (rd_mem 2 rfl rfl)) ?_
  refine h_take 4 rfl rfl (by kernel_rfl) (by kernel_rfl) (by kernel_rfl) (fun L0 => v_move rfl rfl) ?_
  refine h_take 5 rfl rfl (by kernel_rfl) (by kernel_rfl) (by kernel_rfl) (fun L0 => v_loadn (vs := [_, _, _]) rfl rfl Try.underlying40 rfl ti40 (rdn_lit 1 rfl rfl)) ?_
  refine h_take 6 rfl rfl (by kernel_rfl) (by kernel_rfl) (by kernel_rfl) (fun L0 => v_build rfl sp139 ti139 rfl ((fill_cons (cells' := [.int .i64 k, .int .i64 0, .int .u64 0, .string ByteArray.empty]) rfl rfl rfl rfl (fill_cons (cells' := [.int .i64 k, .int .i64 v.Slot, .int .u64 v.Ballot, .string v.Value]) rfl rfl rfl rfl fill_nil)))) ?_
  refine h_many (is := [7, 13]) (by kernel_rfl) (by decide) (forall_cons ⟨_, rfl, ?_⟩ (forall_cons ⟨_, rfl, ?_⟩ forall_nil))
  · -- 7 comes first
   refine l_f3 ?_
   refine o_call rfl cal53 rfl (put_A d (mn := 0) (x := (⟨k, v⟩ : ItA)) (by omega) srt) ?_
   rintro _ _ ⟨old20, had20, ls20, s20, ⟨his20, hol20⟩, rfl, rfl⟩
   refine l_nil ?_
   refine q_conv (fun w S => S.perm p1) ?_
   refine q_conv (fun w S => S.perm p1) ?_
   refine q_conv (fun w S => S.perm p4) ?_
   refine q_conv (fun w S => S.perm p4) ?_
   refine q_conv (fun w S => S.perm p4) ?_
   refine h_next ?_
   refine h_take 8 rfl rfl (by kernel_rfl) (by kernel_rfl) (by kernel_rfl) (fun L0 => v_move rfl rfl) ?_
   refine h_take 9 rfl rfl (by kernel_rfl) (by kernel_rfl) (by kernel_rfl) (fun L0 => v_extract rfl rfl rfl) ?_
   refine h_take 10 rfl rfl (by kernel_rfl) (by kernel_rfl) (by kernel_rfl) (fun L0 => v_extract rfl rfl rfl) ?_
   refine h_take 11 rfl rfl (by kernel_rfl) (by kernel_rfl) (by kernel_rfl) (fun L0 => v_extract rfl rfl rfl) ?_
   refine h_take 12 rfl rfl (by kernel_rfl) (by kernel_rfl) (by kernel_rfl) (fun L0 => v_extract rfl rfl rfl) ?_
   refine h_one 13 rfl (by kernel_rfl) ?_
   refine o_alloc rfl ti40 fun b8 => ?_
   refine l_nil ?_
   refine q_conv (fun w S => S.perm p5) ?_
   refine q_conv (fun w S => S.perm p5) ?_
   refine q_conv (fun w S => S.perm p2) ?_
   refine q_conv (fun w S => S.perm p5) ?_
   refine q_conv (fun w S => S.perm p5) ?_
   refine q_conv (fun w S => S.perm p5) ?_
   refine h_next ?_
   refine h_one 14 rfl (by kernel_rfl) ?_
   refine l_f3 ?_
   refine o_storen rfl rfl ti40 rfl rfl rfl rfl ?_
   refine l_nil ?_
   refine q_conv (fun w S => S.perm p5) ?_
   refine q_conv (fun w S => S.perm p5) ?_
   refine q_conv (fun w S => S.perm p2) ?_
   refine q_conv (fun w S => S.perm p5) ?_
   refine q_conv (fun w S => S.perm p5) ?_
   refine q_conv (fun w S => S.perm p5) ?_
   refine h_next ?_
   refine h_take 15 rfl rfl (by kernel_rfl) (by kernel_rfl) (by kernel_rfl) (fun L0 => v_assign rfl rfl) ?_
   refine h_take 16 rfl rfl (by kernel_rfl) (by kernel_rfl) (by kernel_rfl) (fun L0 => v_assign rfl rfl) ?_
   refine h_take 17 rfl rfl (by kernel_rfl) (by kernel_rfl) (by kernel_rfl) (fun L0 => v_assign rfl rfl) ?_
   refine h_done (by kernel_rfl) ?_
   refine q_conv (fun w S => S.perm p2) ?_
   refine q_conv (fun w S => S.perm p2) ?_
   refine q_conv (fun w S => S.perm p2) ?_
   refine q_conv (fun w S => S.perm p5) ?_
   refine q_conv (fun w S => S.perm p5) ?_
   refine q_conv (fun w S => S.perm p5) ?_
   exact q_mid (b8, old20, had20, ls20, s20) (by exact ⟨his20, hol20⟩) ⟨(by first | rfl | exact vint (by omega)), (by first | rfl | exact vint (by omega)), (by first | rfl | exact vint (by omega)), (by first | rfl | exact vint (by omega)), (by first | rfl | exact vint (by omega)), (by first | rfl | exact vint (by omega)), (by first | rfl | exact vint (by omega)), (by first | rfl | exact vint (by omega)), (by first | rfl | exact vint (by omega)), (by first | rfl | exact vint (by omega)), (by first | rfl | exact vint (by omega)), (by first | rfl | exact vint (by omega)), (by first | rfl | exact vint (by omega)), (by first | rfl | exact vint (by omega)), (by first | rfl | exact vint (by omega)), (by first | rfl | exact vint (by omega)), (by first | rfl | exact vint (by omega)), (by first | rfl | exact vint (by omega)), (by first | rfl | exact vint (by omega)), (by first | rfl | exact vint (by omega)), (by first | rfl | exact vint (by omega)), (by first | rfl | exact vint (by omega)), (by first | rfl | exact vint (by omega)), trivial⟩ (fun w S => S)
  · -- 13 comes first
   refine o_alloc rfl ti40 fun b8 => ?_
   refine l_nil ?_
   refine q_conv (fun w S => S.perm p4) ?_
   refine q_conv (fun w S => S.perm p1) ?_
   refine q_conv (fun w S => S.perm p4) ?_
   refine q_conv (fun w S => S.perm p4) ?_
   refine q_conv (fun w S => S.perm p4) ?_
   refine h_next ?_
   refine h_one 7 rfl (by kernel_rfl) ?_
   refine l_f4 ?_
   refine o_call rfl cal53 rfl (put_A d (mn := 0) (x := (⟨k, v⟩ : ItA)) (by omega) srt) ?_
   rintro _ _ ⟨old20, had20, ls20, s20, ⟨his20, hol20⟩, rfl, rfl⟩
   refine l_nil ?_
   refine q_conv (fun w S => S.perm p5) ?_
   refine q_conv (fun w S => S.perm p2) ?_
   refine q_conv (fun w S => S.perm p2) ?_
   refine q_conv (fun w S => S.perm p5) ?_
   refine q_conv (fun w S => S.perm p5) ?_
   refine q_conv (fun w S => S.perm p5) ?_
   refine h_next ?_
   refine h_take 8 rfl rfl (by kernel_rfl) (by kernel_rfl) (by kernel_rfl) (fun L0 => v_move rfl rfl) ?_
   refine h_take 9 rfl rfl (by kernel_rfl) (by kernel_rfl) (by kernel_rfl) (fun L0 => v_extract rfl rfl rfl) ?_
   refine h_take 10 rfl rfl (by kernel_rfl) (by kernel_rfl) (by kernel_rfl) (fun L0 => v_extract rfl rfl rfl) ?_
   refine h_take 11 rfl rfl (by kernel_rfl) (by kernel_rfl) (by kernel_rfl) (fun L0 => v_extract rfl rfl rfl) ?_
   refine h_take 12 rfl rfl (by kernel_rfl) (by kernel_rfl) (by kernel_rfl) (fun L0 => v_extract rfl rfl rfl) ?_
   refine h_one 14 rfl (by kernel_rfl) ?_
   refine l_f5 ?_
   refine o_storen rfl rfl ti40 rfl rfl rfl rfl ?_
   refine l_nil ?_
   refine q_conv (fun w S => S.perm p5) ?_
   refine q_conv (fun w S => S.perm p5) ?_
   refine q_conv (fun w S => S.perm p2) ?_
   refine q_conv (fun w S => S.perm p5) ?_
   refine q_conv (fun w S => S.perm p5) ?_
   refine q_conv (fun w S => S.perm p5) ?_
   refine h_next ?_
   refine h_take 15 rfl rfl (by kernel_rfl) (by kernel_rfl) (by kernel_rfl) (fun L0 => v_assign rfl rfl) ?_
   refine h_take 16 rfl rfl (by kernel_rfl) (by kernel_rfl) (by kernel_rfl) (fun L0 => v_assign rfl rfl) ?_
   refine h_take 17 rfl rfl (by kernel_rfl) (by kernel_rfl) (by kernel_rfl) (fun L0 => v_assign rfl rfl) ?_
   refine h_done (by kernel_rfl) ?_
   refine q_conv (fun w S => S.perm p2) ?_
   refine q_conv (fun w S => S.perm p2) ?_
   refine q_conv (fun w S => S.perm p2) ?_
   refine q_conv (fun w S => S.perm p5) ?_
   refine q_conv (fun w S => S.perm p5) ?_
   refine q_conv (fun w S => S.perm p5) ?_
   exact q_mid (b8, old20, had20, ls20, s20) (by exact ⟨his20, hol20⟩) ⟨(by first | rfl | exact vint (by omega)), (by first | rfl | exact vint (by omega)), (by first | rfl | exact vint (by omega)), (by first | rfl | exact vint (by omega)), (by first | rfl | exact vint (by omega)), (by first | rfl | exact vint (by omega)), (by first | rfl | exact vint (by omega)), (by first | rfl | exact vint (by omega)), (by first | rfl | exact vint (by omega)), (by first | rfl | exact vint (by omega)), (by first | rfl | exact vint (by omega)), (by first | rfl | exact vint (by omega)), (by first | rfl | exact vint (by omega)), (by first | rfl | exact vint (by omega)), (by first | rfl | exact vint (by omega)), (by first | rfl | exact vint (by omega)), (by first | rfl | exact vint (by omega)), (by first | rfl | exact vint (by omega)), (by first | rfl | exact vint (by omega)), (by first | rfl | exact vint (by omega)), (by first | rfl | exact vint (by omega)), (by first | rfl | exact vint (by omega)), (by first | rfl | exact vint (by omega)), trivial⟩ (fun w S => S)
 · -- behind the cut
  rintro ⟨b8, old20, had20, ls20, s20⟩ ⟨his20, hol20⟩
  try dsimp only at *
  refine c_seq ?_
  refine c_seq ?_
  refine c_region ?_
  refine o_move rfl rfl ?_
  refine o_bin rfl rfl rfl (b_pne Try.underlying135 _) ?_
  refine l_nil ?_
  refine q_then ?_
  refine c_cond rfl (fun h1 => ?_) (fun h1 => ?_)
  · -- h1T
   have h1b := h1
   try simp only [decide_eq_true_eq, decide_eq_false_iff_not, Bool.not_eq_eq_eq_not, Bool.not_true, Bool.not_false, Bool.not_eq_true', Bool.not_eq_false', Int.not_lt, Int.not_le, Bool.or_eq_true, Bool.and_eq_true] at h1
   obtain ⟨⟨bm, m, br, rs⟩, hs20⟩ : ∃ z, s20 = some z := by cases s20 with | none => simp at h1b | some z => exact ⟨z, rfl⟩
   subst hs20
   refine c_mid (α := Nat × (Option Addr) × (Option Addr)) (fun z => [(0, .pointer (some ⟨t, 0, none⟩)), (1, .int .i64 k), (2, .agg #[.int .i64 v.Slot, .int .u64 v.Ballot, .string v.Value]), (5, .pointer (some ⟨b5, 0, none⟩)), (6, .pointer (some ⟨b6, 0, none⟩)), (7, .bool false), (8, .pointer (some ⟨b8, 0, none⟩)), (9, .bool had20), (10, .pointer (some ⟨bm, 0, none⟩)), (11, .pointer (some ⟨br, 0, none⟩)), (13, .pointer (some ⟨t, 0, none⟩)), (14, .pointer (some ⟨t, 0, none⟩)), (15, .pointer (some ⟨t, 0, none⟩)), (16, .pointer (some ⟨rb, 0, none⟩)), (17, .int .i64 k), (18, .agg #[.int .i64 v.Slot, .int .u64 v.Ballot, .string v.Value]), (19, .agg #[.int .i64 k, .int .i64 v.Slot, .int .u64 v.Ballot, .string v.Value]), (21, .agg #[.int .i64 old20.Slot, .int .u64 old20.Ballot, .string old20.Value]), (22, .bool had20), (27, .pointer (some ⟨t, 0, none⟩)), (28, .pointer (some ⟨bm, 0, none⟩)), (29, .pointer (some ⟨bm, 0, none⟩)), (30, .agg #[.int .i64 m.f_key, .int .i64 m.f_value.Slot, .int .u64 m.f_value.Ballot, .string m.f_value.Value]), (31, .slice z.2.1 ([m]).length 1), (32, .pointer (some ⟨t, 0, none⟩)), (33, .pointer (some ⟨t, 0, none⟩)), (34, .pointer (some ⟨t, 0, none⟩)), (35, .pointer (some ⟨rb, 0, none⟩)), (36, .pointer (some ⟨br, 0, none⟩)), (37, .slice z.2.2 ([rb, br]).length 2), (38, .agg #[.slice z.2.1 ([m]).length 1, .slice z.2.2 ([rb, br]).length 2]), (39, .pointer (some ⟨z.1, 0, none⟩)), (40, .pointer (some ⟨t, 0, none⟩)), (41, .pointer (some ⟨t, 0, none⟩))]) (fun z => blk t (.cells #[.pointer (some ⟨z.1, 0, none⟩), .int .i64 ((xs).length : Int)] 132 (0, 0)) :: blk z.1 (.cells #[.slice z.2.1 ([m]).length 1, .slice z.2.2 ([rb, br]).length 2] 130 (0, 0)) :: row eN126.T eN126.sz z.2.2 ([rb, br]).length 2 (flat eN126 [rb, br]) :: row e_ItA.T e_ItA.sz z.2.1 ([m]).length 1 (flat e_ItA [m]) :: blk bm (.cells #[.int .i64 m.f_key, .int .i64 m.f_value.Slot, .int .u64 m.f_value.Ballot, .string m.f_value.Value] 139 (0, 0)) :: nodeR e_ItA eN126 130 d 2 br rs :: blk b8 (.cells #[.int .i64 old20.Slot, .int .u64 old20.Ballot, .string old20.Value] 40 (0, 0)) :: nodeR e_ItA eN126 130 d 2 rb ls20 :: blk b6 (.cells #[.int .i64 0, .int .u64 0, .string ByteArray.empty] 40 (0, 0)) :: blk b5 (.cells #[.int .i64 v.Slot, .int .u64 v.Ballot, .string v.Value] 40 (0, 0)) :: F) (fun z => True) ?_ ?_
   · -- cut
    refine c_conv (fun w S => S.perm p2) ?_
    refine c_conv (L' := blk bm (.cells #[.int .i64 m.f_key, .int .i64 m.f_value.Slot, .int .u64 m.f_value.Ballot, .string m.f_value.Value] 139 (0, 0)) :: nodeR e_ItA eN126 130 d 2 br rs :: _) (fun w S => Sat.flat (Ls := [_, _]) S) ?_
    refine c_held [blk bm (.cells #[.int .i64 m.f_key, .int .i64 m.f_value.Slot, .int .u64 m.f_value.Ballot, .string m.f_value.Value] 139 (0, 0)), nodeR e_ItA eN126 130 d 2 br rs, blk b8 (.cells #[.int .i64 old20.Slot, .int .u64 old20.Ballot, .string old20.Value] 40 (0, 0)), nodeR e_ItA eN126 130 d 2 rb ls20, blk b6 (.cells #[.int .i64 0, .int .u64 0, .string ByteArray.empty] 40 (0, 0)), blk b5 (.cells #[.int .i64 v.Slot, .int .u64 v.Ballot, .string v.Value] 40 (0, 0))] (by kernel_rfl) rfl ?_
    refine h_take 0 rfl rfl (by kernel_rfl) (by kernel_rfl) (by kernel_rfl) (fun L0 => v_move rfl rfl) ?_
    refine h_take 1 rfl rfl (by kernel_rfl) (by kernel_rfl) (by kernel_rfl) (fun L0 => v_move rfl rfl) ?_
    refine h_take 2 rfl rfl (by kernel_rfl) (by kernel_rfl) (by kernel_rfl) (fun L0 => v_nil rfl rfl) ?_
    refine h_take 3 rfl rfl (by kernel_rfl) (by kernel_rfl) (by kernel_rfl) (fun L0 => v_loadn (vs := [_, _, _, _]) rfl rfl Try.underlying139 rfl ti139 (rdn_lit 0 rfl rfl)) ?_
    refine h_take 5 rfl rfl (by kernel_rfl) (by kernel_rfl) (by kernel_rfl) (fun L0 => v_move rfl rfl) ?_
    refine h_take 6 rfl rfl (by kernel_rfl) (by kernel_rfl) (by kernel_rfl) (fun L0 => v_nil rfl rfl) ?_
    refine h_take 7 rfl rfl (by kernel_rfl) (by kernel_rfl) (by kernel_rfl) (fun L0 => v_fieldAddr (q := ⟨t, 0, none⟩) rfl rfl Try.underlying132 rfl ti126 rfl) ?_
    refine h_take 9 rfl rfl (by kernel_rfl) (by kernel_rfl) (by kernel_rfl) (fun L0 => v_move rfl rfl) ?_
    refine h_many (is := [4, 8]) (by kernel_rfl) (by decide) (forall_cons ⟨_, rfl, ?_⟩ (forall_cons ⟨_, rfl, ?_⟩ forall_nil))
    · -- 4 comes first
     refine o_lit e_ItA_ok rfl Try.underlying127 rfl rfl rfl (lit_ok rfl) [m] rfl rfl fun a31 => ?_
     refine l_nil ?_
     refine q_conv (fun w S => S.perm p7) ?_
     refine q_conv (fun w S => S.perm p1) ?_
     refine q_conv (fun w S => S.perm p7) ?_
     refine q_conv (fun w S => S.perm p7) ?_
     refine q_conv (fun w S => S.perm p7) ?_
     refine q_conv (fun w S => S.perm p7) ?_
     refine q_conv (fun w S => S.perm p7) ?_
     refine q_conv (fun w S => S.perm p7) ?_
     refine h_next ?_
     refine h_one 8 rfl (by kernel_rfl) ?_
     refine o_load1 rfl rfl Try.underlying126 rfl (rd_mem 7 rfl rfl) ?_
     refine l_nil ?_
     refine h_next ?_
     refine h_one 10 rfl (by kernel_rfl) ?_
     refine o_lit eN126_ok rfl Try.underlying128 rfl rfl rfl (lit_ok rfl) [rb, br] rfl rfl fun a37 => ?_
     refine l_nil ?_
     refine q_conv (fun w S => S.perm p8) ?_
     refine q_conv (fun w S => S.perm p8) ?_
     refine q_conv (fun w S => S.perm p2) ?_
     refine q_conv (fun w S => S.perm p8) ?_
     refine q_conv (fun w S => S.perm p8) ?_
     refine q_conv (fun w S => S.perm p8) ?_
     refine q_conv (fun w S => S.perm p8) ?_
     refine q_conv (fun w S => S.perm p8) ?_
     refine q_conv (fun w S => S.perm p8) ?_
     refine h_next ?_
     refine h_take 11 rfl rfl (by kernel_rfl) (by kernel_rfl) (by kernel_rfl) (fun L0 => v_build rfl sp130 ti130 rfl ((fill_cons (cells' := [.slice a31 ([m]).length 1, .slice none 0 0]) rfl rfl rfl rfl (fill_cons (cells' := [.slice a31 ([m]).length 1, .slice a37 ([rb, br]).length 2]) rfl rfl rfl rfl fill_nil)))) ?_
     refine h_one 12 rfl (by kernel_rfl) ?_
     refine o_box rfl rfl fun b39 => ?_
     refine l_nil ?_
     refine q_conv (fun w S => S.perm p9) ?_
     refine q_conv (fun w S => S.perm p9) ?_
     refine q_conv (fun w S => S.perm p9) ?_
     refine q_conv (fun w S => S.perm p3) ?_
     refine q_conv (fun w S => S.perm p9) ?_
     refine q_conv (fun w S => S.perm p9) ?_
     refine q_conv (fun w S => S.perm p9) ?_
     refine q_conv (fun w S => S.perm p9) ?_
     refine q_conv (fun w S => S.perm p9) ?_
     refine q_conv (fun w S => S.perm p9) ?_
     refine h_next ?_
     refine h_take 13 rfl rfl (by kernel_rfl) (by kernel_rfl) (by kernel_rfl) (fun L0 => v_nil rfl rfl) ?_
     refine h_take 14 rfl rfl (by kernel_rfl) (by kernel_rfl) (by kernel_rfl) (fun L0 => v_fieldAddr (q := ⟨t, 0, none⟩) rfl rfl Try.underlying132 rfl ti126 rfl) ?_
     refine h_one 15 rfl (by kernel_rfl) ?_
     refine l_f9 ?_
     refine o_store1 rfl rfl rfl ti126 rfl rfl ?_
     refine l_nil ?_
     refine q_conv (fun w S => S.perm p9) ?_
     refine q_conv (fun w S => S.perm p9) ?_
     refine q_conv (fun w S => S.perm p9) ?_
     refine q_conv (fun w S => S.perm p3) ?_
     refine q_conv (fun w S => S.perm p9) ?_
     refine q_conv (fun w S => S.perm p9) ?_
     refine q_conv (fun w S => S.perm p9) ?_
     refine q_conv (fun w S => S.perm p9) ?_
     refine q_conv (fun w S => S.perm p9) ?_
     refine q_conv (fun w S => S.perm p9) ?_
     refine h_next ?_
     refine h_done (by kernel_rfl) ?_
     refine q_conv (fun w S => S.perm p5) ?_
     refine q_conv (fun w S => S.perm p5) ?_
     refine q_conv (fun w S => S.perm p5) ?_
     refine q_conv (fun w S => S.perm p5) ?_
     refine q_conv (fun w S => S.perm p5) ?_
     refine q_conv (fun w S => S.perm p5) ?_
     refine q_conv (fun w S => S.perm p9) ?_
     refine q_conv (fun w S => S.perm p9) ?_
     refine q_conv (fun w S => S.perm p9) ?_
     refine q_conv (fun w S => S.perm p9) ?_
     exact q_mid (b39, a31, a37) (by trivial) ⟨(by first | rfl | exact vint (by omega)), (by first | rfl | exact vint (by omega)), (by first | rfl | exact vint (by omega)), (by first | rfl | exact vint (by omega)), (by first | rfl | exact vint (by omega)), (by first | rfl | exact vint (by omega)), (by first | rfl | exact vint (by omega)), (by first | rfl | exact vint (by omega)), (by first | rfl | exact vint (by omega)), (by first | rfl | exact vint (by omega)), (by first | rfl | exact vint (by omega)), (by first | rfl | exact vint (by omega)), (by first | rfl | exact vint (by omega)), (by first | rfl | exact vint (by omega)), (by first | rfl | exact vint (by omega)), (by first | rfl | exact vint (by omega)), (by first | rfl | exact vint (by omega)), (by first | rfl | exact vint (by omega)), (by first | rfl | exact vint (by omega)), (by first | rfl | exact vint (by omega)), (by first | rfl | exact vint (by omega)), (by first | rfl | exact vint (by omega)), (by first | rfl | exact vint (by omega)), (by first | rfl | exact vint (by omega)), (by first | rfl | exact vint (by omega)), (by first | rfl | exact vint (by omega)), (by first | rfl | exact vint (by omega)), (by first | rfl | exact vint (by omega)), (by first | rfl | exact vint (by omega)), (by first | rfl | exact vint (by omega)), (by first | rfl | exact vint (by omega)), (by first | rfl | exact vint (by omega)), (by first | rfl | exact vint (by omega)), (by first | rfl | exact vint (by omega)), trivial⟩ (fun w S => S)
    · -- 8 comes first
     refine o_load1 rfl rfl Try.underlying126 rfl (rd_mem 6 rfl rfl) ?_
     refine l_nil ?_
     refine h_next ?_
     refine h_many (is := [4, 10]) (by kernel_rfl) (by decide) (forall_cons ⟨_, rfl, ?_⟩ (forall_cons ⟨_, rfl, ?_⟩ forall_nil))
     · -- 4 comes first
      refine o_lit e_ItA_ok rfl Try.underlying127 rfl rfl rfl (lit_ok rfl) [m] rfl rfl fun a31 => ?_
      refine l_nil ?_
      refine q_conv (fun w S => S.perm p7) ?_
      refine q_conv (fun w S => S.perm p1) ?_
      refine q_conv (fun w S => S.perm p7) ?_
      refine q_conv (fun w S => S.perm p7) ?_
      refine q_conv (fun w S => S.perm p7) ?_
      refine q_conv (fun w S => S.perm p7) ?_
      refine q_conv (fun w S => S.perm p7) ?_
      refine q_conv (fun w S => S.perm p7) ?_
      refine h_next ?_
      refine h_one 10 rfl (by kernel_rfl) ?_
      refine o_lit eN126_ok rfl Try.underlying128 rfl rfl rfl (lit_ok rfl) [rb, br] rfl rfl fun a37 => ?_
      refine l_nil ?_
      refine q_conv (fun w S => S.perm p8) ?_
      refine q_conv (fun w S => S.perm p8) ?_
      refine q_conv (fun w S => S.perm p2) ?_
      refine q_conv (fun w S => S.perm p8) ?_
      refine q_conv (fun w S => S.perm p8) ?_
      refine q_conv (fun w S => S.perm p8) ?_
      refine q_conv (fun w S => S.perm p8) ?_
      refine q_conv (fun w S => S.perm p8) ?_
      refine q_conv (fun w S => S.perm p8) ?_
      refine h_next ?_
      refine h_take 11 rfl rfl (by kernel_rfl) (by kernel_rfl) (by kernel_rfl) (fun L0 => v_build rfl sp130 ti130 rfl ((fill_cons (cells' := [.slice a31 ([m]).length 1, .slice none 0 0]) rfl rfl rfl rfl (fill_cons (cells' := [.slice a31 ([m]).length 1, .slice a37 ([rb, br]).length 2]) rfl rfl rfl rfl fill_nil)))) ?_
      refine h_one 12 rfl (by kernel_rfl) ?_
      refine o_box rfl rfl fun b39 => ?_
      refine l_nil ?_
      refine q_conv (fun w S => S.perm p9) ?_
      refine q_conv (fun w S => S.perm p9) ?_
      refine q_conv (fun w S => S.perm p9) ?_
      refine q_conv (fun w S => S.perm p3) ?_
      refine q_conv (fun w S => S.perm p9) ?_
      refine q_conv (fun w S => S.perm p9) ?_
      refine q_conv (fun w S => S.perm p9) ?_
      refine q_conv (fun w S => S.perm p9) ?_
      refine q_conv (fun w S => S.perm p9) ?_
      refine q_conv (fun w S => S.perm p9) ?_
      refine h_next ?_
      refine h_take 13 rfl rfl (by kernel_rfl) (by kernel_rfl) (by kernel_rfl) (fun L0 => v_nil rfl rfl) ?_
      refine h_take 14 rfl rfl (by kernel_rfl) (by kernel_rfl) (by kernel_rfl) (fun L0 => v_fieldAddr (q := ⟨t, 0, none⟩) rfl rfl Try.underlying132 rfl ti126 rfl) ?_
      refine h_one 15 rfl (by kernel_rfl) ?_
      refine l_f9 ?_
      refine o_store1 rfl rfl rfl ti126 rfl rfl ?_
      refine l_nil ?_
      refine q_conv (fun w S => S.perm p9) ?_
      refine q_conv (fun w S => S.perm p9) ?_
      refine q_conv (fun w S => S.perm p9) ?_
      refine q_conv (fun w S => S.perm p3) ?_
      refine q_conv (fun w S => S.perm p9) ?_
      refine q_conv (fun w S => S.perm p9) ?_
      refine q_conv (fun w S => S.perm p9) ?_
      refine q_conv (fun w S => S.perm p9) ?_
      refine q_conv (fun w S => S.perm p9) ?_
      refine q_conv (fun w S => S.perm p9) ?_
      refine h_next ?_
      refine h_done (by kernel_rfl) ?_
      refine q_conv (fun w S => S.perm p5) ?_
      refine q_conv (fun w S => S.perm p5) ?_
      refine q_conv (fun w S => S.perm p5) ?_
      refine q_conv (fun w S => S.perm p5) ?_
      refine q_conv (fun w S => S.perm p5) ?_
      refine q_conv (fun w S => S.perm p5) ?_
      refine q_conv (fun w S => S.perm p9) ?_
      refine q_conv (fun w S => S.perm p9) ?_
      refine q_conv (fun w S => S.perm p9) ?_
      refine q_conv (fun w S => S.perm p9) ?_
      exact q_mid (b39, a31, a37) (by trivial) ⟨(by first | rfl | exact vint (by omega)), (by first | rfl | exact vint (by omega)), (by first | rfl | exact vint (by omega)), (by first | rfl | exact vint (by omega)), (by first | rfl | exact vint (by omega)), (by first | rfl | exact vint (by omega)), (by first | rfl | exact vint (by omega)), (by first | rfl | exact vint (by omega)), (by first | rfl | exact vint (by omega)), (by first | rfl | exact vint (by omega)), (by first | rfl | exact vint (by omega)), (by first | rfl | exact vint (by omega)), (by first | rfl | exact vint (by omega)), (by first | rfl | exact vint (by omega)), (by first | rfl | exact vint (by omega)), (by first | rfl | exact vint (by omega)), (by first | rfl | exact vint (by omega)), (by first | rfl | exact vint (by omega)), (by first | rfl | exact vint (by omega)), (by first | rfl | exact vint (by omega)), (by first | rfl | exact vint (by omega)), (by first | rfl | exact vint (by omega)), (by first | rfl | exact vint (by omega)), (by first | rfl | exact vint (by omega)), (by first | rfl | exact vint (by omega)), (by first | rfl | exact vint (by omega)), (by first | rfl | exact vint (by omega)), (by first | rfl | exact vint (by omega)), (by first | rfl | exact vint (by omega)), (by first | rfl | exact vint (by omega)), (by first | rfl | exact vint (by omega)), (by first | rfl | exact vint (by omega)), (by first | rfl | exact vint (by omega)), (by first | rfl | exact vint (by omega)), trivial⟩ (fun w S => S)
     · -- 10 comes first
      refine o_lit eN126_ok rfl Try.underlying128 rfl rfl rfl (lit_ok rfl) [rb, br] rfl rfl fun a37 => ?_
      refine l_nil ?_
      refine q_conv (fun w S => S.perm p7) ?_
      refine q_conv (fun w S => S.perm p1) ?_
      refine q_conv (fun w S => S.perm p7) ?_
      refine q_conv (fun w S => S.perm p7) ?_
      refine q_conv (fun w S => S.perm p7) ?_
      refine q_conv (fun w S => S.perm p7) ?_
      refine q_conv (fun w S => S.perm p7) ?_
      refine q_conv (fun w S => S.perm p7) ?_
      refine h_next ?_
      refine h_one 4 rfl (by kernel_rfl) ?_
      refine o_lit e_ItA_ok rfl Try.underlying127 rfl rfl rfl (lit_ok rfl) [m] rfl rfl fun a31 => ?_
      refine l_nil ?_
      refine q_conv (fun w S => S.perm p8) ?_
      refine q_conv (fun w S => S.perm p8) ?_
      refine q_conv (fun w S => S.perm p2) ?_
      refine q_conv (fun w S => S.perm p8) ?_
      refine q_conv (fun w S => S.perm p8) ?_
      refine q_conv (fun w S => S.perm p8) ?_
      refine q_conv (fun w S => S.perm p8) ?_
      refine q_conv (fun w S => S.perm p8) ?_
      refine q_conv (fun w S => S.perm p8) ?_
      refine h_next ?_
      refine h_take 11 rfl rfl (by kernel_rfl) (by kernel_rfl) (by kernel_rfl) (fun L0 => v_build rfl sp130 ti130 rfl ((fill_cons (cells' := [.slice a31 ([m]).length 1, .slice none 0 0]) rfl rfl rfl rfl (fill_cons (cells' := [.slice a31 ([m]).length 1, .slice a37 ([rb, br]).length 2]) rfl rfl rfl rfl fill_nil)))) ?_
      refine h_one 12 rfl (by kernel_rfl) ?_
      refine o_box rfl rfl fun b39 => ?_
      refine l_nil ?_
      refine q_conv (fun w S => S.perm p9) ?_
      refine q_conv (fun w S => S.perm p9) ?_
      refine q_conv (fun w S => S.perm p9) ?_
      refine q_conv (fun w S => S.perm p3) ?_
      refine q_conv (fun w S => S.perm p9) ?_
      refine q_conv (fun w S => S.perm p9) ?_
      refine q_conv (fun w S => S.perm p9) ?_
      refine q_conv (fun w S => S.perm p9) ?_
      refine q_conv (fun w S => S.perm p9) ?_
      refine q_conv (fun w S => S.perm p9) ?_
      refine h_next ?_
      refine h_take 13 rfl rfl (by kernel_rfl) (by kernel_rfl) (by kernel_rfl) (fun L0 => v_nil rfl rfl) ?_
      refine h_take 14 rfl rfl (by kernel_rfl) (by kernel_rfl) (by kernel_rfl) (fun L0 => v_fieldAddr (q := ⟨t, 0, none⟩) rfl rfl Try.underlying132 rfl ti126 rfl) ?_
      refine h_one 15 rfl (by kernel_rfl) ?_
      refine l_f9 ?_
      refine o_store1 rfl rfl rfl ti126 rfl rfl ?_
      refine l_nil ?_
      refine q_conv (fun w S => S.perm p9) ?_
      refine q_conv (fun w S => S.perm p9) ?_
      refine q_conv (fun w S => S.perm p9) ?_
      refine q_conv (fun w S => S.perm p3) ?_
      refine q_conv (fun w S => S.perm p9) ?_
      refine q_conv (fun w S => S.perm p9) ?_
      refine q_conv (fun w S => S.perm p9) ?_
      refine q_conv (fun w S => S.perm p9) ?_
      refine q_conv (fun w S => S.perm p9) ?_
      refine q_conv (fun w S => S.perm p9) ?_
      refine h_next ?_
      refine h_done (by kernel_rfl) ?_
      refine q_conv (fun w S => S.perm p5) ?_
      refine q_conv (fun w S => S.perm p5) ?_
      refine q_conv (fun w S => S.perm p5) ?_
      refine q_conv (fun w S => S.perm p5) ?_
      refine q_conv (fun w S => S.perm p5) ?_
      refine q_conv (fun w S => S.perm p5) ?_
      refine q_conv (fun w S => S.perm p8) ?_
      refine q_conv (fun w S => S.perm p9) ?_
      refine q_conv (fun w S => S.perm p9) ?_
      refine q_conv (fun w S => S.perm p9) ?_
      exact q_mid (b39, a31, a37) (by trivial) ⟨(by first | rfl | exact vint (by omega)), (by first | rfl | exact vint (by omega)), (by first | rfl | exact vint (by omega)), (by first | rfl | exact vint (by omega)), (by first | rfl | exact vint (by omega)), (by first | rfl | exact vint (by omega)), (by first | rfl | exact vint (by omega)), (by first | rfl | exact vint (by omega)), (by first | rfl | exact vint (by omega)), (by first | rfl | exact vint (by omega)), (by first | rfl | exact vint (by omega)), (by first | rfl | exact vint (by omega)), (by first | rfl | exact vint (by omega)), (by first | rfl | exact vint (by omega)), (by first | rfl | exact vint (by omega)), (by first | rfl | exact vint (by omega)), (by first | rfl | exact vint (by omega)), (by first | rfl | exact vint (by omega)), (by first | rfl | exact vint (by omega)), (by first | rfl | exact vint (by omega)), (by first | rfl | exact vint (by omega)), (by first | rfl | exact vint (by omega)), (by first | rfl | exact vint (by omega)), (by first | rfl | exact vint (by omega)), (by first | rfl | exact vint (by omega)), (by first | rfl | exact vint (by omega)), (by first | rfl | exact vint (by omega)), (by first | rfl | exact vint (by omega)), (by first | rfl | exact vint (by omega)), (by first | rfl | exact vint (by omega)), (by first | rfl | exact vint (by omega)), (by first | rfl | exact vint (by omega)), (by first | rfl | exact vint (by omega)), (by first | rfl | exact vint (by omega)), trivial⟩ (fun w S => S)
   · -- behind the cut
    rintro ⟨b39, a31, a37⟩ _hp
    try dsimp only at *
    refine c_seq ?_
    refine c_seq ?_
    refine c_region ?_
    refine o_move rfl rfl ?_
    refine o_not rfl rfl ?_
    refine l_nil ?_
    refine q_then ?_
    refine c_cond rfl (fun h2 => ?_) (fun h2 => ?_)
    · -- h2T
     have h2b := h2
     try simp only [decide_eq_true_eq, decide_eq_false_iff_not, Bool.not_eq_eq_eq_not, Bool.not_true, Bool.not_false, Bool.not_eq_true', Bool.not_eq_false', Int.not_lt, Int.not_le, Bool.or_eq_true, Bool.and_eq_true] at h2
     refine c_region ?_
     refine o_move rfl rfl ?_
     refine o_nil rfl rfl ?_
     refine o_fieldAddr (q := ⟨t, 1, none⟩) rfl rfl Try.underlying132 rfl ti3 rfl ?_
     refine o_load1 rfl rfl Try.underlying3 rfl (rd_mem 0 rfl rfl) ?_
     refine o_bin rfl rfl rfl (b_add (wrap_i64 (by omega) (by omega))) ?_
     refine o_nil rfl rfl ?_
     refine o_fieldAddr (q := ⟨t, 1, none⟩) rfl rfl Try.underlying132 rfl ti3 rfl ?_
     refine o_store1 rfl rfl rfl ti3 rfl rfl ?_
     refine l_nil ?_
     refine q_then ?_
     refine c_seq ?_
     refine c_region ?_
     refine o_loadn (vs := [_, _, _]) rfl rfl Try.underlying40 rfl ti40 (rdn_lit 6 rfl rfl) ?_
     refine o_move rfl rfl ?_
     refine l_f8 ?_
     refine o_storen rfl rfl ti40 rfl rfl rfl rfl ?_
     refine o_assign rfl rfl ?_
     refine l_nil ?_
     refine q_then ?_
     refine c_ret ?_
     refine f_retq (.inl rfl) (rs_2 rfl (rs_celln (vs := [.int .i64 old20.Slot, .int .u64 old20.Ballot, .string old20.Value]) rfl Try.underlying40 rfl ti40 (rdn_lit 0 rfl rfl)) (rs_tmp rfl)) (fun w S => ?_)
     have hlen : ((ins ItA.f_key ilt (⟨k, v⟩ : ItA) xs).length : Int) = ((xs).length : Int) + 1 := by have h9 := hol20.len ilt_sto srt; rw [show had20 = false from by assumption] at h9; simpa using h9
     replace S := S.tail
     replace S := (S.perm p4).tail
     replace S := (S.perm p5).tail
     replace S := (S.perm p6).tail
     replace S := S.perm p4
     replace S := S.perm p5
     replace S := S.perm p4
     replace S := S.perm p5
     replace S := S.perm p5
     exact ⟨_, ⟨old20, had20, ⟨hol20, srt⟩, rfl, rfl⟩, (fun w S => treeMk (d + 1) b39 (srt_ins ilt_sto srt) (by rw [hlen, his20]; exact (root_new S).perm (List.Perm.swap _ _ _))) w S⟩
    · -- h2F
     have h2b := h2
     try simp only [decide_eq_true_eq, decide_eq_false_iff_not, Bool.not_eq_eq_eq_not, Bool.not_true, Bool.not_false, Bool.not_eq_true', Bool.not_eq_false', Int.not_lt, Int.not_le, Bool.or_eq_true, Bool.and_eq_true] at h2
     refine c_skip ?_
     refine q_then ?_
     refine c_seq ?_
     refine c_region ?_
     refine o_loadn (vs := [_, _, _]) rfl rfl Try.underlying40 rfl ti40 (rdn_lit 6 rfl rfl) ?_
     refine o_move rfl rfl ?_
     refine l_f8 ?_
     refine o_storen rfl rfl ti40 rfl rfl rfl rfl ?_
     refine o_assign rfl rfl ?_
     refine l_nil ?_
     refine q_then ?_
     refine c_ret ?_
     refine f_retq (.inl rfl) (rs_2 rfl (rs_celln (vs := [.int .i64 old20.Slot, .int .u64 old20.Ballot, .string old20.Value]) rfl Try.underlying40 rfl ti40 (rdn_lit 0 rfl rfl)) (rs_tmp rfl)) (fun w S => ?_)
     have hlen : ((ins ItA.f_key ilt (⟨k, v⟩ : ItA) xs).length : Int) = ((xs).length : Int) := by have h9 := hol20.len ilt_sto srt; rw [show had20 = true from by assumption] at h9; simpa using h9
     replace S := S.tail
     replace S := (S.perm p4).tail
     replace S := (S.perm p5).tail
     replace S := (S.perm p6).tail
     replace S := S.perm p4
     replace S := S.perm p5
     replace S := S.perm p4
     replace S := S.perm p5
     replace S := S.perm p5
     exact ⟨_, ⟨old20, had20, ⟨hol20, srt⟩, rfl, rfl⟩, (fun w S => treeMk (d + 1) b39 (srt_ins ilt_sto srt) (by rw [hlen, his20]; exact (root_new S).perm (List.Perm.swap _ _ _))) w S⟩
  · -- h1F
   have h1b := h1
   try simp only [decide_eq_true_eq, decide_eq_false_iff_not, Bool.not_eq_eq_eq_not, Bool.not_true, Bool.not_false, Bool.not_eq_true', Bool.not_eq_false', Int.not_lt, Int.not_le, Bool.or_eq_true, Bool.and_eq_true] at h1
   have hs20 : s20 = none := by cases s20 with | none => rfl | some z => simp at h1b
   subst hs20
   refine c_skip ?_
   refine q_then ?_
   refine c_seq ?_
   refine c_seq ?_
   refine c_region ?_
   refine o_move rfl rfl ?_
   refine o_not rfl rfl ?_
   refine l_nil ?_
   refine q_then ?_
   refine c_cond rfl (fun h3 => ?_) (fun h3 => ?_)
   · -- h3T
    have h3b := h3
    try simp only [decide_eq_true_eq, decide_eq_false_iff_not, Bool.not_eq_eq_eq_not, Bool.not_true, Bool.not_false, Bool.not_eq_true', Bool.not_eq_false', Int.not_lt, Int.not_le, Bool.or_eq_true, Bool.and_eq_true] at h3
    refine c_region ?_
    refine o_move rfl rfl ?_
    refine o_nil rfl rfl ?_
    refine o_fieldAddr (q := ⟨t, 1, none⟩) rfl rfl Try.underlying132 rfl ti3 rfl ?_
    refine o_load1 rfl rfl Try.underlying3 rfl (rd_mem 5 rfl rfl) ?_
    refine o_bin rfl rfl rfl (b_add (wrap_i64 (by omega) (by omega))) ?_
    refine o_nil rfl rfl ?_
    refine o_fieldAddr (q := ⟨t, 1, none⟩) rfl rfl Try.underlying132 rfl ti3 rfl ?_
    refine l_f5 ?_
    refine o_store1 rfl rfl rfl ti3 rfl rfl ?_
    refine l_nil ?_
    refine q_then ?_
    refine c_seq ?_
    refine c_region ?_
    refine o_loadn (vs := [_, _, _]) rfl rfl Try.underlying40 rfl ti40 (rdn_lit 1 rfl rfl) ?_
    refine o_move rfl rfl ?_
    refine l_f4 ?_
    refine o_storen rfl rfl ti40 rfl rfl rfl rfl ?_
    refine o_assign rfl rfl ?_
    refine l_nil ?_
    refine q_then ?_
    refine c_ret ?_
    refine f_retq (.inl rfl) (rs_2 rfl (rs_celln (vs := [.int .i64 old20.Slot, .int .u64 old20.Ballot, .string old20.Value]) rfl Try.underlying40 rfl ti40 (rdn_lit 0 rfl rfl)) (rs_tmp rfl)) (fun w S => ?_)
    have hlen : ((ins ItA.f_key ilt (⟨k, v⟩ : ItA) xs).length : Int) = ((xs).length : Int) + 1 := by have h9 := hol20.len ilt_sto srt; rw [show had20 = false from by assumption] at h9; simpa using h9
    replace S := S.tail
    replace S := (S.perm p1).tail
    replace S := (S.perm p2).tail
    replace S := (S.perm p2).tail
    exact ⟨_, ⟨old20, had20, ⟨hol20, srt⟩, rfl, rfl⟩, (fun w S => treeMk d rb (srt_ins ilt_sto srt) (by rw [hlen, his20]; exact S)) w S⟩
   · -- h3F
    have h3b := h3
    try simp only [decide_eq_true_eq, decide_eq_false_iff_not, Bool.not_eq_eq_eq_not, Bool.not_true, Bool.not_false, Bool.not_eq_true', Bool.not_eq_false', Int.not_lt, Int.not_le, Bool.or_eq_true, Bool.and_eq_true] at h3
    refine c_skip ?_
    refine q_then ?_
    refine c_seq ?_
    refine c_region ?_
    refine o_loadn (vs := [_, _, _]) rfl rfl Try.underlying40 rfl ti40 (rdn_lit 0 rfl rfl) ?_
    refine o_move rfl rfl ?_
    refine l_f3 ?_
    refine o_storen rfl rfl ti40 rfl rfl rfl rfl ?_
    refine o_assign rfl rfl ?_
    refine l_nil ?_
    refine q_then ?_
    refine c_ret ?_
    refine f_retq (.inl rfl) (rs_2 rfl (rs_celln (vs := [.int .i64 old20.Slot, .int .u64 old20.Ballot, .string old20.Value]) rfl Try.underlying40 rfl ti40 (rdn_lit 0 rfl rfl)) (rs_tmp rfl)) (fun w S => ?_)
    have hlen : ((ins ItA.f_key ilt (⟨k, v⟩ : ItA) xs).length : Int) = ((xs).length : Int) := by have h9 := hol20.len ilt_sto srt; rw [show had20 = true from by assumption] at h9; simpa using h9
    replace S := S.tail
    replace S := S.tail
    replace S := (S.perm p1).tail
    replace S := (S.perm p1).tail
    replace S := S.perm p1
    exact ⟨_, ⟨old20, had20, ⟨hol20, srt⟩, rfl, rfl⟩, (fun w S => treeMk d rb (srt_ins ilt_sto srt) (by rw [hlen, his20]; exact S)) w S⟩

theorem from_A {W : World} {F : List Res} {t : Nat} {k : Int} : CS Try.prog 46 #[.pointer (some ⟨t, 0, none⟩), .int .i64 k] W (F) (fun r L' => ∃ kt kk : Nat, r = .func (.func 51) #[] #[.pointer (some ⟨kt, 0, none⟩), .pointer (some ⟨kk, 0, none⟩)] ∧ L' = blk kt (.cells #[.pointer (some ⟨t, 0, none⟩)] 103 (0, 0)) :: blk kk (.cells #[.int .i64 k] 3 (0, 0)) :: F) := by
 refine f_door (l0 := [(0, .pointer (some ⟨t, 0, none⟩)), (1, .int .i64 k)]) Try.func46 Try.ntmps46 rfl rfl rfl ?_
 refine c_seq ?_
 refine c_region ?_
 refine o_box rfl rfl fun b2 => ?_
 refine o_box rfl rfl fun b3 => ?_
 refine o_assign rfl rfl ?_
 refine l_nil ?_
 refine q_then ?_
 refine c_seq ?_
 refine c_region ?_
 refine o_makeFunc rfl rfl rfl ?_
 refine o_assign rfl rfl ?_
 refine l_nil ?_
 refine q_then ?_
 refine c_ret ?_
 refine q_conv (fun w S => S.perm p1) ?_
 exact f_ret (r_one rfl rfl) (⟨b2, b3, rfl, rfl⟩) (fun w S => S)

theorem fromIter_A {W : World} {t kt kk : Nat} {xs : List ItA} {k : Int} : IterG Try.prog 51 #[.pointer (some ⟨kt, 0, none⟩), .pointer (some ⟨kk, 0, none⟩)] (fun x : ItA => [.int .i64 x.f_key, .agg #[.int .i64 x.f_value.Slot, .int .u64 x.f_value.Ballot, .string x.f_value.Value]]) W [blk kt (.cells #[.pointer (some ⟨t, 0, none⟩)] 103 (0, 0)), blk kk (.cells #[.int .i64 k] 3 (0, 0)), treeR e_ItA eN126 130 132 ItA.f_key ilt t xs] (sel ItA.f_key ilt (some k) xs) := by
 intro y I J L0 hI0 hy
 show CS Try.prog 51 #[y, .pointer (some ⟨kt, 0, none⟩), .pointer (some ⟨kk, 0, none⟩)] W (blk kt (.cells #[.pointer (some ⟨t, 0, none⟩)] 103 (0, 0)) :: blk kk (.cells #[.int .i64 k] 3 (0, 0)) :: treeR e_ItA eN126 130 132 ItA.f_key ilt t xs :: L0) _
 refine f_door (l0 := [(0, y), (1, .pointer (some ⟨kt, 0, none⟩)), (2, .pointer (some ⟨kk, 0, none⟩))]) Try.func51 Try.ntmps51 rfl rfl rfl ?_
 refine c_conv (fun w S => S.perm p2) ?_
 refine c_tree ?_
 rintro d rb srt
 refine c_conv (L' := blk t (.cells #[.pointer (some ⟨rb, 0, none⟩), .int .i64 ((xs).length : Int)] 132 (0, 0)) :: nodeR e_ItA eN126 130 d 0 rb xs :: blk kt (.cells #[.pointer (some ⟨t, 0, none⟩)] 103 (0, 0)) :: blk kk (.cells #[.int .i64 k] 3 (0, 0)) :: L0) (fun w S => S) ?_
 refine c_region ?_
 refine o_load1 rfl rfl Try.underlying103 rfl (rd_mem 2 rfl rfl) ?_
 refine o_nil rfl rfl ?_
 refine o_fieldAddr (q := ⟨t, 0, none⟩) rfl rfl Try.underlying132 rfl ti126 rfl ?_
 refine o_load1 rfl rfl Try.underlying126 rfl (rd_mem 0 rfl rfl) ?_
 refine o_move rfl rfl ?_
 refine l_conv (fun w S => S.perm p3) ?_
 refine l_conv (fun w S => S.perm p3) ?_
 refine l_conv (fun w S => S.perm p2) ?_
 refine l_conv (fun w S => S.perm p3) ?_
 refine l_conv (L' := nodeR e_ItA eN126 130 d 0 rb xs :: ([blk t (.cells #[.pointer (some ⟨rb, 0, none⟩), .int .i64 ((xs).length : Int)] 132 (0, 0)), blk kt (.cells #[.pointer (some ⟨t, 0, none⟩)] 103 (0, 0)), blk kk (.cells #[.int .i64 k] 3 (0, 0))] ++ L0)) (fun w S => S) ?_
 refine o_call rfl cal52 rfl (walk_A d (G := [blk t (.cells #[.pointer (some ⟨rb, 0, none⟩), .int .i64 ((xs).length : Int)] 132 (0, 0)), blk kt (.cells #[.pointer (some ⟨t, 0, none⟩)] 103 (0, 0)), blk kk (.cells #[.int .i64 k] 3 (0, 0))]) (pre := []) (full := sel ItA.f_key ilt (some k) xs) srt (.inr ⟨k, kk, rfl, rfl, by simp⟩) hI0 (by rw [List.nil_append]; exact List.prefix_refl _) hy) ?_
 rintro _ _ ⟨bb9, L9, rfl, hbb9, rfl⟩
 refine l_conv (L' := nodeR e_ItA eN126 130 d 0 rb xs :: blk t (.cells #[.pointer (some ⟨rb, 0, none⟩), .int .i64 ((xs).length : Int)] 132 (0, 0)) :: blk kt (.cells #[.pointer (some ⟨t, 0, none⟩)] 103 (0, 0)) :: blk kk (.cells #[.int .i64 k] 3 (0, 0)) :: L9) (fun w S => S) ?_
 refine l_nil ?_
 refine q_conv (fun w S => S.perm p3) ?_
 refine q_conv (fun w S => S.perm p3) ?_
 refine q_conv (fun w S => S.perm p2) ?_
 refine q_conv (fun w S => S.perm p3) ?_
 exact f_end (r_none rfl) (⟨L9, by rcases hbb9 with ⟨_, h9⟩ | ⟨_, h9⟩; exact .inl h9; exact .inr h9, rfl⟩) (fun w S => ((treeMk d rb srt S).perm p2).perm p2)

end Go.Proofs.Ytakjmdeckngnlaa
