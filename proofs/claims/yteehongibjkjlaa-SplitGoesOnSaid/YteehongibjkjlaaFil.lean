/- Printed by eng2.py out of 15/spec.py. -/
import Derived.Test.YteehongibjkjlaaHomes
import Derived.Test.YteehongibjkjlaaFilp
set_option linter.unusedVariables false
set_option linter.unusedSimpArgs false
set_option maxRecDepth 10000
namespace Go.Proofs.Yteehongibjkjlaa
open Go.RowKit Classical
def FltR (k : Nat) (s : FS) : Res := obj (fun _ : Nat => True) fun x => [blk k (.cells #[.int .i64 s.region, .int .i64 s.last, .map (some x)] 71 (0, 0)), mapR kvTag vvInt x s.seen]
theorem region_ {W : World} {F : List Res} {g : Int} : CS Try.prog 22 #[.int .i64 g] W (F) (fun r L' => ∃ b : Nat, r = .pointer (some ⟨b, 0, none⟩) ∧ L' = FltR b ⟨g, -1, []⟩ :: F) := by
 refine f_door (l0 := [(0, .int .i64 g)]) Try.func22 Try.ntmps22 rfl rfl rfl ?_
 refine c_seq ?_
 refine c_region ?_
 refine o_assign rfl rfl ?_
 refine l_nil ?_
 refine q_then ?_
 refine c_seq ?_
 refine c_region ?_
 refine o_move rfl rfl ?_
 refine o_makeMap kvTag vvInt rfl fun m4 => ?_
 refine o_build rfl sp71 ti71 rfl ((fill_cons (cells' := [.int .i64 g, .int .i64 0, .map none]) rfl rfl rfl rfl (fill_cons (cells' := [.int .i64 g, .int .i64 (-1), .map none]) rfl rfl rfl rfl (fill_cons (cells' := [.int .i64 g, .int .i64 (-1), .map (some m4)]) rfl rfl rfl rfl fill_nil)))) ?_
 refine o_box rfl rfl fun b6 => ?_
 refine o_assign rfl rfl ?_
 refine l_nil ?_
 refine q_then ?_
 refine c_ret ?_
 exact f_ret (r_one rfl rfl) (⟨b6, rfl, rfl⟩) (fun w S => Sat.obj_mk (A := fun x => [blk b6 (.cells #[.int .i64 ((⟨g, -1, []⟩ : FS).region), .int .i64 ((⟨g, -1, []⟩ : FS).last), .map (some x)] 71 (0, 0)), mapR kvTag vvInt x ((⟨g, -1, []⟩ : FS).seen)]) m4 trivial S)

theorem global_ {W : World} {F : List Res} : CS Try.prog 38 #[] W (F) (fun r L' => ∃ b : Nat, r = .pointer (some ⟨b, 0, none⟩) ∧ L' = FltR b ⟨-1, -1, []⟩ :: F) := by
 refine f_door (l0 := []) Try.func38 Try.ntmps38 rfl rfl rfl ?_
 refine c_seq ?_
 refine c_region ?_
 refine o_assign rfl rfl ?_
 refine l_nil ?_
 refine q_then ?_
 refine c_seq ?_
 refine c_region ?_
 refine o_call rfl cal22 rfl (region_ (g := (-1))) ?_
 rintro _ _ ⟨b1, rfl, rfl⟩
 refine o_assign rfl rfl ?_
 refine l_nil ?_
 refine q_then ?_
 refine c_ret ?_
 exact f_ret (r_one rfl rfl) (⟨b1, rfl, rfl⟩) (fun w S => S)

theorem ffirst_ {W : World} {F : List Res} {k : Nat} {s : FS} {tg : Tag} : CS Try.prog 35 #[.pointer (some ⟨k, 0, none⟩), .agg #[.int .i64 tg.f_Id_Node, .int .u64 tg.f_Id_Epoch, .int .u64 tg.f_Id_Seq, .int .i64 tg.f_Try]] W (FltR k s :: F) (fun r L' => r = .bool (s.first tg).1 ∧ L' = FltR k (s.first tg).2 :: F) := by
 refine f_door (l0 := [(0, .pointer (some ⟨k, 0, none⟩)), (1, .agg #[.int .i64 tg.f_Id_Node, .int .u64 tg.f_Id_Epoch, .int .u64 tg.f_Id_Seq, .int .i64 tg.f_Try])]) Try.func35 Try.ntmps35 rfl rfl rfl ?_
 refine c_seq ?_
 refine c_region ?_
 refine o_box rfl rfl fun b3 => ?_
 refine o_assign rfl rfl ?_
 refine l_nil ?_
 refine q_then ?_
 refine c_seq ?_
 refine c_conv (fun w S => S.perm p1) ?_
 refine c_obj ?_
 rintro m_1 ok_1
 refine c_conv (L' := blk k (.cells #[.int .i64 s.region, .int .i64 s.last, .map (some m_1)] 71 (0, 0)) :: mapR kvTag vvInt m_1 s.seen :: _) (fun w S => S) ?_
 refine c_mid (α := Nat) (fun z => [(0, .pointer (some ⟨k, 0, none⟩)), (1, .agg #[.int .i64 tg.f_Id_Node, .int .u64 tg.f_Id_Epoch, .int .u64 tg.f_Id_Seq, .int .i64 tg.f_Try]), (3, .pointer (some ⟨b3, 0, none⟩)), (4, .bool false), (5, .pointer (some ⟨k, 0, none⟩)), (6, .pointer (some ⟨k, 0, none⟩)), (7, .pointer (some ⟨k, 2, none⟩)), (8, .map (some m_1)), (9, .agg #[.int .i64 tg.f_Id_Node, .int .u64 tg.f_Id_Epoch, .int .u64 tg.f_Id_Seq, .int .i64 tg.f_Try]), (10, .int .i64 ((mget s.seen tg).getD (0 : Int))), (11, .int .i64 (IntKind.i64.wrap ((mget s.seen tg).getD (0 : Int) + 1))), (12, .tuple #[.int .i64 ((mget s.seen tg).getD (0 : Int)), .int .i64 (z : Int)]), (13, .int .i64 (z : Int))]) (fun z => mapR kvTag vvInt m_1 (mset s.seen tg (IntKind.i64.wrap ((mget s.seen tg).getD (0 : Int) + 1))) :: blk k (.cells #[.int .i64 s.region, .int .i64 s.last, .map (some m_1)] 71 (0, 0)) :: blk b3 (.cells #[.int .i64 tg.f_Id_Node, .int .u64 tg.f_Id_Epoch, .int .u64 tg.f_Id_Seq, .int .i64 tg.f_Try] 33 (0, 0)) :: F) (fun z => True) ?_ ?_
 · -- cut
  refine c_conv (fun w S => S.perm p1) ?_
  refine c_conv (fun w S => S.perm p2) ?_
  refine c_conv (fun w S => S.perm p2) ?_
  refine c_held [blk k (.cells #[.int .i64 s.region, .int .i64 s.last, .map (some m_1)] 71 (0, 0)), blk b3 (.cells #[.int .i64 tg.f_Id_Node, .int .u64 tg.f_Id_Epoch, .int .u64 tg.f_Id_Seq, .int .i64 tg.f_Try] 33 (0, 0))] (by kernel_rfl) rfl ?_
  refine h_take 0 rfl rfl (by kernel_rfl) (by kernel_rfl) (by kernel_rfl) (fun L0 => v_move rfl rfl) ?_
  refine h_take 1 rfl rfl (by kernel_rfl) (by kernel_rfl) (by kernel_rfl) (fun L0 => v_nil rfl rfl) ?_
  refine h_take 2 rfl rfl (by kernel_rfl) (by kernel_rfl) (by kernel_rfl) (fun L0 => v_fieldAddr (q := ⟨k, 2, none⟩) rfl rfl Try.underlying71 rfl ti69 rfl) ?_
  refine h_take 3 rfl rfl (by kernel_rfl) (by kernel_rfl) (by kernel_rfl) (fun L0 => v_load1 rfl rfl Try.underlying69 rfl (rd_mem 0 rfl rfl)) ?_
  refine h_take 4 rfl rfl (by kernel_rfl) (by kernel_rfl) (by kernel_rfl) (fun L0 => v_loadn (vs := [_, _, _, _]) rfl rfl Try.underlying33 rfl ti33 (rdn_lit 1 rfl rfl)) ?_
  refine h_many (is := [5, 7]) (by kernel_rfl) (by decide) (forall_cons ⟨_, rfl, ?_⟩ (forall_cons ⟨_, rfl, ?_⟩ forall_nil))
  · -- 5 comes first
   refine o_lookupD (kv := kvTag) (vv := vvInt) (b0 := (0 : Int)) (q := tg) 2 rfl koTag rfl rfl rfl Try.underlying69 ti3 ?_
   refine l_nil ?_
   refine h_next ?_
   refine h_take 6 rfl rfl (by kernel_rfl) (by kernel_rfl) (by kernel_rfl) (fun L0 => v_bin rfl rfl rfl (b_add rfl)) ?_
   refine h_one 7 rfl (by kernel_rfl) ?_
   refine l_f2 ?_
   refine o_mapEntry (q := tg) (b0 := (0 : Int)) koTag rfl rfl rfl Try.underlying69 ti3 fun k12 => ?_
   refine l_nil ?_
   refine q_conv (fun w S => S.perm p2) ?_
   refine q_conv (fun w S => S.perm p2) ?_
   refine h_next ?_
   refine h_take 8 rfl rfl (by kernel_rfl) (by kernel_rfl) (by kernel_rfl) (fun L0 => v_extract rfl rfl rfl) ?_
   refine h_one 9 rfl (by kernel_rfl) ?_
   refine l_f2 ?_
   refine o_entryStore (b := (IntKind.i64.wrap ((mget s.seen tg).getD (0 : Int) + 1))) rfl rfl rfl ?_
   refine l_nil ?_
   refine q_conv (fun w S => S.perm p2) ?_
   refine q_conv (fun w S => S.perm p2) ?_
   refine h_next ?_
   refine h_done (by kernel_rfl) ?_
   refine q_conv (fun w S => S.perm p1) ?_
   refine q_conv (fun w S => S.perm p1) ?_
   refine q_conv (fun w S => S.perm p2) ?_
   exact q_mid (k12) (by trivial) ⟨(by first | rfl | exact vint (by omega)), (by first | rfl | exact vint (by omega)), (by first | rfl | exact vint (by omega)), (by first | rfl | exact vint (by omega)), (by first | rfl | exact vint (by omega)), (by first | rfl | exact vint (by omega)), (by first | rfl | exact vint (by omega)), (by first | rfl | exact vint (by omega)), (by first | rfl | exact vint (by omega)), (by first | rfl | exact vint (by omega)), (by first | rfl | exact vint (by omega)), (by first | rfl | exact vint (by omega)), (by first | rfl | exact vint (by omega)), trivial⟩ (fun w S => S)
  · -- 7 comes first
   refine l_f2 ?_
   refine o_mapEntry (q := tg) (b0 := (0 : Int)) koTag rfl rfl rfl Try.underlying69 ti3 fun k12 => ?_
   refine l_nil ?_
   refine q_conv (fun w S => S.perm p2) ?_
   refine q_conv (fun w S => S.perm p2) ?_
   refine h_next ?_
   refine h_take 8 rfl rfl (by kernel_rfl) (by kernel_rfl) (by kernel_rfl) (fun L0 => v_extract rfl rfl rfl) ?_
   refine h_one 5 rfl (by kernel_rfl) ?_
   refine o_lookupE (kv := kvTag) (vv := vvInt) (b0 := (0 : Int)) 2 rfl koTag rfl rfl rfl Try.underlying69 ti3 ?_
   refine l_eq (t := 10) (v' := .int .i64 ((mget s.seen tg).getD (0 : Int))) rfl (by rw [mget_set, if_pos rfl]; rfl) ?_
   refine l_nil ?_
   refine h_next ?_
   refine h_take 6 rfl rfl (by kernel_rfl) (by kernel_rfl) (by kernel_rfl) (fun L0 => v_bin rfl rfl rfl (b_add rfl)) ?_
   refine h_one 9 rfl (by kernel_rfl) ?_
   refine l_f2 ?_
   refine o_entryStore (b := (IntKind.i64.wrap ((mget s.seen tg).getD (0 : Int) + 1))) rfl rfl rfl ?_
   refine l_nil ?_
   refine q_conv (fun w S => S.perm p2) ?_
   refine q_conv (fun w S => S.perm p2) ?_
   refine h_next ?_
   refine h_done (by kernel_rfl) ?_
   refine q_conv (fun w S => S.perm p1) ?_
   refine q_conv (fun w S => S.perm p1) ?_
   refine q_conv (fun w S => S.perm p2) ?_
   exact q_mid (k12) (by trivial) ⟨(by first | rfl | exact vint (by omega)), (by first | rfl | exact vint (by omega)), (by first | rfl | exact vint (by omega)), (by first | rfl | exact vint (by omega)), (by first | rfl | exact vint (by omega)), (by first | rfl | exact vint (by omega)), (by first | rfl | exact vint (by omega)), (by first | rfl | exact vint (by omega)), (by first | rfl | exact vint (by omega)), (by first | rfl | exact vint (by omega)), (by first | rfl | exact vint (by omega)), (by first | rfl | exact vint (by omega)), (by first | rfl | exact vint (by omega)), trivial⟩ (fun w S => S)
 · -- behind the cut
  rintro k12 _hp
  try dsimp only at *
  refine c_seq ?_
  refine c_quiet (by kernel_rfl) (by kernel_rfl) ?_
  refine Qt.o_val rfl (v_move rfl rfl) ?_
  refine Qt.o_val rfl (v_nil rfl rfl) ?_
  refine Qt.o_val rfl (v_fieldAddr (q := ⟨k, 2, none⟩) rfl rfl Try.underlying71 rfl ti69 rfl) ?_
  refine Qt.o_val rfl (v_load1 rfl rfl Try.underlying69 rfl (rd_mem 1 rfl rfl)) ?_
  refine Qt.o_val rfl (v_loadn (vs := [_, _, _, _]) rfl rfl Try.underlying33 rfl ti33 (rdn_lit 2 rfl rfl)) ?_
  refine Qt.o_val rfl (v_lookupD (kv := kvTag) (vv := vvInt) (b0 := (0 : Int)) (q := tg) 0 rfl koTag rfl rfl rfl Try.underlying69 ti3) ?_
  refine Qt.o_val rfl (v_bin rfl rfl rfl b_eql) ?_
  refine Qt.o_val rfl (v_assign rfl rfl) ?_
  refine Qt.l_nil ?_
  refine q_then ?_
  refine c_ret ?_
  refine q_conv (fun w S => S.perm p2) ?_
  refine q_conv (fun w S => S.perm p1) ?_
  refine q_conv (fun w S => S.perm p2) ?_
  refine q_conv (L' := FltR k (⟨s.region, s.last, mset s.seen tg (IntKind.i64.wrap ((mget s.seen tg).getD (0 : Int) + 1))⟩ : FS) :: _) (fun w S => Sat.obj_mk m_1 trivial S) ?_
  refine q_conv (fun w S => (S.perm p1).tail) ?_
  exact f_ret (r_one rfl rfl) (⟨by rw [first_1]; unfold cnt; rw [mget_set, if_pos rfl]; rfl, rfl⟩) (fun w S => S)

theorem forder_ {W : World} {F : List Res} {k : Nat} {s : FS} {o : Order} (T_o : OrdR W F o) (hm : o.f_Marks.xs.length ≤ 1000000) : CS Try.prog 39 #[.pointer (some ⟨k, 0, none⟩), .agg #[.int .i64 o.f_Tag_Id_Node, .int .u64 o.f_Tag_Id_Epoch, .int .u64 o.f_Tag_Id_Seq, .int .i64 o.f_Tag_Try, .int .i64 o.f_Txn_Kind, .slice o.f_Txn_Reads.a (o.f_Txn_Reads.xs).length o.f_Txn_Reads.c, .slice o.f_Txn_Writes.a (o.f_Txn_Writes.xs).length o.f_Txn_Writes.c, .slice o.f_Txn_Ops.a (o.f_Txn_Ops.xs).length o.f_Txn_Ops.c, .int .i64 o.f_Txn_To, .slice o.f_Marks.a (o.f_Marks.xs).length o.f_Marks.c]] W (FltR k s :: F) (fun r L' => r = .bool (if single o then false else (s.first o.tag).1) ∧ L' = FltR k (if single o then s else (s.first o.tag).2) :: F) := by
 refine f_door (l0 := [(0, .pointer (some ⟨k, 0, none⟩)), (1, .agg #[.int .i64 o.f_Tag_Id_Node, .int .u64 o.f_Tag_Id_Epoch, .int .u64 o.f_Tag_Id_Seq, .int .i64 o.f_Tag_Try, .int .i64 o.f_Txn_Kind, .slice o.f_Txn_Reads.a (o.f_Txn_Reads.xs).length o.f_Txn_Reads.c, .slice o.f_Txn_Writes.a (o.f_Txn_Writes.xs).length o.f_Txn_Writes.c, .slice o.f_Txn_Ops.a (o.f_Txn_Ops.xs).length o.f_Txn_Ops.c, .int .i64 o.f_Txn_To, .slice o.f_Marks.a (o.f_Marks.xs).length o.f_Marks.c])]) Try.func39 Try.ntmps39 rfl rfl rfl ?_
 refine c_seq ?_
 refine c_region ?_
 refine o_box rfl rfl fun b3 => ?_
 refine o_assign rfl rfl ?_
 refine l_nil ?_
 refine q_then ?_
 refine c_seq ?_
 refine c_region ?_
 refine o_loadn (vs := [_, _, _, _, _, _, _, _, _, _]) rfl rfl Try.underlying40 rfl ti40 (rdn_lit 0 rfl rfl) ?_
 refine o_call rfl cal34 rfl (single_ (o := o) (OrdR.c (OrdR.c T_o)) (by omega)) ?_
 rintro _ _ ⟨rfl, rfl⟩
 refine o_not rfl rfl ?_
 refine o_move rfl rfl ?_
 refine l_split (t := 8) rfl (fun h1 => ?_) (fun h1 => ?_)
 · -- h1T
  have h1b := h1
  try simp only [Bool.not_eq_true', decide_eq_false_iff_not, Int.not_lt, Int.not_le] at h1
  have h1 : ¬ single o := by simpa using h1b
  refine o_yes rfl rfl rfl ?_
  refine o_move rfl rfl ?_
  refine o_yes rfl rfl rfl ?_
  refine o_fieldAddr (q := ⟨b3, 0, none⟩) rfl rfl Try.underlying40 rfl ti33 rfl ?_
  refine o_yes rfl rfl rfl ?_
  refine o_loadn (vs := [_, _, _, _]) rfl rfl Try.underlying33 rfl ti33 (rdn_lit 0 rfl rfl) ?_
  refine o_yes rfl rfl rfl ?_
  refine l_f1 ?_
  refine o_call rfl cal35 rfl (ffirst_ (tg := o.tag)) ?_
  rintro _ _ ⟨rfl, rfl⟩
  refine o_pick_true rfl rfl rfl ?_
  refine o_assign rfl rfl ?_
  refine l_nil ?_
  refine q_then ?_
  refine c_ret ?_
  refine q_conv (fun w S => (S.perm p1).tail) ?_
  exact f_ret (r_one rfl rfl) (⟨by rw [if_neg h1], by rw [if_neg h1]⟩) (fun w S => S)
 · -- h1F
  have h1b := h1
  try simp only [Bool.not_eq_false', decide_eq_true_eq] at h1
  have h1 : single o := by simpa using h1b
  refine o_no rfl rfl rfl rfl ?_
  refine o_no rfl rfl rfl rfl ?_
  refine o_no rfl rfl rfl rfl ?_
  refine o_no rfl rfl rfl rfl ?_
  refine o_pick_false rfl rfl rfl ?_
  refine o_assign rfl rfl ?_
  refine l_nil ?_
  refine q_then ?_
  refine c_ret ?_
  refine q_conv (fun w S => S.tail) ?_
  exact f_ret (r_one rfl rfl) (⟨by rw [if_pos h1], by rw [if_pos h1]⟩) (fun w S => S)

end Go.Proofs.Yteehongibjkjlaa
