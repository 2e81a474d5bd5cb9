/- Printed by eng2.py out of 09a/spec.py. -/
import Derived.Test.YtlblipkcbmcfkaaClone
import Derived.Test.YtlblipkcbmcfkaaRCopy
set_option linter.unusedVariables false
set_option linter.unusedSimpArgs false
set_option maxRecDepth 10000
namespace Go.Proofs.Ytlblipkcbmcfkaa
open Go.RowKit Classical
abbrev qzPCopy1 (t : Txn) : Obj := .cells #[.int .i64 t.f_Kind, .slice t.f_Reads.a (t.f_Reads.xs).length t.f_Reads.c, .slice t.f_Writes.a (t.f_Writes.xs).length t.f_Writes.c, .slice t.f_Ops.a (t.f_Ops.xs).length t.f_Ops.c, .int .i64 t.f_To] 30 (0, 0)
abbrev qzPCopy2 : Obj := .cells #[.int .i64 0, .slice none 0 0, .slice none 0 0, .slice none 0 0, .int .i64 0] 30 (0, 0)
abbrev qzPCopy3 (t : Txn) (a7 : Option Addr) (c7 : Nat) : Obj := .cells #[.int .i64 t.f_Kind, .slice a7 (t.f_Reads.xs).length c7, .slice t.f_Writes.a (t.f_Writes.xs).length t.f_Writes.c, .slice t.f_Ops.a (t.f_Ops.xs).length t.f_Ops.c, .int .i64 t.f_To] 30 (0, 0)
abbrev qzPCopy4 (t : Txn) (a7 : Option Addr) (c7 : Nat) (a10 : Option Addr) (c10 : Nat) : Obj := .cells #[.int .i64 t.f_Kind, .slice a7 (t.f_Reads.xs).length c7, .slice a10 (t.f_Writes.xs).length c10, .slice t.f_Ops.a (t.f_Ops.xs).length t.f_Ops.c, .int .i64 t.f_To] 30 (0, 0)
abbrev qzPCopy5 (t : Txn) (a7 : Option Addr) (c7 : Nat) (a10 : Option Addr) (c10 : Nat) (a13 : Option Addr) (c13 : Nat) : Obj := .cells #[.int .i64 t.f_Kind, .slice a7 (t.f_Reads.xs).length c7, .slice a10 (t.f_Writes.xs).length c10, .slice a13 (t.f_Ops.xs).length c13, .int .i64 t.f_To] 30 (0, 0)
abbrev qzPCopy6 (x23 : Op) : Obj := .cells #[.int .i64 x23.f_Kind, .string x23.f_Key, .slice x23.f_Value.a (x23.f_Value.xs).length x23.f_Value.c, .int .i64 x23.f_N] 53 (0, 0)
theorem pcopy_ {W : World} {F : List Res} {t : Txn} (T_t : TxR W F t) (small : Smalls t) : CS Try.prog 34 #[.agg #[.int .i64 t.f_Kind, .slice t.f_Reads.a (t.f_Reads.xs).length t.f_Reads.c, .slice t.f_Writes.a (t.f_Writes.xs).length t.f_Writes.c, .slice t.f_Ops.a (t.f_Ops.xs).length t.f_Ops.c, .int .i64 t.f_To]] W (F) (fun r L' => ∃ c : Txn, SameT c t ∧ r = .agg (e_Txn.cells c).toArray ∧ L' = txM c :: F) := by
 have hlr := small.r
 have hlw := small.w
 have hlo := small.o
 refine f_door (l0 := [(0, .agg #[.int .i64 t.f_Kind, .slice t.f_Reads.a (t.f_Reads.xs).length t.f_Reads.c, .slice t.f_Writes.a (t.f_Writes.xs).length t.f_Writes.c, .slice t.f_Ops.a (t.f_Ops.xs).length t.f_Ops.c, .int .i64 t.f_To])]) Try.func34 Try.ntmps34 rfl rfl rfl ?_
 refine c_seq ?_
 refine c_region ?_
 refine o_box rfl rfl fun b1 => ?_
 refine o_alloc rfl ti30 fun b2 => ?_
 refine l_nil ?_
 refine q_then ?_
 refine c_seq ?_
 refine c_mid (α := (Option Addr) × Nat × (Option Addr) × Nat × (Option Addr) × Nat) (fun z => [(0, .agg #[.int .i64 t.f_Kind, .slice t.f_Reads.a (t.f_Reads.xs).length t.f_Reads.c, .slice t.f_Writes.a (t.f_Writes.xs).length t.f_Writes.c, .slice t.f_Ops.a (t.f_Ops.xs).length t.f_Ops.c, .int .i64 t.f_To]), (1, .pointer (some ⟨b1, 0, none⟩)), (2, .pointer (some ⟨b2, 0, none⟩)), (5, .pointer (some ⟨b1, 1, none⟩)), (6, .slice t.f_Reads.a (t.f_Reads.xs).length t.f_Reads.c), (7, .slice z.1 (t.f_Reads.xs).length z.2.1), (8, .pointer (some ⟨b1, 2, none⟩)), (9, .slice t.f_Writes.a (t.f_Writes.xs).length t.f_Writes.c), (10, .slice z.2.2.1 (t.f_Writes.xs).length z.2.2.2.1), (11, .pointer (some ⟨b1, 3, none⟩)), (12, .slice t.f_Ops.a (t.f_Ops.xs).length t.f_Ops.c), (13, .slice z.2.2.2.2.1 (t.f_Ops.xs).length z.2.2.2.2.2), (14, .pointer (some ⟨b1, 1, none⟩)), (15, .pointer (some ⟨b1, 2, none⟩)), (16, .pointer (some ⟨b1, 3, none⟩))]) (fun z => blk b1 (.cells #[.int .i64 t.f_Kind, .slice z.1 (t.f_Reads.xs).length z.2.1, .slice z.2.2.1 (t.f_Writes.xs).length z.2.2.2.1, .slice z.2.2.2.2.1 (t.f_Ops.xs).length z.2.2.2.2.2, .int .i64 t.f_To] 30 (0, 0)) :: row e_Op.T e_Op.sz z.2.2.2.2.1 (t.f_Ops.xs).length z.2.2.2.2.2 (flat e_Op t.f_Ops.xs) :: row e_S.T e_S.sz z.2.2.1 (t.f_Writes.xs).length z.2.2.2.1 (flat e_S t.f_Writes.xs) :: row e_S.T e_S.sz z.1 (t.f_Reads.xs).length z.2.1 (flat e_S t.f_Reads.xs) :: blk b2 (qzPCopy2) :: F) (fun z => True) ?_ ?_
 · -- cut
  refine c_conv (fun w S => S.perm p1) ?_
  refine c_heldF [blk b1 (qzPCopy1 t)] (blk b2 (qzPCopy2) :: F) (by kernel_rfl) ?_
  refine h_take 0 rfl rfl (by kernel_rfl) (by kernel_rfl) (by kernel_rfl) (fun L0 => v_fieldAddr (q := ⟨b1, 1, none⟩) rfl rfl Try.underlying30 rfl ti27 rfl) ?_
  refine h_take 3 rfl rfl (by kernel_rfl) (by kernel_rfl) (by kernel_rfl) (fun L0 => v_fieldAddr (q := ⟨b1, 2, none⟩) rfl rfl Try.underlying30 rfl ti27 rfl) ?_
  refine h_take 6 rfl rfl (by kernel_rfl) (by kernel_rfl) (by kernel_rfl) (fun L0 => v_fieldAddr (q := ⟨b1, 3, none⟩) rfl rfl Try.underlying30 rfl ti28 rfl) ?_
  refine h_many (is := [1, 4, 7]) (by kernel_rfl) (by decide) (forall_cons ⟨_, rfl, ?_⟩ (forall_cons ⟨_, rfl, ?_⟩ (forall_cons ⟨_, rfl, ?_⟩ forall_nil)))
  · -- 1 comes first
   refine l_conv (L' := blk b1 (qzPCopy1 t) :: blk b2 (qzPCopy2) :: F) (fun w S => S.perm List.perm_append_comm) ?_
   refine o_load1 rfl rfl Try.underlying27 rfl (rd_mem 0 rfl rfl) ?_
   refine l_nil ?_
   refine q_conv (L' := (blk b2 (qzPCopy2) :: F) ++ [blk b1 (qzPCopy1 t)]) (fun w S => S.perm (List.perm_append_comm (l₁ := [blk b1 (qzPCopy1 t)]) (l₂ := blk b2 (qzPCopy2) :: F))) ?_
   refine h_next ?_
   refine h_many (is := [2, 4, 7]) (by kernel_rfl) (by decide) (forall_cons ⟨_, rfl, ?_⟩ (forall_cons ⟨_, rfl, ?_⟩ (forall_cons ⟨_, rfl, ?_⟩ forall_nil)))
   · -- 2 comes first
    refine l_conv (L' := blk b1 (qzPCopy1 t) :: blk b2 (qzPCopy2) :: F) (fun w S => S.perm List.perm_append_comm) ?_
    refine o_call rfl cal57 rfl (cloneS (TxR.c (TxR.c T_t)).rr (by show _ * 16 ≤ _; omega) (by omega)) ?_
    rintro _ _ ⟨a7, c7, rfl, rfl⟩
    refine l_nil ?_
    refine q_conv (L' := (blk b2 (qzPCopy2) :: F) ++ [row e_S.T e_S.sz a7 (t.f_Reads.xs).length c7 (flat e_S t.f_Reads.xs), blk b1 (qzPCopy1 t)]) (fun w S => S.perm (List.perm_append_comm (l₁ := [row e_S.T e_S.sz a7 (t.f_Reads.xs).length c7 (flat e_S t.f_Reads.xs), blk b1 (qzPCopy1 t)]) (l₂ := blk b2 (qzPCopy2) :: F))) ?_
    refine h_next ?_
    refine h_many (is := [4, 7]) (by kernel_rfl) (by decide) (forall_cons ⟨_, rfl, ?_⟩ (forall_cons ⟨_, rfl, ?_⟩ forall_nil))
    · -- 4 comes first
     refine l_conv (L' := row e_S.T e_S.sz a7 (t.f_Reads.xs).length c7 (flat e_S t.f_Reads.xs) :: blk b1 (qzPCopy1 t) :: blk b2 (qzPCopy2) :: F) (fun w S => S.perm List.perm_append_comm) ?_
     refine o_load1 rfl rfl Try.underlying27 rfl (rd_mem 1 rfl rfl) ?_
     refine l_nil ?_
     refine q_conv (L' := (blk b2 (qzPCopy2) :: F) ++ [row e_S.T e_S.sz a7 (t.f_Reads.xs).length c7 (flat e_S t.f_Reads.xs), blk b1 (qzPCopy1 t)]) (fun w S => S.perm (List.perm_append_comm (l₁ := [row e_S.T e_S.sz a7 (t.f_Reads.xs).length c7 (flat e_S t.f_Reads.xs), blk b1 (qzPCopy1 t)]) (l₂ := blk b2 (qzPCopy2) :: F))) ?_
     refine h_next ?_
     refine h_many (is := [5, 7]) (by kernel_rfl) (by decide) (forall_cons ⟨_, rfl, ?_⟩ (forall_cons ⟨_, rfl, ?_⟩ forall_nil))
     · -- 5 comes first
      refine l_conv (L' := row e_S.T e_S.sz a7 (t.f_Reads.xs).length c7 (flat e_S t.f_Reads.xs) :: blk b1 (qzPCopy1 t) :: blk b2 (qzPCopy2) :: F) (fun w S => S.perm List.perm_append_comm) ?_
      refine o_call rfl cal57 rfl (cloneS (TxR.c (TxR.c (TxR.c T_t))).rw (by show _ * 16 ≤ _; omega) (by omega)) ?_
      rintro _ _ ⟨a10, c10, rfl, rfl⟩
      refine l_nil ?_
      refine q_conv (L' := (blk b2 (qzPCopy2) :: F) ++ [row e_S.T e_S.sz a10 (t.f_Writes.xs).length c10 (flat e_S t.f_Writes.xs), row e_S.T e_S.sz a7 (t.f_Reads.xs).length c7 (flat e_S t.f_Reads.xs), blk b1 (qzPCopy1 t)]) (fun w S => S.perm (List.perm_append_comm (l₁ := [row e_S.T e_S.sz a10 (t.f_Writes.xs).length c10 (flat e_S t.f_Writes.xs), row e_S.T e_S.sz a7 (t.f_Reads.xs).length c7 (flat e_S t.f_Reads.xs), blk b1 (qzPCopy1 t)]) (l₂ := blk b2 (qzPCopy2) :: F))) ?_
      refine h_next ?_
      refine h_one 7 rfl (by kernel_rfl) ?_
      refine l_conv (L' := row e_S.T e_S.sz a10 (t.f_Writes.xs).length c10 (flat e_S t.f_Writes.xs) :: row e_S.T e_S.sz a7 (t.f_Reads.xs).length c7 (flat e_S t.f_Reads.xs) :: blk b1 (qzPCopy1 t) :: blk b2 (qzPCopy2) :: F) (fun w S => S.perm List.perm_append_comm) ?_
      refine o_load1 rfl rfl Try.underlying28 rfl (rd_mem 2 rfl rfl) ?_
      refine l_nil ?_
      refine q_conv (L' := (blk b2 (qzPCopy2) :: F) ++ [row e_S.T e_S.sz a10 (t.f_Writes.xs).length c10 (flat e_S t.f_Writes.xs), row e_S.T e_S.sz a7 (t.f_Reads.xs).length c7 (flat e_S t.f_Reads.xs), blk b1 (qzPCopy1 t)]) (fun w S => S.perm (List.perm_append_comm (l₁ := [row e_S.T e_S.sz a10 (t.f_Writes.xs).length c10 (flat e_S t.f_Writes.xs), row e_S.T e_S.sz a7 (t.f_Reads.xs).length c7 (flat e_S t.f_Reads.xs), blk b1 (qzPCopy1 t)]) (l₂ := blk b2 (qzPCopy2) :: F))) ?_
      refine h_next ?_
      refine h_take 9 rfl rfl (by kernel_rfl) (by kernel_rfl) (by kernel_rfl) (fun L0 => v_fieldAddr (q := ⟨b1, 1, none⟩) rfl rfl Try.underlying30 rfl ti27 rfl) ?_
      refine h_one 8 rfl (by kernel_rfl) ?_
      refine l_conv (L' := row e_S.T e_S.sz a10 (t.f_Writes.xs).length c10 (flat e_S t.f_Writes.xs) :: row e_S.T e_S.sz a7 (t.f_Reads.xs).length c7 (flat e_S t.f_Reads.xs) :: blk b1 (qzPCopy1 t) :: blk b2 (qzPCopy2) :: F) (fun w S => S.perm List.perm_append_comm) ?_
      refine o_call rfl cal58 rfl (cloneO (TxR.c (TxR.c (TxR.c (TxR.c T_t)))).ro (by show _ * 56 ≤ _; omega) (by omega)) ?_
      rintro _ _ ⟨a13, c13, rfl, rfl⟩
      refine l_nil ?_
      refine q_conv (L' := (blk b2 (qzPCopy2) :: F) ++ [row e_Op.T e_Op.sz a13 (t.f_Ops.xs).length c13 (flat e_Op t.f_Ops.xs), row e_S.T e_S.sz a10 (t.f_Writes.xs).length c10 (flat e_S t.f_Writes.xs), row e_S.T e_S.sz a7 (t.f_Reads.xs).length c7 (flat e_S t.f_Reads.xs), blk b1 (qzPCopy1 t)]) (fun w S => S.perm (List.perm_append_comm (l₁ := [row e_Op.T e_Op.sz a13 (t.f_Ops.xs).length c13 (flat e_Op t.f_Ops.xs), row e_S.T e_S.sz a10 (t.f_Writes.xs).length c10 (flat e_S t.f_Writes.xs), row e_S.T e_S.sz a7 (t.f_Reads.xs).length c7 (flat e_S t.f_Reads.xs), blk b1 (qzPCopy1 t)]) (l₂ := blk b2 (qzPCopy2) :: F))) ?_
      refine h_next ?_
      refine h_one 10 rfl (by kernel_rfl) ?_
      refine l_conv (L' := row e_Op.T e_Op.sz a13 (t.f_Ops.xs).length c13 (flat e_Op t.f_Ops.xs) :: row e_S.T e_S.sz a10 (t.f_Writes.xs).length c10 (flat e_S t.f_Writes.xs) :: row e_S.T e_S.sz a7 (t.f_Reads.xs).length c7 (flat e_S t.f_Reads.xs) :: blk b1 (qzPCopy1 t) :: blk b2 (qzPCopy2) :: F) (fun w S => S.perm List.perm_append_comm) ?_
      refine l_f3 ?_
      refine o_store1 rfl rfl rfl ti27 rfl rfl ?_
      refine l_nil ?_
      refine q_conv (L' := (blk b2 (qzPCopy2) :: F) ++ [blk b1 (qzPCopy3 t a7 c7), row e_Op.T e_Op.sz a13 (t.f_Ops.xs).length c13 (flat e_Op t.f_Ops.xs), row e_S.T e_S.sz a10 (t.f_Writes.xs).length c10 (flat e_S t.f_Writes.xs), row e_S.T e_S.sz a7 (t.f_Reads.xs).length c7 (flat e_S t.f_Reads.xs)]) (fun w S => S.perm (List.perm_append_comm (l₁ := [blk b1 (qzPCopy3 t a7 c7), row e_Op.T e_Op.sz a13 (t.f_Ops.xs).length c13 (flat e_Op t.f_Ops.xs), row e_S.T e_S.sz a10 (t.f_Writes.xs).length c10 (flat e_S t.f_Writes.xs), row e_S.T e_S.sz a7 (t.f_Reads.xs).length c7 (flat e_S t.f_Reads.xs)]) (l₂ := blk b2 (qzPCopy2) :: F))) ?_
      refine h_next ?_
      refine h_take 11 rfl rfl (by kernel_rfl) (by kernel_rfl) (by kernel_rfl) (fun L0 => v_fieldAddr (q := ⟨b1, 2, none⟩) rfl rfl Try.underlying30 rfl ti27 rfl) ?_
      refine h_one 12 rfl (by kernel_rfl) ?_
      refine l_conv (L' := blk b1 (qzPCopy3 t a7 c7) :: row e_Op.T e_Op.sz a13 (t.f_Ops.xs).length c13 (flat e_Op t.f_Ops.xs) :: row e_S.T e_S.sz a10 (t.f_Writes.xs).length c10 (flat e_S t.f_Writes.xs) :: row e_S.T e_S.sz a7 (t.f_Reads.xs).length c7 (flat e_S t.f_Reads.xs) :: blk b2 (qzPCopy2) :: F) (fun w S => S.perm List.perm_append_comm) ?_
      refine o_store1 rfl rfl rfl ti27 rfl rfl ?_
      refine l_nil ?_
      refine q_conv (L' := (blk b2 (qzPCopy2) :: F) ++ [blk b1 (qzPCopy4 t a7 c7 a10 c10), row e_Op.T e_Op.sz a13 (t.f_Ops.xs).length c13 (flat e_Op t.f_Ops.xs), row e_S.T e_S.sz a10 (t.f_Writes.xs).length c10 (flat e_S t.f_Writes.xs), row e_S.T e_S.sz a7 (t.f_Reads.xs).length c7 (flat e_S t.f_Reads.xs)]) (fun w S => S.perm (List.perm_append_comm (l₁ := [blk b1 (qzPCopy4 t a7 c7 a10 c10), row e_Op.T e_Op.sz a13 (t.f_Ops.xs).length c13 (flat e_Op t.f_Ops.xs), row e_S.T e_S.sz a10 (t.f_Writes.xs).length c10 (flat e_S t.f_Writes.xs), row e_S.T e_S.sz a7 (t.f_Reads.xs).length c7 (flat e_S t.f_Reads.xs)]) (l₂ := blk b2 (qzPCopy2) :: F))) ?_
      refine h_next ?_
      refine h_take 13 rfl rfl (by kernel_rfl) (by kernel_rfl) (by kernel_rfl) (fun L0 => v_fieldAddr (q := ⟨b1, 3, none⟩) rfl rfl Try.underlying30 rfl ti28 rfl) ?_
      refine h_one 14 rfl (by kernel_rfl) ?_
      refine l_conv (L' := blk b1 (qzPCopy4 t a7 c7 a10 c10) :: row e_Op.T e_Op.sz a13 (t.f_Ops.xs).length c13 (flat e_Op t.f_Ops.xs) :: row e_S.T e_S.sz a10 (t.f_Writes.xs).length c10 (flat e_S t.f_Writes.xs) :: row e_S.T e_S.sz a7 (t.f_Reads.xs).length c7 (flat e_S t.f_Reads.xs) :: blk b2 (qzPCopy2) :: F) (fun w S => S.perm List.perm_append_comm) ?_
      refine o_store1 rfl rfl rfl ti28 rfl rfl ?_
      refine l_nil ?_
      refine q_conv (L' := (blk b2 (qzPCopy2) :: F) ++ [blk b1 (qzPCopy5 t a7 c7 a10 c10 a13 c13), row e_Op.T e_Op.sz a13 (t.f_Ops.xs).length c13 (flat e_Op t.f_Ops.xs), row e_S.T e_S.sz a10 (t.f_Writes.xs).length c10 (flat e_S t.f_Writes.xs), row e_S.T e_S.sz a7 (t.f_Reads.xs).length c7 (flat e_S t.f_Reads.xs)]) (fun w S => S.perm (List.perm_append_comm (l₁ := [blk b1 (qzPCopy5 t a7 c7 a10 c10 a13 c13), row e_Op.T e_Op.sz a13 (t.f_Ops.xs).length c13 (flat e_Op t.f_Ops.xs), row e_S.T e_S.sz a10 (t.f_Writes.xs).length c10 (flat e_S t.f_Writes.xs), row e_S.T e_S.sz a7 (t.f_Reads.xs).length c7 (flat e_S t.f_Reads.xs)]) (l₂ := blk b2 (qzPCopy2) :: F))) ?_
      refine h_next ?_
      refine h_done (by kernel_rfl) ?_
      refine q_conv (L' := blk b1 (qzPCopy5 t a7 c7 a10 c10 a13 c13) :: row e_Op.T e_Op.sz a13 (t.f_Ops.xs).length c13 (flat e_Op t.f_Ops.xs) :: row e_S.T e_S.sz a10 (t.f_Writes.xs).length c10 (flat e_S t.f_Writes.xs) :: row e_S.T e_S.sz a7 (t.f_Reads.xs).length c7 (flat e_S t.f_Reads.xs) :: blk b2 (qzPCopy2) :: F) (fun w S => S.perm List.perm_append_comm) ?_
      exact q_mid (a7, c7, a10, c10, a13, c13) (by trivial) ⟨(by first | rfl | exact vint (by omega)), (by first | rfl | exact vint (by omega)), (by first | rfl | exact vint (by omega)), (by first | rfl | exact vint (by omega)), (by first | rfl | exact vint (by omega)), (by first | rfl | exact vint (by omega)), (by first | rfl | exact vint (by omega)), (by first | rfl | exact vint (by omega)), (by first | rfl | exact vint (by omega)), (by first | rfl | exact vint (by omega)), (by first | rfl | exact vint (by omega)), (by first | rfl | exact vint (by omega)), (by first | rfl | exact vint (by omega)), (by first | rfl | exact vint (by omega)), (by first | rfl | exact vint (by omega)), trivial⟩ (fun w S => S)
     · -- 7 comes first
      refine l_conv (L' := row e_S.T e_S.sz a7 (t.f_Reads.xs).length c7 (flat e_S t.f_Reads.xs) :: blk b1 (qzPCopy1 t) :: blk b2 (qzPCopy2) :: F) (fun w S => S.perm List.perm_append_comm) ?_
      refine o_load1 rfl rfl Try.underlying28 rfl (rd_mem 1 rfl rfl) ?_
      refine l_nil ?_
      refine q_conv (L' := (blk b2 (qzPCopy2) :: F) ++ [row e_S.T e_S.sz a7 (t.f_Reads.xs).length c7 (flat e_S t.f_Reads.xs), blk b1 (qzPCopy1 t)]) (fun w S => S.perm (List.perm_append_comm (l₁ := [row e_S.T e_S.sz a7 (t.f_Reads.xs).length c7 (flat e_S t.f_Reads.xs), blk b1 (qzPCopy1 t)]) (l₂ := blk b2 (qzPCopy2) :: F))) ?_
      refine h_next ?_
      refine h_take 9 rfl rfl (by kernel_rfl) (by kernel_rfl) (by kernel_rfl) (fun L0 => v_fieldAddr (q := ⟨b1, 1, none⟩) rfl rfl Try.underlying30 rfl ti27 rfl) ?_
      refine h_one 5 rfl (by kernel_rfl) ?_
      refine l_conv (L' := row e_S.T e_S.sz a7 (t.f_Reads.xs).length c7 (flat e_S t.f_Reads.xs) :: blk b1 (qzPCopy1 t) :: blk b2 (qzPCopy2) :: F) (fun w S => S.perm List.perm_append_comm) ?_
      refine o_call rfl cal57 rfl (cloneS (TxR.c (TxR.c (TxR.c T_t))).rw (by show _ * 16 ≤ _; omega) (by omega)) ?_
      rintro _ _ ⟨a10, c10, rfl, rfl⟩
      refine l_nil ?_
      refine q_conv (L' := (blk b2 (qzPCopy2) :: F) ++ [row e_S.T e_S.sz a10 (t.f_Writes.xs).length c10 (flat e_S t.f_Writes.xs), row e_S.T e_S.sz a7 (t.f_Reads.xs).length c7 (flat e_S t.f_Reads.xs), blk b1 (qzPCopy1 t)]) (fun w S => S.perm (List.perm_append_comm (l₁ := [row e_S.T e_S.sz a10 (t.f_Writes.xs).length c10 (flat e_S t.f_Writes.xs), row e_S.T e_S.sz a7 (t.f_Reads.xs).length c7 (flat e_S t.f_Reads.xs), blk b1 (qzPCopy1 t)]) (l₂ := blk b2 (qzPCopy2) :: F))) ?_
      refine h_next ?_
      refine h_one 8 rfl (by kernel_rfl) ?_
      refine l_conv (L' := row e_S.T e_S.sz a10 (t.f_Writes.xs).length c10 (flat e_S t.f_Writes.xs) :: row e_S.T e_S.sz a7 (t.f_Reads.xs).length c7 (flat e_S t.f_Reads.xs) :: blk b1 (qzPCopy1 t) :: blk b2 (qzPCopy2) :: F) (fun w S => S.perm List.perm_append_comm) ?_
      refine o_call rfl cal58 rfl (cloneO (TxR.c (TxR.c (TxR.c (TxR.c T_t)))).ro (by show _ * 56 ≤ _; omega) (by omega)) ?_
      rintro _ _ ⟨a13, c13, rfl, rfl⟩
      refine l_nil ?_
      refine q_conv (L' := (blk b2 (qzPCopy2) :: F) ++ [row e_Op.T e_Op.sz a13 (t.f_Ops.xs).length c13 (flat e_Op t.f_Ops.xs), row e_S.T e_S.sz a10 (t.f_Writes.xs).length c10 (flat e_S t.f_Writes.xs), row e_S.T e_S.sz a7 (t.f_Reads.xs).length c7 (flat e_S t.f_Reads.xs), blk b1 (qzPCopy1 t)]) (fun w S => S.perm (List.perm_append_comm (l₁ := [row e_Op.T e_Op.sz a13 (t.f_Ops.xs).length c13 (flat e_Op t.f_Ops.xs), row e_S.T e_S.sz a10 (t.f_Writes.xs).length c10 (flat e_S t.f_Writes.xs), row e_S.T e_S.sz a7 (t.f_Reads.xs).length c7 (flat e_S t.f_Reads.xs), blk b1 (qzPCopy1 t)]) (l₂ := blk b2 (qzPCopy2) :: F))) ?_
      refine h_next ?_
      refine h_one 10 rfl (by kernel_rfl) ?_
      refine l_conv (L' := row e_Op.T e_Op.sz a13 (t.f_Ops.xs).length c13 (flat e_Op t.f_Ops.xs) :: row e_S.T e_S.sz a10 (t.f_Writes.xs).length c10 (flat e_S t.f_Writes.xs) :: row e_S.T e_S.sz a7 (t.f_Reads.xs).length c7 (flat e_S t.f_Reads.xs) :: blk b1 (qzPCopy1 t) :: blk b2 (qzPCopy2) :: F) (fun w S => S.perm List.perm_append_comm) ?_
      refine l_f3 ?_
      refine o_store1 rfl rfl rfl ti27 rfl rfl ?_
      refine l_nil ?_
      refine q_conv (L' := (blk b2 (qzPCopy2) :: F) ++ [blk b1 (qzPCopy3 t a7 c7), row e_Op.T e_Op.sz a13 (t.f_Ops.xs).length c13 (flat e_Op t.f_Ops.xs), row e_S.T e_S.sz a10 (t.f_Writes.xs).length c10 (flat e_S t.f_Writes.xs), row e_S.T e_S.sz a7 (t.f_Reads.xs).length c7 (flat e_S t.f_Reads.xs)]) (fun w S => S.perm (List.perm_append_comm (l₁ := [blk b1 (qzPCopy3 t a7 c7), row e_Op.T e_Op.sz a13 (t.f_Ops.xs).length c13 (flat e_Op t.f_Ops.xs), row e_S.T e_S.sz a10 (t.f_Writes.xs).length c10 (flat e_S t.f_Writes.xs), row e_S.T e_S.sz a7 (t.f_Reads.xs).length c7 (flat e_S t.f_Reads.xs)]) (l₂ := blk b2 (qzPCopy2) :: F))) ?_
      refine h_next ?_
      refine h_take 11 rfl rfl (by kernel_rfl) (by kernel_rfl) (by kernel_rfl) (fun L0 => v_fieldAddr (q := ⟨b1, 2, none⟩) rfl rfl Try.underlying30 rfl ti27 rfl) ?_
      refine h_one 12 rfl (by kernel_rfl) ?_
      refine l_conv (L' := blk b1 (qzPCopy3 t a7 c7) :: row e_Op.T e_Op.sz a13 (t.f_Ops.xs).length c13 (flat e_Op t.f_Ops.xs) :: row e_S.T e_S.sz a10 (t.f_Writes.xs).length c10 (flat e_S t.f_Writes.xs) :: row e_S.T e_S.sz a7 (t.f_Reads.xs).length c7 (flat e_S t.f_Reads.xs) :: blk b2 (qzPCopy2) :: F) (fun w S => S.perm List.perm_append_comm) ?_
      refine o_store1 rfl rfl rfl ti27 rfl rfl ?_
      refine l_nil ?_
      refine q_conv (L' := (blk b2 (qzPCopy2) :: F) ++ [blk b1 (qzPCopy4 t a7 c7 a10 c10), row e_Op.T e_Op.sz a13 (t.f_Ops.xs).length c13 (flat e_Op t.f_Ops.xs), row e_S.T e_S.sz a10 (t.f_Writes.xs).length c10 (flat e_S t.f_Writes.xs), row e_S.T e_S.sz a7 (t.f_Reads.xs).length c7 (flat e_S t.f_Reads.xs)]) (fun w S => S.perm (List.perm_append_comm (l₁ := [blk b1 (qzPCopy4 t a7 c7 a10 c10), row e_Op.T e_Op.sz a13 (t.f_Ops.xs).length c13 (flat e_Op t.f_Ops.xs), row e_S.T e_S.sz a10 (t.f_Writes.xs).length c10 (flat e_S t.f_Writes.xs), row e_S.T e_S.sz a7 (t.f_Reads.xs).length c7 (flat e_S t.f_Reads.xs)]) (l₂ := blk b2 (qzPCopy2) :: F))) ?_
      refine h_next ?_
      refine h_take 13 rfl rfl (by kernel_rfl) (by kernel_rfl) (by kernel_rfl) (fun L0 => v_fieldAddr (q := ⟨b1, 3, none⟩) rfl rfl Try.underlying30 rfl ti28 rfl) ?_
      refine h_one 14 rfl (by kernel_rfl) ?_
      refine l_conv (L' := blk b1 (qzPCopy4 t a7 c7 a10 c10) :: row e_Op.T e_Op.sz a13 (t.f_Ops.xs).length c13 (flat e_Op t.f_Ops.xs) :: row e_S.T e_S.sz a10 (t.f_Writes.xs).length c10 (flat e_S t.f_Writes.xs) :: row e_S.T e_S.sz a7 (t.f_Reads.xs).length c7 (flat e_S t.f_Reads.xs) :: blk b2 (qzPCopy2) :: F) (fun w S => S.perm List.perm_append_comm) ?_
      refine o_store1 rfl rfl rfl ti28 rfl rfl ?_
      refine l_nil ?_
      refine q_conv (L' := (blk b2 (qzPCopy2) :: F) ++ [blk b1 (qzPCopy5 t a7 c7 a10 c10 a13 c13), row e_Op.T e_Op.sz a13 (t.f_Ops.xs).length c13 (flat e_Op t.f_Ops.xs), row e_S.T e_S.sz a10 (t.f_Writes.xs).length c10 (flat e_S t.f_Writes.xs), row e_S.T e_S.sz a7 (t.f_Reads.xs).length c7 (flat e_S t.f_Reads.xs)]) (fun w S => S.perm (List.perm_append_comm (l₁ := [blk b1 (qzPCopy5 t a7 c7 a10 c10 a13 c13), row e_Op.T e_Op.sz a13 (t.f_Ops.xs).length c13 (flat e_Op t.f_Ops.xs), row e_S.T e_S.sz a10 (t.f_Writes.xs).length c10 (flat e_S t.f_Writes.xs), row e_S.T e_S.sz a7 (t.f_Reads.xs).length c7 (flat e_S t.f_Reads.xs)]) (l₂ := blk b2 (qzPCopy2) :: F))) ?_
      refine h_next ?_
      refine h_done (by kernel_rfl) ?_
      refine q_conv (L' := blk b1 (qzPCopy5 t a7 c7 a10 c10 a13 c13) :: row e_Op.T e_Op.sz a13 (t.f_Ops.xs).length c13 (flat e_Op t.f_Ops.xs) :: row e_S.T e_S.sz a10 (t.f_Writes.xs).length c10 (flat e_S t.f_Writes.xs) :: row e_S.T e_S.sz a7 (t.f_Reads.xs).length c7 (flat e_S t.f_Reads.xs) :: blk b2 (qzPCopy2) :: F) (fun w S => S.perm List.perm_append_comm) ?_
      exact q_mid (a7, c7, a10, c10, a13, c13) (by trivial) ⟨(by first | rfl | exact vint (by omega)), (by first | rfl | exact vint (by omega)), (by first | rfl | exact vint (by omega)), (by first | rfl | exact vint (by omega)), (by first | rfl | exact vint (by omega)), (by first | rfl | exact vint (by omega)), (by first | rfl | exact vint (by omega)), (by first | rfl | exact vint (by omega)), (by first | rfl | exact vint (by omega)), (by first | rfl | exact vint (by omega)), (by first | rfl | exact vint (by omega)), (by first | rfl | exact vint (by omega)), (by first | rfl | exact vint (by omega)), (by first | rfl | exact vint (by omega)), (by first | rfl | exact vint (by omega)), trivial⟩ (fun w S => S)
    · -- 7 comes first
     refine l_conv (L' := row e_S.T e_S.sz a7 (t.f_Reads.xs).length c7 (flat e_S t.f_Reads.xs) :: blk b1 (qzPCopy1 t) :: blk b2 (qzPCopy2) :: F) (fun w S => S.perm List.perm_append_comm) ?_
     refine o_load1 rfl rfl Try.underlying28 rfl (rd_mem 1 rfl rfl) ?_
     refine l_nil ?_
     refine q_conv (L' := (blk b2 (qzPCopy2) :: F) ++ [row e_S.T e_S.sz a7 (t.f_Reads.xs).length c7 (flat e_S t.f_Reads.xs), blk b1 (qzPCopy1 t)]) (fun w S => S.perm (List.perm_append_comm (l₁ := [row e_S.T e_S.sz a7 (t.f_Reads.xs).length c7 (flat e_S t.f_Reads.xs), blk b1 (qzPCopy1 t)]) (l₂ := blk b2 (qzPCopy2) :: F))) ?_
     refine h_next ?_
     refine h_one 4 rfl (by kernel_rfl) ?_
     refine l_conv (L' := row e_S.T e_S.sz a7 (t.f_Reads.xs).length c7 (flat e_S t.f_Reads.xs) :: blk b1 (qzPCopy1 t) :: blk b2 (qzPCopy2) :: F) (fun w S => S.perm List.perm_append_comm) ?_
     refine o_load1 rfl rfl Try.underlying27 rfl (rd_mem 1 rfl rfl) ?_
     refine l_nil ?_
     refine q_conv (L' := (blk b2 (qzPCopy2) :: F) ++ [row e_S.T e_S.sz a7 (t.f_Reads.xs).length c7 (flat e_S t.f_Reads.xs), blk b1 (qzPCopy1 t)]) (fun w S => S.perm (List.perm_append_comm (l₁ := [row e_S.T e_S.sz a7 (t.f_Reads.xs).length c7 (flat e_S t.f_Reads.xs), blk b1 (qzPCopy1 t)]) (l₂ := blk b2 (qzPCopy2) :: F))) ?_
     refine h_next ?_
     refine h_take 9 rfl rfl (by kernel_rfl) (by kernel_rfl) (by kernel_rfl) (fun L0 => v_fieldAddr (q := ⟨b1, 1, none⟩) rfl rfl Try.underlying30 rfl ti27 rfl) ?_
     refine h_one 5 rfl (by kernel_rfl) ?_
     refine l_conv (L' := row e_S.T e_S.sz a7 (t.f_Reads.xs).length c7 (flat e_S t.f_Reads.xs) :: blk b1 (qzPCopy1 t) :: blk b2 (qzPCopy2) :: F) (fun w S => S.perm List.perm_append_comm) ?_
     refine o_call rfl cal57 rfl (cloneS (TxR.c (TxR.c (TxR.c T_t))).rw (by show _ * 16 ≤ _; omega) (by omega)) ?_
     rintro _ _ ⟨a10, c10, rfl, rfl⟩
     refine l_nil ?_
     refine q_conv (L' := (blk b2 (qzPCopy2) :: F) ++ [row e_S.T e_S.sz a10 (t.f_Writes.xs).length c10 (flat e_S t.f_Writes.xs), row e_S.T e_S.sz a7 (t.f_Reads.xs).length c7 (flat e_S t.f_Reads.xs), blk b1 (qzPCopy1 t)]) (fun w S => S.perm (List.perm_append_comm (l₁ := [row e_S.T e_S.sz a10 (t.f_Writes.xs).length c10 (flat e_S t.f_Writes.xs), row e_S.T e_S.sz a7 (t.f_Reads.xs).length c7 (flat e_S t.f_Reads.xs), blk b1 (qzPCopy1 t)]) (l₂ := blk b2 (qzPCopy2) :: F))) ?_
     refine h_next ?_
     refine h_one 8 rfl (by kernel_rfl) ?_
     refine l_conv (L' := row e_S.T e_S.sz a10 (t.f_Writes.xs).length c10 (flat e_S t.f_Writes.xs) :: row e_S.T e_S.sz a7 (t.f_Reads.xs).length c7 (flat e_S t.f_Reads.xs) :: blk b1 (qzPCopy1 t) :: blk b2 (qzPCopy2) :: F) (fun w S => S.perm List.perm_append_comm) ?_
     refine o_call rfl cal58 rfl (cloneO (TxR.c (TxR.c (TxR.c (TxR.c T_t)))).ro (by show _ * 56 ≤ _; omega) (by omega)) ?_
     rintro _ _ ⟨a13, c13, rfl, rfl⟩
     refine l_nil ?_
     refine q_conv (L' := (blk b2 (qzPCopy2) :: F) ++ [row e_Op.T e_Op.sz a13 (t.f_Ops.xs).length c13 (flat e_Op t.f_Ops.xs), row e_S.T e_S.sz a10 (t.f_Writes.xs).length c10 (flat e_S t.f_Writes.xs), row e_S.T e_S.sz a7 (t.f_Reads.xs).length c7 (flat e_S t.f_Reads.xs), blk b1 (qzPCopy1 t)]) (fun w S => S.perm (List.perm_append_comm (l₁ := [row e_Op.T e_Op.sz a13 (t.f_Ops.xs).length c13 (flat e_Op t.f_Ops.xs), row e_S.T e_S.sz a10 (t.f_Writes.xs).length c10 (flat e_S t.f_Writes.xs), row e_S.T e_S.sz a7 (t.f_Reads.xs).length c7 (flat e_S t.f_Reads.xs), blk b1 (qzPCopy1 t)]) (l₂ := blk b2 (qzPCopy2) :: F))) ?_
     refine h_next ?_
     refine h_one 10 rfl (by kernel_rfl) ?_
     refine l_conv (L' := row e_Op.T e_Op.sz a13 (t.f_Ops.xs).length c13 (flat e_Op t.f_Ops.xs) :: row e_S.T e_S.sz a10 (t.f_Writes.xs).length c10 (flat e_S t.f_Writes.xs) :: row e_S.T e_S.sz a7 (t.f_Reads.xs).length c7 (flat e_S t.f_Reads.xs) :: blk b1 (qzPCopy1 t) :: blk b2 (qzPCopy2) :: F) (fun w S => S.perm List.perm_append_comm) ?_
     refine l_f3 ?_
     refine o_store1 rfl rfl rfl ti27 rfl rfl ?_
     refine l_nil ?_
     refine q_conv (L' := (blk b2 (qzPCopy2) :: F) ++ [blk b1 (qzPCopy3 t a7 c7), row e_Op.T e_Op.sz a13 (t.f_Ops.xs).length c13 (flat e_Op t.f_Ops.xs), row e_S.T e_S.sz a10 (t.f_Writes.xs).length c10 (flat e_S t.f_Writes.xs), row e_S.T e_S.sz a7 (t.f_Reads.xs).length c7 (flat e_S t.f_Reads.xs)]) (fun w S => S.perm (List.perm_append_comm (l₁ := [blk b1 (qzPCopy3 t a7 c7), row e_Op.T e_Op.sz a13 (t.f_Ops.xs).length c13 (flat e_Op t.f_Ops.xs), row e_S.T e_S.sz a10 (t.f_Writes.xs).length c10 (flat e_S t.f_Writes.xs), row e_S.T e_S.sz a7 (t.f_Reads.xs).length c7 (flat e_S t.f_Reads.xs)]) (l₂ := blk b2 (qzPCopy2) :: F))) ?_
     refine h_next ?_
     refine h_take 11 rfl rfl (by kernel_rfl) (by kernel_rfl) (by kernel_rfl) (fun L0 => v_fieldAddr (q := ⟨b1, 2, none⟩) rfl rfl Try.underlying30 rfl ti27 rfl) ?_
     refine h_one 12 rfl (by kernel_rfl) ?_
     refine l_conv (L' := blk b1 (qzPCopy3 t a7 c7) :: row e_Op.T e_Op.sz a13 (t.f_Ops.xs).length c13 (flat e_Op t.f_Ops.xs) :: row e_S.T e_S.sz a10 (t.f_Writes.xs).length c10 (flat e_S t.f_Writes.xs) :: row e_S.T e_S.sz a7 (t.f_Reads.xs).length c7 (flat e_S t.f_Reads.xs) :: blk b2 (qzPCopy2) :: F) (fun w S => S.perm List.perm_append_comm) ?_
     refine o_store1 rfl rfl rfl ti27 rfl rfl ?_
     refine l_nil ?_
     refine q_conv (L' := (blk b2 (qzPCopy2) :: F) ++ [blk b1 (qzPCopy4 t a7 c7 a10 c10), row e_Op.T e_Op.sz a13 (t.f_Ops.xs).length c13 (flat e_Op t.f_Ops.xs), row e_S.T e_S.sz a10 (t.f_Writes.xs).length c10 (flat e_S t.f_Writes.xs), row e_S.T e_S.sz a7 (t.f_Reads.xs).length c7 (flat e_S t.f_Reads.xs)]) (fun w S => S.perm (List.perm_append_comm (l₁ := [blk b1 (qzPCopy4 t a7 c7 a10 c10), row e_Op.T e_Op.sz a13 (t.f_Ops.xs).length c13 (flat e_Op t.f_Ops.xs), row e_S.T e_S.sz a10 (t.f_Writes.xs).length c10 (flat e_S t.f_Writes.xs), row e_S.T e_S.sz a7 (t.f_Reads.xs).length c7 (flat e_S t.f_Reads.xs)]) (l₂ := blk b2 (qzPCopy2) :: F))) ?_
     refine h_next ?_
     refine h_take 13 rfl rfl (by kernel_rfl) (by kernel_rfl) (by kernel_rfl) (fun L0 => v_fieldAddr (q := ⟨b1, 3, none⟩) rfl rfl Try.underlying30 rfl ti28 rfl) ?_
     refine h_one 14 rfl (by kernel_rfl) ?_
     refine l_conv (L' := blk b1 (qzPCopy4 t a7 c7 a10 c10) :: row e_Op.T e_Op.sz a13 (t.f_Ops.xs).length c13 (flat e_Op t.f_Ops.xs) :: row e_S.T e_S.sz a10 (t.f_Writes.xs).length c10 (flat e_S t.f_Writes.xs) :: row e_S.T e_S.sz a7 (t.f_Reads.xs).length c7 (flat e_S t.f_Reads.xs) :: blk b2 (qzPCopy2) :: F) (fun w S => S.perm List.perm_append_comm) ?_
     refine o_store1 rfl rfl rfl ti28 rfl rfl ?_
     refine l_nil ?_
     refine q_conv (L' := (blk b2 (qzPCopy2) :: F) ++ [blk b1 (qzPCopy5 t a7 c7 a10 c10 a13 c13), row e_Op.T e_Op.sz a13 (t.f_Ops.xs).length c13 (flat e_Op t.f_Ops.xs), row e_S.T e_S.sz a10 (t.f_Writes.xs).length c10 (flat e_S t.f_Writes.xs), row e_S.T e_S.sz a7 (t.f_Reads.xs).length c7 (flat e_S t.f_Reads.xs)]) (fun w S => S.perm (List.perm_append_comm (l₁ := [blk b1 (qzPCopy5 t a7 c7 a10 c10 a13 c13), row e_Op.T e_Op.sz a13 (t.f_Ops.xs).length c13 (flat e_Op t.f_Ops.xs), row e_S.T e_S.sz a10 (t.f_Writes.xs).length c10 (flat e_S t.f_Writes.xs), row e_S.T e_S.sz a7 (t.f_Reads.xs).length c7 (flat e_S t.f_Reads.xs)]) (l₂ := blk b2 (qzPCopy2) :: F))) ?_
     refine h_next ?_
     refine h_done (by kernel_rfl) ?_
     refine q_conv (L' := blk b1 (qzPCopy5 t a7 c7 a10 c10 a13 c13) :: row e_Op.T e_Op.sz a13 (t.f_Ops.xs).length c13 (flat e_Op t.f_Ops.xs) :: row e_S.T e_S.sz a10 (t.f_Writes.xs).length c10 (flat e_S t.f_Writes.xs) :: row e_S.T e_S.sz a7 (t.f_Reads.xs).length c7 (flat e_S t.f_Reads.xs) :: blk b2 (qzPCopy2) :: F) (fun w S => S.perm List.perm_append_comm) ?_
     exact q_mid (a7, c7, a10, c10, a13, c13) (by trivial) ⟨(by first | rfl | exact vint (by omega)), (by first | rfl | exact vint (by omega)), (by first | rfl | exact vint (by omega)), (by first | rfl | exact vint (by omega)), (by first | rfl | exact vint (by omega)), (by first | rfl | exact vint (by omega)), (by first | rfl | exact vint (by omega)), (by first | rfl | exact vint (by omega)), (by first | rfl | exact vint (by omega)), (by first | rfl | exact vint (by omega)), (by first | rfl | exact vint (by omega)), (by first | rfl | exact vint (by omega)), (by first | rfl | exact vint (by omega)), (by first | rfl | exact vint (by omega)), (by first | rfl | exact vint (by omega)), trivial⟩ (fun w S => S)
   · -- 4 comes first
    refine l_conv (L' := blk b1 (qzPCopy1 t) :: blk b2 (qzPCopy2) :: F) (fun w S => S.perm List.perm_append_comm) ?_
    refine o_load1 rfl rfl Try.underlying27 rfl (rd_mem 0 rfl rfl) ?_
    refine l_nil ?_
    refine q_conv (L' := (blk b2 (qzPCopy2) :: F) ++ [blk b1 (qzPCopy1 t)]) (fun w S => S.perm (List.perm_append_comm (l₁ := [blk b1 (qzPCopy1 t)]) (l₂ := blk b2 (qzPCopy2) :: F))) ?_
    refine h_next ?_
    refine h_many (is := [2, 7]) (by kernel_rfl) (by decide) (forall_cons ⟨_, rfl, ?_⟩ (forall_cons ⟨_, rfl, ?_⟩ forall_nil))
    · -- 2 comes first
     refine l_conv (L' := blk b1 (qzPCopy1 t) :: blk b2 (qzPCopy2) :: F) (fun w S => S.perm List.perm_append_comm) ?_
     refine o_call rfl cal57 rfl (cloneS (TxR.c (TxR.c T_t)).rr (by show _ * 16 ≤ _; omega) (by omega)) ?_
     rintro _ _ ⟨a7, c7, rfl, rfl⟩
     refine l_nil ?_
     refine q_conv (L' := (blk b2 (qzPCopy2) :: F) ++ [row e_S.T e_S.sz a7 (t.f_Reads.xs).length c7 (flat e_S t.f_Reads.xs), blk b1 (qzPCopy1 t)]) (fun w S => S.perm (List.perm_append_comm (l₁ := [row e_S.T e_S.sz a7 (t.f_Reads.xs).length c7 (flat e_S t.f_Reads.xs), blk b1 (qzPCopy1 t)]) (l₂ := blk b2 (qzPCopy2) :: F))) ?_
     refine h_next ?_
     refine h_many (is := [5, 7]) (by kernel_rfl) (by decide) (forall_cons ⟨_, rfl, ?_⟩ (forall_cons ⟨_, rfl, ?_⟩ forall_nil))
     · -- 5 comes first
      refine l_conv (L' := row e_S.T e_S.sz a7 (t.f_Reads.xs).length c7 (flat e_S t.f_Reads.xs) :: blk b1 (qzPCopy1 t) :: blk b2 (qzPCopy2) :: F) (fun w S => S.perm List.perm_append_comm) ?_
      refine o_call rfl cal57 rfl (cloneS (TxR.c (TxR.c (TxR.c T_t))).rw (by show _ * 16 ≤ _; omega) (by omega)) ?_
      rintro _ _ ⟨a10, c10, rfl, rfl⟩
      refine l_nil ?_
      refine q_conv (L' := (blk b2 (qzPCopy2) :: F) ++ [row e_S.T e_S.sz a10 (t.f_Writes.xs).length c10 (flat e_S t.f_Writes.xs), row e_S.T e_S.sz a7 (t.f_Reads.xs).length c7 (flat e_S t.f_Reads.xs), blk b1 (qzPCopy1 t)]) (fun w S => S.perm (List.perm_append_comm (l₁ := [row e_S.T e_S.sz a10 (t.f_Writes.xs).length c10 (flat e_S t.f_Writes.xs), row e_S.T e_S.sz a7 (t.f_Reads.xs).length c7 (flat e_S t.f_Reads.xs), blk b1 (qzPCopy1 t)]) (l₂ := blk b2 (qzPCopy2) :: F))) ?_
      refine h_next ?_
      refine h_one 7 rfl (by kernel_rfl) ?_
      refine l_conv (L' := row e_S.T e_S.sz a10 (t.f_Writes.xs).length c10 (flat e_S t.f_Writes.xs) :: row e_S.T e_S.sz a7 (t.f_Reads.xs).length c7 (flat e_S t.f_Reads.xs) :: blk b1 (qzPCopy1 t) :: blk b2 (qzPCopy2) :: F) (fun w S => S.perm List.perm_append_comm) ?_
      refine o_load1 rfl rfl Try.underlying28 rfl (rd_mem 2 rfl rfl) ?_
      refine l_nil ?_
      refine q_conv (L' := (blk b2 (qzPCopy2) :: F) ++ [row e_S.T e_S.sz a10 (t.f_Writes.xs).length c10 (flat e_S t.f_Writes.xs), row e_S.T e_S.sz a7 (t.f_Reads.xs).length c7 (flat e_S t.f_Reads.xs), blk b1 (qzPCopy1 t)]) (fun w S => S.perm (List.perm_append_comm (l₁ := [row e_S.T e_S.sz a10 (t.f_Writes.xs).length c10 (flat e_S t.f_Writes.xs), row e_S.T e_S.sz a7 (t.f_Reads.xs).length c7 (flat e_S t.f_Reads.xs), blk b1 (qzPCopy1 t)]) (l₂ := blk b2 (qzPCopy2) :: F))) ?_
      refine h_next ?_
      refine h_take 9 rfl rfl (by kernel_rfl) (by kernel_rfl) (by kernel_rfl) (fun L0 => v_fieldAddr (q := ⟨b1, 1, none⟩) rfl rfl Try.underlying30 rfl ti27 rfl) ?_
      refine h_one 8 rfl (by kernel_rfl) ?_
      refine l_conv (L' := row e_S.T e_S.sz a10 (t.f_Writes.xs).length c10 (flat e_S t.f_Writes.xs) :: row e_S.T e_S.sz a7 (t.f_Reads.xs).length c7 (flat e_S t.f_Reads.xs) :: blk b1 (qzPCopy1 t) :: blk b2 (qzPCopy2) :: F) (fun w S => S.perm List.perm_append_comm) ?_
      refine o_call rfl cal58 rfl (cloneO (TxR.c (TxR.c (TxR.c (TxR.c T_t)))).ro (by show _ * 56 ≤ _; omega) (by omega)) ?_
      rintro _ _ ⟨a13, c13, rfl, rfl⟩
      refine l_nil ?_
      refine q_conv (L' := (blk b2 (qzPCopy2) :: F) ++ [row e_Op.T e_Op.sz a13 (t.f_Ops.xs).length c13 (flat e_Op t.f_Ops.xs), row e_S.T e_S.sz a10 (t.f_Writes.xs).length c10 (flat e_S t.f_Writes.xs), row e_S.T e_S.sz a7 (t.f_Reads.xs).length c7 (flat e_S t.f_Reads.xs), blk b1 (qzPCopy1 t)]) (fun w S => S.perm (List.perm_append_comm (l₁ := [row e_Op.T e_Op.sz a13 (t.f_Ops.xs).length c13 (flat e_Op t.f_Ops.xs), row e_S.T e_S.sz a10 (t.f_Writes.xs).length c10 (flat e_S t.f_Writes.xs), row e_S.T e_S.sz a7 (t.f_Reads.xs).length c7 (flat e_S t.f_Reads.xs), blk b1 (qzPCopy1 t)]) (l₂ := blk b2 (qzPCopy2) :: F))) ?_
      refine h_next ?_
      refine h_one 10 rfl (by kernel_rfl) ?_
      refine l_conv (L' := row e_Op.T e_Op.sz a13 (t.f_Ops.xs).length c13 (flat e_Op t.f_Ops.xs) :: row e_S.T e_S.sz a10 (t.f_Writes.xs).length c10 (flat e_S t.f_Writes.xs) :: row e_S.T e_S.sz a7 (t.f_Reads.xs).length c7 (flat e_S t.f_Reads.xs) :: blk b1 (qzPCopy1 t) :: blk b2 (qzPCopy2) :: F) (fun w S => S.perm List.perm_append_comm) ?_
      refine l_f3 ?_
      refine o_store1 rfl rfl rfl ti27 rfl rfl ?_
      refine l_nil ?_
      refine q_conv (L' := (blk b2 (qzPCopy2) :: F) ++ [blk b1 (qzPCopy3 t a7 c7), row e_Op.T e_Op.sz a13 (t.f_Ops.xs).length c13 (flat e_Op t.f_Ops.xs), row e_S.T e_S.sz a10 (t.f_Writes.xs).length c10 (flat e_S t.f_Writes.xs), row e_S.T e_S.sz a7 (t.f_Reads.xs).length c7 (flat e_S t.f_Reads.xs)]) (fun w S => S.perm (List.perm_append_comm (l₁ := [blk b1 (qzPCopy3 t a7 c7), row e_Op.T e_Op.sz a13 (t.f_Ops.xs).length c13 (flat e_Op t.f_Ops.xs), row e_S.T e_S.sz a10 (t.f_Writes.xs).length c10 (flat e_S t.f_Writes.xs), row e_S.T e_S.sz a7 (t.f_Reads.xs).length c7 (flat e_S t.f_Reads.xs)]) (l₂ := blk b2 (qzPCopy2) :: F))) ?_
      refine h_next ?_
      refine h_take 11 rfl rfl (by kernel_rfl) (by kernel_rfl) (by kernel_rfl) (fun L0 => v_fieldAddr (q := ⟨b1, 2, none⟩) rfl rfl Try.underlying30 rfl ti27 rfl) ?_
      refine h_one 12 rfl (by kernel_rfl) ?_
      refine l_conv (L' := blk b1 (qzPCopy3 t a7 c7) :: row e_Op.T e_Op.sz a13 (t.f_Ops.xs).length c13 (flat e_Op t.f_Ops.xs) :: row e_S.T e_S.sz a10 (t.f_Writes.xs).length c10 (flat e_S t.f_Writes.xs) :: row e_S.T e_S.sz a7 (t.f_Reads.xs).length c7 (flat e_S t.f_Reads.xs) :: blk b2 (qzPCopy2) :: F) (fun w S => S.perm List.perm_append_comm) ?_
      refine o_store1 rfl rfl rfl ti27 rfl rfl ?_
      refine l_nil ?_
      refine q_conv (L' := (blk b2 (qzPCopy2) :: F) ++ [blk b1 (qzPCopy4 t a7 c7 a10 c10), row e_Op.T e_Op.sz a13 (t.f_Ops.xs).length c13 (flat e_Op t.f_Ops.xs), row e_S.T e_S.sz a10 (t.f_Writes.xs).length c10 (flat e_S t.f_Writes.xs), row e_S.T e_S.sz a7 (t.f_Reads.xs).length c7 (flat e_S t.f_Reads.xs)]) (fun w S => S.perm (List.perm_append_comm (l₁ := [blk b1 (qzPCopy4 t a7 c7 a10 c10), row e_Op.T e_Op.sz a13 (t.f_Ops.xs).length c13 (flat e_Op t.f_Ops.xs), row e_S.T e_S.sz a10 (t.f_Writes.xs).length c10 (flat e_S t.f_Writes.xs), row e_S.T e_S.sz a7 (t.f_Reads.xs).length c7 (flat e_S t.f_Reads.xs)]) (l₂ := blk b2 (qzPCopy2) :: F))) ?_
      refine h_next ?_
      refine h_take 13 rfl rfl (by kernel_rfl) (by kernel_rfl) (by kernel_rfl) (fun L0 => v_fieldAddr (q := ⟨b1, 3, none⟩) rfl rfl Try.underlying30 rfl ti28 rfl) ?_
      refine h_one 14 rfl (by kernel_rfl) ?_
      refine l_conv (L' := blk b1 (qzPCopy4 t a7 c7 a10 c10) :: row e_Op.T e_Op.sz a13 (t.f_Ops.xs).length c13 (flat e_Op t.f_Ops.xs) :: row e_S.T e_S.sz a10 (t.f_Writes.xs).length c10 (flat e_S t.f_Writes.xs) :: row e_S.T e_S.sz a7 (t.f_Reads.xs).length c7 (flat e_S t.f_Reads.xs) :: blk b2 (qzPCopy2) :: F) (fun w S => S.perm List.perm_append_comm) ?_
      refine o_store1 rfl rfl rfl ti28 rfl rfl ?_
      refine l_nil ?_
      refine q_conv (L' := (blk b2 (qzPCopy2) :: F) ++ [blk b1 (qzPCopy5 t a7 c7 a10 c10 a13 c13), row e_Op.T e_Op.sz a13 (t.f_Ops.xs).length c13 (flat e_Op t.f_Ops.xs), row e_S.T e_S.sz a10 (t.f_Writes.xs).length c10 (flat e_S t.f_Writes.xs), row e_S.T e_S.sz a7 (t.f_Reads.xs).length c7 (flat e_S t.f_Reads.xs)]) (fun w S => S.perm (List.perm_append_comm (l₁ := [blk b1 (qzPCopy5 t a7 c7 a10 c10 a13 c13), row e_Op.T e_Op.sz a13 (t.f_Ops.xs).length c13 (flat e_Op t.f_Ops.xs), row e_S.T e_S.sz a10 (t.f_Writes.xs).length c10 (flat e_S t.f_Writes.xs), row e_S.T e_S.sz a7 (t.f_Reads.xs).length c7 (flat e_S t.f_Reads.xs)]) (l₂ := blk b2 (qzPCopy2) :: F))) ?_
      refine h_next ?_
      refine h_done (by kernel_rfl) ?_
      refine q_conv (L' := blk b1 (qzPCopy5 t a7 c7 a10 c10 a13 c13) :: row e_Op.T e_Op.sz a13 (t.f_Ops.xs).length c13 (flat e_Op t.f_Ops.xs) :: row e_S.T e_S.sz a10 (t.f_Writes.xs).length c10 (flat e_S t.f_Writes.xs) :: row e_S.T e_S.sz a7 (t.f_Reads.xs).length c7 (flat e_S t.f_Reads.xs) :: blk b2 (qzPCopy2) :: F) (fun w S => S.perm List.perm_append_comm) ?_
      exact q_mid (a7, c7, a10, c10, a13, c13) (by trivial) ⟨(by first | rfl | exact vint (by omega)), (by first | rfl | exact vint (by omega)), (by first | rfl | exact vint (by omega)), (by first | rfl | exact vint (by omega)), (by first | rfl | exact vint (by omega)), (by first | rfl | exact vint (by omega)), (by first | rfl | exact vint (by omega)), (by first | rfl | exact vint (by omega)), (by first | rfl | exact vint (by omega)), (by first | rfl | exact vint (by omega)), (by first | rfl | exact vint (by omega)), (by first | rfl | exact vint (by omega)), (by first | rfl | exact vint (by omega)), (by first | rfl | exact vint (by omega)), (by first | rfl | exact vint (by omega)), trivial⟩ (fun w S => S)
     · -- 7 comes first
      refine l_conv (L' := row e_S.T e_S.sz a7 (t.f_Reads.xs).length c7 (flat e_S t.f_Reads.xs) :: blk b1 (qzPCopy1 t) :: blk b2 (qzPCopy2) :: F) (fun w S => S.perm List.perm_append_comm) ?_
      refine o_load1 rfl rfl Try.underlying28 rfl (rd_mem 1 rfl rfl) ?_
      refine l_nil ?_
      refine q_conv (L' := (blk b2 (qzPCopy2) :: F) ++ [row e_S.T e_S.sz a7 (t.f_Reads.xs).length c7 (flat e_S t.f_Reads.xs), blk b1 (qzPCopy1 t)]) (fun w S => S.perm (List.perm_append_comm (l₁ := [row e_S.T e_S.sz a7 (t.f_Reads.xs).length c7 (flat e_S t.f_Reads.xs), blk b1 (qzPCopy1 t)]) (l₂ := blk b2 (qzPCopy2) :: F))) ?_
      refine h_next ?_
      refine h_take 9 rfl rfl (by kernel_rfl) (by kernel_rfl) (by kernel_rfl) (fun L0 => v_fieldAddr (q := ⟨b1, 1, none⟩) rfl rfl Try.underlying30 rfl ti27 rfl) ?_
      refine h_one 5 rfl (by kernel_rfl) ?_
      refine l_conv (L' := row e_S.T e_S.sz a7 (t.f_Reads.xs).length c7 (flat e_S t.f_Reads.xs) :: blk b1 (qzPCopy1 t) :: blk b2 (qzPCopy2) :: F) (fun w S => S.perm List.perm_append_comm) ?_
      refine o_call rfl cal57 rfl (cloneS (TxR.c (TxR.c (TxR.c T_t))).rw (by show _ * 16 ≤ _; omega) (by omega)) ?_
      rintro _ _ ⟨a10, c10, rfl, rfl⟩
      refine l_nil ?_
      refine q_conv (L' := (blk b2 (qzPCopy2) :: F) ++ [row e_S.T e_S.sz a10 (t.f_Writes.xs).length c10 (flat e_S t.f_Writes.xs), row e_S.T e_S.sz a7 (t.f_Reads.xs).length c7 (flat e_S t.f_Reads.xs), blk b1 (qzPCopy1 t)]) (fun w S => S.perm (List.perm_append_comm (l₁ := [row e_S.T e_S.sz a10 (t.f_Writes.xs).length c10 (flat e_S t.f_Writes.xs), row e_S.T e_S.sz a7 (t.f_Reads.xs).length c7 (flat e_S t.f_Reads.xs), blk b1 (qzPCopy1 t)]) (l₂ := blk b2 (qzPCopy2) :: F))) ?_
      refine h_next ?_
      refine h_one 8 rfl (by kernel_rfl) ?_
      refine l_conv (L' := row e_S.T e_S.sz a10 (t.f_Writes.xs).length c10 (flat e_S t.f_Writes.xs) :: row e_S.T e_S.sz a7 (t.f_Reads.xs).length c7 (flat e_S t.f_Reads.xs) :: blk b1 (qzPCopy1 t) :: blk b2 (qzPCopy2) :: F) (fun w S => S.perm List.perm_append_comm) ?_
      refine o_call rfl cal58 rfl (cloneO (TxR.c (TxR.c (TxR.c (TxR.c T_t)))).ro (by show _ * 56 ≤ _; omega) (by omega)) ?_
      rintro _ _ ⟨a13, c13, rfl, rfl⟩
      refine l_nil ?_
      refine q_conv (L' := (blk b2 (qzPCopy2) :: F) ++ [row e_Op.T e_Op.sz a13 (t.f_Ops.xs).length c13 (flat e_Op t.f_Ops.xs), row e_S.T e_S.sz a10 (t.f_Writes.xs).length c10 (flat e_S t.f_Writes.xs), row e_S.T e_S.sz a7 (t.f_Reads.xs).length c7 (flat e_S t.f_Reads.xs), blk b1 (qzPCopy1 t)]) (fun w S => S.perm (List.perm_append_comm (l₁ := [row e_Op.T e_Op.sz a13 (t.f_Ops.xs).length c13 (flat e_Op t.f_Ops.xs), row e_S.T e_S.sz a10 (t.f_Writes.xs).length c10 (flat e_S t.f_Writes.xs), row e_S.T e_S.sz a7 (t.f_Reads.xs).length c7 (flat e_S t.f_Reads.xs), blk b1 (qzPCopy1 t)]) (l₂ := blk b2 (qzPCopy2) :: F))) ?_
      refine h_next ?_
      refine h_one 10 rfl (by kernel_rfl) ?_
      refine l_conv (L' := row e_Op.T e_Op.sz a13 (t.f_Ops.xs).length c13 (flat e_Op t.f_Ops.xs) :: row e_S.T e_S.sz a10 (t.f_Writes.xs).length c10 (flat e_S t.f_Writes.xs) :: row e_S.T e_S.sz a7 (t.f_Reads.xs).length c7 (flat e_S t.f_Reads.xs) :: blk b1 (qzPCopy1 t) :: blk b2 (qzPCopy2) :: F) (fun w S => S.perm List.perm_append_comm) ?_
      refine l_f3 ?_
      refine o_store1 rfl rfl rfl ti27 rfl rfl ?_
      refine l_nil ?_
      refine q_conv (L' := (blk b2 (qzPCopy2) :: F) ++ [blk b1 (qzPCopy3 t a7 c7), row e_Op.T e_Op.sz a13 (t.f_Ops.xs).length c13 (flat e_Op t.f_Ops.xs), row e_S.T e_S.sz a10 (t.f_Writes.xs).length c10 (flat e_S t.f_Writes.xs), row e_S.T e_S.sz a7 (t.f_Reads.xs).length c7 (flat e_S t.f_Reads.xs)]) (fun w S => S.perm (List.perm_append_comm (l₁ := [blk b1 (qzPCopy3 t a7 c7), row e_Op.T e_Op.sz a13 (t.f_Ops.xs).length c13 (flat e_Op t.f_Ops.xs), row e_S.T e_S.sz a10 (t.f_Writes.xs).length c10 (flat e_S t.f_Writes.xs), row e_S.T e_S.sz a7 (t.f_Reads.xs).length c7 (flat e_S t.f_Reads.xs)]) (l₂ := blk b2 (qzPCopy2) :: F))) ?_
      refine h_next ?_
      refine h_take 11 rfl rfl (by kernel_rfl) (by kernel_rfl) (by kernel_rfl) (fun L0 => v_fieldAddr (q := ⟨b1, 2, none⟩) rfl rfl Try.underlying30 rfl ti27 rfl) ?_
      refine h_one 12 rfl (by kernel_rfl) ?_
      refine l_conv (L' := blk b1 (qzPCopy3 t a7 c7) :: row e_Op.T e_Op.sz a13 (t.f_Ops.xs).length c13 (flat e_Op t.f_Ops.xs) :: row e_S.T e_S.sz a10 (t.f_Writes.xs).length c10 (flat e_S t.f_Writes.xs) :: row e_S.T e_S.sz a7 (t.f_Reads.xs).length c7 (flat e_S t.f_Reads.xs) :: blk b2 (qzPCopy2) :: F) (fun w S => S.perm List.perm_append_comm) ?_
      refine o_store1 rfl rfl rfl ti27 rfl rfl ?_
      refine l_nil ?_
      refine q_conv (L' := (blk b2 (qzPCopy2) :: F) ++ [blk b1 (qzPCopy4 t a7 c7 a10 c10), row e_Op.T e_Op.sz a13 (t.f_Ops.xs).length c13 (flat e_Op t.f_Ops.xs), row e_S.T e_S.sz a10 (t.f_Writes.xs).length c10 (flat e_S t.f_Writes.xs), row e_S.T e_S.sz a7 (t.f_Reads.xs).length c7 (flat e_S t.f_Reads.xs)]) (fun w S => S.perm (List.perm_append_comm (l₁ := [blk b1 (qzPCopy4 t a7 c7 a10 c10), row e_Op.T e_Op.sz a13 (t.f_Ops.xs).length c13 (flat e_Op t.f_Ops.xs), row e_S.T e_S.sz a10 (t.f_Writes.xs).length c10 (flat e_S t.f_Writes.xs), row e_S.T e_S.sz a7 (t.f_Reads.xs).length c7 (flat e_S t.f_Reads.xs)]) (l₂ := blk b2 (qzPCopy2) :: F))) ?_
      refine h_next ?_
      refine h_take 13 rfl rfl (by kernel_rfl) (by kernel_rfl) (by kernel_rfl) (fun L0 => v_fieldAddr (q := ⟨b1, 3, none⟩) rfl rfl Try.underlying30 rfl ti28 rfl) ?_
      refine h_one 14 rfl (by kernel_rfl) ?_
      refine l_conv (L' := blk b1 (qzPCopy4 t a7 c7 a10 c10) :: row e_Op.T e_Op.sz a13 (t.f_Ops.xs).length c13 (flat e_Op t.f_Ops.xs) :: row e_S.T e_S.sz a10 (t.f_Writes.xs).length c10 (flat e_S t.f_Writes.xs) :: row e_S.T e_S.sz a7 (t.f_Reads.xs).length c7 (flat e_S t.f_Reads.xs) :: blk b2 (qzPCopy2) :: F) (fun w S => S.perm List.perm_append_comm) ?_
      refine o_store1 rfl rfl rfl ti28 rfl rfl ?_
      refine l_nil ?_
      refine q_conv (L' := (blk b2 (qzPCopy2) :: F) ++ [blk b1 (qzPCopy5 t a7 c7 a10 c10 a13 c13), row e_Op.T e_Op.sz a13 (t.f_Ops.xs).length c13 (flat e_Op t.f_Ops.xs), row e_S.T e_S.sz a10 (t.f_Writes.xs).length c10 (flat e_S t.f_Writes.xs), row e_S.T e_S.sz a7 (t.f_Reads.xs).length c7 (flat e_S t.f_Reads.xs)]) (fun w S => S.perm (List.perm_append_comm (l₁ := [blk b1 (qzPCopy5 t a7 c7 a10 c10 a13 c13), row e_Op.T e_Op.sz a13 (t.f_Ops.xs).length c13 (flat e_Op t.f_Ops.xs), row e_S.T e_S.sz a10 (t.f_Writes.xs).length c10 (flat e_S t.f_Writes.xs), row e_S.T e_S.sz a7 (t.f_Reads.xs).length c7 (flat e_S t.f_Reads.xs)]) (l₂ := blk b2 (qzPCopy2) :: F))) ?_
      refine h_next ?_
      refine h_done (by kernel_rfl) ?_
      refine q_conv (L' := blk b1 (qzPCopy5 t a7 c7 a10 c10 a13 c13) :: row e_Op.T e_Op.sz a13 (t.f_Ops.xs).length c13 (flat e_Op t.f_Ops.xs) :: row e_S.T e_S.sz a10 (t.f_Writes.xs).length c10 (flat e_S t.f_Writes.xs) :: row e_S.T e_S.sz a7 (t.f_Reads.xs).length c7 (flat e_S t.f_Reads.xs) :: blk b2 (qzPCopy2) :: F) (fun w S => S.perm List.perm_append_comm) ?_
      exact q_mid (a7, c7, a10, c10, a13, c13) (by trivial) ⟨(by first | rfl | exact vint (by omega)), (by first | rfl | exact vint (by omega)), (by first | rfl | exact vint (by omega)), (by first | rfl | exact vint (by omega)), (by first | rfl | exact vint (by omega)), (by first | rfl | exact vint (by omega)), (by first | rfl | exact vint (by omega)), (by first | rfl | exact vint (by omega)), (by first | rfl | exact vint (by omega)), (by first | rfl | exact vint (by omega)), (by first | rfl | exact vint (by omega)), (by first | rfl | exact vint (by omega)), (by first | rfl | exact vint (by omega)), (by first | rfl | exact vint (by omega)), (by first | rfl | exact vint (by omega)), trivial⟩ (fun w S => S)
    · -- 7 comes first
     refine l_conv (L' := blk b1 (qzPCopy1 t) :: blk b2 (qzPCopy2) :: F) (fun w S => S.perm List.perm_append_comm) ?_
     refine o_load1 rfl rfl Try.underlying28 rfl (rd_mem 0 rfl rfl) ?_
     refine l_nil ?_
     refine q_conv (L' := (blk b2 (qzPCopy2) :: F) ++ [blk b1 (qzPCopy1 t)]) (fun w S => S.perm (List.perm_append_comm (l₁ := [blk b1 (qzPCopy1 t)]) (l₂ := blk b2 (qzPCopy2) :: F))) ?_
     refine h_next ?_
     refine h_one 2 rfl (by kernel_rfl) ?_
     refine l_conv (L' := blk b1 (qzPCopy1 t) :: blk b2 (qzPCopy2) :: F) (fun w S => S.perm List.perm_append_comm) ?_
     refine o_call rfl cal57 rfl (cloneS (TxR.c (TxR.c T_t)).rr (by show _ * 16 ≤ _; omega) (by omega)) ?_
     rintro _ _ ⟨a7, c7, rfl, rfl⟩
     refine l_nil ?_
     refine q_conv (L' := (blk b2 (qzPCopy2) :: F) ++ [row e_S.T e_S.sz a7 (t.f_Reads.xs).length c7 (flat e_S t.f_Reads.xs), blk b1 (qzPCopy1 t)]) (fun w S => S.perm (List.perm_append_comm (l₁ := [row e_S.T e_S.sz a7 (t.f_Reads.xs).length c7 (flat e_S t.f_Reads.xs), blk b1 (qzPCopy1 t)]) (l₂ := blk b2 (qzPCopy2) :: F))) ?_
     refine h_next ?_
     refine h_take 9 rfl rfl (by kernel_rfl) (by kernel_rfl) (by kernel_rfl) (fun L0 => v_fieldAddr (q := ⟨b1, 1, none⟩) rfl rfl Try.underlying30 rfl ti27 rfl) ?_
     refine h_one 5 rfl (by kernel_rfl) ?_
     refine l_conv (L' := row e_S.T e_S.sz a7 (t.f_Reads.xs).length c7 (flat e_S t.f_Reads.xs) :: blk b1 (qzPCopy1 t) :: blk b2 (qzPCopy2) :: F) (fun w S => S.perm List.perm_append_comm) ?_
     refine o_call rfl cal57 rfl (cloneS (TxR.c (TxR.c (TxR.c T_t))).rw (by show _ * 16 ≤ _; omega) (by omega)) ?_
     rintro _ _ ⟨a10, c10, rfl, rfl⟩
     refine l_nil ?_
     refine q_conv (L' := (blk b2 (qzPCopy2) :: F) ++ [row e_S.T e_S.sz a10 (t.f_Writes.xs).length c10 (flat e_S t.f_Writes.xs), row e_S.T e_S.sz a7 (t.f_Reads.xs).length c7 (flat e_S t.f_Reads.xs), blk b1 (qzPCopy1 t)]) (fun w S => S.perm (List.perm_append_comm (l₁ := [row e_S.T e_S.sz a10 (t.f_Writes.xs).length c10 (flat e_S t.f_Writes.xs), row e_S.T e_S.sz a7 (t.f_Reads.xs).length c7 (flat e_S t.f_Reads.xs), blk b1 (qzPCopy1 t)]) (l₂ := blk b2 (qzPCopy2) :: F))) ?_
     refine h_next ?_
     refine h_one 8 rfl (by kernel_rfl) ?_
     refine l_conv (L' := row e_S.T e_S.sz a10 (t.f_Writes.xs).length c10 (flat e_S t.f_Writes.xs) :: row e_S.T e_S.sz a7 (t.f_Reads.xs).length c7 (flat e_S t.f_Reads.xs) :: blk b1 (qzPCopy1 t) :: blk b2 (qzPCopy2) :: F) (fun w S => S.perm List.perm_append_comm) ?_
     refine o_call rfl cal58 rfl (cloneO (TxR.c (TxR.c (TxR.c (TxR.c T_t)))).ro (by show _ * 56 ≤ _; omega) (by omega)) ?_
     rintro _ _ ⟨a13, c13, rfl, rfl⟩
     refine l_nil ?_
     refine q_conv (L' := (blk b2 (qzPCopy2) :: F) ++ [row e_Op.T e_Op.sz a13 (t.f_Ops.xs).length c13 (flat e_Op t.f_Ops.xs), row e_S.T e_S.sz a10 (t.f_Writes.xs).length c10 (flat e_S t.f_Writes.xs), row e_S.T e_S.sz a7 (t.f_Reads.xs).length c7 (flat e_S t.f_Reads.xs), blk b1 (qzPCopy1 t)]) (fun w S => S.perm (List.perm_append_comm (l₁ := [row e_Op.T e_Op.sz a13 (t.f_Ops.xs).length c13 (flat e_Op t.f_Ops.xs), row e_S.T e_S.sz a10 (t.f_Writes.xs).length c10 (flat e_S t.f_Writes.xs), row e_S.T e_S.sz a7 (t.f_Reads.xs).length c7 (flat e_S t.f_Reads.xs), blk b1 (qzPCopy1 t)]) (l₂ := blk b2 (qzPCopy2) :: F))) ?_
     refine h_next ?_
     refine h_one 10 rfl (by kernel_rfl) ?_
     refine l_conv (L' := row e_Op.T e_Op.sz a13 (t.f_Ops.xs).length c13 (flat e_Op t.f_Ops.xs) :: row e_S.T e_S.sz a10 (t.f_Writes.xs).length c10 (flat e_S t.f_Writes.xs) :: row e_S.T e_S.sz a7 (t.f_Reads.xs).length c7 (flat e_S t.f_Reads.xs) :: blk b1 (qzPCopy1 t) :: blk b2 (qzPCopy2) :: F) (fun w S => S.perm List.perm_append_comm) ?_
     refine l_f3 ?_
     refine o_store1 rfl rfl rfl ti27 rfl rfl ?_
     refine l_nil ?_
     refine q_conv (L' := (blk b2 (qzPCopy2) :: F) ++ [blk b1 (qzPCopy3 t a7 c7), row e_Op.T e_Op.sz a13 (t.f_Ops.xs).length c13 (flat e_Op t.f_Ops.xs), row e_S.T e_S.sz a10 (t.f_Writes.xs).length c10 (flat e_S t.f_Writes.xs), row e_S.T e_S.sz a7 (t.f_Reads.xs).length c7 (flat e_S t.f_Reads.xs)]) (fun w S => S.perm (List.perm_append_comm (l₁ := [blk b1 (qzPCopy3 t a7 c7), row e_Op.T e_Op.sz a13 (t.f_Ops.xs).length c13 (flat e_Op t.f_Ops.xs), row e_S.T e_S.sz a10 (t.f_Writes.xs).length c10 (flat e_S t.f_Writes.xs), row e_S.T e_S.sz a7 (t.f_Reads.xs).length c7 (flat e_S t.f_Reads.xs)]) (l₂ := blk b2 (qzPCopy2) :: F))) ?_
     refine h_next ?_
     refine h_take 11 rfl rfl (by kernel_rfl) (by kernel_rfl) (by kernel_rfl) (fun L0 => v_fieldAddr (q := ⟨b1, 2, none⟩) rfl rfl Try.underlying30 rfl ti27 rfl) ?_
     refine h_one 12 rfl (by kernel_rfl) ?_
     refine l_conv (L' := blk b1 (qzPCopy3 t a7 c7) :: row e_Op.T e_Op.sz a13 (t.f_Ops.xs).length c13 (flat e_Op t.f_Ops.xs) :: row e_S.T e_S.sz a10 (t.f_Writes.xs).length c10 (flat e_S t.f_Writes.xs) :: row e_S.T e_S.sz a7 (t.f_Reads.xs).length c7 (flat e_S t.f_Reads.xs) :: blk b2 (qzPCopy2) :: F) (fun w S => S.perm List.perm_append_comm) ?_
     refine o_store1 rfl rfl rfl ti27 rfl rfl ?_
     refine l_nil ?_
     refine q_conv (L' := (blk b2 (qzPCopy2) :: F) ++ [blk b1 (qzPCopy4 t a7 c7 a10 c10), row e_Op.T e_Op.sz a13 (t.f_Ops.xs).length c13 (flat e_Op t.f_Ops.xs), row e_S.T e_S.sz a10 (t.f_Writes.xs).length c10 (flat e_S t.f_Writes.xs), row e_S.T e_S.sz a7 (t.f_Reads.xs).length c7 (flat e_S t.f_Reads.xs)]) (fun w S => S.perm (List.perm_append_comm (l₁ := [blk b1 (qzPCopy4 t a7 c7 a10 c10), row e_Op.T e_Op.sz a13 (t.f_Ops.xs).length c13 (flat e_Op t.f_Ops.xs), row e_S.T e_S.sz a10 (t.f_Writes.xs).length c10 (flat e_S t.f_Writes.xs), row e_S.T e_S.sz a7 (t.f_Reads.xs).length c7 (flat e_S t.f_Reads.xs)]) (l₂ := blk b2 (qzPCopy2) :: F))) ?_
     refine h_next ?_
     refine h_take 13 rfl rfl (by kernel_rfl) (by kernel_rfl) (by kernel_rfl) (fun L0 => v_fieldAddr (q := ⟨b1, 3, none⟩) rfl rfl Try.underlying30 rfl ti28 rfl) ?_
     refine h_one 14 rfl (by kernel_rfl) ?_
     refine l_conv (L' := blk b1 (qzPCopy4 t a7 c7 a10 c10) :: row e_Op.T e_Op.sz a13 (t.f_Ops.xs).length c13 (flat e_Op t.f_Ops.xs) :: row e_S.T e_S.sz a10 (t.f_Writes.xs).length c10 (flat e_S t.f_Writes.xs) :: row e_S.T e_S.sz a7 (t.f_Reads.xs).length c7 (flat e_S t.f_Reads.xs) :: blk b2 (qzPCopy2) :: F) (fun w S => S.perm List.perm_append_comm) ?_
     refine o_store1 rfl rfl rfl ti28 rfl rfl ?_
     refine l_nil ?_
     refine q_conv (L' := (blk b2 (qzPCopy2) :: F) ++ [blk b1 (qzPCopy5 t a7 c7 a10 c10 a13 c13), row e_Op.T e_Op.sz a13 (t.f_Ops.xs).length c13 (flat e_Op t.f_Ops.xs), row e_S.T e_S.sz a10 (t.f_Writes.xs).length c10 (flat e_S t.f_Writes.xs), row e_S.T e_S.sz a7 (t.f_Reads.xs).length c7 (flat e_S t.f_Reads.xs)]) (fun w S => S.perm (List.perm_append_comm (l₁ := [blk b1 (qzPCopy5 t a7 c7 a10 c10 a13 c13), row e_Op.T e_Op.sz a13 (t.f_Ops.xs).length c13 (flat e_Op t.f_Ops.xs), row e_S.T e_S.sz a10 (t.f_Writes.xs).length c10 (flat e_S t.f_Writes.xs), row e_S.T e_S.sz a7 (t.f_Reads.xs).length c7 (flat e_S t.f_Reads.xs)]) (l₂ := blk b2 (qzPCopy2) :: F))) ?_
     refine h_next ?_
     refine h_done (by kernel_rfl) ?_
     refine q_conv (L' := blk b1 (qzPCopy5 t a7 c7 a10 c10 a13 c13) :: row e_Op.T e_Op.sz a13 (t.f_Ops.xs).length c13 (flat e_Op t.f_Ops.xs) :: row e_S.T e_S.sz a10 (t.f_Writes.xs).length c10 (flat e_S t.f_Writes.xs) :: row e_S.T e_S.sz a7 (t.f_Reads.xs).length c7 (flat e_S t.f_Reads.xs) :: blk b2 (qzPCopy2) :: F) (fun w S => S.perm List.perm_append_comm) ?_
     exact q_mid (a7, c7, a10, c10, a13, c13) (by trivial) ⟨(by first | rfl | exact vint (by omega)), (by first | rfl | exact vint (by omega)), (by first | rfl | exact vint (by omega)), (by first | rfl | exact vint (by omega)), (by first | rfl | exact vint (by omega)), (by first | rfl | exact vint (by omega)), (by first | rfl | exact vint (by omega)), (by first | rfl | exact vint (by omega)), (by first | rfl | exact vint (by omega)), (by first | rfl | exact vint (by omega)), (by first | rfl | exact vint (by omega)), (by first | rfl | exact vint (by omega)), (by first | rfl | exact vint (by omega)), (by first | rfl | exact vint (by omega)), (by first | rfl | exact vint (by omega)), trivial⟩ (fun w S => S)
   · -- 7 comes first
    refine l_conv (L' := blk b1 (qzPCopy1 t) :: blk b2 (qzPCopy2) :: F) (fun w S => S.perm List.perm_append_comm) ?_
    refine o_load1 rfl rfl Try.underlying28 rfl (rd_mem 0 rfl rfl) ?_
    refine l_nil ?_
    refine q_conv (L' := (blk b2 (qzPCopy2) :: F) ++ [blk b1 (qzPCopy1 t)]) (fun w S => S.perm (List.perm_append_comm (l₁ := [blk b1 (qzPCopy1 t)]) (l₂ := blk b2 (qzPCopy2) :: F))) ?_
    refine h_next ?_
    refine h_many (is := [2, 4]) (by kernel_rfl) (by decide) (forall_cons ⟨_, rfl, ?_⟩ (forall_cons ⟨_, rfl, ?_⟩ forall_nil))
    · -- 2 comes first
     refine l_conv (L' := blk b1 (qzPCopy1 t) :: blk b2 (qzPCopy2) :: F) (fun w S => S.perm List.perm_append_comm) ?_
     refine o_call rfl cal57 rfl (cloneS (TxR.c (TxR.c T_t)).rr (by show _ * 16 ≤ _; omega) (by omega)) ?_
     rintro _ _ ⟨a7, c7, rfl, rfl⟩
     refine l_nil ?_
     refine q_conv (L' := (blk b2 (qzPCopy2) :: F) ++ [row e_S.T e_S.sz a7 (t.f_Reads.xs).length c7 (flat e_S t.f_Reads.xs), blk b1 (qzPCopy1 t)]) (fun w S => S.perm (List.perm_append_comm (l₁ := [row e_S.T e_S.sz a7 (t.f_Reads.xs).length c7 (flat e_S t.f_Reads.xs), blk b1 (qzPCopy1 t)]) (l₂ := blk b2 (qzPCopy2) :: F))) ?_
     refine h_next ?_
     refine h_one 4 rfl (by kernel_rfl) ?_
     refine l_conv (L' := row e_S.T e_S.sz a7 (t.f_Reads.xs).length c7 (flat e_S t.f_Reads.xs) :: blk b1 (qzPCopy1 t) :: blk b2 (qzPCopy2) :: F) (fun w S => S.perm List.perm_append_comm) ?_
     refine o_load1 rfl rfl Try.underlying27 rfl (rd_mem 1 rfl rfl) ?_
     refine l_nil ?_
     refine q_conv (L' := (blk b2 (qzPCopy2) :: F) ++ [row e_S.T e_S.sz a7 (t.f_Reads.xs).length c7 (flat e_S t.f_Reads.xs), blk b1 (qzPCopy1 t)]) (fun w S => S.perm (List.perm_append_comm (l₁ := [row e_S.T e_S.sz a7 (t.f_Reads.xs).length c7 (flat e_S t.f_Reads.xs), blk b1 (qzPCopy1 t)]) (l₂ := blk b2 (qzPCopy2) :: F))) ?_
     refine h_next ?_
     refine h_take 9 rfl rfl (by kernel_rfl) (by kernel_rfl) (by kernel_rfl) (fun L0 => v_fieldAddr (q := ⟨b1, 1, none⟩) rfl rfl Try.underlying30 rfl ti27 rfl) ?_
     refine h_one 5 rfl (by kernel_rfl) ?_
     refine l_conv (L' := row e_S.T e_S.sz a7 (t.f_Reads.xs).length c7 (flat e_S t.f_Reads.xs) :: blk b1 (qzPCopy1 t) :: blk b2 (qzPCopy2) :: F) (fun w S => S.perm List.perm_append_comm) ?_
     refine o_call rfl cal57 rfl (cloneS (TxR.c (TxR.c (TxR.c T_t))).rw (by show _ * 16 ≤ _; omega) (by omega)) ?_
     rintro _ _ ⟨a10, c10, rfl, rfl⟩
     refine l_nil ?_
     refine q_conv (L' := (blk b2 (qzPCopy2) :: F) ++ [row e_S.T e_S.sz a10 (t.f_Writes.xs).length c10 (flat e_S t.f_Writes.xs), row e_S.T e_S.sz a7 (t.f_Reads.xs).length c7 (flat e_S t.f_Reads.xs), blk b1 (qzPCopy1 t)]) (fun w S => S.perm (List.perm_append_comm (l₁ := [row e_S.T e_S.sz a10 (t.f_Writes.xs).length c10 (flat e_S t.f_Writes.xs), row e_S.T e_S.sz a7 (t.f_Reads.xs).length c7 (flat e_S t.f_Reads.xs), blk b1 (qzPCopy1 t)]) (l₂ := blk b2 (qzPCopy2) :: F))) ?_
     refine h_next ?_
     refine h_one 8 rfl (by kernel_rfl) ?_
     refine l_conv (L' := row e_S.T e_S.sz a10 (t.f_Writes.xs).length c10 (flat e_S t.f_Writes.xs) :: row e_S.T e_S.sz a7 (t.f_Reads.xs).length c7 (flat e_S t.f_Reads.xs) :: blk b1 (qzPCopy1 t) :: blk b2 (qzPCopy2) :: F) (fun w S => S.perm List.perm_append_comm) ?_
     refine o_call rfl cal58 rfl (cloneO (TxR.c (TxR.c (TxR.c (TxR.c T_t)))).ro (by show _ * 56 ≤ _; omega) (by omega)) ?_
     rintro _ _ ⟨a13, c13, rfl, rfl⟩
     refine l_nil ?_
     refine q_conv (L' := (blk b2 (qzPCopy2) :: F) ++ [row e_Op.T e_Op.sz a13 (t.f_Ops.xs).length c13 (flat e_Op t.f_Ops.xs), row e_S.T e_S.sz a10 (t.f_Writes.xs).length c10 (flat e_S t.f_Writes.xs), row e_S.T e_S.sz a7 (t.f_Reads.xs).length c7 (flat e_S t.f_Reads.xs), blk b1 (qzPCopy1 t)]) (fun w S => S.perm (List.perm_append_comm (l₁ := [row e_Op.T e_Op.sz a13 (t.f_Ops.xs).length c13 (flat e_Op t.f_Ops.xs), row e_S.T e_S.sz a10 (t.f_Writes.xs).length c10 (flat e_S t.f_Writes.xs), row e_S.T e_S.sz a7 (t.f_Reads.xs).length c7 (flat e_S t.f_Reads.xs), blk b1 (qzPCopy1 t)]) (l₂ := blk b2 (qzPCopy2) :: F))) ?_
     refine h_next ?_
     refine h_one 10 rfl (by kernel_rfl) ?_
     refine l_conv (L' := row e_Op.T e_Op.sz a13 (t.f_Ops.xs).length c13 (flat e_Op t.f_Ops.xs) :: row e_S.T e_S.sz a10 (t.f_Writes.xs).length c10 (flat e_S t.f_Writes.xs) :: row e_S.T e_S.sz a7 (t.f_Reads.xs).length c7 (flat e_S t.f_Reads.xs) :: blk b1 (qzPCopy1 t) :: blk b2 (qzPCopy2) :: F) (fun w S => S.perm List.perm_append_comm) ?_
     refine l_f3 ?_
     refine o_store1 rfl rfl rfl ti27 rfl rfl ?_
     refine l_nil ?_
     refine q_conv (L' := (blk b2 (qzPCopy2) :: F) ++ [blk b1 (qzPCopy3 t a7 c7), row e_Op.T e_Op.sz a13 (t.f_Ops.xs).length c13 (flat e_Op t.f_Ops.xs), row e_S.T e_S.sz a10 (t.f_Writes.xs).length c10 (flat e_S t.f_Writes.xs), row e_S.T e_S.sz a7 (t.f_Reads.xs).length c7 (flat e_S t.f_Reads.xs)]) (fun w S => S.perm (List.perm_append_comm (l₁ := [blk b1 (qzPCopy3 t a7 c7), row e_Op.T e_Op.sz a13 (t.f_Ops.xs).length c13 (flat e_Op t.f_Ops.xs), row e_S.T e_S.sz a10 (t.f_Writes.xs).length c10 (flat e_S t.f_Writes.xs), row e_S.T e_S.sz a7 (t.f_Reads.xs).length c7 (flat e_S t.f_Reads.xs)]) (l₂ := blk b2 (qzPCopy2) :: F))) ?_
     refine h_next ?_
     refine h_take 11 rfl rfl (by kernel_rfl) (by kernel_rfl) (by kernel_rfl) (fun L0 => v_fieldAddr (q := ⟨b1, 2, none⟩) rfl rfl Try.underlying30 rfl ti27 rfl) ?_
     refine h_one 12 rfl (by kernel_rfl) ?_
     refine l_conv (L' := blk b1 (qzPCopy3 t a7 c7) :: row e_Op.T e_Op.sz a13 (t.f_Ops.xs).length c13 (flat e_Op t.f_Ops.xs) :: row e_S.T e_S.sz a10 (t.f_Writes.xs).length c10 (flat e_S t.f_Writes.xs) :: row e_S.T e_S.sz a7 (t.f_Reads.xs).length c7 (flat e_S t.f_Reads.xs) :: blk b2 (qzPCopy2) :: F) (fun w S => S.perm List.perm_append_comm) ?_
     refine o_store1 rfl rfl rfl ti27 rfl rfl ?_
     refine l_nil ?_
     refine q_conv (L' := (blk b2 (qzPCopy2) :: F) ++ [blk b1 (qzPCopy4 t a7 c7 a10 c10), row e_Op.T e_Op.sz a13 (t.f_Ops.xs).length c13 (flat e_Op t.f_Ops.xs), row e_S.T e_S.sz a10 (t.f_Writes.xs).length c10 (flat e_S t.f_Writes.xs), row e_S.T e_S.sz a7 (t.f_Reads.xs).length c7 (flat e_S t.f_Reads.xs)]) (fun w S => S.perm (List.perm_append_comm (l₁ := [blk b1 (qzPCopy4 t a7 c7 a10 c10), row e_Op.T e_Op.sz a13 (t.f_Ops.xs).length c13 (flat e_Op t.f_Ops.xs), row e_S.T e_S.sz a10 (t.f_Writes.xs).length c10 (flat e_S t.f_Writes.xs), row e_S.T e_S.sz a7 (t.f_Reads.xs).length c7 (flat e_S t.f_Reads.xs)]) (l₂ := blk b2 (qzPCopy2) :: F))) ?_
     refine h_next ?_
     refine h_take 13 rfl rfl (by kernel_rfl) (by kernel_rfl) (by kernel_rfl) (fun L0 => v_fieldAddr (q := ⟨b1, 3, none⟩) rfl rfl Try.underlying30 rfl ti28 rfl) ?_
     refine h_one 14 rfl (by kernel_rfl) ?_
     refine l_conv (L' := blk b1 (qzPCopy4 t a7 c7 a10 c10) :: row e_Op.T e_Op.sz a13 (t.f_Ops.xs).length c13 (flat e_Op t.f_Ops.xs) :: row e_S.T e_S.sz a10 (t.f_Writes.xs).length c10 (flat e_S t.f_Writes.xs) :: row e_S.T e_S.sz a7 (t.f_Reads.xs).length c7 (flat e_S t.f_Reads.xs) :: blk b2 (qzPCopy2) :: F) (fun w S => S.perm List.perm_append_comm) ?_
     refine o_store1 rfl rfl rfl ti28 rfl rfl ?_
     refine l_nil ?_
     refine q_conv (L' := (blk b2 (qzPCopy2) :: F) ++ [blk b1 (qzPCopy5 t a7 c7 a10 c10 a13 c13), row e_Op.T e_Op.sz a13 (t.f_Ops.xs).length c13 (flat e_Op t.f_Ops.xs), row e_S.T e_S.sz a10 (t.f_Writes.xs).length c10 (flat e_S t.f_Writes.xs), row e_S.T e_S.sz a7 (t.f_Reads.xs).length c7 (flat e_S t.f_Reads.xs)]) (fun w S => S.perm (List.perm_append_comm (l₁ := [blk b1 (qzPCopy5 t a7 c7 a10 c10 a13 c13), row e_Op.T e_Op.sz a13 (t.f_Ops.xs).length c13 (flat e_Op t.f_Ops.xs), row e_S.T e_S.sz a10 (t.f_Writes.xs).length c10 (flat e_S t.f_Writes.xs), row e_S.T e_S.sz a7 (t.f_Reads.xs).length c7 (flat e_S t.f_Reads.xs)]) (l₂ := blk b2 (qzPCopy2) :: F))) ?_
     refine h_next ?_
     refine h_done (by kernel_rfl) ?_
     refine q_conv (L' := blk b1 (qzPCopy5 t a7 c7 a10 c10 a13 c13) :: row e_Op.T e_Op.sz a13 (t.f_Ops.xs).length c13 (flat e_Op t.f_Ops.xs) :: row e_S.T e_S.sz a10 (t.f_Writes.xs).length c10 (flat e_S t.f_Writes.xs) :: row e_S.T e_S.sz a7 (t.f_Reads.xs).length c7 (flat e_S t.f_Reads.xs) :: blk b2 (qzPCopy2) :: F) (fun w S => S.perm List.perm_append_comm) ?_
     exact q_mid (a7, c7, a10, c10, a13, c13) (by trivial) ⟨(by first | rfl | exact vint (by omega)), (by first | rfl | exact vint (by omega)), (by first | rfl | exact vint (by omega)), (by first | rfl | exact vint (by omega)), (by first | rfl | exact vint (by omega)), (by first | rfl | exact vint (by omega)), (by first | rfl | exact vint (by omega)), (by first | rfl | exact vint (by omega)), (by first | rfl | exact vint (by omega)), (by first | rfl | exact vint (by omega)), (by first | rfl | exact vint (by omega)), (by first | rfl | exact vint (by omega)), (by first | rfl | exact vint (by omega)), (by first | rfl | exact vint (by omega)), (by first | rfl | exact vint (by omega)), trivial⟩ (fun w S => S)
    · -- 4 comes first
     refine l_conv (L' := blk b1 (qzPCopy1 t) :: blk b2 (qzPCopy2) :: F) (fun w S => S.perm List.perm_append_comm) ?_
     refine o_load1 rfl rfl Try.underlying27 rfl (rd_mem 0 rfl rfl) ?_
     refine l_nil ?_
     refine q_conv (L' := (blk b2 (qzPCopy2) :: F) ++ [blk b1 (qzPCopy1 t)]) (fun w S => S.perm (List.perm_append_comm (l₁ := [blk b1 (qzPCopy1 t)]) (l₂ := blk b2 (qzPCopy2) :: F))) ?_
     refine h_next ?_
     refine h_one 2 rfl (by kernel_rfl) ?_
     refine l_conv (L' := blk b1 (qzPCopy1 t) :: blk b2 (qzPCopy2) :: F) (fun w S => S.perm List.perm_append_comm) ?_
     refine o_call rfl cal57 rfl (cloneS (TxR.c (TxR.c T_t)).rr (by show _ * 16 ≤ _; omega) (by omega)) ?_
     rintro _ _ ⟨a7, c7, rfl, rfl⟩
     refine l_nil ?_
     refine q_conv (L' := (blk b2 (qzPCopy2) :: F) ++ [row e_S.T e_S.sz a7 (t.f_Reads.xs).length c7 (flat e_S t.f_Reads.xs), blk b1 (qzPCopy1 t)]) (fun w S => S.perm (List.perm_append_comm (l₁ := [row e_S.T e_S.sz a7 (t.f_Reads.xs).length c7 (flat e_S t.f_Reads.xs), blk b1 (qzPCopy1 t)]) (l₂ := blk b2 (qzPCopy2) :: F))) ?_
     refine h_next ?_
     refine h_take 9 rfl rfl (by kernel_rfl) (by kernel_rfl) (by kernel_rfl) (fun L0 => v_fieldAddr (q := ⟨b1, 1, none⟩) rfl rfl Try.underlying30 rfl ti27 rfl) ?_
     refine h_one 5 rfl (by kernel_rfl) ?_
     refine l_conv (L' := row e_S.T e_S.sz a7 (t.f_Reads.xs).length c7 (flat e_S t.f_Reads.xs) :: blk b1 (qzPCopy1 t) :: blk b2 (qzPCopy2) :: F) (fun w S => S.perm List.perm_append_comm) ?_
     refine o_call rfl cal57 rfl (cloneS (TxR.c (TxR.c (TxR.c T_t))).rw (by show _ * 16 ≤ _; omega) (by omega)) ?_
     rintro _ _ ⟨a10, c10, rfl, rfl⟩
     refine l_nil ?_
     refine q_conv (L' := (blk b2 (qzPCopy2) :: F) ++ [row e_S.T e_S.sz a10 (t.f_Writes.xs).length c10 (flat e_S t.f_Writes.xs), row e_S.T e_S.sz a7 (t.f_Reads.xs).length c7 (flat e_S t.f_Reads.xs), blk b1 (qzPCopy1 t)]) (fun w S => S.perm (List.perm_append_comm (l₁ := [row e_S.T e_S.sz a10 (t.f_Writes.xs).length c10 (flat e_S t.f_Writes.xs), row e_S.T e_S.sz a7 (t.f_Reads.xs).length c7 (flat e_S t.f_Reads.xs), blk b1 (qzPCopy1 t)]) (l₂ := blk b2 (qzPCopy2) :: F))) ?_
     refine h_next ?_
     refine h_one 8 rfl (by kernel_rfl) ?_
     refine l_conv (L' := row e_S.T e_S.sz a10 (t.f_Writes.xs).length c10 (flat e_S t.f_Writes.xs) :: row e_S.T e_S.sz a7 (t.f_Reads.xs).length c7 (flat e_S t.f_Reads.xs) :: blk b1 (qzPCopy1 t) :: blk b2 (qzPCopy2) :: F) (fun w S => S.perm List.perm_append_comm) ?_
     refine o_call rfl cal58 rfl (cloneO (TxR.c (TxR.c (TxR.c (TxR.c T_t)))).ro (by show _ * 56 ≤ _; omega) (by omega)) ?_
     rintro _ _ ⟨a13, c13, rfl, rfl⟩
     refine l_nil ?_
     refine q_conv (L' := (blk b2 (qzPCopy2) :: F) ++ [row e_Op.T e_Op.sz a13 (t.f_Ops.xs).length c13 (flat e_Op t.f_Ops.xs), row e_S.T e_S.sz a10 (t.f_Writes.xs).length c10 (flat e_S t.f_Writes.xs), row e_S.T e_S.sz a7 (t.f_Reads.xs).length c7 (flat e_S t.f_Reads.xs), blk b1 (qzPCopy1 t)]) (fun w S => S.perm (List.perm_append_comm (l₁ := [row e_Op.T e_Op.sz a13 (t.f_Ops.xs).length c13 (flat e_Op t.f_Ops.xs), row e_S.T e_S.sz a10 (t.f_Writes.xs).length c10 (flat e_S t.f_Writes.xs), row e_S.T e_S.sz a7 (t.f_Reads.xs).length c7 (flat e_S t.f_Reads.xs), blk b1 (qzPCopy1 t)]) (l₂ := blk b2 (qzPCopy2) :: F))) ?_
     refine h_next ?_
     refine h_one 10 rfl (by kernel_rfl) ?_
     refine l_conv (L' := row e_Op.T e_Op.sz a13 (t.f_Ops.xs).length c13 (flat e_Op t.f_Ops.xs) :: row e_S.T e_S.sz a10 (t.f_Writes.xs).length c10 (flat e_S t.f_Writes.xs) :: row e_S.T e_S.sz a7 (t.f_Reads.xs).length c7 (flat e_S t.f_Reads.xs) :: blk b1 (qzPCopy1 t) :: blk b2 (qzPCopy2) :: F) (fun w S => S.perm List.perm_append_comm) ?_
     refine l_f3 ?_
     refine o_store1 rfl rfl rfl ti27 rfl rfl ?_
     refine l_nil ?_
     refine q_conv (L' := (blk b2 (qzPCopy2) :: F) ++ [blk b1 (qzPCopy3 t a7 c7), row e_Op.T e_Op.sz a13 (t.f_Ops.xs).length c13 (flat e_Op t.f_Ops.xs), row e_S.T e_S.sz a10 (t.f_Writes.xs).length c10 (flat e_S t.f_Writes.xs), row e_S.T e_S.sz a7 (t.f_Reads.xs).length c7 (flat e_S t.f_Reads.xs)]) (fun w S => S.perm (List.perm_append_comm (l₁ := [blk b1 (qzPCopy3 t a7 c7), row e_Op.T e_Op.sz a13 (t.f_Ops.xs).length c13 (flat e_Op t.f_Ops.xs), row e_S.T e_S.sz a10 (t.f_Writes.xs).length c10 (flat e_S t.f_Writes.xs), row e_S.T e_S.sz a7 (t.f_Reads.xs).length c7 (flat e_S t.f_Reads.xs)]) (l₂ := blk b2 (qzPCopy2) :: F))) ?_
     refine h_next ?_
     refine h_take 11 rfl rfl (by kernel_rfl) (by kernel_rfl) (by kernel_rfl) (fun L0 => v_fieldAddr (q := ⟨b1, 2, none⟩) rfl rfl Try.underlying30 rfl ti27 rfl) ?_
     refine h_one 12 rfl (by kernel_rfl) ?_
     refine l_conv (L' := blk b1 (qzPCopy3 t a7 c7) :: row e_Op.T e_Op.sz a13 (t.f_Ops.xs).length c13 (flat e_Op t.f_Ops.xs) :: row e_S.T e_S.sz a10 (t.f_Writes.xs).length c10 (flat e_S t.f_Writes.xs) :: row e_S.T e_S.sz a7 (t.f_Reads.xs).length c7 (flat e_S t.f_Reads.xs) :: blk b2 (qzPCopy2) :: F) (fun w S => S.perm List.perm_append_comm) ?_
     refine o_store1 rfl rfl rfl ti27 rfl rfl ?_
     refine l_nil ?_
     refine q_conv (L' := (blk b2 (qzPCopy2) :: F) ++ [blk b1 (qzPCopy4 t a7 c7 a10 c10), row e_Op.T e_Op.sz a13 (t.f_Ops.xs).length c13 (flat e_Op t.f_Ops.xs), row e_S.T e_S.sz a10 (t.f_Writes.xs).length c10 (flat e_S t.f_Writes.xs), row e_S.T e_S.sz a7 (t.f_Reads.xs).length c7 (flat e_S t.f_Reads.xs)]) (fun w S => S.perm (List.perm_append_comm (l₁ := [blk b1 (qzPCopy4 t a7 c7 a10 c10), row e_Op.T e_Op.sz a13 (t.f_Ops.xs).length c13 (flat e_Op t.f_Ops.xs), row e_S.T e_S.sz a10 (t.f_Writes.xs).length c10 (flat e_S t.f_Writes.xs), row e_S.T e_S.sz a7 (t.f_Reads.xs).length c7 (flat e_S t.f_Reads.xs)]) (l₂ := blk b2 (qzPCopy2) :: F))) ?_
     refine h_next ?_
     refine h_take 13 rfl rfl (by kernel_rfl) (by kernel_rfl) (by kernel_rfl) (fun L0 => v_fieldAddr (q := ⟨b1, 3, none⟩) rfl rfl Try.underlying30 rfl ti28 rfl) ?_
     refine h_one 14 rfl (by kernel_rfl) ?_
     refine l_conv (L' := blk b1 (qzPCopy4 t a7 c7 a10 c10) :: row e_Op.T e_Op.sz a13 (t.f_Ops.xs).length c13 (flat e_Op t.f_Ops.xs) :: row e_S.T e_S.sz a10 (t.f_Writes.xs).length c10 (flat e_S t.f_Writes.xs) :: row e_S.T e_S.sz a7 (t.f_Reads.xs).length c7 (flat e_S t.f_Reads.xs) :: blk b2 (qzPCopy2) :: F) (fun w S => S.perm List.perm_append_comm) ?_
     refine o_store1 rfl rfl rfl ti28 rfl rfl ?_
     refine l_nil ?_
     refine q_conv (L' := (blk b2 (qzPCopy2) :: F) ++ [blk b1 (qzPCopy5 t a7 c7 a10 c10 a13 c13), row e_Op.T e_Op.sz a13 (t.f_Ops.xs).length c13 (flat e_Op t.f_Ops.xs), row e_S.T e_S.sz a10 (t.f_Writes.xs).length c10 (flat e_S t.f_Writes.xs), row e_S.T e_S.sz a7 (t.f_Reads.xs).length c7 (flat e_S t.f_Reads.xs)]) (fun w S => S.perm (List.perm_append_comm (l₁ := [blk b1 (qzPCopy5 t a7 c7 a10 c10 a13 c13), row e_Op.T e_Op.sz a13 (t.f_Ops.xs).length c13 (flat e_Op t.f_Ops.xs), row e_S.T e_S.sz a10 (t.f_Writes.xs).length c10 (flat e_S t.f_Writes.xs), row e_S.T e_S.sz a7 (t.f_Reads.xs).length c7 (flat e_S t.f_Reads.xs)]) (l₂ := blk b2 (qzPCopy2) :: F))) ?_
     refine h_next ?_
     refine h_done (by kernel_rfl) ?_
     refine q_conv (L' := blk b1 (qzPCopy5 t a7 c7 a10 c10 a13 c13) :: row e_Op.T e_Op.sz a13 (t.f_Ops.xs).length c13 (flat e_Op t.f_Ops.xs) :: row e_S.T e_S.sz a10 (t.f_Writes.xs).length c10 (flat e_S t.f_Writes.xs) :: row e_S.T e_S.sz a7 (t.f_Reads.xs).length c7 (flat e_S t.f_Reads.xs) :: blk b2 (qzPCopy2) :: F) (fun w S => S.perm List.perm_append_comm) ?_
     exact q_mid (a7, c7, a10, c10, a13, c13) (by trivial) ⟨(by first | rfl | exact vint (by omega)), (by first | rfl | exact vint (by omega)), (by first | rfl | exact vint (by omega)), (by first | rfl | exact vint (by omega)), (by first | rfl | exact vint (by omega)), (by first | rfl | exact vint (by omega)), (by first | rfl | exact vint (by omega)), (by first | rfl | exact vint (by omega)), (by first | rfl | exact vint (by omega)), (by first | rfl | exact vint (by omega)), (by first | rfl | exact vint (by omega)), (by first | rfl | exact vint (by omega)), (by first | rfl | exact vint (by omega)), (by first | rfl | exact vint (by omega)), (by first | rfl | exact vint (by omega)), trivial⟩ (fun w S => S)
  · -- 4 comes first
   refine l_conv (L' := blk b1 (qzPCopy1 t) :: blk b2 (qzPCopy2) :: F) (fun w S => S.perm List.perm_append_comm) ?_
   refine o_load1 rfl rfl Try.underlying27 rfl (rd_mem 0 rfl rfl) ?_
   refine l_nil ?_
   refine q_conv (L' := (blk b2 (qzPCopy2) :: F) ++ [blk b1 (qzPCopy1 t)]) (fun w S => S.perm (List.perm_append_comm (l₁ := [blk b1 (qzPCopy1 t)]) (l₂ := blk b2 (qzPCopy2) :: F))) ?_
   refine h_next ?_
   refine h_many (is := [1, 7]) (by kernel_rfl) (by decide) (forall_cons ⟨_, rfl, ?_⟩ (forall_cons ⟨_, rfl, ?_⟩ forall_nil))
   · -- 1 comes first
    refine l_conv (L' := blk b1 (qzPCopy1 t) :: blk b2 (qzPCopy2) :: F) (fun w S => S.perm List.perm_append_comm) ?_
    refine o_load1 rfl rfl Try.underlying27 rfl (rd_mem 0 rfl rfl) ?_
    refine l_nil ?_
    refine q_conv (L' := (blk b2 (qzPCopy2) :: F) ++ [blk b1 (qzPCopy1 t)]) (fun w S => S.perm (List.perm_append_comm (l₁ := [blk b1 (qzPCopy1 t)]) (l₂ := blk b2 (qzPCopy2) :: F))) ?_
    refine h_next ?_
    refine h_many (is := [2, 7]) (by kernel_rfl) (by decide) (forall_cons ⟨_, rfl, ?_⟩ (forall_cons ⟨_, rfl, ?_⟩ forall_nil))
    · -- 2 comes first
     refine l_conv (L' := blk b1 (qzPCopy1 t) :: blk b2 (qzPCopy2) :: F) (fun w S => S.perm List.perm_append_comm) ?_
     refine o_call rfl cal57 rfl (cloneS (TxR.c (TxR.c T_t)).rr (by show _ * 16 ≤ _; omega) (by omega)) ?_
     rintro _ _ ⟨a7, c7, rfl, rfl⟩
     refine l_nil ?_
     refine q_conv (L' := (blk b2 (qzPCopy2) :: F) ++ [row e_S.T e_S.sz a7 (t.f_Reads.xs).length c7 (flat e_S t.f_Reads.xs), blk b1 (qzPCopy1 t)]) (fun w S => S.perm (List.perm_append_comm (l₁ := [row e_S.T e_S.sz a7 (t.f_Reads.xs).length c7 (flat e_S t.f_Reads.xs), blk b1 (qzPCopy1 t)]) (l₂ := blk b2 (qzPCopy2) :: F))) ?_
     refine h_next ?_
     refine h_many (is := [5, 7]) (by kernel_rfl) (by decide) (forall_cons ⟨_, rfl, ?_⟩ (forall_cons ⟨_, rfl, ?_⟩ forall_nil))
     · -- 5 comes first
      refine l_conv (L' := row e_S.T e_S.sz a7 (t.f_Reads.xs).length c7 (flat e_S t.f_Reads.xs) :: blk b1 (qzPCopy1 t) :: blk b2 (qzPCopy2) :: F) (fun w S => S.perm List.perm_append_comm) ?_
      refine o_call rfl cal57 rfl (cloneS (TxR.c (TxR.c (TxR.c T_t))).rw (by show _ * 16 ≤ _; omega) (by omega)) ?_
      rintro _ _ ⟨a10, c10, rfl, rfl⟩
      refine l_nil ?_
      refine q_conv (L' := (blk b2 (qzPCopy2) :: F) ++ [row e_S.T e_S.sz a10 (t.f_Writes.xs).length c10 (flat e_S t.f_Writes.xs), row e_S.T e_S.sz a7 (t.f_Reads.xs).length c7 (flat e_S t.f_Reads.xs), blk b1 (qzPCopy1 t)]) (fun w S => S.perm (List.perm_append_comm (l₁ := [row e_S.T e_S.sz a10 (t.f_Writes.xs).length c10 (flat e_S t.f_Writes.xs), row e_S.T e_S.sz a7 (t.f_Reads.xs).length c7 (flat e_S t.f_Reads.xs), blk b1 (qzPCopy1 t)]) (l₂ := blk b2 (qzPCopy2) :: F))) ?_
      refine h_next ?_
      refine h_one 7 rfl (by kernel_rfl) ?_
      refine l_conv (L' := row e_S.T e_S.sz a10 (t.f_Writes.xs).length c10 (flat e_S t.f_Writes.xs) :: row e_S.T e_S.sz a7 (t.f_Reads.xs).length c7 (flat e_S t.f_Reads.xs) :: blk b1 (qzPCopy1 t) :: blk b2 (qzPCopy2) :: F) (fun w S => S.perm List.perm_append_comm) ?_
      refine o_load1 rfl rfl Try.underlying28 rfl (rd_mem 2 rfl rfl) ?_
      refine l_nil ?_
      refine q_conv (L' := (blk b2 (qzPCopy2) :: F) ++ [row e_S.T e_S.sz a10 (t.f_Writes.xs).length c10 (flat e_S t.f_Writes.xs), row e_S.T e_S.sz a7 (t.f_Reads.xs).length c7 (flat e_S t.f_Reads.xs), blk b1 (qzPCopy1 t)]) (fun w S => S.perm (List.perm_append_comm (l₁ := [row e_S.T e_S.sz a10 (t.f_Writes.xs).length c10 (flat e_S t.f_Writes.xs), row e_S.T e_S.sz a7 (t.f_Reads.xs).length c7 (flat e_S t.f_Reads.xs), blk b1 (qzPCopy1 t)]) (l₂ := blk b2 (qzPCopy2) :: F))) ?_
      refine h_next ?_
      refine h_take 9 rfl rfl (by kernel_rfl) (by kernel_rfl) (by kernel_rfl) (fun L0 => v_fieldAddr (q := ⟨b1, 1, none⟩) rfl rfl Try.underlying30 rfl ti27 rfl) ?_
      refine h_one 8 rfl (by kernel_rfl) ?_
      refine l_conv (L' := row e_S.T e_S.sz a10 (t.f_Writes.xs).length c10 (flat e_S t.f_Writes.xs) :: row e_S.T e_S.sz a7 (t.f_Reads.xs).length c7 (flat e_S t.f_Reads.xs) :: blk b1 (qzPCopy1 t) :: blk b2 (qzPCopy2) :: F) (fun w S => S.perm List.perm_append_comm) ?_
      refine o_call rfl cal58 rfl (cloneO (TxR.c (TxR.c (TxR.c (TxR.c T_t)))).ro (by show _ * 56 ≤ _; omega) (by omega)) ?_
      rintro _ _ ⟨a13, c13, rfl, rfl⟩
      refine l_nil ?_
      refine q_conv (L' := (blk b2 (qzPCopy2) :: F) ++ [row e_Op.T e_Op.sz a13 (t.f_Ops.xs).length c13 (flat e_Op t.f_Ops.xs), row e_S.T e_S.sz a10 (t.f_Writes.xs).length c10 (flat e_S t.f_Writes.xs), row e_S.T e_S.sz a7 (t.f_Reads.xs).length c7 (flat e_S t.f_Reads.xs), blk b1 (qzPCopy1 t)]) (fun w S => S.perm (List.perm_append_comm (l₁ := [row e_Op.T e_Op.sz a13 (t.f_Ops.xs).length c13 (flat e_Op t.f_Ops.xs), row e_S.T e_S.sz a10 (t.f_Writes.xs).length c10 (flat e_S t.f_Writes.xs), row e_S.T e_S.sz a7 (t.f_Reads.xs).length c7 (flat e_S t.f_Reads.xs), blk b1 (qzPCopy1 t)]) (l₂ := blk b2 (qzPCopy2) :: F))) ?_
      refine h_next ?_
      refine h_one 10 rfl (by kernel_rfl) ?_
      refine l_conv (L' := row e_Op.T e_Op.sz a13 (t.f_Ops.xs).length c13 (flat e_Op t.f_Ops.xs) :: row e_S.T e_S.sz a10 (t.f_Writes.xs).length c10 (flat e_S t.f_Writes.xs) :: row e_S.T e_S.sz a7 (t.f_Reads.xs).length c7 (flat e_S t.f_Reads.xs) :: blk b1 (qzPCopy1 t) :: blk b2 (qzPCopy2) :: F) (fun w S => S.perm List.perm_append_comm) ?_
      refine l_f3 ?_
      refine o_store1 rfl rfl rfl ti27 rfl rfl ?_
      refine l_nil ?_
      refine q_conv (L' := (blk b2 (qzPCopy2) :: F) ++ [blk b1 (qzPCopy3 t a7 c7), row e_Op.T e_Op.sz a13 (t.f_Ops.xs).length c13 (flat e_Op t.f_Ops.xs), row e_S.T e_S.sz a10 (t.f_Writes.xs).length c10 (flat e_S t.f_Writes.xs), row e_S.T e_S.sz a7 (t.f_Reads.xs).length c7 (flat e_S t.f_Reads.xs)]) (fun w S => S.perm (List.perm_append_comm (l₁ := [blk b1 (qzPCopy3 t a7 c7), row e_Op.T e_Op.sz a13 (t.f_Ops.xs).length c13 (flat e_Op t.f_Ops.xs), row e_S.T e_S.sz a10 (t.f_Writes.xs).length c10 (flat e_S t.f_Writes.xs), row e_S.T e_S.sz a7 (t.f_Reads.xs).length c7 (flat e_S t.f_Reads.xs)]) (l₂ := blk b2 (qzPCopy2) :: F))) ?_
      refine h_next ?_
      refine h_take 11 rfl rfl (by kernel_rfl) (by kernel_rfl) (by kernel_rfl) (fun L0 => v_fieldAddr (q := ⟨b1, 2, none⟩) rfl rfl Try.underlying30 rfl ti27 rfl) ?_
      refine h_one 12 rfl (by kernel_rfl) ?_
      refine l_conv (L' := blk b1 (qzPCopy3 t a7 c7) :: row e_Op.T e_Op.sz a13 (t.f_Ops.xs).length c13 (flat e_Op t.f_Ops.xs) :: row e_S.T e_S.sz a10 (t.f_Writes.xs).length c10 (flat e_S t.f_Writes.xs) :: row e_S.T e_S.sz a7 (t.f_Reads.xs).length c7 (flat e_S t.f_Reads.xs) :: blk b2 (qzPCopy2) :: F) (fun w S => S.perm List.perm_append_comm) ?_
      refine o_store1 rfl rfl rfl ti27 rfl rfl ?_
      refine l_nil ?_
      refine q_conv (L' := (blk b2 (qzPCopy2) :: F) ++ [blk b1 (qzPCopy4 t a7 c7 a10 c10), row e_Op.T e_Op.sz a13 (t.f_Ops.xs).length c13 (flat e_Op t.f_Ops.xs), row e_S.T e_S.sz a10 (t.f_Writes.xs).length c10 (flat e_S t.f_Writes.xs), row e_S.T e_S.sz a7 (t.f_Reads.xs).length c7 (flat e_S t.f_Reads.xs)]) (fun w S => S.perm (List.perm_append_comm (l₁ := [blk b1 (qzPCopy4 t a7 c7 a10 c10), row e_Op.T e_Op.sz a13 (t.f_Ops.xs).length c13 (flat e_Op t.f_Ops.xs), row e_S.T e_S.sz a10 (t.f_Writes.xs).length c10 (flat e_S t.f_Writes.xs), row e_S.T e_S.sz a7 (t.f_Reads.xs).length c7 (flat e_S t.f_Reads.xs)]) (l₂ := blk b2 (qzPCopy2) :: F))) ?_
      refine h_next ?_
      refine h_take 13 rfl rfl (by kernel_rfl) (by kernel_rfl) (by kernel_rfl) (fun L0 => v_fieldAddr (q := ⟨b1, 3, none⟩) rfl rfl Try.underlying30 rfl ti28 rfl) ?_
      refine h_one 14 rfl (by kernel_rfl) ?_
      refine l_conv (L' := blk b1 (qzPCopy4 t a7 c7 a10 c10) :: row e_Op.T e_Op.sz a13 (t.f_Ops.xs).length c13 (flat e_Op t.f_Ops.xs) :: row e_S.T e_S.sz a10 (t.f_Writes.xs).length c10 (flat e_S t.f_Writes.xs) :: row e_S.T e_S.sz a7 (t.f_Reads.xs).length c7 (flat e_S t.f_Reads.xs) :: blk b2 (qzPCopy2) :: F) (fun w S => S.perm List.perm_append_comm) ?_
      refine o_store1 rfl rfl rfl ti28 rfl rfl ?_
      refine l_nil ?_
      refine q_conv (L' := (blk b2 (qzPCopy2) :: F) ++ [blk b1 (qzPCopy5 t a7 c7 a10 c10 a13 c13), row e_Op.T e_Op.sz a13 (t.f_Ops.xs).length c13 (flat e_Op t.f_Ops.xs), row e_S.T e_S.sz a10 (t.f_Writes.xs).length c10 (flat e_S t.f_Writes.xs), row e_S.T e_S.sz a7 (t.f_Reads.xs).length c7 (flat e_S t.f_Reads.xs)]) (fun w S => S.perm (List.perm_append_comm (l₁ := [blk b1 (qzPCopy5 t a7 c7 a10 c10 a13 c13), row e_Op.T e_Op.sz a13 (t.f_Ops.xs).length c13 (flat e_Op t.f_Ops.xs), row e_S.T e_S.sz a10 (t.f_Writes.xs).length c10 (flat e_S t.f_Writes.xs), row e_S.T e_S.sz a7 (t.f_Reads.xs).length c7 (flat e_S t.f_Reads.xs)]) (l₂ := blk b2 (qzPCopy2) :: F))) ?_
      refine h_next ?_
      refine h_done (by kernel_rfl) ?_
      refine q_conv (L' := blk b1 (qzPCopy5 t a7 c7 a10 c10 a13 c13) :: row e_Op.T e_Op.sz a13 (t.f_Ops.xs).length c13 (flat e_Op t.f_Ops.xs) :: row e_S.T e_S.sz a10 (t.f_Writes.xs).length c10 (flat e_S t.f_Writes.xs) :: row e_S.T e_S.sz a7 (t.f_Reads.xs).length c7 (flat e_S t.f_Reads.xs) :: blk b2 (qzPCopy2) :: F) (fun w S => S.perm List.perm_append_comm) ?_
      exact q_mid (a7, c7, a10, c10, a13, c13) (by trivial) ⟨(by first | rfl | exact vint (by omega)), (by first | rfl | exact vint (by omega)), (by first | rfl | exact vint (by omega)), (by first | rfl | exact vint (by omega)), (by first | rfl | exact vint (by omega)), (by first | rfl | exact vint (by omega)), (by first | rfl | exact vint (by omega)), (by first | rfl | exact vint (by omega)), (by first | rfl | exact vint (by omega)), (by first | rfl | exact vint (by omega)), (by first | rfl | exact vint (by omega)), (by first | rfl | exact vint (by omega)), (by first | rfl | exact vint (by omega)), (by first | rfl | exact vint (by omega)), (by first | rfl | exact vint (by omega)), trivial⟩ (fun w S => S)
     · -- 7 comes first
      refine l_conv (L' := row e_S.T e_S.sz a7 (t.f_Reads.xs).length c7 (flat e_S t.f_Reads.xs) :: blk b1 (qzPCopy1 t) :: blk b2 (qzPCopy2) :: F) (fun w S => S.perm List.perm_append_comm) ?_
      refine o_load1 rfl rfl Try.underlying28 rfl (rd_mem 1 rfl rfl) ?_
      refine l_nil ?_
      refine q_conv (L' := (blk b2 (qzPCopy2) :: F) ++ [row e_S.T e_S.sz a7 (t.f_Reads.xs).length c7 (flat e_S t.f_Reads.xs), blk b1 (qzPCopy1 t)]) (fun w S => S.perm (List.perm_append_comm (l₁ := [row e_S.T e_S.sz a7 (t.f_Reads.xs).length c7 (flat e_S t.f_Reads.xs), blk b1 (qzPCopy1 t)]) (l₂ := blk b2 (qzPCopy2) :: F))) ?_
      refine h_next ?_
      refine h_take 9 rfl rfl (by kernel_rfl) (by kernel_rfl) (by kernel_rfl) (fun L0 => v_fieldAddr (q := ⟨b1, 1, none⟩) rfl rfl Try.underlying30 rfl ti27 rfl) ?_
      refine h_one 5 rfl (by kernel_rfl) ?_
      refine l_conv (L' := row e_S.T e_S.sz a7 (t.f_Reads.xs).length c7 (flat e_S t.f_Reads.xs) :: blk b1 (qzPCopy1 t) :: blk b2 (qzPCopy2) :: F) (fun w S => S.perm List.perm_append_comm) ?_
      refine o_call rfl cal57 rfl (cloneS (TxR.c (TxR.c (TxR.c T_t))).rw (by show _ * 16 ≤ _; omega) (by omega)) ?_
      rintro _ _ ⟨a10, c10, rfl, rfl⟩
      refine l_nil ?_
      refine q_conv (L' := (blk b2 (qzPCopy2) :: F) ++ [row e_S.T e_S.sz a10 (t.f_Writes.xs).length c10 (flat e_S t.f_Writes.xs), row e_S.T e_S.sz a7 (t.f_Reads.xs).length c7 (flat e_S t.f_Reads.xs), blk b1 (qzPCopy1 t)]) (fun w S => S.perm (List.perm_append_comm (l₁ := [row e_S.T e_S.sz a10 (t.f_Writes.xs).length c10 (flat e_S t.f_Writes.xs), row e_S.T e_S.sz a7 (t.f_Reads.xs).length c7 (flat e_S t.f_Reads.xs), blk b1 (qzPCopy1 t)]) (l₂ := blk b2 (qzPCopy2) :: F))) ?_
      refine h_next ?_
      refine h_one 8 rfl (by kernel_rfl) ?_
      refine l_conv (L' := row e_S.T e_S.sz a10 (t.f_Writes.xs).length c10 (flat e_S t.f_Writes.xs) :: row e_S.T e_S.sz a7 (t.f_Reads.xs).length c7 (flat e_S t.f_Reads.xs) :: blk b1 (qzPCopy1 t) :: blk b2 (qzPCopy2) :: F) (fun w S => S.perm List.perm_append_comm) ?_
      refine o_call rfl cal58 rfl (cloneO (TxR.c (TxR.c (TxR.c (TxR.c T_t)))).ro (by show _ * 56 ≤ _; omega) (by omega)) ?_
      rintro _ _ ⟨a13, c13, rfl, rfl⟩
      refine l_nil ?_
      refine q_conv (L' := (blk b2 (qzPCopy2) :: F) ++ [row e_Op.T e_Op.sz a13 (t.f_Ops.xs).length c13 (flat e_Op t.f_Ops.xs), row e_S.T e_S.sz a10 (t.f_Writes.xs).length c10 (flat e_S t.f_Writes.xs), row e_S.T e_S.sz a7 (t.f_Reads.xs).length c7 (flat e_S t.f_Reads.xs), blk b1 (qzPCopy1 t)]) (fun w S => S.perm (List.perm_append_comm (l₁ := [row e_Op.T e_Op.sz a13 (t.f_Ops.xs).length c13 (flat e_Op t.f_Ops.xs), row e_S.T e_S.sz a10 (t.f_Writes.xs).length c10 (flat e_S t.f_Writes.xs), row e_S.T e_S.sz a7 (t.f_Reads.xs).length c7 (flat e_S t.f_Reads.xs), blk b1 (qzPCopy1 t)]) (l₂ := blk b2 (qzPCopy2) :: F))) ?_
      refine h_next ?_
      refine h_one 10 rfl (by kernel_rfl) ?_
      refine l_conv (L' := row e_Op.T e_Op.sz a13 (t.f_Ops.xs).length c13 (flat e_Op t.f_Ops.xs) :: row e_S.T e_S.sz a10 (t.f_Writes.xs).length c10 (flat e_S t.f_Writes.xs) :: row e_S.T e_S.sz a7 (t.f_Reads.xs).length c7 (flat e_S t.f_Reads.xs) :: blk b1 (qzPCopy1 t) :: blk b2 (qzPCopy2) :: F) (fun w S => S.perm List.perm_append_comm) ?_
      refine l_f3 ?_
      refine o_store1 rfl rfl rfl ti27 rfl rfl ?_
      refine l_nil ?_
      refine q_conv (L' := (blk b2 (qzPCopy2) :: F) ++ [blk b1 (qzPCopy3 t a7 c7), row e_Op.T e_Op.sz a13 (t.f_Ops.xs).length c13 (flat e_Op t.f_Ops.xs), row e_S.T e_S.sz a10 (t.f_Writes.xs).length c10 (flat e_S t.f_Writes.xs), row e_S.T e_S.sz a7 (t.f_Reads.xs).length c7 (flat e_S t.f_Reads.xs)]) (fun w S => S.perm (List.perm_append_comm (l₁ := [blk b1 (qzPCopy3 t a7 c7), row e_Op.T e_Op.sz a13 (t.f_Ops.xs).length c13 (flat e_Op t.f_Ops.xs), row e_S.T e_S.sz a10 (t.f_Writes.xs).length c10 (flat e_S t.f_Writes.xs), row e_S.T e_S.sz a7 (t.f_Reads.xs).length c7 (flat e_S t.f_Reads.xs)]) (l₂ := blk b2 (qzPCopy2) :: F))) ?_
      refine h_next ?_
      refine h_take 11 rfl rfl (by kernel_rfl) (by kernel_rfl) (by kernel_rfl) (fun L0 => v_fieldAddr (q := ⟨b1, 2, none⟩) rfl rfl Try.underlying30 rfl ti27 rfl) ?_
      refine h_one 12 rfl (by kernel_rfl) ?_
      refine l_conv (L' := blk b1 (qzPCopy3 t a7 c7) :: row e_Op.T e_Op.sz a13 (t.f_Ops.xs).length c13 (flat e_Op t.f_Ops.xs) :: row e_S.T e_S.sz a10 (t.f_Writes.xs).length c10 (flat e_S t.f_Writes.xs) :: row e_S.T e_S.sz a7 (t.f_Reads.xs).length c7 (flat e_S t.f_Reads.xs) :: blk b2 (qzPCopy2) :: F) (fun w S => S.perm List.perm_append_comm) ?_
      refine o_store1 rfl rfl rfl ti27 rfl rfl ?_
      refine l_nil ?_
      refine q_conv (L' := (blk b2 (qzPCopy2) :: F) ++ [blk b1 (qzPCopy4 t a7 c7 a10 c10), row e_Op.T e_Op.sz a13 (t.f_Ops.xs).length c13 (flat e_Op t.f_Ops.xs), row e_S.T e_S.sz a10 (t.f_Writes.xs).length c10 (flat e_S t.f_Writes.xs), row e_S.T e_S.sz a7 (t.f_Reads.xs).length c7 (flat e_S t.f_Reads.xs)]) (fun w S => S.perm (List.perm_append_comm (l₁ := [blk b1 (qzPCopy4 t a7 c7 a10 c10), row e_Op.T e_Op.sz a13 (t.f_Ops.xs).length c13 (flat e_Op t.f_Ops.xs), row e_S.T e_S.sz a10 (t.f_Writes.xs).length c10 (flat e_S t.f_Writes.xs), row e_S.T e_S.sz a7 (t.f_Reads.xs).length c7 (flat e_S t.f_Reads.xs)]) (l₂ := blk b2 (qzPCopy2) :: F))) ?_
      refine h_next ?_
      refine h_take 13 rfl rfl (by kernel_rfl) (by kernel_rfl) (by kernel_rfl) (fun L0 => v_fieldAddr (q := ⟨b1, 3, none⟩) rfl rfl Try.underlying30 rfl ti28 rfl) ?_
      refine h_one 14 rfl (by kernel_rfl) ?_
      refine l_conv (L' := blk b1 (qzPCopy4 t a7 c7 a10 c10) :: row e_Op.T e_Op.sz a13 (t.f_Ops.xs).length c13 (flat e_Op t.f_Ops.xs) :: row e_S.T e_S.sz a10 (t.f_Writes.xs).length c10 (flat e_S t.f_Writes.xs) :: row e_S.T e_S.sz a7 (t.f_Reads.xs).length c7 (flat e_S t.f_Reads.xs) :: blk b2 (qzPCopy2) :: F) (fun w S => S.perm List.perm_append_comm) ?_
      refine o_store1 rfl rfl rfl ti28 rfl rfl ?_
      refine l_nil ?_
      refine q_conv (L' := (blk b2 (qzPCopy2) :: F) ++ [blk b1 (qzPCopy5 t a7 c7 a10 c10 a13 c13), row e_Op.T e_Op.sz a13 (t.f_Ops.xs).length c13 (flat e_Op t.f_Ops.xs), row e_S.T e_S.sz a10 (t.f_Writes.xs).length c10 (flat e_S t.f_Writes.xs), row e_S.T e_S.sz a7 (t.f_Reads.xs).length c7 (flat e_S t.f_Reads.xs)]) (fun w S => S.perm (List.perm_append_comm (l₁ := [blk b1 (qzPCopy5 t a7 c7 a10 c10 a13 c13), row e_Op.T e_Op.sz a13 (t.f_Ops.xs).length c13 (flat e_Op t.f_Ops.xs), row e_S.T e_S.sz a10 (t.f_Writes.xs).length c10 (flat e_S t.f_Writes.xs), row e_S.T e_S.sz a7 (t.f_Reads.xs).length c7 (flat e_S t.f_Reads.xs)]) (l₂ := blk b2 (qzPCopy2) :: F))) ?_
      refine h_next ?_
      refine h_done (by kernel_rfl) ?_
      refine q_conv (L' := blk b1 (qzPCopy5 t a7 c7 a10 c10 a13 c13) :: row e_Op.T e_Op.sz a13 (t.f_Ops.xs).length c13 (flat e_Op t.f_Ops.xs) :: row e_S.T e_S.sz a10 (t.f_Writes.xs).length c10 (flat e_S t.f_Writes.xs) :: row e_S.T e_S.sz a7 (t.f_Reads.xs).length c7 (flat e_S t.f_Reads.xs) :: blk b2 (qzPCopy2) :: F) (fun w S => S.perm List.perm_append_comm) ?_
      exact q_mid (a7, c7, a10, c10, a13, c13) (by trivial) ⟨(by first | rfl | exact vint (by omega)), (by first | rfl | exact vint (by omega)), (by first | rfl | exact vint (by omega)), (by first | rfl | exact vint (by omega)), (by first | rfl | exact vint (by omega)), (by first | rfl | exact vint (by omega)), (by first | rfl | exact vint (by omega)), (by first | rfl | exact vint (by omega)), (by first | rfl | exact vint (by omega)), (by first | rfl | exact vint (by omega)), (by first | rfl | exact vint (by omega)), (by first | rfl | exact vint (by omega)), (by first | rfl | exact vint (by omega)), (by first | rfl | exact vint (by omega)), (by first | rfl | exact vint (by omega)), trivial⟩ (fun w S => S)
    · -- 7 comes first
     refine l_conv (L' := blk b1 (qzPCopy1 t) :: blk b2 (qzPCopy2) :: F) (fun w S => S.perm List.perm_append_comm) ?_
     refine o_load1 rfl rfl Try.underlying28 rfl (rd_mem 0 rfl rfl) ?_
     refine l_nil ?_
     refine q_conv (L' := (blk b2 (qzPCopy2) :: F) ++ [blk b1 (qzPCopy1 t)]) (fun w S => S.perm (List.perm_append_comm (l₁ := [blk b1 (qzPCopy1 t)]) (l₂ := blk b2 (qzPCopy2) :: F))) ?_
     refine h_next ?_
     refine h_one 2 rfl (by kernel_rfl) ?_
     refine l_conv (L' := blk b1 (qzPCopy1 t) :: blk b2 (qzPCopy2) :: F) (fun w S => S.perm List.perm_append_comm) ?_
     refine o_call rfl cal57 rfl (cloneS (TxR.c (TxR.c T_t)).rr (by show _ * 16 ≤ _; omega) (by omega)) ?_
     rintro _ _ ⟨a7, c7, rfl, rfl⟩
     refine l_nil ?_
     refine q_conv (L' := (blk b2 (qzPCopy2) :: F) ++ [row e_S.T e_S.sz a7 (t.f_Reads.xs).length c7 (flat e_S t.f_Reads.xs), blk b1 (qzPCopy1 t)]) (fun w S => S.perm (List.perm_append_comm (l₁ := [row e_S.T e_S.sz a7 (t.f_Reads.xs).length c7 (flat e_S t.f_Reads.xs), blk b1 (qzPCopy1 t)]) (l₂ := blk b2 (qzPCopy2) :: F))) ?_
     refine h_next ?_
     refine h_take 9 rfl rfl (by kernel_rfl) (by kernel_rfl) (by kernel_rfl) (fun L0 => v_fieldAddr (q := ⟨b1, 1, none⟩) rfl rfl Try.underlying30 rfl ti27 rfl) ?_
     refine h_one 5 rfl (by kernel_rfl) ?_
     refine l_conv (L' := row e_S.T e_S.sz a7 (t.f_Reads.xs).length c7 (flat e_S t.f_Reads.xs) :: blk b1 (qzPCopy1 t) :: blk b2 (qzPCopy2) :: F) (fun w S => S.perm List.perm_append_comm) ?_
     refine o_call rfl cal57 rfl (cloneS (TxR.c (TxR.c (TxR.c T_t))).rw (by show _ * 16 ≤ _; omega) (by omega)) ?_
     rintro _ _ ⟨a10, c10, rfl, rfl⟩
     refine l_nil ?_
     refine q_conv (L' := (blk b2 (qzPCopy2) :: F) ++ [row e_S.T e_S.sz a10 (t.f_Writes.xs).length c10 (flat e_S t.f_Writes.xs), row e_S.T e_S.sz a7 (t.f_Reads.xs).length c7 (flat e_S t.f_Reads.xs), blk b1 (qzPCopy1 t)]) (fun w S => S.perm (List.perm_append_comm (l₁ := [row e_S.T e_S.sz a10 (t.f_Writes.xs).length c10 (flat e_S t.f_Writes.xs), row e_S.T e_S.sz a7 (t.f_Reads.xs).length c7 (flat e_S t.f_Reads.xs), blk b1 (qzPCopy1 t)]) (l₂ := blk b2 (qzPCopy2) :: F))) ?_
     refine h_next ?_
     refine h_one 8 rfl (by kernel_rfl) ?_
     refine l_conv (L' := row e_S.T e_S.sz a10 (t.f_Writes.xs).length c10 (flat e_S t.f_Writes.xs) :: row e_S.T e_S.sz a7 (t.f_Reads.xs).length c7 (flat e_S t.f_Reads.xs) :: blk b1 (qzPCopy1 t) :: blk b2 (qzPCopy2) :: F) (fun w S => S.perm List.perm_append_comm) ?_
     refine o_call rfl cal58 rfl (cloneO (TxR.c (TxR.c (TxR.c (TxR.c T_t)))).ro (by show _ * 56 ≤ _; omega) (by omega)) ?_
     rintro _ _ ⟨a13, c13, rfl, rfl⟩
     refine l_nil ?_
     refine q_conv (L' := (blk b2 (qzPCopy2) :: F) ++ [row e_Op.T e_Op.sz a13 (t.f_Ops.xs).length c13 (flat e_Op t.f_Ops.xs), row e_S.T e_S.sz a10 (t.f_Writes.xs).length c10 (flat e_S t.f_Writes.xs), row e_S.T e_S.sz a7 (t.f_Reads.xs).length c7 (flat e_S t.f_Reads.xs), blk b1 (qzPCopy1 t)]) (fun w S => S.perm (List.perm_append_comm (l₁ := [row e_Op.T e_Op.sz a13 (t.f_Ops.xs).length c13 (flat e_Op t.f_Ops.xs), row e_S.T e_S.sz a10 (t.f_Writes.xs).length c10 (flat e_S t.f_Writes.xs), row e_S.T e_S.sz a7 (t.f_Reads.xs).length c7 (flat e_S t.f_Reads.xs), blk b1 (qzPCopy1 t)]) (l₂ := blk b2 (qzPCopy2) :: F))) ?_
     refine h_next ?_
     refine h_one 10 rfl (by kernel_rfl) ?_
     refine l_conv (L' := row e_Op.T e_Op.sz a13 (t.f_Ops.xs).length c13 (flat e_Op t.f_Ops.xs) :: row e_S.T e_S.sz a10 (t.f_Writes.xs).length c10 (flat e_S t.f_Writes.xs) :: row e_S.T e_S.sz a7 (t.f_Reads.xs).length c7 (flat e_S t.f_Reads.xs) :: blk b1 (qzPCopy1 t) :: blk b2 (qzPCopy2) :: F) (fun w S => S.perm List.perm_append_comm) ?_
     refine l_f3 ?_
     refine o_store1 rfl rfl rfl ti27 rfl rfl ?_
     refine l_nil ?_
     refine q_conv (L' := (blk b2 (qzPCopy2) :: F) ++ [blk b1 (qzPCopy3 t a7 c7), row e_Op.T e_Op.sz a13 (t.f_Ops.xs).length c13 (flat e_Op t.f_Ops.xs), row e_S.T e_S.sz a10 (t.f_Writes.xs).length c10 (flat e_S t.f_Writes.xs), row e_S.T e_S.sz a7 (t.f_Reads.xs).length c7 (flat e_S t.f_Reads.xs)]) (fun w S => S.perm (List.perm_append_comm (l₁ := [blk b1 (qzPCopy3 t a7 c7), row e_Op.T e_Op.sz a13 (t.f_Ops.xs).length c13 (flat e_Op t.f_Ops.xs), row e_S.T e_S.sz a10 (t.f_Writes.xs).length c10 (flat e_S t.f_Writes.xs), row e_S.T e_S.sz a7 (t.f_Reads.xs).length c7 (flat e_S t.f_Reads.xs)]) (l₂ := blk b2 (qzPCopy2) :: F))) ?_
     refine h_next ?_
     refine h_take 11 rfl rfl (by kernel_rfl) (by kernel_rfl) (by kernel_rfl) (fun L0 => v_fieldAddr (q := ⟨b1, 2, none⟩) rfl rfl Try.underlying30 rfl ti27 rfl) ?_
     refine h_one 12 rfl (by kernel_rfl) ?_
     refine l_conv (L' := blk b1 (qzPCopy3 t a7 c7) :: row e_Op.T e_Op.sz a13 (t.f_Ops.xs).length c13 (flat e_Op t.f_Ops.xs) :: row e_S.T e_S.sz a10 (t.f_Writes.xs).length c10 (flat e_S t.f_Writes.xs) :: row e_S.T e_S.sz a7 (t.f_Reads.xs).length c7 (flat e_S t.f_Reads.xs) :: blk b2 (qzPCopy2) :: F) (fun w S => S.perm List.perm_append_comm) ?_
     refine o_store1 rfl rfl rfl ti27 rfl rfl ?_
     refine l_nil ?_
     refine q_conv (L' := (blk b2 (qzPCopy2) :: F) ++ [blk b1 (qzPCopy4 t a7 c7 a10 c10), row e_Op.T e_Op.sz a13 (t.f_Ops.xs).length c13 (flat e_Op t.f_Ops.xs), row e_S.T e_S.sz a10 (t.f_Writes.xs).length c10 (flat e_S t.f_Writes.xs), row e_S.T e_S.sz a7 (t.f_Reads.xs).length c7 (flat e_S t.f_Reads.xs)]) (fun w S => S.perm (List.perm_append_comm (l₁ := [blk b1 (qzPCopy4 t a7 c7 a10 c10), row e_Op.T e_Op.sz a13 (t.f_Ops.xs).length c13 (flat e_Op t.f_Ops.xs), row e_S.T e_S.sz a10 (t.f_Writes.xs).length c10 (flat e_S t.f_Writes.xs), row e_S.T e_S.sz a7 (t.f_Reads.xs).length c7 (flat e_S t.f_Reads.xs)]) (l₂ := blk b2 (qzPCopy2) :: F))) ?_
     refine h_next ?_
     refine h_take 13 rfl rfl (by kernel_rfl) (by kernel_rfl) (by kernel_rfl) (fun L0 => v_fieldAddr (q := ⟨b1, 3, none⟩) rfl rfl Try.underlying30 rfl ti28 rfl) ?_
     refine h_one 14 rfl (by kernel_rfl) ?_
     refine l_conv (L' := blk b1 (qzPCopy4 t a7 c7 a10 c10) :: row e_Op.T e_Op.sz a13 (t.f_Ops.xs).length c13 (flat e_Op t.f_Ops.xs) :: row e_S.T e_S.sz a10 (t.f_Writes.xs).length c10 (flat e_S t.f_Writes.xs) :: row e_S.T e_S.sz a7 (t.f_Reads.xs).length c7 (flat e_S t.f_Reads.xs) :: blk b2 (qzPCopy2) :: F) (fun w S => S.perm List.perm_append_comm) ?_
     refine o_store1 rfl rfl rfl ti28 rfl rfl ?_
     refine l_nil ?_
     refine q_conv (L' := (blk b2 (qzPCopy2) :: F) ++ [blk b1 (qzPCopy5 t a7 c7 a10 c10 a13 c13), row e_Op.T e_Op.sz a13 (t.f_Ops.xs).length c13 (flat e_Op t.f_Ops.xs), row e_S.T e_S.sz a10 (t.f_Writes.xs).length c10 (flat e_S t.f_Writes.xs), row e_S.T e_S.sz a7 (t.f_Reads.xs).length c7 (flat e_S t.f_Reads.xs)]) (fun w S => S.perm (List.perm_append_comm (l₁ := [blk b1 (qzPCopy5 t a7 c7 a10 c10 a13 c13), row e_Op.T e_Op.sz a13 (t.f_Ops.xs).length c13 (flat e_Op t.f_Ops.xs), row e_S.T e_S.sz a10 (t.f_Writes.xs).length c10 (flat e_S t.f_Writes.xs), row e_S.T e_S.sz a7 (t.f_Reads.xs).length c7 (flat e_S t.f_Reads.xs)]) (l₂ := blk b2 (qzPCopy2) :: F))) ?_
     refine h_next ?_
     refine h_done (by kernel_rfl) ?_
     refine q_conv (L' := blk b1 (qzPCopy5 t a7 c7 a10 c10 a13 c13) :: row e_Op.T e_Op.sz a13 (t.f_Ops.xs).length c13 (flat e_Op t.f_Ops.xs) :: row e_S.T e_S.sz a10 (t.f_Writes.xs).length c10 (flat e_S t.f_Writes.xs) :: row e_S.T e_S.sz a7 (t.f_Reads.xs).length c7 (flat e_S t.f_Reads.xs) :: blk b2 (qzPCopy2) :: F) (fun w S => S.perm List.perm_append_comm) ?_
     exact q_mid (a7, c7, a10, c10, a13, c13) (by trivial) ⟨(by first | rfl | exact vint (by omega)), (by first | rfl | exact vint (by omega)), (by first | rfl | exact vint (by omega)), (by first | rfl | exact vint (by omega)), (by first | rfl | exact vint (by omega)), (by first | rfl | exact vint (by omega)), (by first | rfl | exact vint (by omega)), (by first | rfl | exact vint (by omega)), (by first | rfl | exact vint (by omega)), (by first | rfl | exact vint (by omega)), (by first | rfl | exact vint (by omega)), (by first | rfl | exact vint (by omega)), (by first | rfl | exact vint (by omega)), (by first | rfl | exact vint (by omega)), (by first | rfl | exact vint (by omega)), trivial⟩ (fun w S => S)
   · -- 7 comes first
    refine l_conv (L' := blk b1 (qzPCopy1 t) :: blk b2 (qzPCopy2) :: F) (fun w S => S.perm List.perm_append_comm) ?_
    refine o_load1 rfl rfl Try.underlying28 rfl (rd_mem 0 rfl rfl) ?_
    refine l_nil ?_
    refine q_conv (L' := (blk b2 (qzPCopy2) :: F) ++ [blk b1 (qzPCopy1 t)]) (fun w S => S.perm (List.perm_append_comm (l₁ := [blk b1 (qzPCopy1 t)]) (l₂ := blk b2 (qzPCopy2) :: F))) ?_
    refine h_next ?_
    refine h_one 1 rfl (by kernel_rfl) ?_
    refine l_conv (L' := blk b1 (qzPCopy1 t) :: blk b2 (qzPCopy2) :: F) (fun w S => S.perm List.perm_append_comm) ?_
    refine o_load1 rfl rfl Try.underlying27 rfl (rd_mem 0 rfl rfl) ?_
    refine l_nil ?_
    refine q_conv (L' := (blk b2 (qzPCopy2) :: F) ++ [blk b1 (qzPCopy1 t)]) (fun w S => S.perm (List.perm_append_comm (l₁ := [blk b1 (qzPCopy1 t)]) (l₂ := blk b2 (qzPCopy2) :: F))) ?_
    refine h_next ?_
    refine h_one 2 rfl (by kernel_rfl) ?_
    refine l_conv (L' := blk b1 (qzPCopy1 t) :: blk b2 (qzPCopy2) :: F) (fun w S => S.perm List.perm_append_comm) ?_
    refine o_call rfl cal57 rfl (cloneS (TxR.c (TxR.c T_t)).rr (by show _ * 16 ≤ _; omega) (by omega)) ?_
    rintro _ _ ⟨a7, c7, rfl, rfl⟩
    refine l_nil ?_
    refine q_conv (L' := (blk b2 (qzPCopy2) :: F) ++ [row e_S.T e_S.sz a7 (t.f_Reads.xs).length c7 (flat e_S t.f_Reads.xs), blk b1 (qzPCopy1 t)]) (fun w S => S.perm (List.perm_append_comm (l₁ := [row e_S.T e_S.sz a7 (t.f_Reads.xs).length c7 (flat e_S t.f_Reads.xs), blk b1 (qzPCopy1 t)]) (l₂ := blk b2 (qzPCopy2) :: F))) ?_
    refine h_next ?_
    refine h_take 9 rfl rfl (by kernel_rfl) (by kernel_rfl) (by kernel_rfl) (fun L0 => v_fieldAddr (q := ⟨b1, 1, none⟩) rfl rfl Try.underlying30 rfl ti27 rfl) ?_
    refine h_one 5 rfl (by kernel_rfl) ?_
    refine l_conv (L' := row e_S.T e_S.sz a7 (t.f_Reads.xs).length c7 (flat e_S t.f_Reads.xs) :: blk b1 (qzPCopy1 t) :: blk b2 (qzPCopy2) :: F) (fun w S => S.perm List.perm_append_comm) ?_
    refine o_call rfl cal57 rfl (cloneS (TxR.c (TxR.c (TxR.c T_t))).rw (by show _ * 16 ≤ _; omega) (by omega)) ?_
    rintro _ _ ⟨a10, c10, rfl, rfl⟩
    refine l_nil ?_
    refine q_conv (L' := (blk b2 (qzPCopy2) :: F) ++ [row e_S.T e_S.sz a10 (t.f_Writes.xs).length c10 (flat e_S t.f_Writes.xs), row e_S.T e_S.sz a7 (t.f_Reads.xs).length c7 (flat e_S t.f_Reads.xs), blk b1 (qzPCopy1 t)]) (fun w S => S.perm (List.perm_append_comm (l₁ := [row e_S.T e_S.sz a10 (t.f_Writes.xs).length c10 (flat e_S t.f_Writes.xs), row e_S.T e_S.sz a7 (t.f_Reads.xs).length c7 (flat e_S t.f_Reads.xs), blk b1 (qzPCopy1 t)]) (l₂ := blk b2 (qzPCopy2) :: F))) ?_
    refine h_next ?_
    refine h_one 8 rfl (by kernel_rfl) ?_
    refine l_conv (L' := row e_S.T e_S.sz a10 (t.f_Writes.xs).length c10 (flat e_S t.f_Writes.xs) :: row e_S.T e_S.sz a7 (t.f_Reads.xs).length c7 (flat e_S t.f_Reads.xs) :: blk b1 (qzPCopy1 t) :: blk b2 (qzPCopy2) :: F) (fun w S => S.perm List.perm_append_comm) ?_
    refine o_call rfl cal58 rfl (cloneO (TxR.c (TxR.c (TxR.c (TxR.c T_t)))).ro (by show _ * 56 ≤ _; omega) (by omega)) ?_
    rintro _ _ ⟨a13, c13, rfl, rfl⟩
    refine l_nil ?_
    refine q_conv (L' := (blk b2 (qzPCopy2) :: F) ++ [row e_Op.T e_Op.sz a13 (t.f_Ops.xs).length c13 (flat e_Op t.f_Ops.xs), row e_S.T e_S.sz a10 (t.f_Writes.xs).length c10 (flat e_S t.f_Writes.xs), row e_S.T e_S.sz a7 (t.f_Reads.xs).length c7 (flat e_S t.f_Reads.xs), blk b1 (qzPCopy1 t)]) (fun w S => S.perm (List.perm_append_comm (l₁ := [row e_Op.T e_Op.sz a13 (t.f_Ops.xs).length c13 (flat e_Op t.f_Ops.xs), row e_S.T e_S.sz a10 (t.f_Writes.xs).length c10 (flat e_S t.f_Writes.xs), row e_S.T e_S.sz a7 (t.f_Reads.xs).length c7 (flat e_S t.f_Reads.xs), blk b1 (qzPCopy1 t)]) (l₂ := blk b2 (qzPCopy2) :: F))) ?_
    refine h_next ?_
    refine h_one 10 rfl (by kernel_rfl) ?_
    refine l_conv (L' := row e_Op.T e_Op.sz a13 (t.f_Ops.xs).length c13 (flat e_Op t.f_Ops.xs) :: row e_S.T e_S.sz a10 (t.f_Writes.xs).length c10 (flat e_S t.f_Writes.xs) :: row e_S.T e_S.sz a7 (t.f_Reads.xs).length c7 (flat e_S t.f_Reads.xs) :: blk b1 (qzPCopy1 t) :: blk b2 (qzPCopy2) :: F) (fun w S => S.perm List.perm_append_comm) ?_
    refine l_f3 ?_
    refine o_store1 rfl rfl rfl ti27 rfl rfl ?_
    refine l_nil ?_
    refine q_conv (L' := (blk b2 (qzPCopy2) :: F) ++ [blk b1 (qzPCopy3 t a7 c7), row e_Op.T e_Op.sz a13 (t.f_Ops.xs).length c13 (flat e_Op t.f_Ops.xs), row e_S.T e_S.sz a10 (t.f_Writes.xs).length c10 (flat e_S t.f_Writes.xs), row e_S.T e_S.sz a7 (t.f_Reads.xs).length c7 (flat e_S t.f_Reads.xs)]) (fun w S => S.perm (List.perm_append_comm (l₁ := [blk b1 (qzPCopy3 t a7 c7), row e_Op.T e_Op.sz a13 (t.f_Ops.xs).length c13 (flat e_Op t.f_Ops.xs), row e_S.T e_S.sz a10 (t.f_Writes.xs).length c10 (flat e_S t.f_Writes.xs), row e_S.T e_S.sz a7 (t.f_Reads.xs).length c7 (flat e_S t.f_Reads.xs)]) (l₂ := blk b2 (qzPCopy2) :: F))) ?_
    refine h_next ?_
    refine h_take 11 rfl rfl (by kernel_rfl) (by kernel_rfl) (by kernel_rfl) (fun L0 => v_fieldAddr (q := ⟨b1, 2, none⟩) rfl rfl Try.underlying30 rfl ti27 rfl) ?_
    refine h_one 12 rfl (by kernel_rfl) ?_
    refine l_conv (L' := blk b1 (qzPCopy3 t a7 c7) :: row e_Op.T e_Op.sz a13 (t.f_Ops.xs).length c13 (flat e_Op t.f_Ops.xs) :: row e_S.T e_S.sz a10 (t.f_Writes.xs).length c10 (flat e_S t.f_Writes.xs) :: row e_S.T e_S.sz a7 (t.f_Reads.xs).length c7 (flat e_S t.f_Reads.xs) :: blk b2 (qzPCopy2) :: F) (fun w S => S.perm List.perm_append_comm) ?_
    refine o_store1 rfl rfl rfl ti27 rfl rfl ?_
    refine l_nil ?_
    refine q_conv (L' := (blk b2 (qzPCopy2) :: F) ++ [blk b1 (qzPCopy4 t a7 c7 a10 c10), row e_Op.T e_Op.sz a13 (t.f_Ops.xs).length c13 (flat e_Op t.f_Ops.xs), row e_S.T e_S.sz a10 (t.f_Writes.xs).length c10 (flat e_S t.f_Writes.xs), row e_S.T e_S.sz a7 (t.f_Reads.xs).length c7 (flat e_S t.f_Reads.xs)]) (fun w S => S.perm (List.perm_append_comm (l₁ := [blk b1 (qzPCopy4 t a7 c7 a10 c10), row e_Op.T e_Op.sz a13 (t.f_Ops.xs).length c13 (flat e_Op t.f_Ops.xs), row e_S.T e_S.sz a10 (t.f_Writes.xs).length c10 (flat e_S t.f_Writes.xs), row e_S.T e_S.sz a7 (t.f_Reads.xs).length c7 (flat e_S t.f_Reads.xs)]) (l₂ := blk b2 (qzPCopy2) :: F))) ?_
    refine h_next ?_
    refine h_take 13 rfl rfl (by kernel_rfl) (by kernel_rfl) (by kernel_rfl) (fun L0 => v_fieldAddr (q := ⟨b1, 3, none⟩) rfl rfl Try.underlying30 rfl ti28 rfl) ?_
    refine h_one 14 rfl (by kernel_rfl) ?_
    refine l_conv (L' := blk b1 (qzPCopy4 t a7 c7 a10 c10) :: row e_Op.T e_Op.sz a13 (t.f_Ops.xs).length c13 (flat e_Op t.f_Ops.xs) :: row e_S.T e_S.sz a10 (t.f_Writes.xs).length c10 (flat e_S t.f_Writes.xs) :: row e_S.T e_S.sz a7 (t.f_Reads.xs).length c7 (flat e_S t.f_Reads.xs) :: blk b2 (qzPCopy2) :: F) (fun w S => S.perm List.perm_append_comm) ?_
    refine o_store1 rfl rfl rfl ti28 rfl rfl ?_
    refine l_nil ?_
    refine q_conv (L' := (blk b2 (qzPCopy2) :: F) ++ [blk b1 (qzPCopy5 t a7 c7 a10 c10 a13 c13), row e_Op.T e_Op.sz a13 (t.f_Ops.xs).length c13 (flat e_Op t.f_Ops.xs), row e_S.T e_S.sz a10 (t.f_Writes.xs).length c10 (flat e_S t.f_Writes.xs), row e_S.T e_S.sz a7 (t.f_Reads.xs).length c7 (flat e_S t.f_Reads.xs)]) (fun w S => S.perm (List.perm_append_comm (l₁ := [blk b1 (qzPCopy5 t a7 c7 a10 c10 a13 c13), row e_Op.T e_Op.sz a13 (t.f_Ops.xs).length c13 (flat e_Op t.f_Ops.xs), row e_S.T e_S.sz a10 (t.f_Writes.xs).length c10 (flat e_S t.f_Writes.xs), row e_S.T e_S.sz a7 (t.f_Reads.xs).length c7 (flat e_S t.f_Reads.xs)]) (l₂ := blk b2 (qzPCopy2) :: F))) ?_
    refine h_next ?_
    refine h_done (by kernel_rfl) ?_
    refine q_conv (L' := blk b1 (qzPCopy5 t a7 c7 a10 c10 a13 c13) :: row e_Op.T e_Op.sz a13 (t.f_Ops.xs).length c13 (flat e_Op t.f_Ops.xs) :: row e_S.T e_S.sz a10 (t.f_Writes.xs).length c10 (flat e_S t.f_Writes.xs) :: row e_S.T e_S.sz a7 (t.f_Reads.xs).length c7 (flat e_S t.f_Reads.xs) :: blk b2 (qzPCopy2) :: F) (fun w S => S.perm List.perm_append_comm) ?_
    exact q_mid (a7, c7, a10, c10, a13, c13) (by trivial) ⟨(by first | rfl | exact vint (by omega)), (by first | rfl | exact vint (by omega)), (by first | rfl | exact vint (by omega)), (by first | rfl | exact vint (by omega)), (by first | rfl | exact vint (by omega)), (by first | rfl | exact vint (by omega)), (by first | rfl | exact vint (by omega)), (by first | rfl | exact vint (by omega)), (by first | rfl | exact vint (by omega)), (by first | rfl | exact vint (by omega)), (by first | rfl | exact vint (by omega)), (by first | rfl | exact vint (by omega)), (by first | rfl | exact vint (by omega)), (by first | rfl | exact vint (by omega)), (by first | rfl | exact vint (by omega)), trivial⟩ (fun w S => S)
  · -- 7 comes first
   refine l_conv (L' := blk b1 (qzPCopy1 t) :: blk b2 (qzPCopy2) :: F) (fun w S => S.perm List.perm_append_comm) ?_
   refine o_load1 rfl rfl Try.underlying28 rfl (rd_mem 0 rfl rfl) ?_
   refine l_nil ?_
   refine q_conv (L' := (blk b2 (qzPCopy2) :: F) ++ [blk b1 (qzPCopy1 t)]) (fun w S => S.perm (List.perm_append_comm (l₁ := [blk b1 (qzPCopy1 t)]) (l₂ := blk b2 (qzPCopy2) :: F))) ?_
   refine h_next ?_
   refine h_many (is := [1, 4]) (by kernel_rfl) (by decide) (forall_cons ⟨_, rfl, ?_⟩ (forall_cons ⟨_, rfl, ?_⟩ forall_nil))
   · -- 1 comes first
    refine l_conv (L' := blk b1 (qzPCopy1 t) :: blk b2 (qzPCopy2) :: F) (fun w S => S.perm List.perm_append_comm) ?_
    refine o_load1 rfl rfl Try.underlying27 rfl (rd_mem 0 rfl rfl) ?_
    refine l_nil ?_
    refine q_conv (L' := (blk b2 (qzPCopy2) :: F) ++ [blk b1 (qzPCopy1 t)]) (fun w S => S.perm (List.perm_append_comm (l₁ := [blk b1 (qzPCopy1 t)]) (l₂ := blk b2 (qzPCopy2) :: F))) ?_
    refine h_next ?_
    refine h_many (is := [2, 4]) (by kernel_rfl) (by decide) (forall_cons ⟨_, rfl, ?_⟩ (forall_cons ⟨_, rfl, ?_⟩ forall_nil))
    · -- 2 comes first
     refine l_conv (L' := blk b1 (qzPCopy1 t) :: blk b2 (qzPCopy2) :: F) (fun w S => S.perm List.perm_append_comm) ?_
     refine o_call rfl cal57 rfl (cloneS (TxR.c (TxR.c T_t)).rr (by show _ * 16 ≤ _; omega) (by omega)) ?_
     rintro _ _ ⟨a7, c7, rfl, rfl⟩
     refine l_nil ?_
     refine q_conv (L' := (blk b2 (qzPCopy2) :: F) ++ [row e_S.T e_S.sz a7 (t.f_Reads.xs).length c7 (flat e_S t.f_Reads.xs), blk b1 (qzPCopy1 t)]) (fun w S => S.perm (List.perm_append_comm (l₁ := [row e_S.T e_S.sz a7 (t.f_Reads.xs).length c7 (flat e_S t.f_Reads.xs), blk b1 (qzPCopy1 t)]) (l₂ := blk b2 (qzPCopy2) :: F))) ?_
     refine h_next ?_
     refine h_one 4 rfl (by kernel_rfl) ?_
     refine l_conv (L' := row e_S.T e_S.sz a7 (t.f_Reads.xs).length c7 (flat e_S t.f_Reads.xs) :: blk b1 (qzPCopy1 t) :: blk b2 (qzPCopy2) :: F) (fun w S => S.perm List.perm_append_comm) ?_
     refine o_load1 rfl rfl Try.underlying27 rfl (rd_mem 1 rfl rfl) ?_
     refine l_nil ?_
     refine q_conv (L' := (blk b2 (qzPCopy2) :: F) ++ [row e_S.T e_S.sz a7 (t.f_Reads.xs).length c7 (flat e_S t.f_Reads.xs), blk b1 (qzPCopy1 t)]) (fun w S => S.perm (List.perm_append_comm (l₁ := [row e_S.T e_S.sz a7 (t.f_Reads.xs).length c7 (flat e_S t.f_Reads.xs), blk b1 (qzPCopy1 t)]) (l₂ := blk b2 (qzPCopy2) :: F))) ?_
     refine h_next ?_
     refine h_take 9 rfl rfl (by kernel_rfl) (by kernel_rfl) (by kernel_rfl) (fun L0 => v_fieldAddr (q := ⟨b1, 1, none⟩) rfl rfl Try.underlying30 rfl ti27 rfl) ?_
     refine h_one 5 rfl (by kernel_rfl) ?_
     refine l_conv (L' := row e_S.T e_S.sz a7 (t.f_Reads.xs).length c7 (flat e_S t.f_Reads.xs) :: blk b1 (qzPCopy1 t) :: blk b2 (qzPCopy2) :: F) (fun w S => S.perm List.perm_append_comm) ?_
     refine o_call rfl cal57 rfl (cloneS (TxR.c (TxR.c (TxR.c T_t))).rw (by show _ * 16 ≤ _; omega) (by omega)) ?_
     rintro _ _ ⟨a10, c10, rfl, rfl⟩
     refine l_nil ?_
     refine q_conv (L' := (blk b2 (qzPCopy2) :: F) ++ [row e_S.T e_S.sz a10 (t.f_Writes.xs).length c10 (flat e_S t.f_Writes.xs), row e_S.T e_S.sz a7 (t.f_Reads.xs).length c7 (flat e_S t.f_Reads.xs), blk b1 (qzPCopy1 t)]) (fun w S => S.perm (List.perm_append_comm (l₁ := [row e_S.T e_S.sz a10 (t.f_Writes.xs).length c10 (flat e_S t.f_Writes.xs), row e_S.T e_S.sz a7 (t.f_Reads.xs).length c7 (flat e_S t.f_Reads.xs), blk b1 (qzPCopy1 t)]) (l₂ := blk b2 (qzPCopy2) :: F))) ?_
     refine h_next ?_
     refine h_one 8 rfl (by kernel_rfl) ?_
     refine l_conv (L' := row e_S.T e_S.sz a10 (t.f_Writes.xs).length c10 (flat e_S t.f_Writes.xs) :: row e_S.T e_S.sz a7 (t.f_Reads.xs).length c7 (flat e_S t.f_Reads.xs) :: blk b1 (qzPCopy1 t) :: blk b2 (qzPCopy2) :: F) (fun w S => S.perm List.perm_append_comm) ?_
     refine o_call rfl cal58 rfl (cloneO (TxR.c (TxR.c (TxR.c (TxR.c T_t)))).ro (by show _ * 56 ≤ _; omega) (by omega)) ?_
     rintro _ _ ⟨a13, c13, rfl, rfl⟩
     refine l_nil ?_
     refine q_conv (L' := (blk b2 (qzPCopy2) :: F) ++ [row e_Op.T e_Op.sz a13 (t.f_Ops.xs).length c13 (flat e_Op t.f_Ops.xs), row e_S.T e_S.sz a10 (t.f_Writes.xs).length c10 (flat e_S t.f_Writes.xs), row e_S.T e_S.sz a7 (t.f_Reads.xs).length c7 (flat e_S t.f_Reads.xs), blk b1 (qzPCopy1 t)]) (fun w S => S.perm (List.perm_append_comm (l₁ := [row e_Op.T e_Op.sz a13 (t.f_Ops.xs).length c13 (flat e_Op t.f_Ops.xs), row e_S.T e_S.sz a10 (t.f_Writes.xs).length c10 (flat e_S t.f_Writes.xs), row e_S.T e_S.sz a7 (t.f_Reads.xs).length c7 (flat e_S t.f_Reads.xs), blk b1 (qzPCopy1 t)]) (l₂ := blk b2 (qzPCopy2) :: F))) ?_
     refine h_next ?_
     refine h_one 10 rfl (by kernel_rfl) ?_
     refine l_conv (L' := row e_Op.T e_Op.sz a13 (t.f_Ops.xs).length c13 (flat e_Op t.f_Ops.xs) :: row e_S.T e_S.sz a10 (t.f_Writes.xs).length c10 (flat e_S t.f_Writes.xs) :: row e_S.T e_S.sz a7 (t.f_Reads.xs).length c7 (flat e_S t.f_Reads.xs) :: blk b1 (qzPCopy1 t) :: blk b2 (qzPCopy2) :: F) (fun w S => S.perm List.perm_append_comm) ?_
     refine l_f3 ?_
     refine o_store1 rfl rfl rfl ti27 rfl rfl ?_
     refine l_nil ?_
     refine q_conv (L' := (blk b2 (qzPCopy2) :: F) ++ [blk b1 (qzPCopy3 t a7 c7), row e_Op.T e_Op.sz a13 (t.f_Ops.xs).length c13 (flat e_Op t.f_Ops.xs), row e_S.T e_S.sz a10 (t.f_Writes.xs).length c10 (flat e_S t.f_Writes.xs), row e_S.T e_S.sz a7 (t.f_Reads.xs).length c7 (flat e_S t.f_Reads.xs)]) (fun w S => S.perm (List.perm_append_comm (l₁ := [blk b1 (qzPCopy3 t a7 c7), row e_Op.T e_Op.sz a13 (t.f_Ops.xs).length c13 (flat e_Op t.f_Ops.xs), row e_S.T e_S.sz a10 (t.f_Writes.xs).length c10 (flat e_S t.f_Writes.xs), row e_S.T e_S.sz a7 (t.f_Reads.xs).length c7 (flat e_S t.f_Reads.xs)]) (l₂ := blk b2 (qzPCopy2) :: F))) ?_
     refine h_next ?_
     refine h_take 11 rfl rfl (by kernel_rfl) (by kernel_rfl) (by kernel_rfl) (fun L0 => v_fieldAddr (q := ⟨b1, 2, none⟩) rfl rfl Try.underlying30 rfl ti27 rfl) ?_
     refine h_one 12 rfl (by kernel_rfl) ?_
     refine l_conv (L' := blk b1 (qzPCopy3 t a7 c7) :: row e_Op.T e_Op.sz a13 (t.f_Ops.xs).length c13 (flat e_Op t.f_Ops.xs) :: row e_S.T e_S.sz a10 (t.f_Writes.xs).length c10 (flat e_S t.f_Writes.xs) :: row e_S.T e_S.sz a7 (t.f_Reads.xs).length c7 (flat e_S t.f_Reads.xs) :: blk b2 (qzPCopy2) :: F) (fun w S => S.perm List.perm_append_comm) ?_
     refine o_store1 rfl rfl rfl ti27 rfl rfl ?_
     refine l_nil ?_
     refine q_conv (L' := (blk b2 (qzPCopy2) :: F) ++ [blk b1 (qzPCopy4 t a7 c7 a10 c10), row e_Op.T e_Op.sz a13 (t.f_Ops.xs).length c13 (flat e_Op t.f_Ops.xs), row e_S.T e_S.sz a10 (t.f_Writes.xs).length c10 (flat e_S t.f_Writes.xs), row e_S.T e_S.sz a7 (t.f_Reads.xs).length c7 (flat e_S t.f_Reads.xs)]) (fun w S => S.perm (List.perm_append_comm (l₁ := [blk b1 (qzPCopy4 t a7 c7 a10 c10), row e_Op.T e_Op.sz a13 (t.f_Ops.xs).length c13 (flat e_Op t.f_Ops.xs), row e_S.T e_S.sz a10 (t.f_Writes.xs).length c10 (flat e_S t.f_Writes.xs), row e_S.T e_S.sz a7 (t.f_Reads.xs).length c7 (flat e_S t.f_Reads.xs)]) (l₂ := blk b2 (qzPCopy2) :: F))) ?_
     refine h_next ?_
     refine h_take 13 rfl rfl (by kernel_rfl) (by kernel_rfl) (by kernel_rfl) (fun L0 => v_fieldAddr (q := ⟨b1, 3, none⟩) rfl rfl Try.underlying30 rfl ti28 rfl) ?_
     refine h_one 14 rfl (by kernel_rfl) ?_
     refine l_conv (L' := blk b1 (qzPCopy4 t a7 c7 a10 c10) :: row e_Op.T e_Op.sz a13 (t.f_Ops.xs).length c13 (flat e_Op t.f_Ops.xs) :: row e_S.T e_S.sz a10 (t.f_Writes.xs).length c10 (flat e_S t.f_Writes.xs) :: row e_S.T e_S.sz a7 (t.f_Reads.xs).length c7 (flat e_S t.f_Reads.xs) :: blk b2 (qzPCopy2) :: F) (fun w S => S.perm List.perm_append_comm) ?_
     refine o_store1 rfl rfl rfl ti28 rfl rfl ?_
     refine l_nil ?_
     refine q_conv (L' := (blk b2 (qzPCopy2) :: F) ++ [blk b1 (qzPCopy5 t a7 c7 a10 c10 a13 c13), row e_Op.T e_Op.sz a13 (t.f_Ops.xs).length c13 (flat e_Op t.f_Ops.xs), row e_S.T e_S.sz a10 (t.f_Writes.xs).length c10 (flat e_S t.f_Writes.xs), row e_S.T e_S.sz a7 (t.f_Reads.xs).length c7 (flat e_S t.f_Reads.xs)]) (fun w S => S.perm (List.perm_append_comm (l₁ := [blk b1 (qzPCopy5 t a7 c7 a10 c10 a13 c13), row e_Op.T e_Op.sz a13 (t.f_Ops.xs).length c13 (flat e_Op t.f_Ops.xs), row e_S.T e_S.sz a10 (t.f_Writes.xs).length c10 (flat e_S t.f_Writes.xs), row e_S.T e_S.sz a7 (t.f_Reads.xs).length c7 (flat e_S t.f_Reads.xs)]) (l₂ := blk b2 (qzPCopy2) :: F))) ?_
     refine h_next ?_
     refine h_done (by kernel_rfl) ?_
     refine q_conv (L' := blk b1 (qzPCopy5 t a7 c7 a10 c10 a13 c13) :: row e_Op.T e_Op.sz a13 (t.f_Ops.xs).length c13 (flat e_Op t.f_Ops.xs) :: row e_S.T e_S.sz a10 (t.f_Writes.xs).length c10 (flat e_S t.f_Writes.xs) :: row e_S.T e_S.sz a7 (t.f_Reads.xs).length c7 (flat e_S t.f_Reads.xs) :: blk b2 (qzPCopy2) :: F) (fun w S => S.perm List.perm_append_comm) ?_
     exact q_mid (a7, c7, a10, c10, a13, c13) (by trivial) ⟨(by first | rfl | exact vint (by omega)), (by first | rfl | exact vint (by omega)), (by first | rfl | exact vint (by omega)), (by first | rfl | exact vint (by omega)), (by first | rfl | exact vint (by omega)), (by first | rfl | exact vint (by omega)), (by first | rfl | exact vint (by omega)), (by first | rfl | exact vint (by omega)), (by first | rfl | exact vint (by omega)), (by first | rfl | exact vint (by omega)), (by first | rfl | exact vint (by omega)), (by first | rfl | exact vint (by omega)), (by first | rfl | exact vint (by omega)), (by first | rfl | exact vint (by omega)), (by first | rfl | exact vint (by omega)), trivial⟩ (fun w S => S)
    · -- 4 comes first
     refine l_conv (L' := blk b1 (qzPCopy1 t) :: blk b2 (qzPCopy2) :: F) (fun w S => S.perm List.perm_append_comm) ?_
     refine o_load1 rfl rfl Try.underlying27 rfl (rd_mem 0 rfl rfl) ?_
     refine l_nil ?_
     refine q_conv (L' := (blk b2 (qzPCopy2) :: F) ++ [blk b1 (qzPCopy1 t)]) (fun w S => S.perm (List.perm_append_comm (l₁ := [blk b1 (qzPCopy1 t)]) (l₂ := blk b2 (qzPCopy2) :: F))) ?_
     refine h_next ?_
     refine h_one 2 rfl (by kernel_rfl) ?_
     refine l_conv (L' := blk b1 (qzPCopy1 t) :: blk b2 (qzPCopy2) :: F) (fun w S => S.perm List.perm_append_comm) ?_
     refine o_call rfl cal57 rfl (cloneS (TxR.c (TxR.c T_t)).rr (by show _ * 16 ≤ _; omega) (by omega)) ?_
     rintro _ _ ⟨a7, c7, rfl, rfl⟩
     refine l_nil ?_
     refine q_conv (L' := (blk b2 (qzPCopy2) :: F) ++ [row e_S.T e_S.sz a7 (t.f_Reads.xs).length c7 (flat e_S t.f_Reads.xs), blk b1 (qzPCopy1 t)]) (fun w S => S.perm (List.perm_append_comm (l₁ := [row e_S.T e_S.sz a7 (t.f_Reads.xs).length c7 (flat e_S t.f_Reads.xs), blk b1 (qzPCopy1 t)]) (l₂ := blk b2 (qzPCopy2) :: F))) ?_
     refine h_next ?_
     refine h_take 9 rfl rfl (by kernel_rfl) (by kernel_rfl) (by kernel_rfl) (fun L0 => v_fieldAddr (q := ⟨b1, 1, none⟩) rfl rfl Try.underlying30 rfl ti27 rfl) ?_
     refine h_one 5 rfl (by kernel_rfl) ?_
     refine l_conv (L' := row e_S.T e_S.sz a7 (t.f_Reads.xs).length c7 (flat e_S t.f_Reads.xs) :: blk b1 (qzPCopy1 t) :: blk b2 (qzPCopy2) :: F) (fun w S => S.perm List.perm_append_comm) ?_
     refine o_call rfl cal57 rfl (cloneS (TxR.c (TxR.c (TxR.c T_t))).rw (by show _ * 16 ≤ _; omega) (by omega)) ?_
     rintro _ _ ⟨a10, c10, rfl, rfl⟩
     refine l_nil ?_
     refine q_conv (L' := (blk b2 (qzPCopy2) :: F) ++ [row e_S.T e_S.sz a10 (t.f_Writes.xs).length c10 (flat e_S t.f_Writes.xs), row e_S.T e_S.sz a7 (t.f_Reads.xs).length c7 (flat e_S t.f_Reads.xs), blk b1 (qzPCopy1 t)]) (fun w S => S.perm (List.perm_append_comm (l₁ := [row e_S.T e_S.sz a10 (t.f_Writes.xs).length c10 (flat e_S t.f_Writes.xs), row e_S.T e_S.sz a7 (t.f_Reads.xs).length c7 (flat e_S t.f_Reads.xs), blk b1 (qzPCopy1 t)]) (l₂ := blk b2 (qzPCopy2) :: F))) ?_
     refine h_next ?_
     refine h_one 8 rfl (by kernel_rfl) ?_
     refine l_conv (L' := row e_S.T e_S.sz a10 (t.f_Writes.xs).length c10 (flat e_S t.f_Writes.xs) :: row e_S.T e_S.sz a7 (t.f_Reads.xs).length c7 (flat e_S t.f_Reads.xs) :: blk b1 (qzPCopy1 t) :: blk b2 (qzPCopy2) :: F) (fun w S => S.perm List.perm_append_comm) ?_
     refine o_call rfl cal58 rfl (cloneO (TxR.c (TxR.c (TxR.c (TxR.c T_t)))).ro (by show _ * 56 ≤ _; omega) (by omega)) ?_
     rintro _ _ ⟨a13, c13, rfl, rfl⟩
     refine l_nil ?_
     refine q_conv (L' := (blk b2 (qzPCopy2) :: F) ++ [row e_Op.T e_Op.sz a13 (t.f_Ops.xs).length c13 (flat e_Op t.f_Ops.xs), row e_S.T e_S.sz a10 (t.f_Writes.xs).length c10 (flat e_S t.f_Writes.xs), row e_S.T e_S.sz a7 (t.f_Reads.xs).length c7 (flat e_S t.f_Reads.xs), blk b1 (qzPCopy1 t)]) (fun w S => S.perm (List.perm_append_comm (l₁ := [row e_Op.T e_Op.sz a13 (t.f_Ops.xs).length c13 (flat e_Op t.f_Ops.xs), row e_S.T e_S.sz a10 (t.f_Writes.xs).length c10 (flat e_S t.f_Writes.xs), row e_S.T e_S.sz a7 (t.f_Reads.xs).length c7 (flat e_S t.f_Reads.xs), blk b1 (qzPCopy1 t)]) (l₂ := blk b2 (qzPCopy2) :: F))) ?_
     refine h_next ?_
     refine h_one 10 rfl (by kernel_rfl) ?_
     refine l_conv (L' := row e_Op.T e_Op.sz a13 (t.f_Ops.xs).length c13 (flat e_Op t.f_Ops.xs) :: row e_S.T e_S.sz a10 (t.f_Writes.xs).length c10 (flat e_S t.f_Writes.xs) :: row e_S.T e_S.sz a7 (t.f_Reads.xs).length c7 (flat e_S t.f_Reads.xs) :: blk b1 (qzPCopy1 t) :: blk b2 (qzPCopy2) :: F) (fun w S => S.perm List.perm_append_comm) ?_
     refine l_f3 ?_
     refine o_store1 rfl rfl rfl ti27 rfl rfl ?_
     refine l_nil ?_
     refine q_conv (L' := (blk b2 (qzPCopy2) :: F) ++ [blk b1 (qzPCopy3 t a7 c7), row e_Op.T e_Op.sz a13 (t.f_Ops.xs).length c13 (flat e_Op t.f_Ops.xs), row e_S.T e_S.sz a10 (t.f_Writes.xs).length c10 (flat e_S t.f_Writes.xs), row e_S.T e_S.sz a7 (t.f_Reads.xs).length c7 (flat e_S t.f_Reads.xs)]) (fun w S => S.perm (List.perm_append_comm (l₁ := [blk b1 (qzPCopy3 t a7 c7), row e_Op.T e_Op.sz a13 (t.f_Ops.xs).length c13 (flat e_Op t.f_Ops.xs), row e_S.T e_S.sz a10 (t.f_Writes.xs).length c10 (flat e_S t.f_Writes.xs), row e_S.T e_S.sz a7 (t.f_Reads.xs).length c7 (flat e_S t.f_Reads.xs)]) (l₂ := blk b2 (qzPCopy2) :: F))) ?_
     refine h_next ?_
     refine h_take 11 rfl rfl (by kernel_rfl) (by kernel_rfl) (by kernel_rfl) (fun L0 => v_fieldAddr (q := ⟨b1, 2, none⟩) rfl rfl Try.underlying30 rfl ti27 rfl) ?_
     refine h_one 12 rfl (by kernel_rfl) ?_
     refine l_conv (L' := blk b1 (qzPCopy3 t a7 c7) :: row e_Op.T e_Op.sz a13 (t.f_Ops.xs).length c13 (flat e_Op t.f_Ops.xs) :: row e_S.T e_S.sz a10 (t.f_Writes.xs).length c10 (flat e_S t.f_Writes.xs) :: row e_S.T e_S.sz a7 (t.f_Reads.xs).length c7 (flat e_S t.f_Reads.xs) :: blk b2 (qzPCopy2) :: F) (fun w S => S.perm List.perm_append_comm) ?_
     refine o_store1 rfl rfl rfl ti27 rfl rfl ?_
     refine l_nil ?_
     refine q_conv (L' := (blk b2 (qzPCopy2) :: F) ++ [blk b1 (qzPCopy4 t a7 c7 a10 c10), row e_Op.T e_Op.sz a13 (t.f_Ops.xs).length c13 (flat e_Op t.f_Ops.xs), row e_S.T e_S.sz a10 (t.f_Writes.xs).length c10 (flat e_S t.f_Writes.xs), row e_S.T e_S.sz a7 (t.f_Reads.xs).length c7 (flat e_S t.f_Reads.xs)]) (fun w S => S.perm (List.perm_append_comm (l₁ := [blk b1 (qzPCopy4 t a7 c7 a10 c10), row e_Op.T e_Op.sz a13 (t.f_Ops.xs).length c13 (flat e_Op t.f_Ops.xs), row e_S.T e_S.sz a10 (t.f_Writes.xs).length c10 (flat e_S t.f_Writes.xs), row e_S.T e_S.sz a7 (t.f_Reads.xs).length c7 (flat e_S t.f_Reads.xs)]) (l₂ := blk b2 (qzPCopy2) :: F))) ?_
     refine h_next ?_
     refine h_take 13 rfl rfl (by kernel_rfl) (by kernel_rfl) (by kernel_rfl) (fun L0 => v_fieldAddr (q := ⟨b1, 3, none⟩) rfl rfl Try.underlying30 rfl ti28 rfl) ?_
     refine h_one 14 rfl (by kernel_rfl) ?_
     refine l_conv (L' := blk b1 (qzPCopy4 t a7 c7 a10 c10) :: row e_Op.T e_Op.sz a13 (t.f_Ops.xs).length c13 (flat e_Op t.f_Ops.xs) :: row e_S.T e_S.sz a10 (t.f_Writes.xs).length c10 (flat e_S t.f_Writes.xs) :: row e_S.T e_S.sz a7 (t.f_Reads.xs).length c7 (flat e_S t.f_Reads.xs) :: blk b2 (qzPCopy2) :: F) (fun w S => S.perm List.perm_append_comm) ?_
     refine o_store1 rfl rfl rfl ti28 rfl rfl ?_
     refine l_nil ?_
     refine q_conv (L' := (blk b2 (qzPCopy2) :: F) ++ [blk b1 (qzPCopy5 t a7 c7 a10 c10 a13 c13), row e_Op.T e_Op.sz a13 (t.f_Ops.xs).length c13 (flat e_Op t.f_Ops.xs), row e_S.T e_S.sz a10 (t.f_Writes.xs).length c10 (flat e_S t.f_Writes.xs), row e_S.T e_S.sz a7 (t.f_Reads.xs).length c7 (flat e_S t.f_Reads.xs)]) (fun w S => S.perm (List.perm_append_comm (l₁ := [blk b1 (qzPCopy5 t a7 c7 a10 c10 a13 c13), row e_Op.T e_Op.sz a13 (t.f_Ops.xs).length c13 (flat e_Op t.f_Ops.xs), row e_S.T e_S.sz a10 (t.f_Writes.xs).length c10 (flat e_S t.f_Writes.xs), row e_S.T e_S.sz a7 (t.f_Reads.xs).length c7 (flat e_S t.f_Reads.xs)]) (l₂ := blk b2 (qzPCopy2) :: F))) ?_
     refine h_next ?_
     refine h_done (by kernel_rfl) ?_
     refine q_conv (L' := blk b1 (qzPCopy5 t a7 c7 a10 c10 a13 c13) :: row e_Op.T e_Op.sz a13 (t.f_Ops.xs).length c13 (flat e_Op t.f_Ops.xs) :: row e_S.T e_S.sz a10 (t.f_Writes.xs).length c10 (flat e_S t.f_Writes.xs) :: row e_S.T e_S.sz a7 (t.f_Reads.xs).length c7 (flat e_S t.f_Reads.xs) :: blk b2 (qzPCopy2) :: F) (fun w S => S.perm List.perm_append_comm) ?_
     exact q_mid (a7, c7, a10, c10, a13, c13) (by trivial) ⟨(by first | rfl | exact vint (by omega)), (by first | rfl | exact vint (by omega)), (by first | rfl | exact vint (by omega)), (by first | rfl | exact vint (by omega)), (by first | rfl | exact vint (by omega)), (by first | rfl | exact vint (by omega)), (by first | rfl | exact vint (by omega)), (by first | rfl | exact vint (by omega)), (by first | rfl | exact vint (by omega)), (by first | rfl | exact vint (by omega)), (by first | rfl | exact vint (by omega)), (by first | rfl | exact vint (by omega)), (by first | rfl | exact vint (by omega)), (by first | rfl | exact vint (by omega)), (by first | rfl | exact vint (by omega)), trivial⟩ (fun w S => S)
   · -- 4 comes first
    refine l_conv (L' := blk b1 (qzPCopy1 t) :: blk b2 (qzPCopy2) :: F) (fun w S => S.perm List.perm_append_comm) ?_
    refine o_load1 rfl rfl Try.underlying27 rfl (rd_mem 0 rfl rfl) ?_
    refine l_nil ?_
    refine q_conv (L' := (blk b2 (qzPCopy2) :: F) ++ [blk b1 (qzPCopy1 t)]) (fun w S => S.perm (List.perm_append_comm (l₁ := [blk b1 (qzPCopy1 t)]) (l₂ := blk b2 (qzPCopy2) :: F))) ?_
    refine h_next ?_
    refine h_one 1 rfl (by kernel_rfl) ?_
    refine l_conv (L' := blk b1 (qzPCopy1 t) :: blk b2 (qzPCopy2) :: F) (fun w S => S.perm List.perm_append_comm) ?_
    refine o_load1 rfl rfl Try.underlying27 rfl (rd_mem 0 rfl rfl) ?_
    refine l_nil ?_
    refine q_conv (L' := (blk b2 (qzPCopy2) :: F) ++ [blk b1 (qzPCopy1 t)]) (fun w S => S.perm (List.perm_append_comm (l₁ := [blk b1 (qzPCopy1 t)]) (l₂ := blk b2 (qzPCopy2) :: F))) ?_
    refine h_next ?_
    refine h_one 2 rfl (by kernel_rfl) ?_
    refine l_conv (L' := blk b1 (qzPCopy1 t) :: blk b2 (qzPCopy2) :: F) (fun w S => S.perm List.perm_append_comm) ?_
    refine o_call rfl cal57 rfl (cloneS (TxR.c (TxR.c T_t)).rr (by show _ * 16 ≤ _; omega) (by omega)) ?_
    rintro _ _ ⟨a7, c7, rfl, rfl⟩
    refine l_nil ?_
    refine q_conv (L' := (blk b2 (qzPCopy2) :: F) ++ [row e_S.T e_S.sz a7 (t.f_Reads.xs).length c7 (flat e_S t.f_Reads.xs), blk b1 (qzPCopy1 t)]) (fun w S => S.perm (List.perm_append_comm (l₁ := [row e_S.T e_S.sz a7 (t.f_Reads.xs).length c7 (flat e_S t.f_Reads.xs), blk b1 (qzPCopy1 t)]) (l₂ := blk b2 (qzPCopy2) :: F))) ?_
    refine h_next ?_
    refine h_take 9 rfl rfl (by kernel_rfl) (by kernel_rfl) (by kernel_rfl) (fun L0 => v_fieldAddr (q := ⟨b1, 1, none⟩) rfl rfl Try.underlying30 rfl ti27 rfl) ?_
    refine h_one 5 rfl (by kernel_rfl) ?_
    refine l_conv (L' := row e_S.T e_S.sz a7 (t.f_Reads.xs).length c7 (flat e_S t.f_Reads.xs) :: blk b1 (qzPCopy1 t) :: blk b2 (qzPCopy2) :: F) (fun w S => S.perm List.perm_append_comm) ?_
    refine o_call rfl cal57 rfl (cloneS (TxR.c (TxR.c (TxR.c T_t))).rw (by show _ * 16 ≤ _; omega) (by omega)) ?_
    rintro _ _ ⟨a10, c10, rfl, rfl⟩
    refine l_nil ?_
    refine q_conv (L' := (blk b2 (qzPCopy2) :: F) ++ [row e_S.T e_S.sz a10 (t.f_Writes.xs).length c10 (flat e_S t.f_Writes.xs), row e_S.T e_S.sz a7 (t.f_Reads.xs).length c7 (flat e_S t.f_Reads.xs), blk b1 (qzPCopy1 t)]) (fun w S => S.perm (List.perm_append_comm (l₁ := [row e_S.T e_S.sz a10 (t.f_Writes.xs).length c10 (flat e_S t.f_Writes.xs), row e_S.T e_S.sz a7 (t.f_Reads.xs).length c7 (flat e_S t.f_Reads.xs), blk b1 (qzPCopy1 t)]) (l₂ := blk b2 (qzPCopy2) :: F))) ?_
    refine h_next ?_
    refine h_one 8 rfl (by kernel_rfl) ?_
    refine l_conv (L' := row e_S.T e_S.sz a10 (t.f_Writes.xs).length c10 (flat e_S t.f_Writes.xs) :: row e_S.T e_S.sz a7 (t.f_Reads.xs).length c7 (flat e_S t.f_Reads.xs) :: blk b1 (qzPCopy1 t) :: blk b2 (qzPCopy2) :: F) (fun w S => S.perm List.perm_append_comm) ?_
    refine o_call rfl cal58 rfl (cloneO (TxR.c (TxR.c (TxR.c (TxR.c T_t)))).ro (by show _ * 56 ≤ _; omega) (by omega)) ?_
    rintro _ _ ⟨a13, c13, rfl, rfl⟩
    refine l_nil ?_
    refine q_conv (L' := (blk b2 (qzPCopy2) :: F) ++ [row e_Op.T e_Op.sz a13 (t.f_Ops.xs).length c13 (flat e_Op t.f_Ops.xs), row e_S.T e_S.sz a10 (t.f_Writes.xs).length c10 (flat e_S t.f_Writes.xs), row e_S.T e_S.sz a7 (t.f_Reads.xs).length c7 (flat e_S t.f_Reads.xs), blk b1 (qzPCopy1 t)]) (fun w S => S.perm (List.perm_append_comm (l₁ := [row e_Op.T e_Op.sz a13 (t.f_Ops.xs).length c13 (flat e_Op t.f_Ops.xs), row e_S.T e_S.sz a10 (t.f_Writes.xs).length c10 (flat e_S t.f_Writes.xs), row e_S.T e_S.sz a7 (t.f_Reads.xs).length c7 (flat e_S t.f_Reads.xs), blk b1 (qzPCopy1 t)]) (l₂ := blk b2 (qzPCopy2) :: F))) ?_
    refine h_next ?_
    refine h_one 10 rfl (by kernel_rfl) ?_
    refine l_conv (L' := row e_Op.T e_Op.sz a13 (t.f_Ops.xs).length c13 (flat e_Op t.f_Ops.xs) :: row e_S.T e_S.sz a10 (t.f_Writes.xs).length c10 (flat e_S t.f_Writes.xs) :: row e_S.T e_S.sz a7 (t.f_Reads.xs).length c7 (flat e_S t.f_Reads.xs) :: blk b1 (qzPCopy1 t) :: blk b2 (qzPCopy2) :: F) (fun w S => S.perm List.perm_append_comm) ?_
    refine l_f3 ?_
    refine o_store1 rfl rfl rfl ti27 rfl rfl ?_
    refine l_nil ?_
    refine q_conv (L' := (blk b2 (qzPCopy2) :: F) ++ [blk b1 (qzPCopy3 t a7 c7), row e_Op.T e_Op.sz a13 (t.f_Ops.xs).length c13 (flat e_Op t.f_Ops.xs), row e_S.T e_S.sz a10 (t.f_Writes.xs).length c10 (flat e_S t.f_Writes.xs), row e_S.T e_S.sz a7 (t.f_Reads.xs).length c7 (flat e_S t.f_Reads.xs)]) (fun w S => S.perm (List.perm_append_comm (l₁ := [blk b1 (qzPCopy3 t a7 c7), row e_Op.T e_Op.sz a13 (t.f_Ops.xs).length c13 (flat e_Op t.f_Ops.xs), row e_S.T e_S.sz a10 (t.f_Writes.xs).length c10 (flat e_S t.f_Writes.xs), row e_S.T e_S.sz a7 (t.f_Reads.xs).length c7 (flat e_S t.f_Reads.xs)]) (l₂ := blk b2 (qzPCopy2) :: F))) ?_
    refine h_next ?_
    refine h_take 11 rfl rfl (by kernel_rfl) (by kernel_rfl) (by kernel_rfl) (fun L0 => v_fieldAddr (q := ⟨b1, 2, none⟩) rfl rfl Try.underlying30 rfl ti27 rfl) ?_
    refine h_one 12 rfl (by kernel_rfl) ?_
    refine l_conv (L' := blk b1 (qzPCopy3 t a7 c7) :: row e_Op.T e_Op.sz a13 (t.f_Ops.xs).length c13 (flat e_Op t.f_Ops.xs) :: row e_S.T e_S.sz a10 (t.f_Writes.xs).length c10 (flat e_S t.f_Writes.xs) :: row e_S.T e_S.sz a7 (t.f_Reads.xs).length c7 (flat e_S t.f_Reads.xs) :: blk b2 (qzPCopy2) :: F) (fun w S => S.perm List.perm_append_comm) ?_
    refine o_store1 rfl rfl rfl ti27 rfl rfl ?_
    refine l_nil ?_
    refine q_conv (L' := (blk b2 (qzPCopy2) :: F) ++ [blk b1 (qzPCopy4 t a7 c7 a10 c10), row e_Op.T e_Op.sz a13 (t.f_Ops.xs).length c13 (flat e_Op t.f_Ops.xs), row e_S.T e_S.sz a10 (t.f_Writes.xs).length c10 (flat e_S t.f_Writes.xs), row e_S.T e_S.sz a7 (t.f_Reads.xs).length c7 (flat e_S t.f_Reads.xs)]) (fun w S => S.perm (List.perm_append_comm (l₁ := [blk b1 (qzPCopy4 t a7 c7 a10 c10), row e_Op.T e_Op.sz a13 (t.f_Ops.xs).length c13 (flat e_Op t.f_Ops.xs), row e_S.T e_S.sz a10 (t.f_Writes.xs).length c10 (flat e_S t.f_Writes.xs), row e_S.T e_S.sz a7 (t.f_Reads.xs).length c7 (flat e_S t.f_Reads.xs)]) (l₂ := blk b2 (qzPCopy2) :: F))) ?_
    refine h_next ?_
    refine h_take 13 rfl rfl (by kernel_rfl) (by kernel_rfl) (by kernel_rfl) (fun L0 => v_fieldAddr (q := ⟨b1, 3, none⟩) rfl rfl Try.underlying30 rfl ti28 rfl) ?_
    refine h_one 14 rfl (by kernel_rfl) ?_
    refine l_conv (L' := blk b1 (qzPCopy4 t a7 c7 a10 c10) :: row e_Op.T e_Op.sz a13 (t.f_Ops.xs).length c13 (flat e_Op t.f_Ops.xs) :: row e_S.T e_S.sz a10 (t.f_Writes.xs).length c10 (flat e_S t.f_Writes.xs) :: row e_S.T e_S.sz a7 (t.f_Reads.xs).length c7 (flat e_S t.f_Reads.xs) :: blk b2 (qzPCopy2) :: F) (fun w S => S.perm List.perm_append_comm) ?_
    refine o_store1 rfl rfl rfl ti28 rfl rfl ?_
    refine l_nil ?_
    refine q_conv (L' := (blk b2 (qzPCopy2) :: F) ++ [blk b1 (qzPCopy5 t a7 c7 a10 c10 a13 c13), row e_Op.T e_Op.sz a13 (t.f_Ops.xs).length c13 (flat e_Op t.f_Ops.xs), row e_S.T e_S.sz a10 (t.f_Writes.xs).length c10 (flat e_S t.f_Writes.xs), row e_S.T e_S.sz a7 (t.f_Reads.xs).length c7 (flat e_S t.f_Reads.xs)]) (fun w S => S.perm (List.perm_append_comm (l₁ := [blk b1 (qzPCopy5 t a7 c7 a10 c10 a13 c13), row e_Op.T e_Op.sz a13 (t.f_Ops.xs).length c13 (flat e_Op t.f_Ops.xs), row e_S.T e_S.sz a10 (t.f_Writes.xs).length c10 (flat e_S t.f_Writes.xs), row e_S.T e_S.sz a7 (t.f_Reads.xs).length c7 (flat e_S t.f_Reads.xs)]) (l₂ := blk b2 (qzPCopy2) :: F))) ?_
    refine h_next ?_
    refine h_done (by kernel_rfl) ?_
    refine q_conv (L' := blk b1 (qzPCopy5 t a7 c7 a10 c10 a13 c13) :: row e_Op.T e_Op.sz a13 (t.f_Ops.xs).length c13 (flat e_Op t.f_Ops.xs) :: row e_S.T e_S.sz a10 (t.f_Writes.xs).length c10 (flat e_S t.f_Writes.xs) :: row e_S.T e_S.sz a7 (t.f_Reads.xs).length c7 (flat e_S t.f_Reads.xs) :: blk b2 (qzPCopy2) :: F) (fun w S => S.perm List.perm_append_comm) ?_
    exact q_mid (a7, c7, a10, c10, a13, c13) (by trivial) ⟨(by first | rfl | exact vint (by omega)), (by first | rfl | exact vint (by omega)), (by first | rfl | exact vint (by omega)), (by first | rfl | exact vint (by omega)), (by first | rfl | exact vint (by omega)), (by first | rfl | exact vint (by omega)), (by first | rfl | exact vint (by omega)), (by first | rfl | exact vint (by omega)), (by first | rfl | exact vint (by omega)), (by first | rfl | exact vint (by omega)), (by first | rfl | exact vint (by omega)), (by first | rfl | exact vint (by omega)), (by first | rfl | exact vint (by omega)), (by first | rfl | exact vint (by omega)), (by first | rfl | exact vint (by omega)), trivial⟩ (fun w S => S)
 · -- behind the cut
  rintro ⟨a7, c7, a10, c10, a13, c13⟩ _hp
  try dsimp only at *
  refine c_seq ?_
  refine c_seq ?_
  refine c_conv (L' := stars (((t.f_Ops.xs.take 0).map Op.f_Value).map (vrow e8)) :: _) (fun w S => S.stars_nil) ?_
  refine c_region ?_
  refine o_fieldAddr (q := ⟨b1, 3, none⟩) rfl rfl Try.underlying30 rfl ti28 rfl ?_
  refine o_load1 rfl rfl Try.underlying28 rfl (rd_mem 1 rfl rfl) ?_
  refine o_len rfl rfl Try.underlying28 ?_
  refine o_move rfl rfl ?_
  refine l_nil ?_
  refine q_then ?_
  refine c_block ?_
  refine c_loop (α := Nat × (List Op)) (fun z => [(1, .pointer (some ⟨b1, 0, none⟩)), (2, .pointer (some ⟨b2, 0, none⟩)), (18, .slice a13 (z.2).length c13), (19, .int .i64 ((t.f_Ops.xs).length : Int)), (20, .int .i64 (z.1 : Int))]) (fun z => stars (((z.2.take z.1).map Op.f_Value).map (vrow e8)) :: blk b1 (.cells #[.int .i64 t.f_Kind, .slice a7 (t.f_Reads.xs).length c7, .slice a10 (t.f_Writes.xs).length c10, .slice a13 (z.2).length c13, .int .i64 t.f_To] 30 (0, 0)) :: row e_Op.T e_Op.sz a13 (z.2).length c13 (flat e_Op z.2) :: row e_S.T e_S.sz a10 (t.f_Writes.xs).length c10 (flat e_S t.f_Writes.xs) :: row e_S.T e_S.sz a7 (t.f_Reads.xs).length c7 (flat e_S t.f_Reads.xs) :: blk b2 (qzPCopy2) :: F) (fun z => z.1 ≤ t.f_Ops.xs.length ∧ z.2.length = t.f_Ops.xs.length ∧ SameOps z.2 t.f_Ops.xs t.f_Ops.xs.length ∧ ∀ j x, z.1 ≤ j → z.2[j]? = some x → t.f_Ops.xs[j]? = some x) (fun z => t.f_Ops.xs.length - z.1) (0, t.f_Ops.xs) (by exact ⟨Nat.zero_le _, rfl, sameOps_refl _ _, fun j x _ h => h⟩) ⟨(by first | rfl | exact vint (by omega)), (by first | rfl | exact vint (by omega)), (by first | rfl | exact vint (by omega)), (by first | rfl | exact vint (by omega)), (by first | rfl | exact vint (by omega)), trivial⟩ (fun w S => S) ?_
  rintro ⟨i, os⟩ ⟨hi, hol, hso, htl⟩
  try dsimp only at *
  refine c_seq ?_
  refine c_region ?_
  refine o_bin rfl rfl rfl b_lss ?_
  refine l_nil ?_
  refine q_then ?_
  refine c_seq ?_
  refine c_cond rfl (fun h1 => ?_) (fun h1 => ?_)
  · -- h1T
   have h1b := h1
   try simp only [decide_eq_true_eq] at h1
   refine c_skip ?_
   refine q_then ?_
   refine c_seq ?_
   refine c_block ?_
   refine c_seq ?_
   refine c_region ?_
   refine o_move rfl rfl ?_
   refine o_index e_Op_ok rfl rfl rfl Try.underlying28 (by omega) (by omega) (rds_own e_Op_ok 2 rfl) fun ad23 ead23 => ?_
   obtain ⟨x23, hx23⟩ : ∃ x, (os)[((i : Int)).toNat]? = some x := ⟨_, List.getElem?_eq_getElem (by omega)⟩
   refine o_loadn (vs := e_Op.cells x23) rfl rfl Try.underlying53 rfl ti53 (rdn_sl e_Op_ok ead23 (rds_own e_Op_ok 2 rfl) hx23) ?_
   have hte := htl i x23 (Nat.le_refl _) hx23
   have hv24 := small.op hte
   refine o_alloc rfl ti53 fun b4 => ?_
   refine o_assign rfl rfl ?_
   refine o_storen rfl rfl ti53 rfl rfl rfl rfl ?_
   refine l_nil ?_
   refine q_then ?_
   refine c_fact (p := ∃ ad, a13 = some ad) (rds_some (e := e_Op) (xs := os) (rds_own e_Op_ok 3 rfl) (by intro h0; have h00 := congrArg List.length h0; simp only [List.length_nil] at h00; omega)) ?_
   rintro ⟨adx, eadx⟩
   refine c_conv (fun w S => S.perm p3) ?_
   refine c_conv (fun w S => S.perm p3) ?_
   refine c_conv (fun w S => S.perm p6) ?_
   refine c_conv (fun w S => S.perm p6) ?_
   refine c_conv (fun w S => S.perm p6) ?_
   refine c_conv (fun w S => S.perm p6) ?_
   refine c_conv (fun w S => S.perm p6) ?_
   refine c_conv (fun w S => S.perm p4) ?_
   refine c_conv (fun w S => S.perm p4) ?_
   refine c_conv (fun w S => S.perm p4) ?_
   refine c_conv (fun w S => S.perm p4) ?_
   refine c_conv (fun w S => S.perm p4) ?_
   refine c_conv (fun w S => S.perm p6) ?_
   refine c_conv (fun w S => S.perm p6) ?_
   refine c_heldF [blk b1 (.cells #[.int .i64 t.f_Kind, .slice a7 (t.f_Reads.xs).length c7, .slice a10 (t.f_Writes.xs).length c10, .slice a13 (os).length c13, .int .i64 t.f_To] 30 (0, 0)), row e_Op.T e_Op.sz a13 (os).length c13 (flat e_Op os)] (blk b4 (qzPCopy6 x23) :: stars (((os.take i).map Op.f_Value).map (vrow e8)) :: row e_S.T e_S.sz a10 (t.f_Writes.xs).length c10 (flat e_S t.f_Writes.xs) :: row e_S.T e_S.sz a7 (t.f_Reads.xs).length c7 (flat e_S t.f_Reads.xs) :: blk b2 (qzPCopy2) :: F) (by kernel_rfl) ?_
   refine h_take 0 rfl rfl (by kernel_rfl) (by kernel_rfl) (by kernel_rfl) (fun L0 => v_fieldAddr (q := ⟨b1, 3, none⟩) rfl rfl Try.underlying30 rfl ti28 rfl) ?_
   refine h_take 2 rfl rfl (by kernel_rfl) (by kernel_rfl) (by kernel_rfl) (fun L0 => v_move rfl rfl) ?_
   refine h_take 3 rfl rfl (by kernel_rfl) (by kernel_rfl) (by kernel_rfl) (fun L0 => v_fieldAddr (q := ⟨b4, 2, none⟩) rfl rfl Try.underlying53 rfl ti45 rfl) ?_
   refine h_take 4 rfl rfl (by kernel_rfl) (by kernel_rfl) (by kernel_rfl) (fun L0 => v_load1 rfl rfl Try.underlying45 rfl (rd_mem 0 rfl rfl)) ?_
   refine h_many (is := [1, 5]) (by kernel_rfl) (by decide) (forall_cons ⟨_, rfl, ?_⟩ (forall_cons ⟨_, rfl, ?_⟩ forall_nil))
   · -- 1 comes first
    refine l_conv (L' := blk b1 (.cells #[.int .i64 t.f_Kind, .slice a7 (t.f_Reads.xs).length c7, .slice a10 (t.f_Writes.xs).length c10, .slice a13 (os).length c13, .int .i64 t.f_To] 30 (0, 0)) :: row e_Op.T e_Op.sz a13 (os).length c13 (flat e_Op os) :: blk b4 (qzPCopy6 x23) :: stars (((os.take i).map Op.f_Value).map (vrow e8)) :: row e_S.T e_S.sz a10 (t.f_Writes.xs).length c10 (flat e_S t.f_Writes.xs) :: row e_S.T e_S.sz a7 (t.f_Reads.xs).length c7 (flat e_S t.f_Reads.xs) :: blk b2 (qzPCopy2) :: F) (fun w S => S.perm List.perm_append_comm) ?_
    refine o_load1 rfl rfl Try.underlying28 rfl (rd_mem 0 rfl rfl) ?_
    refine l_nil ?_
    refine q_conv (L' := (blk b4 (qzPCopy6 x23) :: stars (((os.take i).map Op.f_Value).map (vrow e8)) :: row e_S.T e_S.sz a10 (t.f_Writes.xs).length c10 (flat e_S t.f_Writes.xs) :: row e_S.T e_S.sz a7 (t.f_Reads.xs).length c7 (flat e_S t.f_Reads.xs) :: blk b2 (qzPCopy2) :: F) ++ [blk b1 (.cells #[.int .i64 t.f_Kind, .slice a7 (t.f_Reads.xs).length c7, .slice a10 (t.f_Writes.xs).length c10, .slice a13 (os).length c13, .int .i64 t.f_To] 30 (0, 0)), row e_Op.T e_Op.sz a13 (os).length c13 (flat e_Op os)]) (fun w S => S.perm (List.perm_append_comm (l₁ := [blk b1 (.cells #[.int .i64 t.f_Kind, .slice a7 (t.f_Reads.xs).length c7, .slice a10 (t.f_Writes.xs).length c10, .slice a13 (os).length c13, .int .i64 t.f_To] 30 (0, 0)), row e_Op.T e_Op.sz a13 (os).length c13 (flat e_Op os)]) (l₂ := blk b4 (qzPCopy6 x23) :: stars (((os.take i).map Op.f_Value).map (vrow e8)) :: row e_S.T e_S.sz a10 (t.f_Writes.xs).length c10 (flat e_S t.f_Writes.xs) :: row e_S.T e_S.sz a7 (t.f_Reads.xs).length c7 (flat e_S t.f_Reads.xs) :: blk b2 (qzPCopy2) :: F))) ?_
    refine h_next ?_
    refine h_one 5 rfl (by kernel_rfl) ?_
    refine l_conv (L' := blk b1 (.cells #[.int .i64 t.f_Kind, .slice a7 (t.f_Reads.xs).length c7, .slice a10 (t.f_Writes.xs).length c10, .slice a13 (os).length c13, .int .i64 t.f_To] 30 (0, 0)) :: row e_Op.T e_Op.sz a13 (os).length c13 (flat e_Op os) :: blk b4 (qzPCopy6 x23) :: stars (((os.take i).map Op.f_Value).map (vrow e8)) :: row e_S.T e_S.sz a10 (t.f_Writes.xs).length c10 (flat e_S t.f_Writes.xs) :: row e_S.T e_S.sz a7 (t.f_Reads.xs).length c7 (flat e_S t.f_Reads.xs) :: blk b2 (qzPCopy2) :: F) (fun w S => S.perm List.perm_append_comm) ?_
    refine o_call rfl cal59 rfl (clone8 ((TxR.c (TxR.c (TxR.c (TxR.c (TxR.c (TxR.c (TxR.c T_t))))))).rv x23 (List.mem_of_getElem? hte)) (by show _ * 1 ≤ _; omega) (by omega)) ?_
    rintro _ _ ⟨a30, c30, rfl, rfl⟩
    refine l_nil ?_
    refine q_conv (L' := (blk b4 (qzPCopy6 x23) :: stars (((os.take i).map Op.f_Value).map (vrow e8)) :: row e_S.T e_S.sz a10 (t.f_Writes.xs).length c10 (flat e_S t.f_Writes.xs) :: row e_S.T e_S.sz a7 (t.f_Reads.xs).length c7 (flat e_S t.f_Reads.xs) :: blk b2 (qzPCopy2) :: F) ++ [row e8.T e8.sz a30 (x23.f_Value.xs).length c30 (flat e8 x23.f_Value.xs), blk b1 (.cells #[.int .i64 t.f_Kind, .slice a7 (t.f_Reads.xs).length c7, .slice a10 (t.f_Writes.xs).length c10, .slice a13 (os).length c13, .int .i64 t.f_To] 30 (0, 0)), row e_Op.T e_Op.sz a13 (os).length c13 (flat e_Op os)]) (fun w S => S.perm (List.perm_append_comm (l₁ := [row e8.T e8.sz a30 (x23.f_Value.xs).length c30 (flat e8 x23.f_Value.xs), blk b1 (.cells #[.int .i64 t.f_Kind, .slice a7 (t.f_Reads.xs).length c7, .slice a10 (t.f_Writes.xs).length c10, .slice a13 (os).length c13, .int .i64 t.f_To] 30 (0, 0)), row e_Op.T e_Op.sz a13 (os).length c13 (flat e_Op os)]) (l₂ := blk b4 (qzPCopy6 x23) :: stars (((os.take i).map Op.f_Value).map (vrow e8)) :: row e_S.T e_S.sz a10 (t.f_Writes.xs).length c10 (flat e_S t.f_Writes.xs) :: row e_S.T e_S.sz a7 (t.f_Reads.xs).length c7 (flat e_S t.f_Reads.xs) :: blk b2 (qzPCopy2) :: F))) ?_
    refine h_next ?_
    refine h_take 6 rfl rfl (by kernel_rfl) (by kernel_rfl) (by kernel_rfl) (fun L0 => v_indexK e_Op_ok eadx rfl rfl rfl Try.underlying28 (by omega) (by omega)) ?_
    obtain ⟨x31, hx31⟩ : ∃ x, (os)[((i : Int)).toNat]? = some x := ⟨_, List.getElem?_eq_getElem (by omega)⟩
    have e31 : x31 = x23 := by rw [hx23] at hx31; exact (Option.some.inj hx31).symm
    refine h_take 7 rfl rfl (by kernel_rfl) (by kernel_rfl) (by kernel_rfl) (fun L0 => v_fieldAddr rfl rfl Try.underlying53 rfl ti45 (Addr.add_add' _ _ _)) ?_
    refine h_one 8 rfl (by kernel_rfl) ?_
    refine l_conv (L' := row e8.T e8.sz a30 (x23.f_Value.xs).length c30 (flat e8 x23.f_Value.xs) :: blk b1 (.cells #[.int .i64 t.f_Kind, .slice a7 (t.f_Reads.xs).length c7, .slice a10 (t.f_Writes.xs).length c10, .slice a13 (os).length c13, .int .i64 t.f_To] 30 (0, 0)) :: row e_Op.T e_Op.sz a13 (os).length c13 (flat e_Op os) :: blk b4 (qzPCopy6 x23) :: stars (((os.take i).map Op.f_Value).map (vrow e8)) :: row e_S.T e_S.sz a10 (t.f_Writes.xs).length c10 (flat e_S t.f_Writes.xs) :: row e_S.T e_S.sz a7 (t.f_Reads.xs).length c7 (flat e_S t.f_Reads.xs) :: blk b2 (qzPCopy2) :: F) (fun w S => S.perm List.perm_append_comm) ?_
    refine l_f2 ?_
    refine o_storeRow (x1 := (⟨x31.f_Kind, x31.f_Key, ⟨a30, x23.f_Value.xs, c30⟩, x31.f_N⟩ : Op)) e_Op_ok eadx rfl rfl rfl ti45 hx31 (by decide) rfl ?_
    refine l_f2 ?_
    refine l_conv (L' := blk b1 (.cells #[.int .i64 t.f_Kind, .slice a7 (t.f_Reads.xs).length c7, .slice a10 (t.f_Writes.xs).length c10, .slice a13 (os).length c13, .int .i64 t.f_To] 30 (0, 0)) :: _) (fun w S => S) ?_
    refine l_conv (L' := blk b1 (.cells #[.int .i64 t.f_Kind, .slice a7 (t.f_Reads.xs).length c7, .slice a10 (t.f_Writes.xs).length c10, .slice a13 ((os).set ((i : Int)).toNat (⟨x31.f_Kind, x31.f_Key, ⟨a30, x23.f_Value.xs, c30⟩, x31.f_N⟩ : Op)).length c13, .int .i64 t.f_To] 30 (0, 0)) :: row e_Op.T e_Op.sz a13 ((os).set ((i : Int)).toNat (⟨x31.f_Kind, x31.f_Key, ⟨a30, x23.f_Value.xs, c30⟩, x31.f_N⟩ : Op)).length c13 (flat e_Op ((os).set ((i : Int)).toNat (⟨x31.f_Kind, x31.f_Key, ⟨a30, x23.f_Value.xs, c30⟩, x31.f_N⟩ : Op))) :: row e8.T e8.sz a30 (x23.f_Value.xs).length c30 (flat e8 x23.f_Value.xs) :: blk b4 (qzPCopy6 x23) :: stars (((os.take i).map Op.f_Value).map (vrow e8)) :: row e_S.T e_S.sz a10 (t.f_Writes.xs).length c10 (flat e_S t.f_Writes.xs) :: row e_S.T e_S.sz a7 (t.f_Reads.xs).length c7 (flat e_S t.f_Reads.xs) :: blk b2 (qzPCopy2) :: F) (fun w S => by first | exact S | simpa only [List.length_set] using S | (simp only [List.length_set] at S ⊢; exact S)) ?_
    refine l_nil ?_
    refine q_conv (L' := (blk b4 (qzPCopy6 x23) :: stars (((os.take i).map Op.f_Value).map (vrow e8)) :: row e_S.T e_S.sz a10 (t.f_Writes.xs).length c10 (flat e_S t.f_Writes.xs) :: row e_S.T e_S.sz a7 (t.f_Reads.xs).length c7 (flat e_S t.f_Reads.xs) :: blk b2 (qzPCopy2) :: F) ++ [blk b1 (.cells #[.int .i64 t.f_Kind, .slice a7 (t.f_Reads.xs).length c7, .slice a10 (t.f_Writes.xs).length c10, .slice a13 ((os).set ((i : Int)).toNat (⟨x31.f_Kind, x31.f_Key, ⟨a30, x23.f_Value.xs, c30⟩, x31.f_N⟩ : Op)).length c13, .int .i64 t.f_To] 30 (0, 0)), row e_Op.T e_Op.sz a13 ((os).set ((i : Int)).toNat (⟨x31.f_Kind, x31.f_Key, ⟨a30, x23.f_Value.xs, c30⟩, x31.f_N⟩ : Op)).length c13 (flat e_Op ((os).set ((i : Int)).toNat (⟨x31.f_Kind, x31.f_Key, ⟨a30, x23.f_Value.xs, c30⟩, x31.f_N⟩ : Op))), row e8.T e8.sz a30 (x23.f_Value.xs).length c30 (flat e8 x23.f_Value.xs)]) (fun w S => S.perm (List.perm_append_comm (l₁ := [blk b1 (.cells #[.int .i64 t.f_Kind, .slice a7 (t.f_Reads.xs).length c7, .slice a10 (t.f_Writes.xs).length c10, .slice a13 ((os).set ((i : Int)).toNat (⟨x31.f_Kind, x31.f_Key, ⟨a30, x23.f_Value.xs, c30⟩, x31.f_N⟩ : Op)).length c13, .int .i64 t.f_To] 30 (0, 0)), row e_Op.T e_Op.sz a13 ((os).set ((i : Int)).toNat (⟨x31.f_Kind, x31.f_Key, ⟨a30, x23.f_Value.xs, c30⟩, x31.f_N⟩ : Op)).length c13 (flat e_Op ((os).set ((i : Int)).toNat (⟨x31.f_Kind, x31.f_Key, ⟨a30, x23.f_Value.xs, c30⟩, x31.f_N⟩ : Op))), row e8.T e8.sz a30 (x23.f_Value.xs).length c30 (flat e8 x23.f_Value.xs)]) (l₂ := blk b4 (qzPCopy6 x23) :: stars (((os.take i).map Op.f_Value).map (vrow e8)) :: row e_S.T e_S.sz a10 (t.f_Writes.xs).length c10 (flat e_S t.f_Writes.xs) :: row e_S.T e_S.sz a7 (t.f_Reads.xs).length c7 (flat e_S t.f_Reads.xs) :: blk b2 (qzPCopy2) :: F))) ?_
    refine h_next ?_
    refine h_done (by kernel_rfl) ?_
    refine q_conv (L' := blk b1 (.cells #[.int .i64 t.f_Kind, .slice a7 (t.f_Reads.xs).length c7, .slice a10 (t.f_Writes.xs).length c10, .slice a13 ((os).set ((i : Int)).toNat (⟨x31.f_Kind, x31.f_Key, ⟨a30, x23.f_Value.xs, c30⟩, x31.f_N⟩ : Op)).length c13, .int .i64 t.f_To] 30 (0, 0)) :: row e_Op.T e_Op.sz a13 ((os).set ((i : Int)).toNat (⟨x31.f_Kind, x31.f_Key, ⟨a30, x23.f_Value.xs, c30⟩, x31.f_N⟩ : Op)).length c13 (flat e_Op ((os).set ((i : Int)).toNat (⟨x31.f_Kind, x31.f_Key, ⟨a30, x23.f_Value.xs, c30⟩, x31.f_N⟩ : Op))) :: row e8.T e8.sz a30 (x23.f_Value.xs).length c30 (flat e8 x23.f_Value.xs) :: blk b4 (qzPCopy6 x23) :: stars (((os.take i).map Op.f_Value).map (vrow e8)) :: row e_S.T e_S.sz a10 (t.f_Writes.xs).length c10 (flat e_S t.f_Writes.xs) :: row e_S.T e_S.sz a7 (t.f_Reads.xs).length c7 (flat e_S t.f_Reads.xs) :: blk b2 (qzPCopy2) :: F) (fun w S => S.perm List.perm_append_comm) ?_
    refine q_block ?_
    refine q_then ?_
    refine c_region ?_
    refine o_bin rfl rfl rfl (b_add (wrap_i64 (by omega) (by omega))) ?_
    refine o_move rfl rfl ?_
    refine l_nil ?_
    refine q_conv (fun w S => S.perm p7) ?_
    refine q_conv (fun w S => S.perm p7) ?_
    refine q_conv (fun w S => S.perm p7) ?_
    refine q_conv (fun w S => S.perm p6) ?_
    refine q_conv (fun w S => S.perm p5) ?_
    refine q_conv (fun w S => S.perm p5) ?_
    refine q_conv (fun w S => S.perm p7) ?_
    refine q_conv (fun w S => S.perm p7) ?_
    refine q_conv (L' := stars ((((os.set ((i : Int)).toNat (⟨x31.f_Kind, x31.f_Key, ⟨a30, x23.f_Value.xs, c30⟩, x31.f_N⟩ : Op)).take (i + 1)).map Op.f_Value).map (vrow e8)) :: _) (fun w S => vals_set (y := (⟨x31.f_Kind, x31.f_Key, ⟨a30, x23.f_Value.xs, c30⟩, x31.f_N⟩ : Op)) hx31 S) ?_
    refine q_conv (fun w S => (S.perm p3).tail) ?_
    exact q_round (i + 1, os.set ((i : Int)).toNat (⟨x31.f_Kind, x31.f_Key, ⟨a30, x23.f_Value.xs, c30⟩, x31.f_N⟩ : Op)) (by exact ⟨by omega, by rw [List.length_set]; exact hol, sameOps_set hso hx31 hte (by rw [e31]; exact ⟨rfl, rfl, rfl, rfl⟩), fun j x hj hx => tail_set htl hj hx⟩) (by (try dsimp only); omega) ⟨(by first | rfl | exact vint (by omega)), (by first | rfl | exact vint (by omega)), (by rw [List.length_set]; rfl), (by first | rfl | exact vint (by omega)), (by first | rfl | exact vint (by omega)), trivial⟩ (fun w S => S)
   · -- 5 comes first
    refine l_conv (L' := blk b1 (.cells #[.int .i64 t.f_Kind, .slice a7 (t.f_Reads.xs).length c7, .slice a10 (t.f_Writes.xs).length c10, .slice a13 (os).length c13, .int .i64 t.f_To] 30 (0, 0)) :: row e_Op.T e_Op.sz a13 (os).length c13 (flat e_Op os) :: blk b4 (qzPCopy6 x23) :: stars (((os.take i).map Op.f_Value).map (vrow e8)) :: row e_S.T e_S.sz a10 (t.f_Writes.xs).length c10 (flat e_S t.f_Writes.xs) :: row e_S.T e_S.sz a7 (t.f_Reads.xs).length c7 (flat e_S t.f_Reads.xs) :: blk b2 (qzPCopy2) :: F) (fun w S => S.perm List.perm_append_comm) ?_
    refine o_call rfl cal59 rfl (clone8 ((TxR.c (TxR.c (TxR.c (TxR.c (TxR.c (TxR.c (TxR.c T_t))))))).rv x23 (List.mem_of_getElem? hte)) (by show _ * 1 ≤ _; omega) (by omega)) ?_
    rintro _ _ ⟨a30, c30, rfl, rfl⟩
    refine l_nil ?_
    refine q_conv (L' := (blk b4 (qzPCopy6 x23) :: stars (((os.take i).map Op.f_Value).map (vrow e8)) :: row e_S.T e_S.sz a10 (t.f_Writes.xs).length c10 (flat e_S t.f_Writes.xs) :: row e_S.T e_S.sz a7 (t.f_Reads.xs).length c7 (flat e_S t.f_Reads.xs) :: blk b2 (qzPCopy2) :: F) ++ [row e8.T e8.sz a30 (x23.f_Value.xs).length c30 (flat e8 x23.f_Value.xs), blk b1 (.cells #[.int .i64 t.f_Kind, .slice a7 (t.f_Reads.xs).length c7, .slice a10 (t.f_Writes.xs).length c10, .slice a13 (os).length c13, .int .i64 t.f_To] 30 (0, 0)), row e_Op.T e_Op.sz a13 (os).length c13 (flat e_Op os)]) (fun w S => S.perm (List.perm_append_comm (l₁ := [row e8.T e8.sz a30 (x23.f_Value.xs).length c30 (flat e8 x23.f_Value.xs), blk b1 (.cells #[.int .i64 t.f_Kind, .slice a7 (t.f_Reads.xs).length c7, .slice a10 (t.f_Writes.xs).length c10, .slice a13 (os).length c13, .int .i64 t.f_To] 30 (0, 0)), row e_Op.T e_Op.sz a13 (os).length c13 (flat e_Op os)]) (l₂ := blk b4 (qzPCopy6 x23) :: stars (((os.take i).map Op.f_Value).map (vrow e8)) :: row e_S.T e_S.sz a10 (t.f_Writes.xs).length c10 (flat e_S t.f_Writes.xs) :: row e_S.T e_S.sz a7 (t.f_Reads.xs).length c7 (flat e_S t.f_Reads.xs) :: blk b2 (qzPCopy2) :: F))) ?_
    refine h_next ?_
    refine h_one 1 rfl (by kernel_rfl) ?_
    refine l_conv (L' := row e8.T e8.sz a30 (x23.f_Value.xs).length c30 (flat e8 x23.f_Value.xs) :: blk b1 (.cells #[.int .i64 t.f_Kind, .slice a7 (t.f_Reads.xs).length c7, .slice a10 (t.f_Writes.xs).length c10, .slice a13 (os).length c13, .int .i64 t.f_To] 30 (0, 0)) :: row e_Op.T e_Op.sz a13 (os).length c13 (flat e_Op os) :: blk b4 (qzPCopy6 x23) :: stars (((os.take i).map Op.f_Value).map (vrow e8)) :: row e_S.T e_S.sz a10 (t.f_Writes.xs).length c10 (flat e_S t.f_Writes.xs) :: row e_S.T e_S.sz a7 (t.f_Reads.xs).length c7 (flat e_S t.f_Reads.xs) :: blk b2 (qzPCopy2) :: F) (fun w S => S.perm List.perm_append_comm) ?_
    refine o_load1 rfl rfl Try.underlying28 rfl (rd_mem 1 rfl rfl) ?_
    refine l_nil ?_
    refine q_conv (L' := (blk b4 (qzPCopy6 x23) :: stars (((os.take i).map Op.f_Value).map (vrow e8)) :: row e_S.T e_S.sz a10 (t.f_Writes.xs).length c10 (flat e_S t.f_Writes.xs) :: row e_S.T e_S.sz a7 (t.f_Reads.xs).length c7 (flat e_S t.f_Reads.xs) :: blk b2 (qzPCopy2) :: F) ++ [row e8.T e8.sz a30 (x23.f_Value.xs).length c30 (flat e8 x23.f_Value.xs), blk b1 (.cells #[.int .i64 t.f_Kind, .slice a7 (t.f_Reads.xs).length c7, .slice a10 (t.f_Writes.xs).length c10, .slice a13 (os).length c13, .int .i64 t.f_To] 30 (0, 0)), row e_Op.T e_Op.sz a13 (os).length c13 (flat e_Op os)]) (fun w S => S.perm (List.perm_append_comm (l₁ := [row e8.T e8.sz a30 (x23.f_Value.xs).length c30 (flat e8 x23.f_Value.xs), blk b1 (.cells #[.int .i64 t.f_Kind, .slice a7 (t.f_Reads.xs).length c7, .slice a10 (t.f_Writes.xs).length c10, .slice a13 (os).length c13, .int .i64 t.f_To] 30 (0, 0)), row e_Op.T e_Op.sz a13 (os).length c13 (flat e_Op os)]) (l₂ := blk b4 (qzPCopy6 x23) :: stars (((os.take i).map Op.f_Value).map (vrow e8)) :: row e_S.T e_S.sz a10 (t.f_Writes.xs).length c10 (flat e_S t.f_Writes.xs) :: row e_S.T e_S.sz a7 (t.f_Reads.xs).length c7 (flat e_S t.f_Reads.xs) :: blk b2 (qzPCopy2) :: F))) ?_
    refine h_next ?_
    refine h_take 6 rfl rfl (by kernel_rfl) (by kernel_rfl) (by kernel_rfl) (fun L0 => v_indexK e_Op_ok eadx rfl rfl rfl Try.underlying28 (by omega) (by omega)) ?_
    obtain ⟨x31, hx31⟩ : ∃ x, (os)[((i : Int)).toNat]? = some x := ⟨_, List.getElem?_eq_getElem (by omega)⟩
    have e31 : x31 = x23 := by rw [hx23] at hx31; exact (Option.some.inj hx31).symm
    refine h_take 7 rfl rfl (by kernel_rfl) (by kernel_rfl) (by kernel_rfl) (fun L0 => v_fieldAddr rfl rfl Try.underlying53 rfl ti45 (Addr.add_add' _ _ _)) ?_
    refine h_one 8 rfl (by kernel_rfl) ?_
    refine l_conv (L' := row e8.T e8.sz a30 (x23.f_Value.xs).length c30 (flat e8 x23.f_Value.xs) :: blk b1 (.cells #[.int .i64 t.f_Kind, .slice a7 (t.f_Reads.xs).length c7, .slice a10 (t.f_Writes.xs).length c10, .slice a13 (os).length c13, .int .i64 t.f_To] 30 (0, 0)) :: row e_Op.T e_Op.sz a13 (os).length c13 (flat e_Op os) :: blk b4 (qzPCopy6 x23) :: stars (((os.take i).map Op.f_Value).map (vrow e8)) :: row e_S.T e_S.sz a10 (t.f_Writes.xs).length c10 (flat e_S t.f_Writes.xs) :: row e_S.T e_S.sz a7 (t.f_Reads.xs).length c7 (flat e_S t.f_Reads.xs) :: blk b2 (qzPCopy2) :: F) (fun w S => S.perm List.perm_append_comm) ?_
    refine l_f2 ?_
    refine o_storeRow (x1 := (⟨x31.f_Kind, x31.f_Key, ⟨a30, x23.f_Value.xs, c30⟩, x31.f_N⟩ : Op)) e_Op_ok eadx rfl rfl rfl ti45 hx31 (by decide) rfl ?_
    refine l_f2 ?_
    refine l_conv (L' := blk b1 (.cells #[.int .i64 t.f_Kind, .slice a7 (t.f_Reads.xs).length c7, .slice a10 (t.f_Writes.xs).length c10, .slice a13 (os).length c13, .int .i64 t.f_To] 30 (0, 0)) :: _) (fun w S => S) ?_
    refine l_conv (L' := blk b1 (.cells #[.int .i64 t.f_Kind, .slice a7 (t.f_Reads.xs).length c7, .slice a10 (t.f_Writes.xs).length c10, .slice a13 ((os).set ((i : Int)).toNat (⟨x31.f_Kind, x31.f_Key, ⟨a30, x23.f_Value.xs, c30⟩, x31.f_N⟩ : Op)).length c13, .int .i64 t.f_To] 30 (0, 0)) :: row e_Op.T e_Op.sz a13 ((os).set ((i : Int)).toNat (⟨x31.f_Kind, x31.f_Key, ⟨a30, x23.f_Value.xs, c30⟩, x31.f_N⟩ : Op)).length c13 (flat e_Op ((os).set ((i : Int)).toNat (⟨x31.f_Kind, x31.f_Key, ⟨a30, x23.f_Value.xs, c30⟩, x31.f_N⟩ : Op))) :: row e8.T e8.sz a30 (x23.f_Value.xs).length c30 (flat e8 x23.f_Value.xs) :: blk b4 (qzPCopy6 x23) :: stars (((os.take i).map Op.f_Value).map (vrow e8)) :: row e_S.T e_S.sz a10 (t.f_Writes.xs).length c10 (flat e_S t.f_Writes.xs) :: row e_S.T e_S.sz a7 (t.f_Reads.xs).length c7 (flat e_S t.f_Reads.xs) :: blk b2 (qzPCopy2) :: F) (fun w S => by first | exact S | simpa only [List.length_set] using S | (simp only [List.length_set] at S ⊢; exact S)) ?_
    refine l_nil ?_
    refine q_conv (L' := (blk b4 (qzPCopy6 x23) :: stars (((os.take i).map Op.f_Value).map (vrow e8)) :: row e_S.T e_S.sz a10 (t.f_Writes.xs).length c10 (flat e_S t.f_Writes.xs) :: row e_S.T e_S.sz a7 (t.f_Reads.xs).length c7 (flat e_S t.f_Reads.xs) :: blk b2 (qzPCopy2) :: F) ++ [blk b1 (.cells #[.int .i64 t.f_Kind, .slice a7 (t.f_Reads.xs).length c7, .slice a10 (t.f_Writes.xs).length c10, .slice a13 ((os).set ((i : Int)).toNat (⟨x31.f_Kind, x31.f_Key, ⟨a30, x23.f_Value.xs, c30⟩, x31.f_N⟩ : Op)).length c13, .int .i64 t.f_To] 30 (0, 0)), row e_Op.T e_Op.sz a13 ((os).set ((i : Int)).toNat (⟨x31.f_Kind, x31.f_Key, ⟨a30, x23.f_Value.xs, c30⟩, x31.f_N⟩ : Op)).length c13 (flat e_Op ((os).set ((i : Int)).toNat (⟨x31.f_Kind, x31.f_Key, ⟨a30, x23.f_Value.xs, c30⟩, x31.f_N⟩ : Op))), row e8.T e8.sz a30 (x23.f_Value.xs).length c30 (flat e8 x23.f_Value.xs)]) (fun w S => S.perm (List.perm_append_comm (l₁ := [blk b1 (.cells #[.int .i64 t.f_Kind, .slice a7 (t.f_Reads.xs).length c7, .slice a10 (t.f_Writes.xs).length c10, .slice a13 ((os).set ((i : Int)).toNat (⟨x31.f_Kind, x31.f_Key, ⟨a30, x23.f_Value.xs, c30⟩, x31.f_N⟩ : Op)).length c13, .int .i64 t.f_To] 30 (0, 0)), row e_Op.T e_Op.sz a13 ((os).set ((i : Int)).toNat (⟨x31.f_Kind, x31.f_Key, ⟨a30, x23.f_Value.xs, c30⟩, x31.f_N⟩ : Op)).length c13 (flat e_Op ((os).set ((i : Int)).toNat (⟨x31.f_Kind, x31.f_Key, ⟨a30, x23.f_Value.xs, c30⟩, x31.f_N⟩ : Op))), row e8.T e8.sz a30 (x23.f_Value.xs).length c30 (flat e8 x23.f_Value.xs)]) (l₂ := blk b4 (qzPCopy6 x23) :: stars (((os.take i).map Op.f_Value).map (vrow e8)) :: row e_S.T e_S.sz a10 (t.f_Writes.xs).length c10 (flat e_S t.f_Writes.xs) :: row e_S.T e_S.sz a7 (t.f_Reads.xs).length c7 (flat e_S t.f_Reads.xs) :: blk b2 (qzPCopy2) :: F))) ?_
    refine h_next ?_
    refine h_done (by kernel_rfl) ?_
    refine q_conv (L' := blk b1 (.cells #[.int .i64 t.f_Kind, .slice a7 (t.f_Reads.xs).length c7, .slice a10 (t.f_Writes.xs).length c10, .slice a13 ((os).set ((i : Int)).toNat (⟨x31.f_Kind, x31.f_Key, ⟨a30, x23.f_Value.xs, c30⟩, x31.f_N⟩ : Op)).length c13, .int .i64 t.f_To] 30 (0, 0)) :: row e_Op.T e_Op.sz a13 ((os).set ((i : Int)).toNat (⟨x31.f_Kind, x31.f_Key, ⟨a30, x23.f_Value.xs, c30⟩, x31.f_N⟩ : Op)).length c13 (flat e_Op ((os).set ((i : Int)).toNat (⟨x31.f_Kind, x31.f_Key, ⟨a30, x23.f_Value.xs, c30⟩, x31.f_N⟩ : Op))) :: row e8.T e8.sz a30 (x23.f_Value.xs).length c30 (flat e8 x23.f_Value.xs) :: blk b4 (qzPCopy6 x23) :: stars (((os.take i).map Op.f_Value).map (vrow e8)) :: row e_S.T e_S.sz a10 (t.f_Writes.xs).length c10 (flat e_S t.f_Writes.xs) :: row e_S.T e_S.sz a7 (t.f_Reads.xs).length c7 (flat e_S t.f_Reads.xs) :: blk b2 (qzPCopy2) :: F) (fun w S => S.perm List.perm_append_comm) ?_
    refine q_block ?_
    refine q_then ?_
    refine c_region ?_
    refine o_bin rfl rfl rfl (b_add (wrap_i64 (by omega) (by omega))) ?_
    refine o_move rfl rfl ?_
    refine l_nil ?_
    refine q_conv (fun w S => S.perm p7) ?_
    refine q_conv (fun w S => S.perm p7) ?_
    refine q_conv (fun w S => S.perm p7) ?_
    refine q_conv (fun w S => S.perm p6) ?_
    refine q_conv (fun w S => S.perm p5) ?_
    refine q_conv (fun w S => S.perm p5) ?_
    refine q_conv (fun w S => S.perm p7) ?_
    refine q_conv (fun w S => S.perm p7) ?_
    refine q_conv (L' := stars ((((os.set ((i : Int)).toNat (⟨x31.f_Kind, x31.f_Key, ⟨a30, x23.f_Value.xs, c30⟩, x31.f_N⟩ : Op)).take (i + 1)).map Op.f_Value).map (vrow e8)) :: _) (fun w S => vals_set (y := (⟨x31.f_Kind, x31.f_Key, ⟨a30, x23.f_Value.xs, c30⟩, x31.f_N⟩ : Op)) hx31 S) ?_
    refine q_conv (fun w S => (S.perm p3).tail) ?_
    exact q_round (i + 1, os.set ((i : Int)).toNat (⟨x31.f_Kind, x31.f_Key, ⟨a30, x23.f_Value.xs, c30⟩, x31.f_N⟩ : Op)) (by exact ⟨by omega, by rw [List.length_set]; exact hol, sameOps_set hso hx31 hte (by rw [e31]; exact ⟨rfl, rfl, rfl, rfl⟩), fun j x hj hx => tail_set htl hj hx⟩) (by (try dsimp only); omega) ⟨(by first | rfl | exact vint (by omega)), (by first | rfl | exact vint (by omega)), (by rw [List.length_set]; rfl), (by first | rfl | exact vint (by omega)), (by first | rfl | exact vint (by omega)), trivial⟩ (fun w S => S)
  · -- h1F
   have h1b := h1
   try simp only [decide_eq_false_iff_not, Int.not_lt, Int.not_le] at h1
   refine c_exit ?_
   refine q_pass_exit ?_
   refine q_pass_exit ?_
   refine q_hit ?_
   refine q_then ?_
   refine c_seq ?_
   refine c_region ?_
   refine o_loadn (vs := [_, _, _, _, _]) rfl rfl Try.underlying30 rfl ti30 (rdn_lit 1 rfl rfl) ?_
   refine l_f5 ?_
   refine o_storen rfl rfl ti30 rfl rfl rfl rfl ?_
   refine l_nil ?_
   refine q_then ?_
   refine c_ret ?_
   refine f_retq (.inl rfl) (rs_1 rfl (rs_celln (vs := [.int .i64 t.f_Kind, .slice a7 (t.f_Reads.xs).length c7, .slice a10 (t.f_Writes.xs).length c10, .slice a13 (os).length c13, .int .i64 t.f_To]) rfl Try.underlying30 rfl ti30 (rdn_lit 0 rfl rfl))) (fun w S => ?_)
   replace S := S.perm p5
   replace S := S.perm p5
   replace S := S.perm p5
   replace S := S.perm p5
   replace S := S.perm p4
   replace S := S.perm p5
   have S : Sat W w (stars ((os.map Op.f_Value).map (vrow e8)) :: blk b2 (.cells #[.int .i64 t.f_Kind, .slice a7 (t.f_Reads.xs).length c7, .slice a10 (t.f_Writes.xs).length c10, .slice a13 (os).length c13, .int .i64 t.f_To] 30 (0, 0)) :: blk b1 (.cells #[.int .i64 t.f_Kind, .slice a7 (t.f_Reads.xs).length c7, .slice a10 (t.f_Writes.xs).length c10, .slice a13 (os).length c13, .int .i64 t.f_To] 30 (0, 0)) :: row e_Op.T e_Op.sz a13 (os).length c13 (flat e_Op os) :: row e_S.T e_S.sz a10 (t.f_Writes.xs).length c10 (flat e_S t.f_Writes.xs) :: row e_S.T e_S.sz a7 (t.f_Reads.xs).length c7 (flat e_S t.f_Reads.xs) :: F) := by have h9 := S; rw [List.take_of_length_le (by omega)] at h9; exact h9
   replace S := (S.perm p1).tail
   replace S := (S.perm p1).tail
   replace S := S.perm p1
   replace S := S.perm p2
   replace S := S.perm p3
   exact ⟨_, ⟨⟨t.f_Kind, ⟨a7, t.f_Reads.xs, c7⟩, ⟨a10, t.f_Writes.xs, c10⟩, ⟨a13, os, c13⟩, t.f_To⟩, ⟨rfl, rfl, rfl, rfl, hol, by (try dsimp only); rw [hol]; exact hso⟩, rfl, rfl⟩, (fun w S => Sat.unflat (Ls := txL ⟨t.f_Kind, ⟨a7, t.f_Reads.xs, c7⟩, ⟨a10, t.f_Writes.xs, c10⟩, ⟨a13, os, c13⟩, t.f_To⟩) S) w S⟩

end Go.Proofs.Ytlblipkcbmcfkaa
