/- Printed by eng2.py out of 09a/spec.py. -/
import Derived.Test.YtlblipkcbmcfkaaConcat
import Derived.Test.YtlblipkcbmcfkaaFuns
import Derived.Test.YtlblipkcbmcfkaaShelf
set_option linter.unusedVariables false
set_option linter.unusedSimpArgs false
set_option maxRecDepth 10000
namespace Go.Proofs.Ytlblipkcbmcfkaa
open Go.RowKit Classical
noncomputable def keysT (t : Txn) : List ByteArray := setOf strlt (t.f_Reads.xs ++ t.f_Writes.xs)
theorem keysT_len (t : Txn) : (keysT t).length ≤ t.f_Reads.xs.length + t.f_Writes.xs.length := by
  have := setOf_le strlt_sto (t.f_Reads.xs ++ t.f_Writes.xs)
  rw [List.length_append] at this; exact this
theorem keysT_same {a b : Txn} (h : SameT a b) : keysT a = keysT b := by unfold keysT; rw [h.2.2.1, h.2.2.2.1]
theorem keys_ {W : World} {F : List Res} {t : Txn} (T_t : TxR W F t) (hb : t.f_Reads.xs.length + t.f_Writes.xs.length ≤ 1000000) : CS Try.prog 26 #[.agg #[.int .i64 t.f_Kind, .slice t.f_Reads.a (t.f_Reads.xs).length t.f_Reads.c, .slice t.f_Writes.a (t.f_Writes.xs).length t.f_Writes.c, .slice t.f_Ops.a (t.f_Ops.xs).length t.f_Ops.c, .int .i64 t.f_To]] W (F) (fun r L' => ∃ (a : Option Addr) (c : Nat), r = .slice a (keysT t).length c ∧ L' = row e_S.T e_S.sz a (keysT t).length c (flat e_S (keysT t)) :: F) := by
 refine f_door (l0 := [(0, .agg #[.int .i64 t.f_Kind, .slice t.f_Reads.a (t.f_Reads.xs).length t.f_Reads.c, .slice t.f_Writes.a (t.f_Writes.xs).length t.f_Writes.c, .slice t.f_Ops.a (t.f_Ops.xs).length t.f_Ops.c, .int .i64 t.f_To])]) Try.func26 Try.ntmps26 rfl rfl rfl ?_
 refine c_seq ?_
 refine c_region ?_
 refine o_box rfl rfl fun b1 => ?_
 refine o_assign rfl rfl ?_
 refine l_nil ?_
 refine q_then ?_
 refine c_seq ?_
 refine c_region ?_
 refine o_fieldAddr (q := ⟨b1, 1, none⟩) rfl rfl Try.underlying30 rfl ti27 rfl ?_
 refine o_load1 rfl rfl Try.underlying27 rfl (rd_mem 0 rfl rfl) ?_
 refine o_fieldAddr (q := ⟨b1, 2, none⟩) rfl rfl Try.underlying30 rfl ti27 rfl ?_
 refine o_load1 rfl rfl Try.underlying27 rfl (rd_mem 0 rfl rfl) ?_
 refine o_lit e_s27_ok rfl Try.underlying115 rfl rfl rfl (lit_ok rfl) [t.f_Reads, t.f_Writes] rfl rfl fun a8 => ?_
 refine o_call rfl cal41 rfl (concat2_ (rds_own e_s27_ok 0 rfl) (TxR.c (TxR.c T_t)).rr (TxR.c (TxR.c T_t)).rw (by omega)) ?_
 rintro _ _ ⟨a9, c9, rfl, rfl⟩
 refine o_assign rfl rfl ?_
 refine l_nil ?_
 refine q_then ?_
 refine c_seq ?_
 refine c_region ?_
 refine o_move rfl rfl ?_
 refine o_call rfl cal42 rfl (sortS (e := e_S) (a := a9) (c := c9) (xs := (t.f_Reads.xs ++ t.f_Writes.xs)) rfl rfl (by try simp only [List.length_append]; omega)) ?_
 rintro _ _ ⟨ys11, hp11, hs11, rfl, rfl⟩
 have hl11 := hp11.length_eq
 refine l_eq (t := 9) (v' := .slice a9 (ys11).length c9) rfl (by rw [hl11]) ?_
 refine l_eq (t := 3) (v' := .slice a9 (ys11).length c9) rfl (by rw [hl11]) ?_
 refine l_eq (t := 10) (v' := .slice a9 (ys11).length c9) rfl (by rw [hl11]) ?_
 refine l_nil ?_
 refine q_then ?_
 refine c_seq ?_
 refine c_region ?_
 refine o_move rfl rfl ?_
 refine o_call rfl cal43 rfl (compactS (e := e_S) (a := a9) (c := c9) (xs := ys11) rfl rfl hs11 (by rw [hl11, List.length_append]; omega)) ?_
 rintro _ _ ⟨rfl, rfl⟩
 refine o_assign rfl rfl ?_
 refine l_nil ?_
 refine q_then ?_
 refine c_ret ?_
 refine q_conv (fun w S => (S.perm p1).tail) ?_
 refine q_conv (fun w S => (S.perm p1).tail) ?_
 exact f_ret (r_one rfl rfl) (⟨a9, c9, by rw [setOf_perm strlt_sto hp11]; rfl, by rw [setOf_perm strlt_sto hp11]; rfl⟩) (fun w S => S)

end Go.Proofs.Ytlblipkcbmcfkaa
