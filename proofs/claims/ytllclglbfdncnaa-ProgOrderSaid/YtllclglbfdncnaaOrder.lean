/- Printed by eng2.py out of 05/spec.py. -/
import Derived.Test.YtllclglbfdncnaaNames
import Derived.Test.YtllclglbfdncnaaRCopy
import Derived.Test.YtllclglbfdncnaaKeys
import Derived.Test.YtllclglbfdncnaaArgs
import Derived.Test.YtllclglbfdncnaaMod2
set_option linter.unusedVariables false
set_option linter.unusedSimpArgs false
set_option maxRecDepth 10000
namespace Go.Proofs.Ytllclglbfdncnaa
open Go.RowKit Classical
set_option maxHeartbeats 2000000 in
theorem order_ {W : World} {F : List Res} {g : Int} {t : Txn} (T_t : TxR W F t) : CS Try.prog 7 #[.agg #[.int .i64 t.f_Kind, .slice t.f_Reads.a (t.f_Reads.xs).length t.f_Reads.c, .slice t.f_Writes.a (t.f_Writes.xs).length t.f_Writes.c, .slice t.f_Ops.a (t.f_Ops.xs).length t.f_Ops.c, .int .i64 t.f_To], .int .i64 g] W (F) (fun r L' => r = .bool true ∧ F = L') := by
 refine f_door (l0 := [(0, .agg #[.int .i64 t.f_Kind, .slice t.f_Reads.a (t.f_Reads.xs).length t.f_Reads.c, .slice t.f_Writes.a (t.f_Writes.xs).length t.f_Writes.c, .slice t.f_Ops.a (t.f_Ops.xs).length t.f_Ops.c, .int .i64 t.f_To]), (1, .int .i64 g)]) Try.func7 Try.ntmps7 rfl rfl rfl ?_
 refine c_seq ?_
 refine c_region ?_
 refine o_box rfl rfl fun b2 => ?_
 refine o_assign rfl rfl ?_
 refine l_nil ?_
 refine q_then ?_
 refine c_seq ?_
 refine c_seq ?_
 refine c_region ?_
 refine o_call rfl cal10 rfl (speaks_) ?_
 rintro _ _ ⟨rfl, rfl⟩
 refine o_not rfl rfl ?_
 refine l_nil ?_
 refine q_then ?_
 refine c_false rfl ?_
 refine c_skip ?_
 refine q_then ?_
 refine c_seq ?_
 refine c_seq ?_
 refine c_region ?_
 refine o_loadn (vs := [_, _, _, _, _]) rfl rfl Try.underlying26 rfl ti26 (rdn_lit 0 rfl rfl) ?_
 refine o_call rfl cal11 rfl (great_ (t := t) (TxR.c T_t)) ?_
 rintro _ _ ⟨g10, hg10, rfl, rfl⟩
 refine l_nil ?_
 refine q_then ?_
 refine c_cond rfl (fun h1 => ?_) (fun h1 => ?_)
 · -- h1T
  have h1b := h1
  try simp only [decide_eq_true_eq, decide_eq_false_iff_not, Bool.not_eq_eq_eq_not, Bool.not_true, Bool.not_false, Bool.not_eq_true', Bool.not_eq_false', Int.not_lt, Int.not_le, Bool.or_eq_true, Bool.and_eq_true] at h1
  refine c_seq ?_
  refine c_region ?_
  refine o_assign rfl rfl ?_
  refine l_nil ?_
  refine q_then ?_
  refine c_ret ?_
  refine q_pass_ret ?_
  refine q_conv (fun w S => S.tail) ?_
  exact f_ret (r_one rfl rfl) (⟨rfl, rfl⟩) (fun w S => S)
 · -- h1F
  have h1b := h1
  try simp only [decide_eq_true_eq, decide_eq_false_iff_not, Bool.not_eq_eq_eq_not, Bool.not_true, Bool.not_false, Bool.not_eq_true', Bool.not_eq_false', Int.not_lt, Int.not_le, Bool.or_eq_true, Bool.and_eq_true] at h1
  refine c_skip ?_
  refine q_then ?_
  refine c_seq ?_
  have hsm := hg10 (by assumption)
  have hsr := hsm.r
  have hsw := hsm.w
  have hso := hsm.o
  refine c_region ?_
  refine o_loadn (vs := [_, _, _, _, _]) rfl rfl Try.underlying26 rfl ti26 (rdn_lit 0 rfl rfl) ?_
  refine o_call rfl cal12 rfl (copy_ (t := t) (TxR.c T_t) (hg10 (by assumption))) ?_
  rintro _ _ ⟨c12, hs_c12, rfl, rfl⟩
  have L_c12 : TxLen c12 := TxLen.same T_t.len hs_c12
  refine o_alloc rfl ti26 fun b5 => ?_
  refine o_storen rfl rfl ti26 rfl rfl rfl rfl ?_
  refine l_nil ?_
  refine q_then ?_
  refine c_seq ?_
  refine c_seq ?_
  refine c_conv (fun w S => S.perm p1) ?_
  refine c_conv (L' := row e_S.T e_S.sz c12.f_Reads.a (c12.f_Reads.xs).length c12.f_Reads.c (flat e_S c12.f_Reads.xs) :: row e_S.T e_S.sz c12.f_Writes.a (c12.f_Writes.xs).length c12.f_Writes.c (flat e_S c12.f_Writes.xs) :: row e_Op.T e_Op.sz c12.f_Ops.a (c12.f_Ops.xs).length c12.f_Ops.c (flat e_Op c12.f_Ops.xs) :: stars ((c12.f_Ops.xs.map Op.f_Value).map (vrow e8)) :: blk b5 (.cells #[.int .i64 c12.f_Kind, .slice c12.f_Reads.a (c12.f_Reads.xs).length c12.f_Reads.c, .slice c12.f_Writes.a (c12.f_Writes.xs).length c12.f_Writes.c, .slice c12.f_Ops.a (c12.f_Ops.xs).length c12.f_Ops.c, .int .i64 c12.f_To] 26 (0, 0)) :: blk b2 (.cells #[.int .i64 t.f_Kind, .slice t.f_Reads.a (t.f_Reads.xs).length t.f_Reads.c, .slice t.f_Writes.a (t.f_Writes.xs).length t.f_Writes.c, .slice t.f_Ops.a (t.f_Ops.xs).length t.f_Ops.c, .int .i64 t.f_To] 26 (0, 0)) :: F) (fun w S => Sat.flat (Ls := txL c12) S) ?_
  have hol : c12.f_Ops.xs.length = t.f_Ops.xs.length := hs_c12.2.2.2.2.1
  have hcr : c12.f_Reads.xs.length = t.f_Reads.xs.length := by rw [hs_c12.2.2.1]
  have hcw : c12.f_Writes.xs.length = t.f_Writes.xs.length := by rw [hs_c12.2.2.2.1]
  refine c_region ?_
  refine o_fieldAddr (q := ⟨b5, 3, none⟩) rfl rfl Try.underlying26 rfl ti24 rfl ?_
  refine o_load1 rfl rfl Try.underlying24 rfl (rd_mem 4 rfl rfl) ?_
  refine o_len rfl rfl Try.underlying24 ?_
  refine o_move rfl rfl ?_
  refine l_nil ?_
  refine q_then ?_
  refine c_block ?_
  refine c_loop (α := Nat × (List Op)) (fun z => [(1, .int .i64 g), (2, .pointer (some ⟨b2, 0, none⟩)), (5, .pointer (some ⟨b5, 0, none⟩)), (15, .int .i64 ((c12.f_Ops.xs).length : Int)), (16, .int .i64 (z.1 : Int))]) (fun z => row e_S.T e_S.sz c12.f_Reads.a (c12.f_Reads.xs).length c12.f_Reads.c (flat e_S c12.f_Reads.xs) :: row e_S.T e_S.sz c12.f_Writes.a (c12.f_Writes.xs).length c12.f_Writes.c (flat e_S c12.f_Writes.xs) :: row e_Op.T e_Op.sz c12.f_Ops.a (z.2).length c12.f_Ops.c (flat e_Op z.2) :: stars ((c12.f_Ops.xs.map Op.f_Value).map (vrow e8)) :: blk b5 (.cells #[.int .i64 c12.f_Kind, .slice c12.f_Reads.a (c12.f_Reads.xs).length c12.f_Reads.c, .slice c12.f_Writes.a (c12.f_Writes.xs).length c12.f_Writes.c, .slice c12.f_Ops.a (z.2).length c12.f_Ops.c, .int .i64 c12.f_To] 26 (0, 0)) :: blk b2 (.cells #[.int .i64 t.f_Kind, .slice t.f_Reads.a (t.f_Reads.xs).length t.f_Reads.c, .slice t.f_Writes.a (t.f_Writes.xs).length t.f_Writes.c, .slice t.f_Ops.a (t.f_Ops.xs).length t.f_Ops.c, .int .i64 t.f_To] 26 (0, 0)) :: F) (fun z => z.1 ≤ c12.f_Ops.xs.length ∧ z.2.length = t.f_Ops.xs.length ∧ ∀ j, j < z.1 → z.2[j]? = t.f_Ops.xs[t.f_Ops.xs.length - 1 - j]?) (fun z => c12.f_Ops.xs.length - z.1) (0, c12.f_Ops.xs) (by exact ⟨Nat.zero_le _, hol, fun j h => absurd h (by omega)⟩) ⟨(by first | rfl | exact vint (by omega)), (by first | rfl | exact vint (by omega)), (by first | rfl | exact vint (by omega)), (by first | rfl | exact vint (by omega)), (by first | rfl | exact vint (by omega)), trivial⟩ (fun w S => S) ?_
  rintro ⟨i, os⟩ ⟨hi, hosl, hall⟩
  try dsimp only at *
  refine c_seq ?_
  refine c_region ?_
  refine o_bin rfl rfl rfl b_lss ?_
  refine l_nil ?_
  refine q_then ?_
  refine c_seq ?_
  refine c_cond rfl (fun h2 => ?_) (fun h2 => ?_)
  · -- h2T
   have h2b := h2
   try simp only [decide_eq_true_eq] at h2
   refine c_skip ?_
   refine q_then ?_
   refine c_seq ?_
   refine c_block ?_
   refine c_seq ?_
   refine c_region ?_
   refine o_move rfl rfl ?_
   refine o_assign rfl rfl ?_
   refine l_nil ?_
   refine q_then ?_
   refine c_fact (p := ∃ ad, c12.f_Ops.a = some ad) (rds_some (e := e_Op) (xs := os) (rds_own e_Op_ok 2 rfl) (by intro h0; have h00 := congrArg List.length h0; simp only [List.length_nil] at h00; omega)) ?_
   rintro ⟨adx, eadx⟩
   refine c_fact (p := ∃ ad, t.f_Ops.a = some ad) (rds_some (e := e_Op) (xs := t.f_Ops.xs) (TxR.c (TxR.c (TxR.c (TxR.c (TxR.c (TxR.c T_t)))))).ro (by intro h0; have h00 := congrArg List.length h0; simp only [List.length_nil] at h00; omega)) ?_
   rintro ⟨ady, eady⟩
   refine c_conv (fun w S => S.perm p4) ?_
   refine c_conv (fun w S => S.perm p3) ?_
   refine c_conv (fun w S => S.perm p5) ?_
   refine c_conv (fun w S => S.perm p5) ?_
   refine c_conv (fun w S => S.perm p5) ?_
   refine c_conv (fun w S => S.perm p5) ?_
   refine c_conv (fun w S => S.perm p3) ?_
   refine c_conv (fun w S => S.perm p3) ?_
   refine c_conv (fun w S => S.perm p3) ?_
   refine c_conv (fun w S => S.perm p3) ?_
   refine c_conv (fun w S => S.perm p5) ?_
   refine c_conv (fun w S => S.perm p5) ?_
   refine c_heldF [row e_Op.T e_Op.sz c12.f_Ops.a (os).length c12.f_Ops.c (flat e_Op os), blk b5 (.cells #[.int .i64 c12.f_Kind, .slice c12.f_Reads.a (c12.f_Reads.xs).length c12.f_Reads.c, .slice c12.f_Writes.a (c12.f_Writes.xs).length c12.f_Writes.c, .slice c12.f_Ops.a (os).length c12.f_Ops.c, .int .i64 c12.f_To] 26 (0, 0))] (row e_S.T e_S.sz c12.f_Reads.a (c12.f_Reads.xs).length c12.f_Reads.c (flat e_S c12.f_Reads.xs) :: row e_S.T e_S.sz c12.f_Writes.a (c12.f_Writes.xs).length c12.f_Writes.c (flat e_S c12.f_Writes.xs) :: stars ((c12.f_Ops.xs.map Op.f_Value).map (vrow e8)) :: blk b2 (.cells #[.int .i64 t.f_Kind, .slice t.f_Reads.a (t.f_Reads.xs).length t.f_Reads.c, .slice t.f_Writes.a (t.f_Writes.xs).length t.f_Writes.c, .slice t.f_Ops.a (t.f_Ops.xs).length t.f_Ops.c, .int .i64 t.f_To] 26 (0, 0)) :: F) (by kernel_rfl) ?_
   refine h_take 0 rfl rfl (by kernel_rfl) (by kernel_rfl) (by kernel_rfl) (fun L0 => v_fieldAddr (q := ⟨b5, 3, none⟩) rfl rfl Try.underlying26 rfl ti24 rfl) ?_
   refine h_take 2 rfl rfl (by kernel_rfl) (by kernel_rfl) (by kernel_rfl) (fun L0 => v_move rfl rfl) ?_
   refine h_take 3 rfl rfl (by kernel_rfl) (by kernel_rfl) (by kernel_rfl) (fun L0 => v_fieldAddr (q := ⟨b2, 3, none⟩) rfl rfl Try.underlying26 rfl ti24 rfl) ?_
   refine h_take 4 rfl rfl (by kernel_rfl) (by kernel_rfl) (by kernel_rfl) (fun L0 => v_load1 rfl rfl Try.underlying24 rfl (rd_mem 3 rfl rfl)) ?_
   refine h_take 5 rfl rfl (by kernel_rfl) (by kernel_rfl) (by kernel_rfl) (fun L0 => v_fieldAddr (q := ⟨b2, 3, none⟩) rfl rfl Try.underlying26 rfl ti24 rfl) ?_
   refine h_take 6 rfl rfl (by kernel_rfl) (by kernel_rfl) (by kernel_rfl) (fun L0 => v_load1 rfl rfl Try.underlying24 rfl (rd_mem 3 rfl rfl)) ?_
   refine h_take 7 rfl rfl (by kernel_rfl) (by kernel_rfl) (by kernel_rfl) (fun L0 => v_len rfl rfl Try.underlying24) ?_
   refine h_take 8 rfl rfl (by kernel_rfl) (by kernel_rfl) (by kernel_rfl) (fun L0 => v_bin rfl rfl rfl (b_sub (wrap_i64 (by omega) (by omega)))) ?_
   refine h_take 9 rfl rfl (by kernel_rfl) (by kernel_rfl) (by kernel_rfl) (fun L0 => v_move rfl rfl) ?_
   refine h_take 10 rfl rfl (by kernel_rfl) (by kernel_rfl) (by kernel_rfl) (fun L0 => v_bin rfl rfl rfl (b_sub (wrap_i64 (by omega) (by omega)))) ?_
   refine h_take 11 rfl rfl (by kernel_rfl) (by kernel_rfl) (by kernel_rfl) (fun L0 => v_indexK e_Op_ok eady rfl rfl rfl Try.underlying24 (by omega) (by omega)) ?_
   obtain ⟨x30, hx30⟩ : ∃ x, (t.f_Ops.xs)[((((t.f_Ops.xs).length : Int) - 1) - (i : Int)).toNat]? = some x := ⟨_, List.getElem?_eq_getElem (by omega)⟩
   refine h_take 12 rfl rfl (by kernel_rfl) (by kernel_rfl) (by kernel_rfl) (fun L0 => v_loadn (vs := e_Op.cells x30) rfl rfl Try.underlying35 rfl ti35 (rdn_sl e_Op_ok eady (rds_app (TxR.c (TxR.c (TxR.c (TxR.c T_t)))).ro) hx30)) ?_
   refine h_one 1 rfl (by kernel_rfl) ?_
   refine l_conv (L' := row e_Op.T e_Op.sz c12.f_Ops.a (os).length c12.f_Ops.c (flat e_Op os) :: blk b5 (.cells #[.int .i64 c12.f_Kind, .slice c12.f_Reads.a (c12.f_Reads.xs).length c12.f_Reads.c, .slice c12.f_Writes.a (c12.f_Writes.xs).length c12.f_Writes.c, .slice c12.f_Ops.a (os).length c12.f_Ops.c, .int .i64 c12.f_To] 26 (0, 0)) :: row e_S.T e_S.sz c12.f_Reads.a (c12.f_Reads.xs).length c12.f_Reads.c (flat e_S c12.f_Reads.xs) :: row e_S.T e_S.sz c12.f_Writes.a (c12.f_Writes.xs).length c12.f_Writes.c (flat e_S c12.f_Writes.xs) :: stars ((c12.f_Ops.xs.map Op.f_Value).map (vrow e8)) :: blk b2 (.cells #[.int .i64 t.f_Kind, .slice t.f_Reads.a (t.f_Reads.xs).length t.f_Reads.c, .slice t.f_Writes.a (t.f_Writes.xs).length t.f_Writes.c, .slice t.f_Ops.a (t.f_Ops.xs).length t.f_Ops.c, .int .i64 t.f_To] 26 (0, 0)) :: F) (fun w S => S.perm List.perm_append_comm) ?_
   refine o_load1 rfl rfl Try.underlying24 rfl (rd_mem 1 rfl rfl) ?_
   refine l_nil ?_
   refine q_conv (L' := (row e_S.T e_S.sz c12.f_Reads.a (c12.f_Reads.xs).length c12.f_Reads.c (flat e_S c12.f_Reads.xs) :: row e_S.T e_S.sz c12.f_Writes.a (c12.f_Writes.xs).length c12.f_Writes.c (flat e_S c12.f_Writes.xs) :: stars ((c12.f_Ops.xs.map Op.f_Value).map (vrow e8)) :: blk b2 (.cells #[.int .i64 t.f_Kind, .slice t.f_Reads.a (t.f_Reads.xs).length t.f_Reads.c, .slice t.f_Writes.a (t.f_Writes.xs).length t.f_Writes.c, .slice t.f_Ops.a (t.f_Ops.xs).length t.f_Ops.c, .int .i64 t.f_To] 26 (0, 0)) :: F) ++ [row e_Op.T e_Op.sz c12.f_Ops.a (os).length c12.f_Ops.c (flat e_Op os), blk b5 (.cells #[.int .i64 c12.f_Kind, .slice c12.f_Reads.a (c12.f_Reads.xs).length c12.f_Reads.c, .slice c12.f_Writes.a (c12.f_Writes.xs).length c12.f_Writes.c, .slice c12.f_Ops.a (os).length c12.f_Ops.c, .int .i64 c12.f_To] 26 (0, 0))]) (fun w S => S.perm (List.perm_append_comm (l₁ := [row e_Op.T e_Op.sz c12.f_Ops.a (os).length c12.f_Ops.c (flat e_Op os), blk b5 (.cells #[.int .i64 c12.f_Kind, .slice c12.f_Reads.a (c12.f_Reads.xs).length c12.f_Reads.c, .slice c12.f_Writes.a (c12.f_Writes.xs).length c12.f_Writes.c, .slice c12.f_Ops.a (os).length c12.f_Ops.c, .int .i64 c12.f_To] 26 (0, 0))]) (l₂ := row e_S.T e_S.sz c12.f_Reads.a (c12.f_Reads.xs).length c12.f_Reads.c (flat e_S c12.f_Reads.xs) :: row e_S.T e_S.sz c12.f_Writes.a (c12.f_Writes.xs).length c12.f_Writes.c (flat e_S c12.f_Writes.xs) :: stars ((c12.f_Ops.xs.map Op.f_Value).map (vrow e8)) :: blk b2 (.cells #[.int .i64 t.f_Kind, .slice t.f_Reads.a (t.f_Reads.xs).length t.f_Reads.c, .slice t.f_Writes.a (t.f_Writes.xs).length t.f_Writes.c, .slice t.f_Ops.a (t.f_Ops.xs).length t.f_Ops.c, .int .i64 t.f_To] 26 (0, 0)) :: F))) ?_
   refine h_next ?_
   refine h_take 13 rfl rfl (by kernel_rfl) (by kernel_rfl) (by kernel_rfl) (fun L0 => v_indexK e_Op_ok eadx rfl rfl rfl Try.underlying24 (by omega) (by omega)) ?_
   obtain ⟨x32, hx32⟩ : ∃ x, (os)[((i : Int)).toNat]? = some x := ⟨_, List.getElem?_eq_getElem (by omega)⟩
   refine h_one 14 rfl (by kernel_rfl) ?_
   refine l_conv (L' := row e_Op.T e_Op.sz c12.f_Ops.a (os).length c12.f_Ops.c (flat e_Op os) :: blk b5 (.cells #[.int .i64 c12.f_Kind, .slice c12.f_Reads.a (c12.f_Reads.xs).length c12.f_Reads.c, .slice c12.f_Writes.a (c12.f_Writes.xs).length c12.f_Writes.c, .slice c12.f_Ops.a (os).length c12.f_Ops.c, .int .i64 c12.f_To] 26 (0, 0)) :: row e_S.T e_S.sz c12.f_Reads.a (c12.f_Reads.xs).length c12.f_Reads.c (flat e_S c12.f_Reads.xs) :: row e_S.T e_S.sz c12.f_Writes.a (c12.f_Writes.xs).length c12.f_Writes.c (flat e_S c12.f_Writes.xs) :: stars ((c12.f_Ops.xs.map Op.f_Value).map (vrow e8)) :: blk b2 (.cells #[.int .i64 t.f_Kind, .slice t.f_Reads.a (t.f_Reads.xs).length t.f_Reads.c, .slice t.f_Writes.a (t.f_Writes.xs).length t.f_Writes.c, .slice t.f_Ops.a (t.f_Ops.xs).length t.f_Ops.c, .int .i64 t.f_To] 26 (0, 0)) :: F) (fun w S => S.perm List.perm_append_comm) ?_
   refine o_storeRowAll e_Op_ok eadx rfl rfl ti35 x30 rfl (by have := List.getElem?_eq_some_iff.1 hx32; exact this.1) ?_
   refine l_f1 ?_
   refine l_conv (L' := blk b5 (.cells #[.int .i64 c12.f_Kind, .slice c12.f_Reads.a (c12.f_Reads.xs).length c12.f_Reads.c, .slice c12.f_Writes.a (c12.f_Writes.xs).length c12.f_Writes.c, .slice c12.f_Ops.a (os).length c12.f_Ops.c, .int .i64 c12.f_To] 26 (0, 0)) :: _) (fun w S => S) ?_
   refine l_conv (L' := blk b5 (.cells #[.int .i64 c12.f_Kind, .slice c12.f_Reads.a (c12.f_Reads.xs).length c12.f_Reads.c, .slice c12.f_Writes.a (c12.f_Writes.xs).length c12.f_Writes.c, .slice c12.f_Ops.a ((os).set ((i : Int)).toNat x30).length c12.f_Ops.c, .int .i64 c12.f_To] 26 (0, 0)) :: row e_Op.T e_Op.sz c12.f_Ops.a ((os).set ((i : Int)).toNat x30).length c12.f_Ops.c (flat e_Op ((os).set ((i : Int)).toNat x30)) :: row e_S.T e_S.sz c12.f_Reads.a (c12.f_Reads.xs).length c12.f_Reads.c (flat e_S c12.f_Reads.xs) :: row e_S.T e_S.sz c12.f_Writes.a (c12.f_Writes.xs).length c12.f_Writes.c (flat e_S c12.f_Writes.xs) :: stars ((c12.f_Ops.xs.map Op.f_Value).map (vrow e8)) :: blk b2 (.cells #[.int .i64 t.f_Kind, .slice t.f_Reads.a (t.f_Reads.xs).length t.f_Reads.c, .slice t.f_Writes.a (t.f_Writes.xs).length t.f_Writes.c, .slice t.f_Ops.a (t.f_Ops.xs).length t.f_Ops.c, .int .i64 t.f_To] 26 (0, 0)) :: F) (fun w S => by first | exact S | simpa only [List.length_set] using S | (simp only [List.length_set] at S ⊢; exact S)) ?_
   refine l_nil ?_
   refine q_conv (L' := (row e_S.T e_S.sz c12.f_Reads.a (c12.f_Reads.xs).length c12.f_Reads.c (flat e_S c12.f_Reads.xs) :: row e_S.T e_S.sz c12.f_Writes.a (c12.f_Writes.xs).length c12.f_Writes.c (flat e_S c12.f_Writes.xs) :: stars ((c12.f_Ops.xs.map Op.f_Value).map (vrow e8)) :: blk b2 (.cells #[.int .i64 t.f_Kind, .slice t.f_Reads.a (t.f_Reads.xs).length t.f_Reads.c, .slice t.f_Writes.a (t.f_Writes.xs).length t.f_Writes.c, .slice t.f_Ops.a (t.f_Ops.xs).length t.f_Ops.c, .int .i64 t.f_To] 26 (0, 0)) :: F) ++ [blk b5 (.cells #[.int .i64 c12.f_Kind, .slice c12.f_Reads.a (c12.f_Reads.xs).length c12.f_Reads.c, .slice c12.f_Writes.a (c12.f_Writes.xs).length c12.f_Writes.c, .slice c12.f_Ops.a ((os).set ((i : Int)).toNat x30).length c12.f_Ops.c, .int .i64 c12.f_To] 26 (0, 0)), row e_Op.T e_Op.sz c12.f_Ops.a ((os).set ((i : Int)).toNat x30).length c12.f_Ops.c (flat e_Op ((os).set ((i : Int)).toNat x30))]) (fun w S => S.perm (List.perm_append_comm (l₁ := [blk b5 (.cells #[.int .i64 c12.f_Kind, .slice c12.f_Reads.a (c12.f_Reads.xs).length c12.f_Reads.c, .slice c12.f_Writes.a (c12.f_Writes.xs).length c12.f_Writes.c, .slice c12.f_Ops.a ((os).set ((i : Int)).toNat x30).length c12.f_Ops.c, .int .i64 c12.f_To] 26 (0, 0)), row e_Op.T e_Op.sz c12.f_Ops.a ((os).set ((i : Int)).toNat x30).length c12.f_Ops.c (flat e_Op ((os).set ((i : Int)).toNat x30))]) (l₂ := row e_S.T e_S.sz c12.f_Reads.a (c12.f_Reads.xs).length c12.f_Reads.c (flat e_S c12.f_Reads.xs) :: row e_S.T e_S.sz c12.f_Writes.a (c12.f_Writes.xs).length c12.f_Writes.c (flat e_S c12.f_Writes.xs) :: stars ((c12.f_Ops.xs.map Op.f_Value).map (vrow e8)) :: blk b2 (.cells #[.int .i64 t.f_Kind, .slice t.f_Reads.a (t.f_Reads.xs).length t.f_Reads.c, .slice t.f_Writes.a (t.f_Writes.xs).length t.f_Writes.c, .slice t.f_Ops.a (t.f_Ops.xs).length t.f_Ops.c, .int .i64 t.f_To] 26 (0, 0)) :: F))) ?_
   refine h_next ?_
   refine h_done (by kernel_rfl) ?_
   refine q_conv (L' := blk b5 (.cells #[.int .i64 c12.f_Kind, .slice c12.f_Reads.a (c12.f_Reads.xs).length c12.f_Reads.c, .slice c12.f_Writes.a (c12.f_Writes.xs).length c12.f_Writes.c, .slice c12.f_Ops.a ((os).set ((i : Int)).toNat x30).length c12.f_Ops.c, .int .i64 c12.f_To] 26 (0, 0)) :: row e_Op.T e_Op.sz c12.f_Ops.a ((os).set ((i : Int)).toNat x30).length c12.f_Ops.c (flat e_Op ((os).set ((i : Int)).toNat x30)) :: row e_S.T e_S.sz c12.f_Reads.a (c12.f_Reads.xs).length c12.f_Reads.c (flat e_S c12.f_Reads.xs) :: row e_S.T e_S.sz c12.f_Writes.a (c12.f_Writes.xs).length c12.f_Writes.c (flat e_S c12.f_Writes.xs) :: stars ((c12.f_Ops.xs.map Op.f_Value).map (vrow e8)) :: blk b2 (.cells #[.int .i64 t.f_Kind, .slice t.f_Reads.a (t.f_Reads.xs).length t.f_Reads.c, .slice t.f_Writes.a (t.f_Writes.xs).length t.f_Writes.c, .slice t.f_Ops.a (t.f_Ops.xs).length t.f_Ops.c, .int .i64 t.f_To] 26 (0, 0)) :: F) (fun w S => S.perm List.perm_append_comm) ?_
   refine q_block ?_
   refine q_then ?_
   refine c_region ?_
   refine o_bin rfl rfl rfl (b_add (wrap_i64 (by omega) (by omega))) ?_
   refine o_move rfl rfl ?_
   refine l_nil ?_
   refine q_conv (fun w S => S.perm p5) ?_
   refine q_conv (fun w S => S.perm p1) ?_
   refine q_conv (fun w S => S.perm p5) ?_
   refine q_conv (fun w S => S.perm p3) ?_
   refine q_conv (fun w S => S.perm p5) ?_
   refine q_conv (fun w S => S.perm p5) ?_
   exact q_round (i + 1, os.set ((i : Int)).toNat x30) (by exact ⟨by omega, by rw [List.length_set]; exact hosl, rev_on hall hosl (by omega) rfl hx30⟩) (by (try dsimp only); omega) ⟨(by first | rfl | exact vint (by omega)), (by first | rfl | exact vint (by omega)), (by first | rfl | exact vint (by omega)), (by first | rfl | exact vint (by omega)), (by first | rfl | exact vint (by omega)), trivial⟩ (fun w S => S)
  · -- h2F
   have h2b := h2
   try simp only [decide_eq_false_iff_not, Int.not_lt, Int.not_le] at h2
   refine c_exit ?_
   refine q_pass_exit ?_
   refine q_pass_exit ?_
   refine q_hit ?_
   refine q_then ?_
   refine c_seq ?_
   have hrev := rev_all hall hosl (by omega)
   have hrm : ∀ o, o ∈ os → o ∈ t.f_Ops.xs := fun o ho => by rw [hrev] at ho; exact List.mem_reverse.1 ho
   refine c_heldF [] (row e_S.T e_S.sz c12.f_Reads.a (c12.f_Reads.xs).length c12.f_Reads.c (flat e_S c12.f_Reads.xs) :: row e_S.T e_S.sz c12.f_Writes.a (c12.f_Writes.xs).length c12.f_Writes.c (flat e_S c12.f_Writes.xs) :: row e_Op.T e_Op.sz c12.f_Ops.a (os).length c12.f_Ops.c (flat e_Op os) :: stars ((c12.f_Ops.xs.map Op.f_Value).map (vrow e8)) :: blk b5 (.cells #[.int .i64 c12.f_Kind, .slice c12.f_Reads.a (c12.f_Reads.xs).length c12.f_Reads.c, .slice c12.f_Writes.a (c12.f_Writes.xs).length c12.f_Writes.c, .slice c12.f_Ops.a (os).length c12.f_Ops.c, .int .i64 c12.f_To] 26 (0, 0)) :: blk b2 (.cells #[.int .i64 t.f_Kind, .slice t.f_Reads.a (t.f_Reads.xs).length t.f_Reads.c, .slice t.f_Writes.a (t.f_Writes.xs).length t.f_Writes.c, .slice t.f_Ops.a (t.f_Ops.xs).length t.f_Ops.c, .int .i64 t.f_To] 26 (0, 0)) :: F) (by kernel_rfl) ?_
   refine h_take 0 rfl rfl (by kernel_rfl) (by kernel_rfl) (by kernel_rfl) (fun L0 => v_loadn (vs := [_, _, _, _, _]) rfl rfl Try.underlying26 rfl ti26 (rdn_lit 4 rfl rfl)) ?_
   refine h_take 1 rfl rfl (by kernel_rfl) (by kernel_rfl) (by kernel_rfl) (fun L0 => v_move rfl rfl) ?_
   refine h_take 3 rfl rfl (by kernel_rfl) (by kernel_rfl) (by kernel_rfl) (fun L0 => v_loadn (vs := [_, _, _, _, _]) rfl rfl Try.underlying26 rfl ti26 (rdn_lit 5 rfl rfl)) ?_
   refine h_take 4 rfl rfl (by kernel_rfl) (by kernel_rfl) (by kernel_rfl) (fun L0 => v_move rfl rfl) ?_
   refine h_one 2 rfl (by kernel_rfl) ?_
   refine l_conv (L' := row e_S.T e_S.sz c12.f_Reads.a (c12.f_Reads.xs).length c12.f_Reads.c (flat e_S c12.f_Reads.xs) :: row e_S.T e_S.sz c12.f_Writes.a (c12.f_Writes.xs).length c12.f_Writes.c (flat e_S c12.f_Writes.xs) :: row e_Op.T e_Op.sz c12.f_Ops.a (os).length c12.f_Ops.c (flat e_Op os) :: stars ((c12.f_Ops.xs.map Op.f_Value).map (vrow e8)) :: blk b5 (.cells #[.int .i64 c12.f_Kind, .slice c12.f_Reads.a (c12.f_Reads.xs).length c12.f_Reads.c, .slice c12.f_Writes.a (c12.f_Writes.xs).length c12.f_Writes.c, .slice c12.f_Ops.a (os).length c12.f_Ops.c, .int .i64 c12.f_To] 26 (0, 0)) :: blk b2 (.cells #[.int .i64 t.f_Kind, .slice t.f_Reads.a (t.f_Reads.xs).length t.f_Reads.c, .slice t.f_Writes.a (t.f_Writes.xs).length t.f_Writes.c, .slice t.f_Ops.a (t.f_Ops.xs).length t.f_Ops.c, .int .i64 t.f_To] 26 (0, 0)) :: F) (fun w S => S.perm List.perm_append_comm) ?_
   refine o_call rfl cal13 rfl (check_ (t := (⟨c12.f_Kind, ⟨c12.f_Reads.a, c12.f_Reads.xs, c12.f_Reads.c⟩, ⟨c12.f_Writes.a, c12.f_Writes.xs, c12.f_Writes.c⟩, ⟨c12.f_Ops.a, os, c12.f_Ops.c⟩, c12.f_To⟩ : Txn)) (g := g) (TxR.mk (t := (⟨c12.f_Kind, ⟨c12.f_Reads.a, c12.f_Reads.xs, c12.f_Reads.c⟩, ⟨c12.f_Writes.a, c12.f_Writes.xs, c12.f_Writes.c⟩, ⟨c12.f_Ops.a, os, c12.f_Ops.c⟩, c12.f_To⟩ : Txn)) (rds_own e_S_ok 0 rfl) (rds_own e_S_ok 1 rfl) (rds_own e_Op_ok 2 rfl) (fun o ho => (TxR.c (TxR.c (TxR.c (TxR.c (TxR.c (TxR.c T_t)))))).rv o (hrm o ho)) ⟨L_c12.lr, L_c12.lw, (by show os.length ≤ _; omega), fun o ho => T_t.len.lv o (hrm o ho)⟩)) ?_
   rintro _ _ ⟨rfl, rfl⟩
   refine l_nil ?_
   refine q_conv (L' := (row e_S.T e_S.sz c12.f_Reads.a (c12.f_Reads.xs).length c12.f_Reads.c (flat e_S c12.f_Reads.xs) :: row e_S.T e_S.sz c12.f_Writes.a (c12.f_Writes.xs).length c12.f_Writes.c (flat e_S c12.f_Writes.xs) :: row e_Op.T e_Op.sz c12.f_Ops.a (os).length c12.f_Ops.c (flat e_Op os) :: stars ((c12.f_Ops.xs.map Op.f_Value).map (vrow e8)) :: blk b5 (.cells #[.int .i64 c12.f_Kind, .slice c12.f_Reads.a (c12.f_Reads.xs).length c12.f_Reads.c, .slice c12.f_Writes.a (c12.f_Writes.xs).length c12.f_Writes.c, .slice c12.f_Ops.a (os).length c12.f_Ops.c, .int .i64 c12.f_To] 26 (0, 0)) :: blk b2 (.cells #[.int .i64 t.f_Kind, .slice t.f_Reads.a (t.f_Reads.xs).length t.f_Reads.c, .slice t.f_Writes.a (t.f_Writes.xs).length t.f_Writes.c, .slice t.f_Ops.a (t.f_Ops.xs).length t.f_Ops.c, .int .i64 t.f_To] 26 (0, 0)) :: F) ++ []) (fun w S => S.perm (List.perm_append_comm (l₁ := []) (l₂ := row e_S.T e_S.sz c12.f_Reads.a (c12.f_Reads.xs).length c12.f_Reads.c (flat e_S c12.f_Reads.xs) :: row e_S.T e_S.sz c12.f_Writes.a (c12.f_Writes.xs).length c12.f_Writes.c (flat e_S c12.f_Writes.xs) :: row e_Op.T e_Op.sz c12.f_Ops.a (os).length c12.f_Ops.c (flat e_Op os) :: stars ((c12.f_Ops.xs.map Op.f_Value).map (vrow e8)) :: blk b5 (.cells #[.int .i64 c12.f_Kind, .slice c12.f_Reads.a (c12.f_Reads.xs).length c12.f_Reads.c, .slice c12.f_Writes.a (c12.f_Writes.xs).length c12.f_Writes.c, .slice c12.f_Ops.a (os).length c12.f_Ops.c, .int .i64 c12.f_To] 26 (0, 0)) :: blk b2 (.cells #[.int .i64 t.f_Kind, .slice t.f_Reads.a (t.f_Reads.xs).length t.f_Reads.c, .slice t.f_Writes.a (t.f_Writes.xs).length t.f_Writes.c, .slice t.f_Ops.a (t.f_Ops.xs).length t.f_Ops.c, .int .i64 t.f_To] 26 (0, 0)) :: F))) ?_
   refine h_next ?_
   refine h_one 5 rfl (by kernel_rfl) ?_
   refine l_conv (L' := row e_S.T e_S.sz c12.f_Reads.a (c12.f_Reads.xs).length c12.f_Reads.c (flat e_S c12.f_Reads.xs) :: row e_S.T e_S.sz c12.f_Writes.a (c12.f_Writes.xs).length c12.f_Writes.c (flat e_S c12.f_Writes.xs) :: row e_Op.T e_Op.sz c12.f_Ops.a (os).length c12.f_Ops.c (flat e_Op os) :: stars ((c12.f_Ops.xs.map Op.f_Value).map (vrow e8)) :: blk b5 (.cells #[.int .i64 c12.f_Kind, .slice c12.f_Reads.a (c12.f_Reads.xs).length c12.f_Reads.c, .slice c12.f_Writes.a (c12.f_Writes.xs).length c12.f_Writes.c, .slice c12.f_Ops.a (os).length c12.f_Ops.c, .int .i64 c12.f_To] 26 (0, 0)) :: blk b2 (.cells #[.int .i64 t.f_Kind, .slice t.f_Reads.a (t.f_Reads.xs).length t.f_Reads.c, .slice t.f_Writes.a (t.f_Writes.xs).length t.f_Writes.c, .slice t.f_Ops.a (t.f_Ops.xs).length t.f_Ops.c, .int .i64 t.f_To] 26 (0, 0)) :: F) (fun w S => S.perm List.perm_append_comm) ?_
   refine o_call rfl cal13 rfl (check_ (t := t) (g := g) (TxR.c (TxR.c (TxR.c (TxR.c (TxR.c (TxR.c T_t))))))) ?_
   rintro _ _ ⟨rfl, rfl⟩
   refine l_nil ?_
   refine q_conv (L' := (row e_S.T e_S.sz c12.f_Reads.a (c12.f_Reads.xs).length c12.f_Reads.c (flat e_S c12.f_Reads.xs) :: row e_S.T e_S.sz c12.f_Writes.a (c12.f_Writes.xs).length c12.f_Writes.c (flat e_S c12.f_Writes.xs) :: row e_Op.T e_Op.sz c12.f_Ops.a (os).length c12.f_Ops.c (flat e_Op os) :: stars ((c12.f_Ops.xs.map Op.f_Value).map (vrow e8)) :: blk b5 (.cells #[.int .i64 c12.f_Kind, .slice c12.f_Reads.a (c12.f_Reads.xs).length c12.f_Reads.c, .slice c12.f_Writes.a (c12.f_Writes.xs).length c12.f_Writes.c, .slice c12.f_Ops.a (os).length c12.f_Ops.c, .int .i64 c12.f_To] 26 (0, 0)) :: blk b2 (.cells #[.int .i64 t.f_Kind, .slice t.f_Reads.a (t.f_Reads.xs).length t.f_Reads.c, .slice t.f_Writes.a (t.f_Writes.xs).length t.f_Writes.c, .slice t.f_Ops.a (t.f_Ops.xs).length t.f_Ops.c, .int .i64 t.f_To] 26 (0, 0)) :: F) ++ []) (fun w S => S.perm (List.perm_append_comm (l₁ := []) (l₂ := row e_S.T e_S.sz c12.f_Reads.a (c12.f_Reads.xs).length c12.f_Reads.c (flat e_S c12.f_Reads.xs) :: row e_S.T e_S.sz c12.f_Writes.a (c12.f_Writes.xs).length c12.f_Writes.c (flat e_S c12.f_Writes.xs) :: row e_Op.T e_Op.sz c12.f_Ops.a (os).length c12.f_Ops.c (flat e_Op os) :: stars ((c12.f_Ops.xs.map Op.f_Value).map (vrow e8)) :: blk b5 (.cells #[.int .i64 c12.f_Kind, .slice c12.f_Reads.a (c12.f_Reads.xs).length c12.f_Reads.c, .slice c12.f_Writes.a (c12.f_Writes.xs).length c12.f_Writes.c, .slice c12.f_Ops.a (os).length c12.f_Ops.c, .int .i64 c12.f_To] 26 (0, 0)) :: blk b2 (.cells #[.int .i64 t.f_Kind, .slice t.f_Reads.a (t.f_Reads.xs).length t.f_Reads.c, .slice t.f_Writes.a (t.f_Writes.xs).length t.f_Writes.c, .slice t.f_Ops.a (t.f_Ops.xs).length t.f_Ops.c, .int .i64 t.f_To] 26 (0, 0)) :: F))) ?_
   refine h_next ?_
   refine h_take 6 rfl rfl (by kernel_rfl) (by kernel_rfl) (by kernel_rfl) (fun L0 => v_bin rfl rfl rfl b_eql) ?_
   refine h_eq (t := 40) (v' := .bool true) rfl (by rw [chkN_rev (t := t) (c := (⟨c12.f_Kind, ⟨c12.f_Reads.a, c12.f_Reads.xs, c12.f_Reads.c⟩, ⟨c12.f_Writes.a, c12.f_Writes.xs, c12.f_Writes.c⟩, ⟨c12.f_Ops.a, os, c12.f_Ops.c⟩, c12.f_To⟩ : Txn)) hs_c12.1 hs_c12.2.1 hs_c12.2.2.1 hs_c12.2.2.2.1 hrev]; simp) ?_
   refine h_take 7 rfl rfl (by kernel_rfl) (by kernel_rfl) (by kernel_rfl) (fun L0 => v_move rfl rfl) ?_
   refine h_take_yes 8 rfl rfl rfl rfl rfl (by kernel_rfl) (by kernel_rfl) (by kernel_rfl) (fun L0 => v_loadn (vs := [_, _, _, _, _]) rfl rfl Try.underlying26 rfl ti26 (rdn_lit 4 rfl rfl)) ?_
   refine h_take_yes 10 rfl rfl rfl rfl rfl (by kernel_rfl) (by kernel_rfl) (by kernel_rfl) (fun L0 => v_loadn (vs := [_, _, _, _, _]) rfl rfl Try.underlying26 rfl ti26 (rdn_lit 5 rfl rfl)) ?_
   refine h_one 9 rfl (by kernel_rfl) ?_
   refine l_conv (L' := row e_S.T e_S.sz c12.f_Reads.a (c12.f_Reads.xs).length c12.f_Reads.c (flat e_S c12.f_Reads.xs) :: row e_S.T e_S.sz c12.f_Writes.a (c12.f_Writes.xs).length c12.f_Writes.c (flat e_S c12.f_Writes.xs) :: row e_Op.T e_Op.sz c12.f_Ops.a (os).length c12.f_Ops.c (flat e_Op os) :: stars ((c12.f_Ops.xs.map Op.f_Value).map (vrow e8)) :: blk b5 (.cells #[.int .i64 c12.f_Kind, .slice c12.f_Reads.a (c12.f_Reads.xs).length c12.f_Reads.c, .slice c12.f_Writes.a (c12.f_Writes.xs).length c12.f_Writes.c, .slice c12.f_Ops.a (os).length c12.f_Ops.c, .int .i64 c12.f_To] 26 (0, 0)) :: blk b2 (.cells #[.int .i64 t.f_Kind, .slice t.f_Reads.a (t.f_Reads.xs).length t.f_Reads.c, .slice t.f_Writes.a (t.f_Writes.xs).length t.f_Writes.c, .slice t.f_Ops.a (t.f_Ops.xs).length t.f_Ops.c, .int .i64 t.f_To] 26 (0, 0)) :: F) (fun w S => S.perm List.perm_append_comm) ?_
   refine o_yes rfl rfl rfl ?_
   refine o_call rfl cal18 rfl (keys_ (t := (⟨c12.f_Kind, ⟨c12.f_Reads.a, c12.f_Reads.xs, c12.f_Reads.c⟩, ⟨c12.f_Writes.a, c12.f_Writes.xs, c12.f_Writes.c⟩, ⟨c12.f_Ops.a, os, c12.f_Ops.c⟩, c12.f_To⟩ : Txn)) (TxR.mk (t := (⟨c12.f_Kind, ⟨c12.f_Reads.a, c12.f_Reads.xs, c12.f_Reads.c⟩, ⟨c12.f_Writes.a, c12.f_Writes.xs, c12.f_Writes.c⟩, ⟨c12.f_Ops.a, os, c12.f_Ops.c⟩, c12.f_To⟩ : Txn)) (rds_own e_S_ok 0 rfl) (rds_own e_S_ok 1 rfl) (rds_own e_Op_ok 2 rfl) (fun o ho => (TxR.c (TxR.c (TxR.c (TxR.c (TxR.c (TxR.c T_t)))))).rv o (hrm o ho)) ⟨L_c12.lr, L_c12.lw, (by show os.length ≤ _; omega), fun o ho => T_t.len.lv o (hrm o ho)⟩) (by first | omega | (show c12.f_Reads.xs.length + c12.f_Writes.xs.length ≤ _; omega))) ?_
   rintro _ _ ⟨a43, c43, rfl, rfl⟩
   refine l_nil ?_
   refine q_conv (L' := (row e_S.T e_S.sz c12.f_Reads.a (c12.f_Reads.xs).length c12.f_Reads.c (flat e_S c12.f_Reads.xs) :: row e_S.T e_S.sz c12.f_Writes.a (c12.f_Writes.xs).length c12.f_Writes.c (flat e_S c12.f_Writes.xs) :: row e_Op.T e_Op.sz c12.f_Ops.a (os).length c12.f_Ops.c (flat e_Op os) :: stars ((c12.f_Ops.xs.map Op.f_Value).map (vrow e8)) :: blk b5 (.cells #[.int .i64 c12.f_Kind, .slice c12.f_Reads.a (c12.f_Reads.xs).length c12.f_Reads.c, .slice c12.f_Writes.a (c12.f_Writes.xs).length c12.f_Writes.c, .slice c12.f_Ops.a (os).length c12.f_Ops.c, .int .i64 c12.f_To] 26 (0, 0)) :: blk b2 (.cells #[.int .i64 t.f_Kind, .slice t.f_Reads.a (t.f_Reads.xs).length t.f_Reads.c, .slice t.f_Writes.a (t.f_Writes.xs).length t.f_Writes.c, .slice t.f_Ops.a (t.f_Ops.xs).length t.f_Ops.c, .int .i64 t.f_To] 26 (0, 0)) :: F) ++ [row e_S.T e_S.sz a43 (keysT (⟨c12.f_Kind, ⟨c12.f_Reads.a, c12.f_Reads.xs, c12.f_Reads.c⟩, ⟨c12.f_Writes.a, c12.f_Writes.xs, c12.f_Writes.c⟩, ⟨c12.f_Ops.a, os, c12.f_Ops.c⟩, c12.f_To⟩ : Txn)).length c43 (flat e_S (keysT (⟨c12.f_Kind, ⟨c12.f_Reads.a, c12.f_Reads.xs, c12.f_Reads.c⟩, ⟨c12.f_Writes.a, c12.f_Writes.xs, c12.f_Writes.c⟩, ⟨c12.f_Ops.a, os, c12.f_Ops.c⟩, c12.f_To⟩ : Txn)))]) (fun w S => S.perm (List.perm_append_comm (l₁ := [row e_S.T e_S.sz a43 (keysT (⟨c12.f_Kind, ⟨c12.f_Reads.a, c12.f_Reads.xs, c12.f_Reads.c⟩, ⟨c12.f_Writes.a, c12.f_Writes.xs, c12.f_Writes.c⟩, ⟨c12.f_Ops.a, os, c12.f_Ops.c⟩, c12.f_To⟩ : Txn)).length c43 (flat e_S (keysT (⟨c12.f_Kind, ⟨c12.f_Reads.a, c12.f_Reads.xs, c12.f_Reads.c⟩, ⟨c12.f_Writes.a, c12.f_Writes.xs, c12.f_Writes.c⟩, ⟨c12.f_Ops.a, os, c12.f_Ops.c⟩, c12.f_To⟩ : Txn)))]) (l₂ := row e_S.T e_S.sz c12.f_Reads.a (c12.f_Reads.xs).length c12.f_Reads.c (flat e_S c12.f_Reads.xs) :: row e_S.T e_S.sz c12.f_Writes.a (c12.f_Writes.xs).length c12.f_Writes.c (flat e_S c12.f_Writes.xs) :: row e_Op.T e_Op.sz c12.f_Ops.a (os).length c12.f_Ops.c (flat e_Op os) :: stars ((c12.f_Ops.xs.map Op.f_Value).map (vrow e8)) :: blk b5 (.cells #[.int .i64 c12.f_Kind, .slice c12.f_Reads.a (c12.f_Reads.xs).length c12.f_Reads.c, .slice c12.f_Writes.a (c12.f_Writes.xs).length c12.f_Writes.c, .slice c12.f_Ops.a (os).length c12.f_Ops.c, .int .i64 c12.f_To] 26 (0, 0)) :: blk b2 (.cells #[.int .i64 t.f_Kind, .slice t.f_Reads.a (t.f_Reads.xs).length t.f_Reads.c, .slice t.f_Writes.a (t.f_Writes.xs).length t.f_Writes.c, .slice t.f_Ops.a (t.f_Ops.xs).length t.f_Ops.c, .int .i64 t.f_To] 26 (0, 0)) :: F))) ?_
   refine h_next ?_
   refine h_one 11 rfl (by kernel_rfl) ?_
   refine l_conv (L' := row e_S.T e_S.sz a43 (keysT (⟨c12.f_Kind, ⟨c12.f_Reads.a, c12.f_Reads.xs, c12.f_Reads.c⟩, ⟨c12.f_Writes.a, c12.f_Writes.xs, c12.f_Writes.c⟩, ⟨c12.f_Ops.a, os, c12.f_Ops.c⟩, c12.f_To⟩ : Txn)).length c43 (flat e_S (keysT (⟨c12.f_Kind, ⟨c12.f_Reads.a, c12.f_Reads.xs, c12.f_Reads.c⟩, ⟨c12.f_Writes.a, c12.f_Writes.xs, c12.f_Writes.c⟩, ⟨c12.f_Ops.a, os, c12.f_Ops.c⟩, c12.f_To⟩ : Txn))) :: row e_S.T e_S.sz c12.f_Reads.a (c12.f_Reads.xs).length c12.f_Reads.c (flat e_S c12.f_Reads.xs) :: row e_S.T e_S.sz c12.f_Writes.a (c12.f_Writes.xs).length c12.f_Writes.c (flat e_S c12.f_Writes.xs) :: row e_Op.T e_Op.sz c12.f_Ops.a (os).length c12.f_Ops.c (flat e_Op os) :: stars ((c12.f_Ops.xs.map Op.f_Value).map (vrow e8)) :: blk b5 (.cells #[.int .i64 c12.f_Kind, .slice c12.f_Reads.a (c12.f_Reads.xs).length c12.f_Reads.c, .slice c12.f_Writes.a (c12.f_Writes.xs).length c12.f_Writes.c, .slice c12.f_Ops.a (os).length c12.f_Ops.c, .int .i64 c12.f_To] 26 (0, 0)) :: blk b2 (.cells #[.int .i64 t.f_Kind, .slice t.f_Reads.a (t.f_Reads.xs).length t.f_Reads.c, .slice t.f_Writes.a (t.f_Writes.xs).length t.f_Writes.c, .slice t.f_Ops.a (t.f_Ops.xs).length t.f_Ops.c, .int .i64 t.f_To] 26 (0, 0)) :: F) (fun w S => S.perm List.perm_append_comm) ?_
   refine o_yes rfl rfl rfl ?_
   refine o_call rfl cal18 rfl (keys_ (t := t) (TxR.c (TxR.c (TxR.c (TxR.c (TxR.c (TxR.c (TxR.c T_t))))))) (by first | omega | (show c12.f_Reads.xs.length + c12.f_Writes.xs.length ≤ _; omega))) ?_
   rintro _ _ ⟨a45, c45, rfl, rfl⟩
   refine l_nil ?_
   refine q_conv (L' := (row e_S.T e_S.sz c12.f_Reads.a (c12.f_Reads.xs).length c12.f_Reads.c (flat e_S c12.f_Reads.xs) :: row e_S.T e_S.sz c12.f_Writes.a (c12.f_Writes.xs).length c12.f_Writes.c (flat e_S c12.f_Writes.xs) :: row e_Op.T e_Op.sz c12.f_Ops.a (os).length c12.f_Ops.c (flat e_Op os) :: stars ((c12.f_Ops.xs.map Op.f_Value).map (vrow e8)) :: blk b5 (.cells #[.int .i64 c12.f_Kind, .slice c12.f_Reads.a (c12.f_Reads.xs).length c12.f_Reads.c, .slice c12.f_Writes.a (c12.f_Writes.xs).length c12.f_Writes.c, .slice c12.f_Ops.a (os).length c12.f_Ops.c, .int .i64 c12.f_To] 26 (0, 0)) :: blk b2 (.cells #[.int .i64 t.f_Kind, .slice t.f_Reads.a (t.f_Reads.xs).length t.f_Reads.c, .slice t.f_Writes.a (t.f_Writes.xs).length t.f_Writes.c, .slice t.f_Ops.a (t.f_Ops.xs).length t.f_Ops.c, .int .i64 t.f_To] 26 (0, 0)) :: F) ++ [row e_S.T e_S.sz a45 (keysT t).length c45 (flat e_S (keysT t)), row e_S.T e_S.sz a43 (keysT (⟨c12.f_Kind, ⟨c12.f_Reads.a, c12.f_Reads.xs, c12.f_Reads.c⟩, ⟨c12.f_Writes.a, c12.f_Writes.xs, c12.f_Writes.c⟩, ⟨c12.f_Ops.a, os, c12.f_Ops.c⟩, c12.f_To⟩ : Txn)).length c43 (flat e_S (keysT (⟨c12.f_Kind, ⟨c12.f_Reads.a, c12.f_Reads.xs, c12.f_Reads.c⟩, ⟨c12.f_Writes.a, c12.f_Writes.xs, c12.f_Writes.c⟩, ⟨c12.f_Ops.a, os, c12.f_Ops.c⟩, c12.f_To⟩ : Txn)))]) (fun w S => S.perm (List.perm_append_comm (l₁ := [row e_S.T e_S.sz a45 (keysT t).length c45 (flat e_S (keysT t)), row e_S.T e_S.sz a43 (keysT (⟨c12.f_Kind, ⟨c12.f_Reads.a, c12.f_Reads.xs, c12.f_Reads.c⟩, ⟨c12.f_Writes.a, c12.f_Writes.xs, c12.f_Writes.c⟩, ⟨c12.f_Ops.a, os, c12.f_Ops.c⟩, c12.f_To⟩ : Txn)).length c43 (flat e_S (keysT (⟨c12.f_Kind, ⟨c12.f_Reads.a, c12.f_Reads.xs, c12.f_Reads.c⟩, ⟨c12.f_Writes.a, c12.f_Writes.xs, c12.f_Writes.c⟩, ⟨c12.f_Ops.a, os, c12.f_Ops.c⟩, c12.f_To⟩ : Txn)))]) (l₂ := row e_S.T e_S.sz c12.f_Reads.a (c12.f_Reads.xs).length c12.f_Reads.c (flat e_S c12.f_Reads.xs) :: row e_S.T e_S.sz c12.f_Writes.a (c12.f_Writes.xs).length c12.f_Writes.c (flat e_S c12.f_Writes.xs) :: row e_Op.T e_Op.sz c12.f_Ops.a (os).length c12.f_Ops.c (flat e_Op os) :: stars ((c12.f_Ops.xs.map Op.f_Value).map (vrow e8)) :: blk b5 (.cells #[.int .i64 c12.f_Kind, .slice c12.f_Reads.a (c12.f_Reads.xs).length c12.f_Reads.c, .slice c12.f_Writes.a (c12.f_Writes.xs).length c12.f_Writes.c, .slice c12.f_Ops.a (os).length c12.f_Ops.c, .int .i64 c12.f_To] 26 (0, 0)) :: blk b2 (.cells #[.int .i64 t.f_Kind, .slice t.f_Reads.a (t.f_Reads.xs).length t.f_Reads.c, .slice t.f_Writes.a (t.f_Writes.xs).length t.f_Writes.c, .slice t.f_Ops.a (t.f_Ops.xs).length t.f_Ops.c, .int .i64 t.f_To] 26 (0, 0)) :: F))) ?_
   refine h_next ?_
   refine h_one 12 rfl (by kernel_rfl) ?_
   refine l_conv (L' := row e_S.T e_S.sz a45 (keysT t).length c45 (flat e_S (keysT t)) :: row e_S.T e_S.sz a43 (keysT (⟨c12.f_Kind, ⟨c12.f_Reads.a, c12.f_Reads.xs, c12.f_Reads.c⟩, ⟨c12.f_Writes.a, c12.f_Writes.xs, c12.f_Writes.c⟩, ⟨c12.f_Ops.a, os, c12.f_Ops.c⟩, c12.f_To⟩ : Txn)).length c43 (flat e_S (keysT (⟨c12.f_Kind, ⟨c12.f_Reads.a, c12.f_Reads.xs, c12.f_Reads.c⟩, ⟨c12.f_Writes.a, c12.f_Writes.xs, c12.f_Writes.c⟩, ⟨c12.f_Ops.a, os, c12.f_Ops.c⟩, c12.f_To⟩ : Txn))) :: row e_S.T e_S.sz c12.f_Reads.a (c12.f_Reads.xs).length c12.f_Reads.c (flat e_S c12.f_Reads.xs) :: row e_S.T e_S.sz c12.f_Writes.a (c12.f_Writes.xs).length c12.f_Writes.c (flat e_S c12.f_Writes.xs) :: row e_Op.T e_Op.sz c12.f_Ops.a (os).length c12.f_Ops.c (flat e_Op os) :: stars ((c12.f_Ops.xs.map Op.f_Value).map (vrow e8)) :: blk b5 (.cells #[.int .i64 c12.f_Kind, .slice c12.f_Reads.a (c12.f_Reads.xs).length c12.f_Reads.c, .slice c12.f_Writes.a (c12.f_Writes.xs).length c12.f_Writes.c, .slice c12.f_Ops.a (os).length c12.f_Ops.c, .int .i64 c12.f_To] 26 (0, 0)) :: blk b2 (.cells #[.int .i64 t.f_Kind, .slice t.f_Reads.a (t.f_Reads.xs).length t.f_Reads.c, .slice t.f_Writes.a (t.f_Writes.xs).length t.f_Writes.c, .slice t.f_Ops.a (t.f_Ops.xs).length t.f_Ops.c, .int .i64 t.f_To] 26 (0, 0)) :: F) (fun w S => S.perm List.perm_append_comm) ?_
   refine o_yes rfl rfl rfl ?_
   refine o_call rfl cal19 rfl (sameTexts_ (rds_own e_S_ok 1 rfl) (by have h5 := keysT_len (⟨c12.f_Kind, ⟨c12.f_Reads.a, c12.f_Reads.xs, c12.f_Reads.c⟩, ⟨c12.f_Writes.a, c12.f_Writes.xs, c12.f_Writes.c⟩, ⟨c12.f_Ops.a, os, c12.f_Ops.c⟩, c12.f_To⟩ : Txn); (try dsimp only at h5); omega) (rds_own e_S_ok 0 rfl)) ?_
   rintro _ _ ⟨rfl, rfl⟩
   refine l_nil ?_
   refine q_conv (L' := (row e_S.T e_S.sz c12.f_Reads.a (c12.f_Reads.xs).length c12.f_Reads.c (flat e_S c12.f_Reads.xs) :: row e_S.T e_S.sz c12.f_Writes.a (c12.f_Writes.xs).length c12.f_Writes.c (flat e_S c12.f_Writes.xs) :: row e_Op.T e_Op.sz c12.f_Ops.a (os).length c12.f_Ops.c (flat e_Op os) :: stars ((c12.f_Ops.xs.map Op.f_Value).map (vrow e8)) :: blk b5 (.cells #[.int .i64 c12.f_Kind, .slice c12.f_Reads.a (c12.f_Reads.xs).length c12.f_Reads.c, .slice c12.f_Writes.a (c12.f_Writes.xs).length c12.f_Writes.c, .slice c12.f_Ops.a (os).length c12.f_Ops.c, .int .i64 c12.f_To] 26 (0, 0)) :: blk b2 (.cells #[.int .i64 t.f_Kind, .slice t.f_Reads.a (t.f_Reads.xs).length t.f_Reads.c, .slice t.f_Writes.a (t.f_Writes.xs).length t.f_Writes.c, .slice t.f_Ops.a (t.f_Ops.xs).length t.f_Ops.c, .int .i64 t.f_To] 26 (0, 0)) :: F) ++ [row e_S.T e_S.sz a45 (keysT t).length c45 (flat e_S (keysT t)), row e_S.T e_S.sz a43 (keysT (⟨c12.f_Kind, ⟨c12.f_Reads.a, c12.f_Reads.xs, c12.f_Reads.c⟩, ⟨c12.f_Writes.a, c12.f_Writes.xs, c12.f_Writes.c⟩, ⟨c12.f_Ops.a, os, c12.f_Ops.c⟩, c12.f_To⟩ : Txn)).length c43 (flat e_S (keysT (⟨c12.f_Kind, ⟨c12.f_Reads.a, c12.f_Reads.xs, c12.f_Reads.c⟩, ⟨c12.f_Writes.a, c12.f_Writes.xs, c12.f_Writes.c⟩, ⟨c12.f_Ops.a, os, c12.f_Ops.c⟩, c12.f_To⟩ : Txn)))]) (fun w S => S.perm (List.perm_append_comm (l₁ := [row e_S.T e_S.sz a45 (keysT t).length c45 (flat e_S (keysT t)), row e_S.T e_S.sz a43 (keysT (⟨c12.f_Kind, ⟨c12.f_Reads.a, c12.f_Reads.xs, c12.f_Reads.c⟩, ⟨c12.f_Writes.a, c12.f_Writes.xs, c12.f_Writes.c⟩, ⟨c12.f_Ops.a, os, c12.f_Ops.c⟩, c12.f_To⟩ : Txn)).length c43 (flat e_S (keysT (⟨c12.f_Kind, ⟨c12.f_Reads.a, c12.f_Reads.xs, c12.f_Reads.c⟩, ⟨c12.f_Writes.a, c12.f_Writes.xs, c12.f_Writes.c⟩, ⟨c12.f_Ops.a, os, c12.f_Ops.c⟩, c12.f_To⟩ : Txn)))]) (l₂ := row e_S.T e_S.sz c12.f_Reads.a (c12.f_Reads.xs).length c12.f_Reads.c (flat e_S c12.f_Reads.xs) :: row e_S.T e_S.sz c12.f_Writes.a (c12.f_Writes.xs).length c12.f_Writes.c (flat e_S c12.f_Writes.xs) :: row e_Op.T e_Op.sz c12.f_Ops.a (os).length c12.f_Ops.c (flat e_Op os) :: stars ((c12.f_Ops.xs.map Op.f_Value).map (vrow e8)) :: blk b5 (.cells #[.int .i64 c12.f_Kind, .slice c12.f_Reads.a (c12.f_Reads.xs).length c12.f_Reads.c, .slice c12.f_Writes.a (c12.f_Writes.xs).length c12.f_Writes.c, .slice c12.f_Ops.a (os).length c12.f_Ops.c, .int .i64 c12.f_To] 26 (0, 0)) :: blk b2 (.cells #[.int .i64 t.f_Kind, .slice t.f_Reads.a (t.f_Reads.xs).length t.f_Reads.c, .slice t.f_Writes.a (t.f_Writes.xs).length t.f_Writes.c, .slice t.f_Ops.a (t.f_Ops.xs).length t.f_Ops.c, .int .i64 t.f_To] 26 (0, 0)) :: F))) ?_
   refine h_next ?_
   refine h_eq (t := 46) (v' := .bool true) rfl (show _ = Value.bool true from by simp [keysT, hs_c12.2.2.1, hs_c12.2.2.2.1]) ?_
   refine h_take 13 rfl rfl (by kernel_rfl) (by kernel_rfl) (by kernel_rfl) (fun L0 => v_pick_true rfl rfl rfl) ?_
   refine h_take 14 rfl rfl (by kernel_rfl) (by kernel_rfl) (by kernel_rfl) (fun L0 => v_assign rfl rfl) ?_
   refine h_done (by kernel_rfl) ?_
   refine q_conv (L' := row e_S.T e_S.sz a45 (keysT t).length c45 (flat e_S (keysT t)) :: row e_S.T e_S.sz a43 (keysT (⟨c12.f_Kind, ⟨c12.f_Reads.a, c12.f_Reads.xs, c12.f_Reads.c⟩, ⟨c12.f_Writes.a, c12.f_Writes.xs, c12.f_Writes.c⟩, ⟨c12.f_Ops.a, os, c12.f_Ops.c⟩, c12.f_To⟩ : Txn)).length c43 (flat e_S (keysT (⟨c12.f_Kind, ⟨c12.f_Reads.a, c12.f_Reads.xs, c12.f_Reads.c⟩, ⟨c12.f_Writes.a, c12.f_Writes.xs, c12.f_Writes.c⟩, ⟨c12.f_Ops.a, os, c12.f_Ops.c⟩, c12.f_To⟩ : Txn))) :: row e_S.T e_S.sz c12.f_Reads.a (c12.f_Reads.xs).length c12.f_Reads.c (flat e_S c12.f_Reads.xs) :: row e_S.T e_S.sz c12.f_Writes.a (c12.f_Writes.xs).length c12.f_Writes.c (flat e_S c12.f_Writes.xs) :: row e_Op.T e_Op.sz c12.f_Ops.a (os).length c12.f_Ops.c (flat e_Op os) :: stars ((c12.f_Ops.xs.map Op.f_Value).map (vrow e8)) :: blk b5 (.cells #[.int .i64 c12.f_Kind, .slice c12.f_Reads.a (c12.f_Reads.xs).length c12.f_Reads.c, .slice c12.f_Writes.a (c12.f_Writes.xs).length c12.f_Writes.c, .slice c12.f_Ops.a (os).length c12.f_Ops.c, .int .i64 c12.f_To] 26 (0, 0)) :: blk b2 (.cells #[.int .i64 t.f_Kind, .slice t.f_Reads.a (t.f_Reads.xs).length t.f_Reads.c, .slice t.f_Writes.a (t.f_Writes.xs).length t.f_Writes.c, .slice t.f_Ops.a (t.f_Ops.xs).length t.f_Ops.c, .int .i64 t.f_To] 26 (0, 0)) :: F) (fun w S => S.perm List.perm_append_comm) ?_
   refine q_then ?_
   refine c_ret ?_
   refine q_conv (fun w S => S.tail) ?_
   refine q_conv (fun w S => S.tail) ?_
   refine q_conv (fun w S => S.tail) ?_
   refine q_conv (fun w S => S.tail) ?_
   refine q_conv (fun w S => S.tail) ?_
   refine q_conv (fun w S => S.tail) ?_
   refine q_conv (fun w S => S.tail) ?_
   refine q_conv (fun w S => S.tail) ?_
   exact f_ret (r_one rfl rfl) (⟨rfl, rfl⟩) (fun w S => S)

end Go.Proofs.Ytllclglbfdncnaa
