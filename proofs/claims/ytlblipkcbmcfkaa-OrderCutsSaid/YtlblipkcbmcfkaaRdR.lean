/- Printed by eng2.py out of 09a/spec.py. -/
import Derived.Test.YtlblipkcbmcfkaaRdO
set_option linter.unusedVariables false
set_option linter.unusedSimpArgs false
set_option maxRecDepth 10000
namespace Go.Proofs.Ytlblipkcbmcfkaa
open Go.RowKit Classical
abbrev zOrd : Order := ⟨0, 0, 0, 0, 0, ⟨none, [], 0⟩, ⟨none, [], 0⟩, ⟨none, [], 0⟩, 0, ⟨none, [], 0⟩⟩
theorem zOrd_mem {W w : World} {L : List Res} (S : Sat W w L) : Sat W w (ordM zOrd :: L) := by
  refine Sat.unflat (Ls := [txM zOrd.txn, vrow e_Mark zOrd.f_Marks]) ?_
  have S1 : Sat W w (vrow e_Mark ⟨none, [], 0⟩ :: L) := S.own_nil
  have S2 : Sat W w (stars [] :: vrow e_Mark ⟨none, [], 0⟩ :: L) := S1.stars_nil
  have S3 : Sat W w (vrow e_Op ⟨none, [], 0⟩ :: stars [] :: vrow e_Mark ⟨none, [], 0⟩ :: L) := S2.own_nil
  have S4 : Sat W w (vrow e_S ⟨none, [], 0⟩ :: vrow e_Op ⟨none, [], 0⟩ :: stars [] :: vrow e_Mark ⟨none, [], 0⟩ :: L) := S3.own_nil
  have S5 : Sat W w (vrow e_S ⟨none, [], 0⟩ :: vrow e_S ⟨none, [], 0⟩ :: vrow e_Op ⟨none, [], 0⟩ :: stars [] :: vrow e_Mark ⟨none, [], 0⟩ :: L) := S4.own_nil
  exact Sat.unflat (Ls := txL zOrd.txn) S5
theorem zOrd_len : OrdLen zOrd := ⟨by simp, ⟨by simp, by simp, by simp, fun o ho => by cases ho⟩⟩
/-- What reading answers. -/
def RdResO (bs : List UInt8) (q : Order) (n : Int) : Prop := (n = 0 ∧ GoodO q bs) ∨ (n = 31 ∧ q = zOrd ∧ ∀ o, ¬ GoodO o bs)
theorem GoodO.same {a b : Order} {bs : List UInt8} (h : SameO a b) (w : OWf a) (g : GoodO b bs) : GoodO a bs := ⟨(ordOk_same h).2 g.ok, w, g.eq.trans (ordB_same h).symm⟩
theorem rd_not1 {bs : List UInt8} {q : Order} (hs : ∀ o, GoodO o bs → SameO q o) (w : OWf q) (h : ¬ OrdOk q 3) : ∀ o, ¬ GoodO o bs := fun o g => h (g.same (hs o g) w).ok
theorem rd_not2 {bs : List UInt8} {q : Order} (hs : ∀ o, GoodO o bs → SameO q o) (w : OWf q) (hk : OrdOk q 3) (h : ¬ ordB q = bs) : ∀ o, ¬ GoodO o bs := fun o g => h (g.same (hs o g) w).eq.symm
theorem wrO_yes {o : Order} (h : OrdOk o 3) : wrO o = ordB o := if_pos h
theorem equal8 {W : World} {F : List Res} {xs ys : List UInt8} {a b : Option Addr} {c c2 : Nat} (hs : RdS W F e8 a xs) (hs2 : RdS W F e8 b ys) (hn : xs.length ≤ 9223372036854775807) : CS Try.prog 38 #[.slice a xs.length c, .slice b ys.length c2] W (F) (fun r L' => r = .bool (decide (xs = ys)) ∧ F = L') := by
 refine f_door (l0 := [(0, .slice a xs.length c), (1, .slice b ys.length c2)]) Try.func38 Try.ntmps38 rfl rfl rfl ?_
 refine c_seq ?_
 refine c_region ?_
 refine o_assign rfl rfl ?_
 refine l_nil ?_
 refine q_then ?_
 refine c_seq ?_
 refine c_seq ?_
 refine c_region ?_
 refine o_move rfl rfl ?_
 refine o_len rfl rfl Try.underlying45 ?_
 refine o_move rfl rfl ?_
 refine o_len rfl rfl Try.underlying45 ?_
 refine o_bin rfl rfl rfl b_neq ?_
 refine l_nil ?_
 refine q_then ?_
 refine c_cond rfl (fun h1 => ?_) (fun h1 => ?_)
 · -- h1T
  have h1b := h1
  try simp only [Bool.not_eq_true', decide_eq_false_iff_not, Int.not_lt, Int.not_le] at h1
  refine c_seq ?_
  refine c_region ?_
  refine o_assign rfl rfl ?_
  refine l_nil ?_
  refine q_then ?_
  refine c_ret ?_
  refine q_pass_ret ?_
  exact f_ret (r_one rfl rfl) (⟨vfalse' (fun h9 => h1 (by rw [h9])), rfl⟩) (fun w S => S)
 · -- h1F
  have h1b := h1
  try simp only [Bool.not_eq_false', decide_eq_true_eq] at h1
  refine c_skip ?_
  refine q_then ?_
  refine c_seq ?_
  refine c_seq ?_
  refine c_region ?_
  refine o_move rfl rfl ?_
  refine o_len rfl rfl Try.underlying45 ?_
  refine o_move rfl rfl ?_
  refine l_nil ?_
  refine q_then ?_
  refine c_block ?_
  refine c_loop (α := Nat) (fun z => [(0, .slice a (xs).length c), (1, .slice b (ys).length c2), (12, .int .i64 ((xs).length : Int)), (13, .int .i64 (z : Int))]) (fun z => F) (fun z => z ≤ xs.length ∧ ∀ j, j < z → xs[j]? = ys[j]?) (fun z => xs.length - z) (0) (by exact ⟨Nat.zero_le _, fun j h => absurd h (by omega)⟩) ⟨(by first | rfl | exact vint (by omega)), (by first | rfl | exact vint (by omega)), (by first | rfl | exact vint (by omega)), (by first | rfl | exact vint (by omega)), trivial⟩ (fun w S => S) ?_
  rintro i ⟨hi, heq⟩
  try dsimp only at *
  refine c_seq ?_
  refine c_region ?_
  refine o_bin rfl rfl rfl b_lss ?_
  refine l_nil ?_
  refine q_then ?_
  refine c_seq ?_
  refine c_cond rfl (fun h2 => ?_) (fun h2 => ?_)
  · -- h2T
   have h2b := h2
   try simp only [decide_eq_true_eq] at h2
   refine c_skip ?_
   refine q_then ?_
   refine c_seq ?_
   refine c_block ?_
   refine c_seq ?_
   refine c_region ?_
   refine o_move rfl rfl ?_
   refine o_assign rfl rfl ?_
   refine l_nil ?_
   refine q_then ?_
   refine c_seq ?_
   refine c_fact (p := ∃ ad, a = some ad) (rds_some (e := e8) (xs := xs) hs (by intro h0; have h00 := congrArg List.length h0; simp only [List.length_nil] at h00; omega)) ?_
   rintro ⟨adx, eadx⟩
   refine c_fact (p := ∃ ad, b = some ad) (rds_some (e := e8) (xs := ys) hs2 (by intro h0; have h00 := congrArg List.length h0; simp only [List.length_nil] at h00; omega)) ?_
   rintro ⟨ady, eady⟩
   refine c_quiet (by kernel_rfl) (by kernel_rfl) ?_
   refine Qt.o_val rfl (v_move rfl rfl) ?_
   refine Qt.o_val rfl (v_move rfl rfl) ?_
   refine Qt.o_val rfl (v_indexK e8_ok eadx rfl rfl rfl Try.underlying45 (by omega) (by omega)) ?_
   obtain ⟨x18, hx18⟩ : ∃ x, (xs)[((i : Int)).toNat]? = some x := ⟨_, List.getElem?_eq_getElem (by omega)⟩
   refine Qt.o_val rfl (v_load1 rfl rfl Try.underlying5 rfl (rd_sl0 e8_ok eadx hs hx18 rfl)) ?_
   refine Qt.o_val rfl (v_move rfl rfl) ?_
   refine Qt.o_val rfl (v_move rfl rfl) ?_
   refine Qt.o_val rfl (v_indexK e8_ok eady rfl rfl rfl Try.underlying45 (by omega) (by omega)) ?_
   obtain ⟨x22, hx22⟩ : ∃ x, (ys)[((i : Int)).toNat]? = some x := ⟨_, List.getElem?_eq_getElem (by omega)⟩
   have hxA : xs[i]? = some x18 := hx18
   have hxB : ys[i]? = some x22 := hx22
   refine Qt.o_val rfl (v_load1 rfl rfl Try.underlying5 rfl (rd_sl0 e8_ok eady hs2 hx22 rfl)) ?_
   refine Qt.o_val rfl (v_bin rfl rfl rfl b_neq) ?_
   refine Qt.l_nil ?_
   refine q_then ?_
   refine c_cond rfl (fun h3 => ?_) (fun h3 => ?_)
   · -- h3T
    have h3b := h3
    try simp only [Bool.not_eq_true', decide_eq_false_iff_not, Int.not_lt, Int.not_le] at h3
    refine c_seq ?_
    refine c_region ?_
    refine o_assign rfl rfl ?_
    refine l_nil ?_
    refine q_then ?_
    refine c_ret ?_
    refine q_block_ret ?_
    refine q_pass_ret ?_
    refine q_pass_ret ?_
    refine q_block_ret ?_
    refine q_pass_ret ?_
    exact f_ret (r_one rfl rfl) (⟨vfalse' (fun h9 => by rw [h9] at hxA; rw [hxA] at hxB; exact h3 (by rw [Option.some.inj hxB])), rfl⟩) (fun w S => S)
   · -- h3F
    have h3b := h3
    try simp only [Bool.not_eq_false', decide_eq_true_eq] at h3
    refine c_skip ?_
    refine q_block ?_
    refine q_then ?_
    refine c_region ?_
    refine o_bin rfl rfl rfl (b_add (wrap_i64 (by omega) (by omega))) ?_
    refine o_move rfl rfl ?_
    refine l_nil ?_
    exact q_round (i + 1) (by exact ⟨by omega, eqAt_on heq hx18 hx22 (UInt8.toNat_inj.1 (by omega))⟩) (by (try dsimp only); omega) ⟨(by first | rfl | exact vint (by omega)), (by first | rfl | exact vint (by omega)), (by first | rfl | exact vint (by omega)), (by first | rfl | exact vint (by omega)), trivial⟩ (fun w S => S)
  · -- h2F
   have h2b := h2
   try simp only [decide_eq_false_iff_not, Int.not_lt, Int.not_le] at h2
   refine c_exit ?_
   refine q_pass_exit ?_
   refine q_pass_exit ?_
   refine q_hit ?_
   refine q_then ?_
   refine c_seq ?_
   refine c_region ?_
   refine o_assign rfl rfl ?_
   refine l_nil ?_
   refine q_then ?_
   refine c_ret ?_
   exact f_ret (r_one rfl rfl) (⟨vtrue' (eqAt_all heq (by omega) (by omega)), rfl⟩) (fun w S => S)

set_option maxHeartbeats 1000000 in
theorem oWriteR_ {W : World} {F : List Res} {o : Order} (T_o : OrdR W F o) (hb : o.f_Txn_Reads.xs.length + o.f_Txn_Writes.xs.length ≤ 1000000) (hm : o.f_Marks.xs.length ≤ 1000000) (wf : OWf o) : CS Try.prog 18 #[.agg #[.int .i64 o.f_Tag_Id_Node, .int .u64 o.f_Tag_Id_Epoch, .int .u64 o.f_Tag_Id_Seq, .int .i64 o.f_Tag_Try, .int .i64 o.f_Txn_Kind, .slice o.f_Txn_Reads.a (o.f_Txn_Reads.xs).length o.f_Txn_Reads.c, .slice o.f_Txn_Writes.a (o.f_Txn_Writes.xs).length o.f_Txn_Writes.c, .slice o.f_Txn_Ops.a (o.f_Txn_Ops.xs).length o.f_Txn_Ops.c, .int .i64 o.f_Txn_To, .slice o.f_Marks.a (o.f_Marks.xs).length o.f_Marks.c]] W (F) (fun r L' => ∃ (out : List UInt8) (a2 : Option Addr) (c2 : Nat), out = wrO o ∧ r = .tuple #[.slice a2 out.length c2, .int .i64 (chkO o 3)] ∧ L' = row e8.T e8.sz a2 (out).length c2 (flat e8 out) :: F) := by
 refine f_door (l0 := [(0, .agg #[.int .i64 o.f_Tag_Id_Node, .int .u64 o.f_Tag_Id_Epoch, .int .u64 o.f_Tag_Id_Seq, .int .i64 o.f_Tag_Try, .int .i64 o.f_Txn_Kind, .slice o.f_Txn_Reads.a (o.f_Txn_Reads.xs).length o.f_Txn_Reads.c, .slice o.f_Txn_Writes.a (o.f_Txn_Writes.xs).length o.f_Txn_Writes.c, .slice o.f_Txn_Ops.a (o.f_Txn_Ops.xs).length o.f_Txn_Ops.c, .int .i64 o.f_Txn_To, .slice o.f_Marks.a (o.f_Marks.xs).length o.f_Marks.c])]) Try.func18 Try.ntmps18 rfl rfl rfl ?_
 refine c_seq ?_
 refine c_region ?_
 refine o_box rfl rfl fun b1 => ?_
 refine o_assign rfl rfl ?_
 refine o_assign rfl rfl ?_
 refine l_nil ?_
 refine q_then ?_
 refine c_seq ?_
 refine c_seq ?_
 refine c_region ?_
 refine o_loadn (vs := [_, _, _, _, _, _, _, _, _, _]) rfl rfl Try.underlying33 rfl ti33 (rdn_lit 0 rfl rfl) ?_
 refine o_call rfl cal12 rfl (ocheck_ (o := o) (g := 3) (OrdR.c T_o) hb hm) ?_
 rintro _ _ ⟨rfl, rfl⟩
 refine o_assign rfl rfl ?_
 refine l_nil ?_
 refine q_then ?_
 refine c_seq ?_
 refine c_region ?_
 refine o_move rfl rfl ?_
 refine o_bin rfl rfl rfl b_neq ?_
 refine l_nil ?_
 refine q_then ?_
 refine c_cond rfl (fun h1 => ?_) (fun h1 => ?_)
 · -- h1T
  have h1b := h1
  try simp only [Bool.not_eq_true', decide_eq_false_iff_not, Int.not_lt, Int.not_le] at h1
  have hno : ¬ OrdOk o 3 := chkO_ne (by first | assumption | simpa using h1b)
  refine c_seq ?_
  refine c_nilrow e8 ?_
  refine c_region ?_
  refine o_move rfl rfl ?_
  refine o_assign rfl rfl ?_
  refine o_assign rfl rfl ?_
  refine l_nil ?_
  refine q_then ?_
  refine c_ret ?_
  refine q_pass_ret ?_
  refine q_conv (fun w S => (S.perm p1).tail) ?_
  exact f_ret (r_two rfl rfl rfl) (⟨[], none, 0, by rw [wrO, if_neg hno], rfl, rfl⟩) (fun w S => S)
 · -- h1F
  have h1b := h1
  try simp only [Bool.not_eq_false', decide_eq_true_eq] at h1
  have hok : OrdOk o 3 := chkO_0.1 (by first | assumption | simpa using h1b)
  have sm := ok_small hok
  have hbl := ordB_len hok wf sm
  refine c_skip ?_
  refine q_then ?_
  refine c_seq ?_
  refine c_region ?_
  refine o_build rfl sp67 ti67 rfl rfl ?_
  refine o_box rfl rfl fun b12 => ?_
  refine l_nilrow e8 ?_
  refine l_conv (L' := blk b12 (.cells #[.slice none (([] : List UInt8)).length 0] 67 (0, 0)) :: row e8.T e8.sz none (([] : List UInt8)).length 0 (flat e8 ([] : List UInt8)) :: _) (fun w S => S.perm p1) ?_
  refine o_assign rfl rfl ?_
  refine l_nil ?_
  refine q_then ?_
  refine c_seq ?_
  refine c_region ?_
  refine o_move rfl rfl ?_
  refine o_loadn (vs := [_, _, _, _, _, _, _, _, _, _]) rfl rfl Try.underlying33 rfl ti33 (rdn_lit 2 rfl rfl) ?_
  refine l_f1 ?_
  refine l_f1 ?_
  refine o_call rfl cal32 rfl (owrite_ (o := o) (OrdR.c T_o) hok wf sm (by (try simp only [List.length_append, List.length_nil]); omega)) ?_
  rintro _ _ ⟨a15, c15, rfl, rfl⟩
  refine l_nil ?_
  refine q_then ?_
  refine c_seq ?_
  refine c_region ?_
  refine o_move rfl rfl ?_
  refine l_f1 ?_
  refine l_f1 ?_
  refine o_call rfl cal33 rfl (penData (by (try simp only [List.length_append, List.length_nil]); omega)) ?_
  rintro _ _ ⟨a17, c17, rfl, rfl⟩
  refine o_assign rfl rfl ?_
  refine o_assign rfl rfl ?_
  refine l_nil ?_
  refine q_then ?_
  refine c_ret ?_
  refine q_conv (fun w S => (S.perm p1).tail) ?_
  refine q_conv (fun w S => (S.perm p1).tail) ?_
  refine q_conv (fun w S => (S.perm p1).tail) ?_
  exact f_ret (r_two rfl rfl rfl) (⟨ordB o, a17, c17, by rw [wrO, if_pos hok], by rw [show chkO o 3 = 0 from if_pos hok]; rfl, rfl⟩) (fun w S => S)

set_option maxHeartbeats 2000000 in
theorem oRead_ {W : World} {F : List Res} {bs : List UInt8} {a : Option Addr} {c : Nat} (hs : RdS W F e8 a bs) (hn : bs.length ≤ 70000000000000) : CS Try.prog 21 #[.slice a bs.length c] W (F) (fun r L' => ∃ (q : Order) (n : Int), RdResO bs q n ∧ OrdLen q ∧ r = .tuple #[.agg (e_Order.cells q).toArray, .int .i64 n] ∧ L' = ordM q :: F) := by
 refine f_door (l0 := [(0, .slice a bs.length c)]) Try.func21 Try.ntmps21 rfl rfl rfl ?_
 refine c_seq ?_
 refine c_region ?_
 refine o_alloc rfl ti33 fun b2 => ?_
 refine o_assign rfl rfl ?_
 refine l_nil ?_
 refine q_then ?_
 refine c_seq ?_
 refine c_region ?_
 refine o_move rfl rfl ?_
 refine o_call rfl cal36 rfl (newEye (rds_c hs) (by omega)) ?_
 rintro _ _ ⟨k8, a8, c8, hc8, rfl, rfl⟩
 have ok8 := eyeOk_start (W := W) (a := a8) hc8 (show (bs).length ≤ 70000000000000 by omega)
 refine o_build rfl sp75 ti75 rfl ((fill_cons (cells' := [.pointer (some ⟨k8, 0, none⟩)]) rfl rfl rfl rfl fill_nil)) ?_
 refine l_f1 ?_
 refine l_f1 ?_
 refine o_call rfl cal37 rfl (rorder_ ok8) ?_
 rintro _ _ ⟨q10, ys10, ay10, cy10, i10, wf10, L_q10, bn10, hsm10, ok10, rfl, rfl⟩
 refine o_alloc rfl ti33 fun b4 => ?_
 refine o_storen rfl rfl ti33 rfl rfl rfl rfl ?_
 refine l_nil ?_
 refine q_then ?_
 refine c_seq ?_
 refine c_seq ?_
 refine c_region ?_
 refine o_loadn (vs := [_, _, _, _, _, _, _, _, _, _]) rfl rfl Try.underlying33 rfl ti33 (rdn_lit 0 rfl rfl) ?_
 refine o_call rfl cal18 rfl (oWriteR_ (o := q10) (ordM_R L_q10 1 rfl) (by omega) (by omega) wf10) ?_
 rintro _ _ ⟨out13, a13, c13, hout13, rfl, rfl⟩
 refine o_move rfl rfl ?_
 refine o_extract rfl rfl rfl ?_
 refine o_extract rfl rfl rfl ?_
 refine o_assign rfl rfl ?_
 refine o_assign rfl rfl ?_
 refine l_nil ?_
 refine q_then ?_
 refine c_seq ?_
 refine c_region ?_
 refine o_move rfl rfl ?_
 refine o_bin rfl rfl rfl b_neq ?_
 refine o_move rfl rfl ?_
 refine l_split (t := 18) rfl (fun h1 => ?_) (fun h1 => ?_)
 · -- h1T
  have h1b := h1
  try simp only [Bool.not_eq_true', decide_eq_false_iff_not, Int.not_lt, Int.not_le] at h1
  refine o_no rfl rfl rfl rfl ?_
  refine o_no rfl rfl rfl rfl ?_
  refine o_no rfl rfl rfl rfl ?_
  refine o_no rfl rfl rfl rfl ?_
  refine o_pick_true rfl rfl rfl ?_
  refine l_nil ?_
  refine q_then ?_
  refine c_true rfl ?_
  refine c_seq ?_
  have hno : ∀ o, ¬ GoodO o bs := (Classical.em (OrdOk q10 3)).elim (fun hk => rd_not2 hsm10 wf10 hk (fun h9 => by have h8 := chkO_yes hk; have h7 := hout13; rw [wrO_yes hk, h9] at h7; simp_all)) (fun hk => rd_not1 hsm10 wf10 hk)
  refine c_conv (L' := ordM zOrd :: _) (fun w S => zOrd_mem S) ?_
  refine c_region ?_
  refine o_build rfl sp33 ti33 rfl rfl ?_
  refine l_f6 ?_
  refine o_storen rfl rfl ti33 rfl rfl rfl rfl ?_
  refine o_assign rfl rfl ?_
  refine l_nil ?_
  refine q_then ?_
  refine c_ret ?_
  refine q_pass_ret ?_
  refine f_retq (.inl rfl) (rs_2 rfl (rs_celln (vs := [.int .i64 0, .int .u64 0, .int .u64 0, .int .i64 0, .int .i64 0, .slice none 0 0, .slice none 0 0, .slice none 0 0, .int .i64 0, .slice none 0 0]) rfl Try.underlying33 rfl ti33 (rdn_lit 0 rfl rfl)) (rs_tmp rfl)) (fun w S => ?_)
  replace S := S.tail
  replace S := (S.perm p1).tail
  replace S := (S.perm p1).tail
  replace S := (S.perm p1).tail
  replace S := (S.perm p1).tail
  replace S := (S.perm p1).tail
  exact ⟨_, ⟨zOrd, 31, .inr ⟨rfl, rfl, hno⟩, zOrd_len, rfl, rfl⟩, (fun w S => S) w S⟩
 · -- h1F
  have h1b := h1
  try simp only [Bool.not_eq_false', decide_eq_true_eq] at h1
  refine o_yes rfl rfl rfl ?_
  refine o_move rfl rfl ?_
  refine o_yes rfl rfl rfl ?_
  refine o_move rfl rfl ?_
  refine o_yes rfl rfl rfl ?_
  refine o_call rfl cal38 rfl (equal8 (rds_own e8_ok 0 rfl) (rds_c (rds_c (rds_c (rds_c (rds_c (rds_c hs)))))) (by rw [hout13]; unfold wrO; split; (have := ordB_len (by assumption) wf10 (ok_small (by assumption)); omega); simp)) ?_
  rintro _ _ ⟨rfl, rfl⟩
  refine o_yes rfl rfl rfl ?_
  refine o_not rfl rfl ?_
  refine o_pick_false rfl rfl rfl ?_
  refine l_nil ?_
  refine q_then ?_
  refine c_cond rfl (fun h2 => ?_) (fun h2 => ?_)
  · -- h2T
   have h2b := h2
   try simp only [Bool.not_eq_true', decide_eq_false_iff_not, Int.not_lt, Int.not_le] at h2
   refine c_seq ?_
   have hno : ∀ o, ¬ GoodO o bs := (Classical.em (OrdOk q10 3)).elim (fun hk => rd_not2 hsm10 wf10 hk (fun h9 => by have h8 := chkO_yes hk; have h7 := hout13; rw [wrO_yes hk, h9] at h7; simp_all)) (fun hk => rd_not1 hsm10 wf10 hk)
   refine c_conv (L' := ordM zOrd :: _) (fun w S => zOrd_mem S) ?_
   refine c_region ?_
   refine o_build rfl sp33 ti33 rfl rfl ?_
   refine l_f6 ?_
   refine o_storen rfl rfl ti33 rfl rfl rfl rfl ?_
   refine o_assign rfl rfl ?_
   refine l_nil ?_
   refine q_then ?_
   refine c_ret ?_
   refine q_pass_ret ?_
   refine f_retq (.inl rfl) (rs_2 rfl (rs_celln (vs := [.int .i64 0, .int .u64 0, .int .u64 0, .int .i64 0, .int .i64 0, .slice none 0 0, .slice none 0 0, .slice none 0 0, .int .i64 0, .slice none 0 0]) rfl Try.underlying33 rfl ti33 (rdn_lit 0 rfl rfl)) (rs_tmp rfl)) (fun w S => ?_)
   replace S := S.tail
   replace S := (S.perm p1).tail
   replace S := (S.perm p1).tail
   replace S := (S.perm p1).tail
   replace S := (S.perm p1).tail
   replace S := (S.perm p1).tail
   exact ⟨_, ⟨zOrd, 31, .inr ⟨rfl, rfl, hno⟩, zOrd_len, rfl, rfl⟩, (fun w S => S) w S⟩
  · -- h2F
   have h2b := h2
   try simp only [Bool.not_eq_false', decide_eq_true_eq] at h2
   refine c_skip ?_
   refine q_then ?_
   refine c_seq ?_
   have hok : OrdOk q10 3 := chkO_0.1 (by first | assumption | simp_all)
   have heq2 : bs = wrO q10 := by rw [← hout13]; symm; first | assumption | simp_all
   refine c_region ?_
   refine o_loadn (vs := [_, _, _, _, _, _, _, _, _, _]) rfl rfl Try.underlying33 rfl ti33 (rdn_lit 1 rfl rfl) ?_
   refine l_f5 ?_
   refine o_storen rfl rfl ti33 rfl rfl rfl rfl ?_
   refine o_assign rfl rfl ?_
   refine l_nil ?_
   refine q_then ?_
   refine c_ret ?_
   refine f_retq (.inl rfl) (rs_2 rfl (rs_celln (vs := [.int .i64 q10.f_Tag_Id_Node, .int .u64 q10.f_Tag_Id_Epoch, .int .u64 q10.f_Tag_Id_Seq, .int .i64 q10.f_Tag_Try, .int .i64 q10.f_Txn_Kind, .slice q10.f_Txn_Reads.a (q10.f_Txn_Reads.xs).length q10.f_Txn_Reads.c, .slice q10.f_Txn_Writes.a (q10.f_Txn_Writes.xs).length q10.f_Txn_Writes.c, .slice q10.f_Txn_Ops.a (q10.f_Txn_Ops.xs).length q10.f_Txn_Ops.c, .int .i64 q10.f_Txn_To, .slice q10.f_Marks.a (q10.f_Marks.xs).length q10.f_Marks.c]) rfl Try.underlying33 rfl ti33 (rdn_lit 0 rfl rfl)) (rs_tmp rfl)) (fun w S => ?_)
   replace S := S.tail
   replace S := S.tail
   replace S := S.tail
   replace S := (S.perm p1).tail
   replace S := (S.perm p1).tail
   exact ⟨_, ⟨q10, 0, .inl ⟨rfl, hok, wf10, by rw [← wrO_yes hok]; exact heq2⟩, L_q10, rfl, rfl⟩, (fun w S => S) w S⟩

end Go.Proofs.Ytlblipkcbmcfkaa
