/- Printed by eng2.py out of 11/spec.py. -/
import Derived.Test.YtcdodagebbfjoaaRefTy
import Derived.Test.YtcdodagebbfjoaaTre
set_option linter.unusedVariables false
set_option linter.unusedSimpArgs false
set_option maxRecDepth 10000
namespace Go.Proofs.Ytcdodagebbfjoaa
open Go.RowKit Classical
theorem rfrom {W : World} {F : List Res} {m : Nat} {r : RvS} {fr : Int} : CS Try.prog 16 #[.pointer (some ⟨m, 0, none⟩), .int .i64 fr] W (RvR m r :: F) (fun q L' => ∃ (a' : Option Addr) (c' : Nat), q = .slice a' (refL r fr 64).length c' ∧ L' = row e_VoR.T e_VoR.sz a' ((refL r fr 64)).length c' (flat e_VoR (refL r fr 64)) :: RvR m r :: F) := by
 refine f_door (l0 := [(0, .pointer (some ⟨m, 0, none⟩)), (1, .int .i64 fr)]) Try.func16 Try.ntmps16 rfl rfl rfl ?_
 refine c_seq ?_
 refine c_region ?_
 refine o_assign rfl rfl ?_
 refine l_nil ?_
 refine q_then ?_
 refine c_seq ?_
 refine c_obj ?_
 rintro _ ok_1
 refine c_conv (L' := blk m (.cells (([.int .u64 r.pr] : List Value) ++ ((flat e_B r.tk) ++ (flat e_VoR r.vt))).toArray 44 (0, 0)) :: _) (fun w S => S) ?_
 refine c_region ?_
 refine o_lit e_VoR_ok rfl Try.underlying45 rfl rfl rfl (lit_ok rfl) ([] : List VoR) rfl rfl fun a7 => ?_
 refine o_assign rfl rfl ?_
 refine l_nil ?_
 refine q_then ?_
 refine c_seq ?_
 refine c_seq ?_
 refine c_region ?_
 refine o_assign rfl rfl ?_
 refine l_nil ?_
 refine q_then ?_
 refine c_block ?_
 refine c_loop (α := Nat × (List VoR) × (Option Addr) × Nat) (fun z => [(0, .pointer (some ⟨m, 0, none⟩)), (1, .int .i64 fr), (5, .slice z.2.2.1 (z.2.1).length z.2.2.2), (6, .int .i64 (z.1 : Int))]) (fun z => row e_VoR.T e_VoR.sz z.2.2.1 (z.2.1).length z.2.2.2 (flat e_VoR z.2.1) :: blk m (.cells (([.int .u64 r.pr] : List Value) ++ ((flat e_B r.tk) ++ (flat e_VoR r.vt))).toArray 44 (0, 0)) :: F) (fun z => z.1 ≤ 64 ∧ z.2.1 = refL r fr z.1) (fun z => 64 - z.1) (0, [], a7, 0) (by exact ⟨Nat.zero_le _, rfl⟩) ⟨(by first | rfl | exact vint (by omega)), (by first | rfl | exact vint (by omega)), (by first | rfl | exact vint (by omega)), (by first | rfl | exact vint (by omega)), trivial⟩ (fun w S => S) ?_
 rintro ⟨i, out, a7, c7⟩ ⟨hi, hout⟩
 try dsimp only at *
 have hol : out.length ≤ i := by rw [hout]; exact refL_len r fr i
 refine c_seq ?_
 refine c_seq ?_
 refine c_region ?_
 refine o_move rfl rfl ?_
 refine o_bin rfl rfl rfl b_lss ?_
 refine l_nil ?_
 refine q_then ?_
 refine c_cond rfl (fun h1 => ?_) (fun h1 => ?_)
 · -- h1T
  have h1b := h1
  try simp only [decide_eq_true_eq] at h1
  refine c_skip ?_
  refine q_then ?_
  refine c_seq ?_
  refine c_block ?_
  refine c_seq ?_
  refine c_region ?_
  refine o_move rfl rfl ?_
  refine o_move rfl rfl ?_
  refine o_nil rfl rfl ?_
  refine o_fieldAddr (q := ⟨m, 1, none⟩) rfl rfl Try.underlying44 rfl ti40 rfl ?_
  refine o_indexArr rfl rfl rfl Try.underlying40 ti4 (by omega) (by omega) (Addr.add_mk _ _ _) ?_
  obtain ⟨x16, hx16⟩ : ∃ x, (r.tk)[((i : Int)).toNat]? = some x := ⟨_, List.getElem?_eq_getElem (by have := ok_1.lt; omega)⟩
  have hx16' : r.tk[i]? = some x16 := hx16
  refine o_load1 rfl rfl Try.underlying4 rfl (rd_mem 1 rfl (sg_arr (sg_skip (j := ((i : Int)).toNat * 1 + 0) (show List.length _ = 1 from rfl) (by omega) (sg_in (sg_flat (s := 1) (o := 0) e_B_ok rfl hx16 rfl rfl))))) ?_
  refine o_move rfl rfl ?_
  refine l_split (t := 18) rfl (fun h2 => ?_) (fun h2 => ?_)
  · -- h2T
   have h2b := h2
   try simp only [decide_eq_true_eq, decide_eq_false_iff_not, Bool.not_eq_eq_eq_not, Bool.not_true, Bool.not_false, Bool.not_eq_true', Bool.not_eq_false', Int.not_lt, Int.not_le, Bool.or_eq_true, Bool.and_eq_true] at h2
   refine o_yes rfl rfl rfl ?_
   refine o_move rfl rfl ?_
   refine o_yes rfl rfl rfl ?_
   refine o_move rfl rfl ?_
   refine o_yes rfl rfl rfl ?_
   refine o_bin rfl rfl rfl b_geq ?_
   refine o_pick_true rfl rfl rfl ?_
   refine l_nil ?_
   refine q_then ?_
   refine c_cond rfl (fun h3 => ?_) (fun h3 => ?_)
   · -- h3T
    have h3b := h3
    try simp only [decide_eq_true_eq] at h3
    refine c_region ?_
    refine o_move rfl rfl ?_
    refine o_move rfl rfl ?_
    refine o_move rfl rfl ?_
    refine o_nil rfl rfl ?_
    refine o_fieldAddr (q := ⟨m, 65, none⟩) rfl rfl Try.underlying44 rfl ti42 rfl ?_
    refine o_indexArr rfl rfl rfl Try.underlying42 ti41 (by omega) (by omega) (Addr.add_mk _ _ _) ?_
    obtain ⟨x28, hx28⟩ : ∃ x, (r.vt)[((i : Int)).toNat]? = some x := ⟨_, List.getElem?_eq_getElem (by have := ok_1.lv; omega)⟩
    have hx28' : r.vt[i]? = some x28 := hx28
    refine o_loadSeg (e_VoR.cells x28) 1 rfl rfl rfl Try.underlying41 rfl ti41 rfl (rn_skip (j := 64 + (((i : Int)).toNat * 3)) (show List.length _ = 1 from rfl) (by omega) (rn_skip (j := ((i : Int)).toNat * 3) (sg_len (s := 1) e_B_ok rfl ok_1.lt rfl) (by omega) (rn_flat (s := 3) e_VoR_ok rfl hx28 rfl))) ?_
    refine o_lit e_VoR_ok rfl Try.underlying45 rfl rfl rfl (lit_ok rfl) [x28] rfl rfl fun a30 => ?_
    refine l_f1 ?_
    refine o_append e_VoR_ok rfl rfl rfl Try.underlying45 (rds_own e_VoR_ok 1 rfl) (by show (_ + _) * 32 ≤ _; (try simp only [List.length_append, List.length_cons, List.length_nil]); omega) (by (try simp only [List.length_append, List.length_cons, List.length_nil]); omega) fun a31 c31 => ?_
    refine l_f1 ?_
    refine l_drop ?_
    refine o_assign rfl rfl ?_
    refine l_nil ?_
    refine q_block ?_
    refine q_then ?_
    refine c_region ?_
    refine o_move rfl rfl ?_
    refine o_bin rfl rfl rfl (b_add (wrap_i64 (by omega) (by omega))) ?_
    refine o_assign rfl rfl ?_
    refine l_nil ?_
    exact q_round (i + 1, out ++ [x28], a31, c31) (by refine ⟨by omega, ?_⟩; rw [refL, hx16', ← hout]; first | (rw [if_pos ⟨by (first | rfl | (congr 1)), by omega⟩, hx28']; rfl) | (rw [if_neg (by rintro ⟨h8, h9⟩; first | omega | (cases h8; simp_all))]; simp)) (by (try dsimp only); omega) ⟨(by first | rfl | exact vint (by omega)), (by first | rfl | exact vint (by omega)), (by first | rfl | exact vint (by omega)), (by first | rfl | exact vint (by omega)), trivial⟩ (fun w S => S)
   · -- h3F
    have h3b := h3
    try simp only [decide_eq_false_iff_not, Int.not_lt, Int.not_le] at h3
    refine c_skip ?_
    refine q_block ?_
    refine q_then ?_
    refine c_region ?_
    refine o_move rfl rfl ?_
    refine o_bin rfl rfl rfl (b_add (wrap_i64 (by omega) (by omega))) ?_
    refine o_assign rfl rfl ?_
    refine l_nil ?_
    exact q_round (i + 1, out, a7, c7) (by refine ⟨by omega, ?_⟩; rw [refL, hx16', ← hout]; first | (rw [if_pos ⟨by (first | rfl | (congr 1)), by omega⟩, hx28']; rfl) | (rw [if_neg (by rintro ⟨h8, h9⟩; first | omega | (cases h8; simp_all))]; simp)) (by (try dsimp only); omega) ⟨(by first | rfl | exact vint (by omega)), (by first | rfl | exact vint (by omega)), (by first | rfl | exact vint (by omega)), (by first | rfl | exact vint (by omega)), trivial⟩ (fun w S => S)
  · -- h2F
   have h2b := h2
   try simp only [decide_eq_true_eq, decide_eq_false_iff_not, Bool.not_eq_eq_eq_not, Bool.not_true, Bool.not_false, Bool.not_eq_true', Bool.not_eq_false', Int.not_lt, Int.not_le, Bool.or_eq_true, Bool.and_eq_true] at h2
   refine o_no rfl rfl rfl rfl ?_
   refine o_no rfl rfl rfl rfl ?_
   refine o_no rfl rfl rfl rfl ?_
   refine o_pick_false rfl rfl rfl ?_
   refine l_nil ?_
   refine q_then ?_
   refine c_false rfl ?_
   refine c_skip ?_
   refine q_block ?_
   refine q_then ?_
   refine c_region ?_
   refine o_move rfl rfl ?_
   refine o_bin rfl rfl rfl (b_add (wrap_i64 (by omega) (by omega))) ?_
   refine o_assign rfl rfl ?_
   refine l_nil ?_
   exact q_round (i + 1, out, a7, c7) (by refine ⟨by omega, ?_⟩; rw [refL, hx16', ← hout]; first | (rw [if_pos ⟨by (first | rfl | (congr 1)), by omega⟩, hx28']; rfl) | (rw [if_neg (by rintro ⟨h8, h9⟩; first | omega | (cases h8; simp_all))]; simp)) (by (try dsimp only); omega) ⟨(by first | rfl | exact vint (by omega)), (by first | rfl | exact vint (by omega)), (by first | rfl | exact vint (by omega)), (by first | rfl | exact vint (by omega)), trivial⟩ (fun w S => S)
 · -- h1F
  have h1b := h1
  try simp only [decide_eq_false_iff_not, Int.not_lt, Int.not_le] at h1
  refine c_exit ?_
  refine q_pass_exit ?_
  refine q_pass_exit ?_
  refine q_hit ?_
  refine q_then ?_
  refine c_seq ?_
  refine c_region ?_
  refine o_move rfl rfl ?_
  refine o_assign rfl rfl ?_
  refine l_nil ?_
  refine q_then ?_
  refine c_ret ?_
  refine q_conv (fun w S => S.perm p1) ?_
  refine q_conv (L' := RvR m r :: _) (fun w S => Sat.obj_mk () ok_1 S) ?_
  refine q_conv (fun w S => S.perm p1) ?_
  obtain rfl : i = 64 := by omega
  exact f_ret (r_one rfl rfl) (⟨a7, c7, by rw [← hout], rfl⟩) (fun w S => by rw [← hout]; exact S)

theorem rprom {W : World} {F : List Res} {m : Nat} {r : RvS} {b fr : Int} : CS Try.prog 11 #[.pointer (some ⟨m, 0, none⟩), .int .u64 b, .int .i64 fr] W (RvR m r :: F) (fun q L' => ∃ (a' : Option Addr) (c' : Nat), q = .tuple #[.slice a' (rPromL r b fr).length c', .bool (decide (r.pr ≤ b))] ∧ L' = row e_VoR.T e_VoR.sz a' ((rPromL r b fr)).length c' (flat e_VoR (rPromL r b fr)) :: RvR m (rProm r b) :: F) := by
 refine f_door (l0 := [(0, .pointer (some ⟨m, 0, none⟩)), (1, .int .u64 b), (2, .int .i64 fr)]) Try.func11 Try.ntmps11 rfl rfl rfl ?_
 refine c_seq ?_
 refine c_region ?_
 refine o_assign rfl rfl ?_
 refine o_assign rfl rfl ?_
 refine l_nil ?_
 refine q_then ?_
 refine c_seq ?_
 refine c_seq ?_
 refine c_obj ?_
 rintro _ ok_1
 refine c_conv (L' := blk m (.cells (([.int .u64 r.pr] : List Value) ++ ((flat e_B r.tk) ++ (flat e_VoR r.vt))).toArray 44 (0, 0)) :: _) (fun w S => S) ?_
 refine c_region ?_
 refine o_move rfl rfl ?_
 refine o_move rfl rfl ?_
 refine o_nil rfl rfl ?_
 refine o_fieldAddr (q := ⟨m, 0, none⟩) rfl rfl Try.underlying44 rfl ti23 rfl ?_
 refine o_load1 rfl rfl Try.underlying23 rfl (rd_mem 0 rfl (sg_arr (sg_in rfl))) ?_
 refine o_bin rfl rfl rfl b_lss ?_
 refine l_nil ?_
 refine q_then ?_
 refine c_cond rfl (fun h1 => ?_) (fun h1 => ?_)
 · -- h1T
  have h1b := h1
  try simp only [decide_eq_true_eq] at h1
  have hno : ¬ r.pr ≤ b := by omega
  refine c_seq ?_
  refine c_region ?_
  refine o_lit e_VoR_ok rfl Try.underlying45 rfl rfl rfl (lit_ok rfl) ([] : List VoR) rfl rfl fun a14 => ?_
  refine o_assign rfl rfl ?_
  refine o_assign rfl rfl ?_
  refine l_nil ?_
  refine q_then ?_
  refine c_ret ?_
  refine q_pass_ret ?_
  refine q_conv (fun w S => S.perm p1) ?_
  refine q_conv (L' := RvR m r :: _) (fun w S => Sat.obj_mk () ok_1 S) ?_
  refine q_conv (fun w S => S.perm p1) ?_
  exact f_ret (r_two rfl rfl rfl) (⟨a14, 0, by rw [show rPromL r b fr = [] from if_neg hno, decide_eq_false hno] <;> rfl, rfl⟩) (fun w S => by rw [show rPromL r b fr = [] from if_neg hno, show rProm r b = r from if_neg hno]; exact S)
 · -- h1F
  have h1b := h1
  try simp only [decide_eq_false_iff_not, Int.not_lt, Int.not_le] at h1
  have hyes : r.pr ≤ b := by omega
  refine c_skip ?_
  refine q_then ?_
  refine c_seq ?_
  refine c_region ?_
  refine o_move rfl rfl ?_
  refine o_move rfl rfl ?_
  refine o_nil rfl rfl ?_
  refine o_fieldAddr (q := ⟨m, 0, none⟩) rfl rfl Try.underlying44 rfl ti23 rfl ?_
  refine o_storeArr rfl rfl rfl ti23 (sz_arr (ln_app (show List.length _ = 1 from rfl) (ln_app (sg_len (s := 1) e_B_ok rfl ok_1.lt rfl) (sg_len (s := 3) e_VoR_ok rfl ok_1.lv rfl))) (by decide)) (st_arr (st_in (show 0 < 1 by decide) rfl)) ?_
  refine l_nil ?_
  refine q_then ?_
  refine c_seq ?_
  refine c_conv (L' := RvR m (⟨b, r.tk, r.vt⟩ : RvS) :: _) (fun w S => Sat.obj_mk () (show RvOk (⟨b, r.tk, r.vt⟩ : RvS) from ⟨ok_1.lt, ok_1.lv⟩) S) ?_
  refine c_region ?_
  refine o_move rfl rfl ?_
  refine o_move rfl rfl ?_
  refine o_call rfl cal16 rfl (rfrom (fr := fr)) ?_
  rintro _ _ ⟨a21, c21, rfl, rfl⟩
  refine o_assign rfl rfl ?_
  refine o_assign rfl rfl ?_
  refine l_nil ?_
  refine q_then ?_
  refine c_ret ?_
  exact f_ret (r_two rfl rfl rfl) (⟨a21, c21, by rw [show rPromL r b fr = _ from if_pos hyes, decide_eq_true hyes, ← refL_pr] <;> rfl, rfl⟩) (fun w S => by rw [show rPromL r b fr = _ from if_pos hyes, show rProm r b = _ from if_pos hyes, ← refL_pr (b := b)]; exact S)

theorem racc {W : World} {F : List Res} {m : Nat} {r : RvS} {v : VoR} : CS Try.prog 13 #[.pointer (some ⟨m, 0, none⟩), .agg #[.int .i64 v.f_Slot, .int .u64 v.f_Ballot, .string v.f_Value]] W (RvR m r :: F) (fun q L' => q = .bool (decide (rAccOk r v)) ∧ L' = RvR m (rAcc r v) :: F) := by
 refine f_door (l0 := [(0, .pointer (some ⟨m, 0, none⟩)), (1, .agg #[.int .i64 v.f_Slot, .int .u64 v.f_Ballot, .string v.f_Value])]) Try.func13 Try.ntmps13 rfl rfl rfl ?_
 refine c_seq ?_
 refine c_obj ?_
 rintro _ ok_1
 refine c_conv (L' := blk m (.cells (([.int .u64 r.pr] : List Value) ++ ((flat e_B r.tk) ++ (flat e_VoR r.vt))).toArray 44 (0, 0)) :: _) (fun w S => S) ?_
 refine c_region ?_
 refine o_box rfl rfl fun b3 => ?_
 refine o_assign rfl rfl ?_
 refine l_nil ?_
 refine q_then ?_
 refine c_seq ?_
 refine c_seq ?_
 refine c_quiet (by kernel_rfl) (by kernel_rfl) ?_
 refine Qt.o_val rfl (v_fieldAddr (q := ⟨b3, 1, none⟩) rfl rfl Try.underlying41 rfl ti23 rfl) ?_
 refine Qt.o_val rfl (v_load1 rfl rfl Try.underlying23 rfl (rd_mem 0 rfl rfl)) ?_
 refine Qt.o_val rfl (v_move rfl rfl) ?_
 refine Qt.o_val rfl (v_nil rfl rfl) ?_
 refine Qt.o_val rfl (v_fieldAddr (q := ⟨m, 0, none⟩) rfl rfl Try.underlying44 rfl ti23 rfl) ?_
 refine Qt.o_val rfl (v_load1 rfl rfl Try.underlying23 rfl (rd_mem 1 rfl (sg_arr (sg_in rfl)))) ?_
 refine Qt.o_val rfl (v_bin rfl rfl rfl b_lss) ?_
 refine Qt.o_val rfl (v_move rfl rfl) ?_
 refine Qt.l_split (t := 12) rfl (fun h1 => ?_) (fun h1 => ?_)
 · -- h1T
  have h1b := h1
  try simp only [decide_eq_true_eq] at h1
  refine Qt.o_no rfl rfl rfl rfl ?_
  refine Qt.o_no rfl rfl rfl rfl ?_
  refine Qt.o_no rfl rfl rfl rfl ?_
  refine Qt.o_val rfl (v_pick_true rfl rfl rfl) ?_
  refine Qt.o_val rfl (v_move rfl rfl) ?_
  refine Qt.o_no rfl rfl rfl rfl ?_
  refine Qt.o_no rfl rfl rfl rfl ?_
  refine Qt.o_no rfl rfl rfl rfl ?_
  refine Qt.o_val rfl (v_pick_true rfl rfl rfl) ?_
  refine Qt.l_nil ?_
  refine q_then ?_
  refine c_true rfl ?_
  refine c_seq ?_
  refine c_region ?_
  refine o_assign rfl rfl ?_
  refine l_nil ?_
  refine q_then ?_
  refine c_ret ?_
  refine q_pass_ret ?_
  have hno : ¬ rAccOk r v := fun h9 => by have h91 := h9.1; have h92 := h9.2.1; have h93 := h9.2.2; omega
  refine q_conv (fun w S => S.perm p1) ?_
  refine q_conv (L' := RvR m r :: _) (fun w S => Sat.obj_mk () ok_1 S) ?_
  refine q_conv (fun w S => (S.perm p1).tail) ?_
  exact f_ret (r_one rfl rfl) (⟨by rw [decide_eq_false hno], rfl⟩) (fun w S => by rw [show rAcc r v = r from if_neg hno]; exact S)
 · -- h1F
  have h1b := h1
  try simp only [decide_eq_false_iff_not, Int.not_lt, Int.not_le] at h1
  refine Qt.o_yes rfl rfl rfl ?_
  refine Qt.o_val rfl (v_fieldAddr (q := ⟨b3, 0, none⟩) rfl rfl Try.underlying41 rfl ti3 rfl) ?_
  refine Qt.o_yes rfl rfl rfl ?_
  refine Qt.o_val rfl (v_load1 rfl rfl Try.underlying3 rfl (rd_mem 0 rfl rfl)) ?_
  refine Qt.o_yes rfl rfl rfl ?_
  refine Qt.o_val rfl (v_bin rfl rfl rfl b_lss) ?_
  refine Qt.o_val rfl (v_pick_false rfl rfl rfl) ?_
  refine Qt.o_val rfl (v_move rfl rfl) ?_
  refine Qt.l_split (t := 17) rfl (fun h2 => ?_) (fun h2 => ?_)
  · -- h2T
   have h2b := h2
   try simp only [decide_eq_true_eq] at h2
   refine Qt.o_no rfl rfl rfl rfl ?_
   refine Qt.o_no rfl rfl rfl rfl ?_
   refine Qt.o_no rfl rfl rfl rfl ?_
   refine Qt.o_val rfl (v_pick_true rfl rfl rfl) ?_
   refine Qt.l_nil ?_
   refine q_then ?_
   refine c_true rfl ?_
   refine c_seq ?_
   refine c_region ?_
   refine o_assign rfl rfl ?_
   refine l_nil ?_
   refine q_then ?_
   refine c_ret ?_
   refine q_pass_ret ?_
   have hno : ¬ rAccOk r v := fun h9 => by have h91 := h9.1; have h92 := h9.2.1; have h93 := h9.2.2; omega
   refine q_conv (fun w S => S.perm p1) ?_
   refine q_conv (L' := RvR m r :: _) (fun w S => Sat.obj_mk () ok_1 S) ?_
   refine q_conv (fun w S => (S.perm p1).tail) ?_
   exact f_ret (r_one rfl rfl) (⟨by rw [decide_eq_false hno], rfl⟩) (fun w S => by rw [show rAcc r v = r from if_neg hno]; exact S)
  · -- h2F
   have h2b := h2
   try simp only [decide_eq_false_iff_not, Int.not_lt, Int.not_le] at h2
   refine Qt.o_yes rfl rfl rfl ?_
   refine Qt.o_val rfl (v_fieldAddr (q := ⟨b3, 0, none⟩) rfl rfl Try.underlying41 rfl ti3 rfl) ?_
   refine Qt.o_yes rfl rfl rfl ?_
   refine Qt.o_val rfl (v_load1 rfl rfl Try.underlying3 rfl (rd_mem 0 rfl rfl)) ?_
   refine Qt.o_yes rfl rfl rfl ?_
   refine Qt.o_val rfl (v_bin rfl rfl rfl b_gtr) ?_
   refine Qt.o_val rfl (v_pick_false rfl rfl rfl) ?_
   refine Qt.l_nil ?_
   refine q_then ?_
   refine c_cond rfl (fun h3 => ?_) (fun h3 => ?_)
   · -- h3T
    have h3b := h3
    try simp only [decide_eq_true_eq] at h3
    refine c_seq ?_
    refine c_region ?_
    refine o_assign rfl rfl ?_
    refine l_nil ?_
    refine q_then ?_
    refine c_ret ?_
    refine q_pass_ret ?_
    have hno : ¬ rAccOk r v := fun h9 => by have h91 := h9.1; have h92 := h9.2.1; have h93 := h9.2.2; omega
    refine q_conv (fun w S => S.perm p1) ?_
    refine q_conv (L' := RvR m r :: _) (fun w S => Sat.obj_mk () ok_1 S) ?_
    refine q_conv (fun w S => (S.perm p1).tail) ?_
    exact f_ret (r_one rfl rfl) (⟨by rw [decide_eq_false hno], rfl⟩) (fun w S => by rw [show rAcc r v = r from if_neg hno]; exact S)
   · -- h3F
    have h3b := h3
    try simp only [decide_eq_false_iff_not, Int.not_lt, Int.not_le] at h3
    refine c_skip ?_
    refine q_then ?_
    refine c_seq ?_
    refine c_region ?_
    refine o_move rfl rfl ?_
    refine o_fieldAddr (q := ⟨b3, 1, none⟩) rfl rfl Try.underlying41 rfl ti23 rfl ?_
    refine o_load1 rfl rfl Try.underlying23 rfl (rd_mem 0 rfl rfl) ?_
    refine o_nil rfl rfl ?_
    refine o_fieldAddr (q := ⟨m, 0, none⟩) rfl rfl Try.underlying44 rfl ti23 rfl ?_
    refine l_f1 ?_
    refine o_storeArr rfl rfl rfl ti23 (sz_arr (ln_app (show List.length _ = 1 from rfl) (ln_app (sg_len (s := 1) e_B_ok rfl ok_1.lt rfl) (sg_len (s := 3) e_VoR_ok rfl ok_1.lv rfl))) (by decide)) (st_arr (st_in (show 0 < 1 by decide) rfl)) ?_
    refine l_nil ?_
    refine q_then ?_
    refine c_seq ?_
    refine c_conv (fun w S => S.perm p1) ?_
    refine c_held [blk b3 (.cells #[.int .i64 v.f_Slot, .int .u64 v.f_Ballot, .string v.f_Value] 41 (0, 0))] (by kernel_rfl) rfl ?_
    refine h_take 0 rfl rfl (by kernel_rfl) (by kernel_rfl) (by kernel_rfl) (fun L0 => v_move rfl rfl) ?_
    refine h_take 1 rfl rfl (by kernel_rfl) (by kernel_rfl) (by kernel_rfl) (fun L0 => v_fieldAddr (q := ⟨b3, 0, none⟩) rfl rfl Try.underlying41 rfl ti3 rfl) ?_
    refine h_take 2 rfl rfl (by kernel_rfl) (by kernel_rfl) (by kernel_rfl) (fun L0 => v_load1 rfl rfl Try.underlying3 rfl (rd_mem 0 rfl rfl)) ?_
    refine h_take 3 rfl rfl (by kernel_rfl) (by kernel_rfl) (by kernel_rfl) (fun L0 => v_nil rfl rfl) ?_
    refine h_take 4 rfl rfl (by kernel_rfl) (by kernel_rfl) (by kernel_rfl) (fun L0 => v_fieldAddr (q := ⟨m, 1, none⟩) rfl rfl Try.underlying44 rfl ti40 rfl) ?_
    refine h_take 5 rfl rfl (by kernel_rfl) (by kernel_rfl) (by kernel_rfl) (fun L0 => v_indexArr rfl rfl rfl Try.underlying40 ti4 (by omega) (by omega) (Addr.add_mk _ _ _)) ?_
    obtain ⟨x32, hx32⟩ : ∃ x, (r.tk)[(v.f_Slot).toNat]? = some x := ⟨_, List.getElem?_eq_getElem (by have := ok_1.lt; omega)⟩
    refine h_one 6 rfl (by kernel_rfl) ?_
    refine l_f1 ?_
    refine o_storeArr rfl rfl rfl ti4 (sz_arr (ln_app (show List.length _ = 1 from rfl) (ln_app (sg_len (s := 1) e_B_ok rfl ok_1.lt rfl) (sg_len (s := 3) e_VoR_ok rfl ok_1.lv rfl))) (by omega)) (st_arr (st_skip (j := (v.f_Slot).toNat * 1 + 0) (show List.length _ = 1 from rfl) (by omega) (st_in (by rw [(sg_len (s := 1) e_B_ok rfl ok_1.lt rfl)]; omega) (st_flat (s := 1) (o := 0) (y := true) e_B_ok rfl hx32 (by decide) rfl rfl)))) ?_
    refine l_nil ?_
    refine q_conv (fun w S => S.perm p1) ?_
    refine h_next ?_
    refine h_done (by kernel_rfl) ?_
    refine q_then ?_
    refine c_seq ?_
    refine c_held [blk b3 (.cells #[.int .i64 v.f_Slot, .int .u64 v.f_Ballot, .string v.f_Value] 41 (0, 0))] (by kernel_rfl) rfl ?_
    refine h_take 0 rfl rfl (by kernel_rfl) (by kernel_rfl) (by kernel_rfl) (fun L0 => v_move rfl rfl) ?_
    refine h_take 1 rfl rfl (by kernel_rfl) (by kernel_rfl) (by kernel_rfl) (fun L0 => v_fieldAddr (q := ⟨b3, 0, none⟩) rfl rfl Try.underlying41 rfl ti3 rfl) ?_
    refine h_take 2 rfl rfl (by kernel_rfl) (by kernel_rfl) (by kernel_rfl) (fun L0 => v_load1 rfl rfl Try.underlying3 rfl (rd_mem 0 rfl rfl)) ?_
    refine h_take 3 rfl rfl (by kernel_rfl) (by kernel_rfl) (by kernel_rfl) (fun L0 => v_loadn (vs := [_, _, _]) rfl rfl Try.underlying41 rfl ti41 (rdn_lit 0 rfl rfl)) ?_
    refine h_take 4 rfl rfl (by kernel_rfl) (by kernel_rfl) (by kernel_rfl) (fun L0 => v_nil rfl rfl) ?_
    refine h_take 5 rfl rfl (by kernel_rfl) (by kernel_rfl) (by kernel_rfl) (fun L0 => v_fieldAddr (q := ⟨m, 65, none⟩) rfl rfl Try.underlying44 rfl ti42 rfl) ?_
    refine h_take 6 rfl rfl (by kernel_rfl) (by kernel_rfl) (by kernel_rfl) (fun L0 => v_indexArr rfl rfl rfl Try.underlying42 ti41 (by omega) (by omega) (Addr.add_mk _ _ _)) ?_
    obtain ⟨x39, hx39⟩ : ∃ x, (r.vt)[(v.f_Slot).toNat]? = some x := ⟨_, List.getElem?_eq_getElem (by have := ok_1.lv; omega)⟩
    refine h_one 7 rfl (by kernel_rfl) ?_
    refine l_f1 ?_
    refine o_storeSeg (vs := e_VoR.cells v) rfl rfl ti41 rfl (ln_app (show List.length _ = 1 from rfl) (ln_app (sg_len (s := 1) e_B_ok rfl (List.length_set.trans ok_1.lt) rfl) (sg_len (s := 3) e_VoR_ok rfl ok_1.lv rfl))) (by omega) (e_VoR_ok.one _) (pn_skip (j := 64 + ((v.f_Slot).toNat * 3)) (show List.length _ = 1 from rfl) (by omega) (pn_skip (j := (v.f_Slot).toNat * 3) (sg_len (s := 1) e_B_ok rfl (List.length_set.trans ok_1.lt) rfl) (by omega) (pn_flat (s := 3) e_VoR_ok v rfl rfl (by have := ok_1.lv; omega) rfl))) ?_
    refine l_nil ?_
    refine q_conv (fun w S => S.perm p1) ?_
    refine h_next ?_
    refine h_done (by kernel_rfl) ?_
    refine q_then ?_
    refine c_seq ?_
    refine c_region ?_
    refine o_assign rfl rfl ?_
    refine l_nil ?_
    refine q_then ?_
    refine c_ret ?_
    have hyes : rAccOk r v := ⟨by omega, by omega, by omega⟩
    refine q_conv (fun w S => S.perm p1) ?_
    refine q_conv (L' := RvR m (⟨v.f_Ballot, (r.tk).set (v.f_Slot).toNat true, (r.vt).set (v.f_Slot).toNat v⟩ : RvS) :: _) (fun w S => Sat.obj_mk () (rvOk_acc ok_1) S) ?_
    refine q_conv (fun w S => (S.perm p1).tail) ?_
    exact f_ret (r_one rfl rfl) (⟨by rw [decide_eq_true hyes], rfl⟩) (fun w S => by rw [show rAcc r v = _ from if_pos hyes]; exact S)

theorem same_ {W : World} {F : List Res} {xs : List VoS} {ys : List VoR} {a a2 : Option Addr} {c c2 : Nat} (heq : ys = xs.map toVR) (hn : xs.length ≤ 1000) : CS Try.prog 12 #[.slice a xs.length c, .slice a2 ys.length c2] W (row e_VoS.T e_VoS.sz a (xs).length c (flat e_VoS xs) :: row e_VoR.T e_VoR.sz a2 (ys).length c2 (flat e_VoR ys) :: F) (fun q L' => q = .bool true ∧ L' = row e_VoS.T e_VoS.sz a (xs).length c (flat e_VoS xs) :: row e_VoR.T e_VoR.sz a2 (ys).length c2 (flat e_VoR ys) :: F) := by
 refine f_door (l0 := [(0, .slice a xs.length c), (1, .slice a2 ys.length c2)]) Try.func12 Try.ntmps12 rfl rfl rfl ?_
 refine c_seq ?_
 refine c_region ?_
 refine o_assign rfl rfl ?_
 refine l_nil ?_
 refine q_then ?_
 refine c_seq ?_
 refine c_seq ?_
 have hyl : ys.length = xs.length := by rw [heq, List.length_map]
 refine c_region ?_
 refine o_move rfl rfl ?_
 refine o_len rfl rfl Try.underlying32 ?_
 refine o_move rfl rfl ?_
 refine o_len rfl rfl Try.underlying45 ?_
 refine o_bin rfl rfl rfl b_neq ?_
 refine l_eq (t := 10) (v' := .bool false) rfl (show _ = Value.bool false from by rw [hyl]; simp) ?_
 refine l_nil ?_
 refine q_then ?_
 refine c_false rfl ?_
 refine c_skip ?_
 refine q_then ?_
 refine c_seq ?_
 refine c_seq ?_
 refine c_region ?_
 refine o_move rfl rfl ?_
 refine o_len rfl rfl Try.underlying32 ?_
 refine o_move rfl rfl ?_
 refine l_nil ?_
 refine q_then ?_
 refine c_block ?_
 refine c_loop (α := Nat) (fun z => [(0, .slice a (xs).length c), (1, .slice a2 (ys).length c2), (12, .int .i64 ((xs).length : Int)), (13, .int .i64 (z : Int))]) (fun z => row e_VoS.T e_VoS.sz a (xs).length c (flat e_VoS xs) :: row e_VoR.T e_VoR.sz a2 (ys).length c2 (flat e_VoR ys) :: F) (fun z => z ≤ xs.length) (fun z => xs.length - z) (0) (by exact Nat.zero_le _) ⟨(by first | rfl | exact vint (by omega)), (by first | rfl | exact vint (by omega)), (by first | rfl | exact vint (by omega)), (by first | rfl | exact vint (by omega)), trivial⟩ (fun w S => S) ?_
 rintro i hi
 try dsimp only at *
 refine c_seq ?_
 refine c_region ?_
 refine o_bin rfl rfl rfl b_lss ?_
 refine l_nil ?_
 refine q_then ?_
 refine c_seq ?_
 refine c_cond rfl (fun h1 => ?_) (fun h1 => ?_)
 · -- h1T
  have h1b := h1
  try simp only [decide_eq_true_eq] at h1
  refine c_skip ?_
  refine q_then ?_
  refine c_seq ?_
  refine c_block ?_
  refine c_seq ?_
  refine c_region ?_
  refine o_move rfl rfl ?_
  refine o_assign rfl rfl ?_
  refine l_nil ?_
  refine q_then ?_
  refine c_seq ?_
  refine c_fact (p := ∃ ad, a = some ad) (rds_some (e := e_VoS) (xs := xs) (rds_own e_VoS_ok 0 rfl) (by intro h0; have h00 := congrArg List.length h0; simp only [List.length_nil] at h00; omega)) ?_
  rintro ⟨adx, eadx⟩
  refine c_fact (p := ∃ ad, a2 = some ad) (rds_some (e := e_VoR) (xs := ys) (rds_own e_VoR_ok 1 rfl) (by intro h0; have h00 := congrArg List.length h0; simp only [List.length_nil] at h00; omega)) ?_
  rintro ⟨ady, eady⟩
  refine c_quiet (by kernel_rfl) (by kernel_rfl) ?_
  refine Qt.o_val rfl (v_move rfl rfl) ?_
  refine Qt.o_val rfl (v_move rfl rfl) ?_
  refine Qt.o_val rfl (v_indexK e_VoS_ok eadx rfl rfl rfl Try.underlying32 (by omega) (by omega)) ?_
  obtain ⟨x18, hx18⟩ : ∃ x, (xs)[((i : Int)).toNat]? = some x := ⟨_, List.getElem?_eq_getElem (by omega)⟩
  refine Qt.o_val rfl (v_fieldAddr rfl rfl Try.underlying31 rfl ti3 (Addr.add_add' _ _ _)) ?_
  refine Qt.o_val rfl (v_load1 rfl rfl Try.underlying3 rfl (rd_sl e_VoS_ok eadx (rds_own e_VoS_ok 0 rfl) hx18 rfl)) ?_
  refine Qt.o_val rfl (v_move rfl rfl) ?_
  refine Qt.o_val rfl (v_move rfl rfl) ?_
  refine Qt.o_val rfl (v_indexK e_VoR_ok eady rfl rfl rfl Try.underlying45 (by omega) (by omega)) ?_
  obtain ⟨x23, hx23⟩ : ∃ x, (ys)[((i : Int)).toNat]? = some x := ⟨_, List.getElem?_eq_getElem (by omega)⟩
  have q23 : x23 = toVR x18 := by have h8 := hx18; have h9 := hx23; rw [heq, List.getElem?_map, h8] at h9; exact (Option.some.inj h9).symm
  refine Qt.o_val rfl (v_fieldAddr rfl rfl Try.underlying41 rfl ti3 (Addr.add_add' _ _ _)) ?_
  refine Qt.o_val rfl (v_load1 rfl rfl Try.underlying3 rfl (rd_sl e_VoR_ok eady (rds_own e_VoR_ok 1 rfl) hx23 rfl)) ?_
  refine Qt.o_val rfl (v_bin rfl rfl rfl b_neq) ?_
  refine Qt.l_eq (t := 26) (v' := .bool false) rfl (show _ = Value.bool false from by rw [q23]; simp [toVR]) ?_
  refine Qt.o_val rfl (v_move rfl rfl) ?_
  refine Qt.o_yes rfl rfl rfl ?_
  refine Qt.o_val rfl (v_move rfl rfl) ?_
  refine Qt.o_yes rfl rfl rfl ?_
  refine Qt.o_val rfl (v_move rfl rfl) ?_
  refine Qt.o_yes rfl rfl rfl ?_
  refine Qt.o_val rfl (v_indexK e_VoS_ok eadx rfl rfl rfl Try.underlying32 (by omega) (by omega)) ?_
  obtain ⟨x30, hx30⟩ : ∃ x, (xs)[((i : Int)).toNat]? = some x := ⟨_, List.getElem?_eq_getElem (by omega)⟩
  refine Qt.o_yes rfl rfl rfl ?_
  refine Qt.o_val rfl (v_fieldAddr rfl rfl Try.underlying31 rfl ti23 (Addr.add_add' _ _ _)) ?_
  refine Qt.o_yes rfl rfl rfl ?_
  refine Qt.o_val rfl (v_load1 rfl rfl Try.underlying23 rfl (rd_sl e_VoS_ok eadx (rds_own e_VoS_ok 0 rfl) hx30 rfl)) ?_
  refine Qt.o_yes rfl rfl rfl ?_
  refine Qt.o_val rfl (v_move rfl rfl) ?_
  refine Qt.o_yes rfl rfl rfl ?_
  refine Qt.o_val rfl (v_move rfl rfl) ?_
  refine Qt.o_yes rfl rfl rfl ?_
  refine Qt.o_val rfl (v_indexK e_VoR_ok eady rfl rfl rfl Try.underlying45 (by omega) (by omega)) ?_
  obtain ⟨x35, hx35⟩ : ∃ x, (ys)[((i : Int)).toNat]? = some x := ⟨_, List.getElem?_eq_getElem (by omega)⟩
  have q35 : x35 = toVR x30 := by have h8 := hx30; have h9 := hx35; rw [heq, List.getElem?_map, h8] at h9; exact (Option.some.inj h9).symm
  refine Qt.o_yes rfl rfl rfl ?_
  refine Qt.o_val rfl (v_fieldAddr rfl rfl Try.underlying41 rfl ti23 (Addr.add_add' _ _ _)) ?_
  refine Qt.o_yes rfl rfl rfl ?_
  refine Qt.o_val rfl (v_load1 rfl rfl Try.underlying23 rfl (rd_sl e_VoR_ok eady (rds_own e_VoR_ok 1 rfl) hx35 rfl)) ?_
  refine Qt.o_yes rfl rfl rfl ?_
  refine Qt.o_val rfl (v_bin rfl rfl rfl b_neq) ?_
  refine Qt.l_eq (t := 38) (v' := .bool false) rfl (show _ = Value.bool false from by rw [q35]; simp [toVR]) ?_
  refine Qt.o_val rfl (v_pick_false rfl rfl rfl) ?_
  refine Qt.o_val rfl (v_move rfl rfl) ?_
  refine Qt.o_yes rfl rfl rfl ?_
  refine Qt.o_val rfl (v_move rfl rfl) ?_
  refine Qt.o_yes rfl rfl rfl ?_
  refine Qt.o_val rfl (v_move rfl rfl) ?_
  refine Qt.o_yes rfl rfl rfl ?_
  refine Qt.o_val rfl (v_indexK e_VoS_ok eadx rfl rfl rfl Try.underlying32 (by omega) (by omega)) ?_
  obtain ⟨x43, hx43⟩ : ∃ x, (xs)[((i : Int)).toNat]? = some x := ⟨_, List.getElem?_eq_getElem (by omega)⟩
  refine Qt.o_yes rfl rfl rfl ?_
  refine Qt.o_val rfl (v_fieldAddr rfl rfl Try.underlying31 rfl ti9 (Addr.add_add' _ _ _)) ?_
  refine Qt.o_yes rfl rfl rfl ?_
  refine Qt.o_val rfl (v_load1 rfl rfl Try.underlying9 rfl (rd_sl e_VoS_ok eadx (rds_own e_VoS_ok 0 rfl) hx43 rfl)) ?_
  refine Qt.o_yes rfl rfl rfl ?_
  refine Qt.o_val rfl (v_move rfl rfl) ?_
  refine Qt.o_yes rfl rfl rfl ?_
  refine Qt.o_val rfl (v_move rfl rfl) ?_
  refine Qt.o_yes rfl rfl rfl ?_
  refine Qt.o_val rfl (v_indexK e_VoR_ok eady rfl rfl rfl Try.underlying45 (by omega) (by omega)) ?_
  obtain ⟨x48, hx48⟩ : ∃ x, (ys)[((i : Int)).toNat]? = some x := ⟨_, List.getElem?_eq_getElem (by omega)⟩
  have q48 : x48 = toVR x43 := by have h8 := hx43; have h9 := hx48; rw [heq, List.getElem?_map, h8] at h9; exact (Option.some.inj h9).symm
  refine Qt.o_yes rfl rfl rfl ?_
  refine Qt.o_val rfl (v_fieldAddr rfl rfl Try.underlying41 rfl ti9 (Addr.add_add' _ _ _)) ?_
  refine Qt.o_yes rfl rfl rfl ?_
  refine Qt.o_val rfl (v_load1 rfl rfl Try.underlying9 rfl (rd_sl e_VoR_ok eady (rds_own e_VoR_ok 1 rfl) hx48 rfl)) ?_
  refine Qt.o_yes rfl rfl rfl ?_
  refine Qt.o_val rfl (v_bin rfl rfl rfl b_sneq) ?_
  refine Qt.l_eq (t := 51) (v' := .bool false) rfl (show _ = Value.bool false from by rw [q48]; simp [toVR]) ?_
  refine Qt.o_val rfl (v_pick_false rfl rfl rfl) ?_
  refine Qt.l_nil ?_
  refine q_then ?_
  refine c_false rfl ?_
  refine c_skip ?_
  refine q_block ?_
  refine q_then ?_
  refine c_region ?_
  refine o_bin rfl rfl rfl (b_add (wrap_i64 (by omega) (by omega))) ?_
  refine o_move rfl rfl ?_
  refine l_nil ?_
  exact q_round (i + 1) (by omega) (by (try dsimp only); omega) ⟨(by first | rfl | exact vint (by omega)), (by first | rfl | exact vint (by omega)), (by first | rfl | exact vint (by omega)), (by first | rfl | exact vint (by omega)), trivial⟩ (fun w S => S)
 · -- h1F
  have h1b := h1
  try simp only [decide_eq_false_iff_not, Int.not_lt, Int.not_le] at h1
  refine c_exit ?_
  refine q_pass_exit ?_
  refine q_pass_exit ?_
  refine q_hit ?_
  refine q_then ?_
  refine c_seq ?_
  refine c_region ?_
  refine o_assign rfl rfl ?_
  refine l_nil ?_
  refine q_then ?_
  refine c_ret ?_
  exact f_ret (r_one rfl rfl) (⟨rfl, rfl⟩) (fun w S => S)

end Go.Proofs.Ytcdodagebbfjoaa
