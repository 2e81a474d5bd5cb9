/- Printed by eng2.py out of 18/spec.py. -/
import Derived.Test.YtoigakfglgdjdaaRReadp
import Derived.Test.YtoigakfglgdjdaaRNum
import Derived.Test.YtoigakfglgdjdaaRSum
set_option linter.unusedVariables false
set_option linter.unusedSimpArgs false
set_option maxRecDepth 10000
namespace Go.Proofs.Ytoigakfglgdjdaa
open Go.RowKit Classical
def h6B (m : Msg) (i : Nat) : List UInt8 := ((hd6 m).take i).flatMap nB
theorem h6B_on {m : Msg} {i : Nat} {x : Int} (h : (hd6 m)[i]? = some x) : h6B m i ++ numB x.toNat = h6B m (i + 1) := by
  obtain ⟨hi, hx⟩ := List.getElem?_eq_some_iff.1 h
  unfold h6B
  rw [List.take_succ_eq_append_getElem hi, List.flatMap_append, hx]
  simp [nB]
theorem h6B_len {m : Msg} (h : MsgOk m) (w : Wf m) : ∀ i, i ≤ 6 → (h6B m i).length ≤ 10 * i
  | 0, _ => by simp [h6B]
  | i + 1, hi => by
    obtain ⟨x, hx⟩ : ∃ x, (hd6 m)[i]? = some x := ⟨_, List.getElem?_eq_getElem (show i < 6 by omega)⟩
    have := h6B_len h w i (by omega)
    have h2 := numB_len_le 10 x.toNat (by have := (hd6_ok h w hx).2; omega) (by omega)
    rw [← h6B_on hx, List.length_append]; omega
theorem h6B_6 (m : Msg) : h6B m 6 ++ (numB m.f_Value.data.toList.length ++ m.f_Value.data.toList) ++ numB m.f_Votes.xs.length = headB18 m ++ votesB (m.f_Votes.xs.take 0) := by
  unfold headB18 h6B
  rw [hdB_5]
  simp [hd6, textB, votesB]
set_option maxHeartbeats 2000000 in
theorem rwrite_ {W : World} {F : List Res} {p : RMsg} (R_p : RdS W F e_RVote p.f_Votes.a p.f_Votes.xs) (rn_p : p.f_Votes.xs.length ≤ 9223372036854775807) (wf : Wf (toM p)) : CS Try.prog 13 #[.agg #[.int .i64 p.f_Kind, .int .i64 p.f_From, .int .i64 p.f_To, .int .i64 p.f_Group, .int .i64 p.f_Slot, .int .u64 p.f_Ballot, .string p.f_Value, .slice p.f_Votes.a (p.f_Votes.xs).length p.f_Votes.c]] W (F) (fun r L' => ∃ (out : List UInt8) (a2 : Option Addr) (c2 : Nat), out = wrB (toM p) ∧ r = .tuple #[.slice a2 out.length c2, .int .i64 (msgN (toM p))] ∧ L' = row e8.T e8.sz a2 (out).length c2 (flat e8 out) :: F) := by
 refine f_door (l0 := [(0, .agg #[.int .i64 p.f_Kind, .int .i64 p.f_From, .int .i64 p.f_To, .int .i64 p.f_Group, .int .i64 p.f_Slot, .int .u64 p.f_Ballot, .string p.f_Value, .slice p.f_Votes.a (p.f_Votes.xs).length p.f_Votes.c])]) Try.func13 Try.ntmps13 rfl rfl rfl ?_
 refine c_seq ?_
 refine c_region ?_
 refine o_box rfl rfl fun b1 => ?_
 refine o_assign rfl rfl ?_
 refine o_assign rfl rfl ?_
 refine l_nil ?_
 refine q_then ?_
 refine c_seq ?_
 refine c_seq ?_
 refine c_region ?_
 refine o_loadn (vs := [_, _, _, _, _, _, _, _]) rfl rfl Try.underlying35 rfl ti35 (rdn_lit 0 rfl rfl) ?_
 refine o_call rfl cal21 rfl (right_ (p := p) (rds_c R_p) (by first | assumption | (try dsimp only); omega)) ?_
 rintro _ _ ⟨rfl, rfl⟩
 refine o_not rfl rfl ?_
 refine l_nil ?_
 refine q_then ?_
 refine c_cond rfl (fun h1 => ?_) (fun h1 => ?_)
 · -- h1T
  have h1b := h1
  try simp only [Bool.not_eq_true', decide_eq_false_iff_not, Int.not_lt, Int.not_le] at h1
  refine c_seq ?_
  refine c_region ?_
  refine o_lit e8_ok rfl Try.underlying28 rfl rfl rfl (lit_ok rfl) ([] : List UInt8) rfl rfl fun a11 => ?_
  refine o_assign rfl rfl ?_
  refine o_assign rfl rfl ?_
  refine l_nil ?_
  refine q_then ?_
  refine c_ret ?_
  refine q_pass_ret ?_
  refine q_conv (fun w S => (S.perm p1).tail) ?_
  exact f_ret (r_two rfl rfl rfl) (⟨[], a11, 0, by rw [wrB, if_neg (fun h9 => h1 (right_iff.2 h9))], by rw [show msgN (toM p) = 1 from if_neg (fun h9 => h1 (right_iff.2 h9))], rfl⟩) (fun w S => S)
 · -- h1F
  have h1b := h1
  try simp only [Bool.not_eq_false', decide_eq_true_eq] at h1
  have hok : MsgOk (toM p) := right_iff.1 (by assumption)
  have hok' := hok
  unfold MsgOk at hok'
  simp only [toM, List.length_map] at hok'
  have hvl := votes_len (vs := p.f_Votes.xs.map ofR) (by rw [List.length_map]; exact hok'.2.2.2.2.2.2.2.2.2)
  rw [List.length_map] at hvl
  have hbl := bodyB_len hok wf
  have hhl := headB18_len hok wf
  have hb := wf.b
  have hsl := numB_len_le 10 (sumB (bodyB (toM p))).toNat (by have := (sumB (bodyB (toM p))).isLt; omega) (by omega)
  refine c_skip ?_
  refine q_then ?_
  refine c_seq ?_
  refine c_region ?_
  refine o_lit e8_ok rfl Try.underlying28 rfl rfl rfl (lit_ok rfl) ([] : List UInt8) rfl rfl fun a12 => ?_
  refine o_assign rfl rfl ?_
  refine l_nil ?_
  refine q_then ?_
  refine c_seq ?_
  refine c_region ?_
  refine o_fieldAddr (q := ⟨b1, 0, none⟩) rfl rfl Try.underlying35 rfl ti3 rfl ?_
  refine o_load1 rfl rfl Try.underlying3 rfl (rd_mem 1 rfl rfl) ?_
  refine o_int rfl rfl Try.underlying3 Try.underlying23 (wrap_u64 (by omega) (by omega)) ?_
  refine o_fieldAddr (q := ⟨b1, 1, none⟩) rfl rfl Try.underlying35 rfl ti3 rfl ?_
  refine o_load1 rfl rfl Try.underlying3 rfl (rd_mem 1 rfl rfl) ?_
  refine o_int rfl rfl Try.underlying3 Try.underlying23 (wrap_u64 (by omega) (by omega)) ?_
  refine o_fieldAddr (q := ⟨b1, 2, none⟩) rfl rfl Try.underlying35 rfl ti3 rfl ?_
  refine o_load1 rfl rfl Try.underlying3 rfl (rd_mem 1 rfl rfl) ?_
  refine o_int rfl rfl Try.underlying3 Try.underlying23 (wrap_u64 (by omega) (by omega)) ?_
  refine o_fieldAddr (q := ⟨b1, 3, none⟩) rfl rfl Try.underlying35 rfl ti3 rfl ?_
  refine o_load1 rfl rfl Try.underlying3 rfl (rd_mem 1 rfl rfl) ?_
  refine o_int rfl rfl Try.underlying3 Try.underlying23 (wrap_u64 (by omega) (by omega)) ?_
  refine o_fieldAddr (q := ⟨b1, 4, none⟩) rfl rfl Try.underlying35 rfl ti3 rfl ?_
  refine o_load1 rfl rfl Try.underlying3 rfl (rd_mem 1 rfl rfl) ?_
  refine o_int rfl rfl Try.underlying3 Try.underlying23 (wrap_u64 (by omega) (by omega)) ?_
  refine o_fieldAddr (q := ⟨b1, 5, none⟩) rfl rfl Try.underlying35 rfl ti23 rfl ?_
  refine o_load1 rfl rfl Try.underlying23 rfl (rd_mem 1 rfl rfl) ?_
  refine o_buildArr rfl Try.underlying60 ti60 ti23 rfl ((fill_cons (cells' := [.int .u64 p.f_Kind, .int .u64 0, .int .u64 0, .int .u64 0, .int .u64 0, .int .u64 0]) rfl rfl rfl rfl (fill_cons (cells' := [.int .u64 p.f_Kind, .int .u64 p.f_From, .int .u64 0, .int .u64 0, .int .u64 0, .int .u64 0]) rfl rfl rfl rfl (fill_cons (cells' := [.int .u64 p.f_Kind, .int .u64 p.f_From, .int .u64 p.f_To, .int .u64 0, .int .u64 0, .int .u64 0]) rfl rfl rfl rfl (fill_cons (cells' := [.int .u64 p.f_Kind, .int .u64 p.f_From, .int .u64 p.f_To, .int .u64 p.f_Group, .int .u64 0, .int .u64 0]) rfl rfl rfl rfl (fill_cons (cells' := [.int .u64 p.f_Kind, .int .u64 p.f_From, .int .u64 p.f_To, .int .u64 p.f_Group, .int .u64 p.f_Slot, .int .u64 0]) rfl rfl rfl rfl (fill_cons (cells' := [.int .u64 p.f_Kind, .int .u64 p.f_From, .int .u64 p.f_To, .int .u64 p.f_Group, .int .u64 p.f_Slot, .int .u64 p.f_Ballot]) rfl rfl rfl rfl fill_nil))))))) ?_
  refine o_alloc rfl ti60 fun b5 => ?_
  refine o_storen rfl rfl ti60 rfl rfl rfl rfl ?_
  refine l_nil ?_
  refine q_then ?_
  refine c_seq ?_
  refine c_seq ?_
  refine c_conv (L' := blk b5 (.cells (flat e_U64 (hd6 (toM p))).toArray 60 (0, 0)) :: _) (fun w S => S) ?_
  refine c_region ?_
  refine o_assign rfl rfl ?_
  refine l_nil ?_
  refine q_then ?_
  refine c_block ?_
  refine c_loop (α := Nat × (Option Addr) × Nat) (fun z => [(1, .pointer (some ⟨b1, 0, none⟩)), (4, .slice z.2.1 ((h6B (toM p) z.1)).length z.2.2), (5, .pointer (some ⟨b5, 0, none⟩)), (6, .int .i64 (z.1 : Int))]) (fun z => blk b5 (.cells (flat e_U64 (hd6 (toM p))).toArray 60 (0, 0)) :: row e8.T e8.sz z.2.1 ((h6B (toM p) z.1)).length z.2.2 (flat e8 (h6B (toM p) z.1)) :: blk b1 (.cells #[.int .i64 p.f_Kind, .int .i64 p.f_From, .int .i64 p.f_To, .int .i64 p.f_Group, .int .i64 p.f_Slot, .int .u64 p.f_Ballot, .string p.f_Value, .slice p.f_Votes.a (p.f_Votes.xs).length p.f_Votes.c] 35 (0, 0)) :: F) (fun z => z.1 ≤ 6) (fun z => 6 - z.1) (0, a12, 0) (by exact Nat.zero_le _) ⟨(by first | rfl | exact vint (by omega)), (by first | rfl | exact vint (by omega)), (by first | rfl | exact vint (by omega)), (by first | rfl | exact vint (by omega)), trivial⟩ (fun w S => S) ?_
  rintro ⟨i, a9, c9⟩ hi
  try dsimp only at *
  refine c_seq ?_
  refine c_seq ?_
  refine c_region ?_
  refine o_move rfl rfl ?_
  refine o_bin rfl rfl rfl b_lss ?_
  refine l_nil ?_
  refine q_then ?_
  refine c_cond rfl (fun h2 => ?_) (fun h2 => ?_)
  · -- h2T
   have h2b := h2
   try simp only [decide_eq_true_eq] at h2
   refine c_skip ?_
   refine q_then ?_
   refine c_seq ?_
   refine c_block ?_
   refine c_region ?_
   refine o_move rfl rfl ?_
   refine o_move rfl rfl ?_
   refine o_indexArr rfl rfl rfl Try.underlying60 ti23 (by omega) (by omega) (Addr.add_mk _ _ _) ?_
   obtain ⟨x37, hx37⟩ : ∃ x, ((hd6 (toM p)))[((i : Int)).toNat]? = some x := ⟨_, List.getElem?_eq_getElem (by have := (show (hd6 (toM p)).length = 6 from rfl); omega)⟩
   refine o_load1 rfl rfl Try.underlying23 rfl (rd_mem 0 rfl (sg_arr (sg_flat (s := 1) (o := 0) e_U64_ok rfl hx37 rfl (by omega)))) ?_
   have hx37' : (hd6 (toM p))[i]? = some x37 := hx37
   have hr37 := hd6_ok hok wf hx37'
   have hil := h6B_len hok wf i hi
   have hnl := numB_len_le 10 x37.toNat (by omega) (by omega)
   refine l_eq (t := 38) (v' := .int .u64 (x37.toNat : Int)) rfl (by exact congrArg (Value.int .u64) (Int.toNat_of_nonneg hr37.1).symm) ?_
   refine o_call rfl cal22 rfl (rNum (v := x37.toNat) (by omega)) ?_
   rintro _ _ ⟨a39, c39, rfl, rfl⟩
   refine l_f2 ?_
   refine o_append e8_ok rfl rfl rfl Try.underlying28 (rds_own e8_ok 1 rfl) (by show (_ + _) * 1 ≤ _; (try simp only [List.length_append]); omega) (by (try simp only [List.length_append]); omega) fun a40 c40 => ?_
   refine l_f1 ?_
   refine l_drop ?_
   refine l_eq (t := 40) (v' := .slice a40 ((h6B (toM p) (i + 1))).length c40) rfl (by rw [h6B_on hx37']) ?_
   refine l_conv (L' := row e8.T e8.sz a40 ((h6B (toM p) (i + 1))).length c40 (flat e8 (h6B (toM p) (i + 1))) :: _) (fun w S => by rw [h6B_on hx37'] at S; exact S) ?_
   refine o_assign rfl rfl ?_
   refine l_nil ?_
   refine q_block ?_
   refine q_then ?_
   refine c_region ?_
   refine o_move rfl rfl ?_
   refine o_bin rfl rfl rfl (b_add (wrap_i64 (by omega) (by omega))) ?_
   refine o_assign rfl rfl ?_
   refine l_nil ?_
   refine q_conv (fun w S => S.perm p2) ?_
   refine q_conv (fun w S => S.perm p1) ?_
   refine q_conv (fun w S => S.perm p2) ?_
   exact q_round (i + 1, a40, c40) (by (try dsimp only); omega) (by (try dsimp only); omega) ⟨(by first | rfl | exact vint (by omega)), (by first | rfl | exact vint (by omega)), (by first | rfl | exact vint (by omega)), (by first | rfl | exact vint (by omega)), trivial⟩ (fun w S => S)
  · -- h2F
   have h2b := h2
   try simp only [decide_eq_false_iff_not, Int.not_lt, Int.not_le] at h2
   have hi6 : i = 6 := by omega
   have h6l := h6B_len hok wf i (by omega)
   refine c_exit ?_
   refine q_pass_exit ?_
   refine q_pass_exit ?_
   refine q_hit ?_
   refine q_then ?_
   refine c_seq ?_
   refine c_region ?_
   refine o_move rfl rfl ?_
   refine o_fieldAddr (q := ⟨b1, 6, none⟩) rfl rfl Try.underlying35 rfl ti9 rfl ?_
   refine o_load1 rfl rfl Try.underlying9 rfl (rd_mem 2 rfl rfl) ?_
   refine o_strBytes (e := e8) rfl rfl rfl rfl Try.underlying9 Try.underlying28 Try.underlying5 fun a44 c44 hc44 => ?_
   have htd : p.f_Value.data.toList.length ≤ 4096 := by simp; omega
   have hnd := numB_len_le 10 p.f_Value.data.toList.length (by omega) (by omega)
   refine o_call rfl cal23 rfl (rText (rds_mrow e8_ok 0 rfl) (by (try simp only [List.length_append]); omega)) ?_
   rintro _ _ ⟨a45, c45, rfl, rfl⟩
   refine l_f3 ?_
   refine o_append e8_ok rfl rfl rfl Try.underlying28 (rds_own e8_ok 1 rfl) (by show (_ + _) * 1 ≤ _; (try simp only [List.length_append]); omega) (by (try simp only [List.length_append]); omega) fun a46 c46 => ?_
   refine l_f1 ?_
   refine l_drop ?_
   refine o_assign rfl rfl ?_
   refine l_nil ?_
   refine q_then ?_
   refine c_seq ?_
   refine c_region ?_
   refine o_move rfl rfl ?_
   refine o_fieldAddr (q := ⟨b1, 7, none⟩) rfl rfl Try.underlying35 rfl ti33 rfl ?_
   refine o_load1 rfl rfl Try.underlying33 rfl (rd_mem 3 rfl rfl) ?_
   refine o_len rfl rfl Try.underlying33 ?_
   refine o_int rfl rfl Try.underlying3 Try.underlying23 (wrap_u64 (by omega) (by omega)) ?_
   have hnv := numB_len_le 10 p.f_Votes.xs.length (by omega) (by omega)
   refine o_call rfl cal22 rfl (rNum (v := p.f_Votes.xs.length) (by omega)) ?_
   rintro _ _ ⟨a52, c52, rfl, rfl⟩
   refine l_f1 ?_
   refine o_append e8_ok rfl rfl rfl Try.underlying28 (rds_own e8_ok 1 rfl) (by show (_ + _) * 1 ≤ _; (try simp only [List.length_append]); omega) (by (try simp only [List.length_append]); omega) fun a53 c53 => ?_
   refine l_f1 ?_
   refine l_drop ?_
   refine o_assign rfl rfl ?_
   refine l_nil ?_
   refine q_then ?_
   refine c_seq ?_
   refine c_seq ?_
   have hc11 : (h6B (toM p) i) ++ (numB (p.f_Value.data.toList).length ++ p.f_Value.data.toList) ++ (numB p.f_Votes.xs.length) = (headB18 (toM p) ++ votesB ((p.f_Votes.xs.map ofR).take 0)) := by rw [hi6, ← h6B_6]; simp [List.length_map]
   refine c_conv (L' := row e8.T e8.sz a53 ((headB18 (toM p) ++ votesB ((p.f_Votes.xs.map ofR).take 0))).length c53 (flat e8 (headB18 (toM p) ++ votesB ((p.f_Votes.xs.map ofR).take 0))) :: _) (fun w S => by rw [hc11] at S; exact S) ?_
   refine c_region ?_
   refine o_assign rfl rfl ?_
   refine l_nil ?_
   refine q_then ?_
   refine c_block ?_
   refine c_loop (α := Nat × (Option Addr) × Nat) (fun z => [(1, .pointer (some ⟨b1, 0, none⟩)), (4, .slice z.2.1 ((headB18 (toM p) ++ votesB ((p.f_Votes.xs.map ofR).take z.1))).length z.2.2), (7, .int .i64 (z.1 : Int))]) (fun z => row e8.T e8.sz z.2.1 ((headB18 (toM p) ++ votesB ((p.f_Votes.xs.map ofR).take z.1))).length z.2.2 (flat e8 (headB18 (toM p) ++ votesB ((p.f_Votes.xs.map ofR).take z.1))) :: mrow e8.T e8.sz a44 (p.f_Value.data.toList).length c44 (flat e8 p.f_Value.data.toList) :: blk b5 (.cells (flat e_U64 (hd6 (toM p))).toArray 60 (0, 0)) :: blk b1 (.cells #[.int .i64 p.f_Kind, .int .i64 p.f_From, .int .i64 p.f_To, .int .i64 p.f_Group, .int .i64 p.f_Slot, .int .u64 p.f_Ballot, .string p.f_Value, .slice p.f_Votes.a (p.f_Votes.xs).length p.f_Votes.c] 35 (0, 0)) :: F) (fun z => z.1 ≤ p.f_Votes.xs.length) (fun z => p.f_Votes.xs.length - z.1) (0, a53, c53) (by exact Nat.zero_le _) ⟨(by first | rfl | exact vint (by omega)), (by first | rfl | (show some (Value.slice _ _ _) = some (Value.slice _ _ _); rw [← hc11])), (by first | rfl | exact vint (by omega)), trivial⟩ (fun w S => S) ?_
   rintro ⟨j, a9, c9⟩ hj
   try dsimp only at *
   refine c_seq ?_
   refine c_seq ?_
   refine c_region ?_
   refine o_move rfl rfl ?_
   refine o_fieldAddr (q := ⟨b1, 7, none⟩) rfl rfl Try.underlying35 rfl ti33 rfl ?_
   refine o_load1 rfl rfl Try.underlying33 rfl (rd_mem 3 rfl rfl) ?_
   refine o_len rfl rfl Try.underlying33 ?_
   refine o_bin rfl rfl rfl b_lss ?_
   refine l_nil ?_
   refine q_then ?_
   refine c_cond rfl (fun h3 => ?_) (fun h3 => ?_)
   · -- h3T
    have h3b := h3
    try simp only [decide_eq_true_eq] at h3
    refine c_skip ?_
    refine q_then ?_
    refine c_seq ?_
    refine c_block ?_
    refine c_seq ?_
    refine c_fact (p := ∃ ad, p.f_Votes.a = some ad) (rds_some (e := e_RVote) (xs := p.f_Votes.xs) (rds_c (rds_c (rds_c (rds_c R_p)))) (by intro h0; have h00 := congrArg List.length h0; simp only [List.length_nil] at h00; omega)) ?_
    rintro ⟨adx, eadx⟩
    refine c_region ?_
    refine o_move rfl rfl ?_
    refine o_fieldAddr (q := ⟨b1, 7, none⟩) rfl rfl Try.underlying35 rfl ti33 rfl ?_
    refine o_load1 rfl rfl Try.underlying33 rfl (rd_mem 3 rfl rfl) ?_
    refine o_move rfl rfl ?_
    refine o_indexK e_RVote_ok eadx rfl rfl rfl Try.underlying33 (by omega) (by omega) ?_
    obtain ⟨x65, hx65⟩ : ∃ x, (p.f_Votes.xs)[((j : Int)).toNat]? = some x := ⟨_, List.getElem?_eq_getElem (by omega)⟩
    have hx65' : (p.f_Votes.xs.map ofR)[j]? = some (ofR x65) := get_ofR hx65
    have hvs := hok'.2.2.2.2.2.2.2.2.2.1 j (ofR x65) (by omega) hx65'
    simp only [ofR] at hvs
    have hvb := wf.v (ofR x65) (List.mem_of_getElem? hx65')
    simp only [ofR] at hvb
    have hjl := votesB_len hok wf j (by simp only [toM, List.length_map]; omega)
    simp only [toM] at hjl
    have hn1 := numB_len_le 10 x65.f_Slot.toNat (by omega) (by omega)
    have hn2 := numB_len_le 10 x65.f_Ballot.toNat (by omega) (by omega)
    refine o_fieldAddr rfl rfl Try.underlying58 rfl ti3 (Addr.add_add' _ _ _) ?_
    refine o_load1 rfl rfl Try.underlying3 rfl (rd_sl e_RVote_ok eadx (rds_c (rds_c (rds_c (rds_c R_p)))) hx65 rfl) ?_
    refine o_int rfl rfl Try.underlying3 Try.underlying23 (wu64 (by omega) (by omega)) ?_
    refine o_call rfl cal22 rfl (rNum (v := x65.f_Slot.toNat) (by omega)) ?_
    rintro _ _ ⟨a69, c69, rfl, rfl⟩
    refine l_f1 ?_
    refine o_append e8_ok rfl rfl rfl Try.underlying28 (rds_own e8_ok 1 rfl) (by show (_ + _) * 1 ≤ _; (try simp only [List.length_append]); omega) (by (try simp only [List.length_append]); omega) fun a70 c70 => ?_
    refine l_f1 ?_
    refine l_drop ?_
    refine o_assign rfl rfl ?_
    refine l_nil ?_
    refine q_then ?_
    refine c_seq ?_
    refine c_region ?_
    refine o_move rfl rfl ?_
    refine o_fieldAddr (q := ⟨b1, 7, none⟩) rfl rfl Try.underlying35 rfl ti33 rfl ?_
    refine o_load1 rfl rfl Try.underlying33 rfl (rd_mem 3 rfl rfl) ?_
    refine o_move rfl rfl ?_
    refine o_indexK e_RVote_ok eadx rfl rfl rfl Try.underlying33 (by omega) (by omega) ?_
    obtain ⟨x75, hx75⟩ : ∃ x, (p.f_Votes.xs)[((j : Int)).toNat]? = some x := ⟨_, List.getElem?_eq_getElem (by omega)⟩
    have e75 : x75 = x65 := by rw [hx65] at hx75; exact (Option.some.inj hx75).symm
    have e75' : x75.f_Ballot = x65.f_Ballot := by rw [e75]
    have hn3 : (numB x75.f_Ballot.toNat).length ≤ 10 := by rw [e75]; exact hn2
    refine o_fieldAddr rfl rfl Try.underlying58 rfl ti23 (Addr.add_add' _ _ _) ?_
    refine o_load1 rfl rfl Try.underlying23 rfl (rd_sl e_RVote_ok eadx (rds_c (rds_c (rds_c (rds_c R_p)))) hx75 rfl) ?_
    refine l_eq (t := 77) (v' := .int .u64 (x75.f_Ballot.toNat : Int)) rfl (by exact congrArg (Value.int .u64) (Int.toNat_of_nonneg (e75'.symm ▸ hvb.1)).symm) ?_
    refine o_call rfl cal22 rfl (rNum (v := x75.f_Ballot.toNat) (by omega)) ?_
    rintro _ _ ⟨a78, c78, rfl, rfl⟩
    refine l_f1 ?_
    refine o_append e8_ok rfl rfl rfl Try.underlying28 (rds_own e8_ok 1 rfl) (by show (_ + _) * 1 ≤ _; (try simp only [List.length_append]); omega) (by (try simp only [List.length_append]); omega) fun a79 c79 => ?_
    refine l_f1 ?_
    refine l_drop ?_
    refine o_assign rfl rfl ?_
    refine l_nil ?_
    refine q_then ?_
    refine c_region ?_
    refine o_move rfl rfl ?_
    refine o_fieldAddr (q := ⟨b1, 7, none⟩) rfl rfl Try.underlying35 rfl ti33 rfl ?_
    refine o_load1 rfl rfl Try.underlying33 rfl (rd_mem 3 rfl rfl) ?_
    refine o_move rfl rfl ?_
    refine o_indexK e_RVote_ok eadx rfl rfl rfl Try.underlying33 (by omega) (by omega) ?_
    obtain ⟨x84, hx84⟩ : ∃ x, (p.f_Votes.xs)[((j : Int)).toNat]? = some x := ⟨_, List.getElem?_eq_getElem (by omega)⟩
    have e84 : x84 = x65 := by rw [hx65] at hx84; exact (Option.some.inj hx84).symm
    have e84' : x84.f_Value = x65.f_Value := by rw [e84]
    refine o_fieldAddr rfl rfl Try.underlying58 rfl ti9 (Addr.add_add' _ _ _) ?_
    refine o_load1 rfl rfl Try.underlying9 rfl (rd_sl e_RVote_ok eadx (rds_c (rds_c (rds_c (rds_c R_p)))) hx84 rfl) ?_
    refine o_strBytes (e := e8) rfl rfl rfl rfl Try.underlying9 Try.underlying28 Try.underlying5 fun a87 c87 hc87 => ?_
    have htd : x84.f_Value.data.toList.length ≤ 4096 := by rw [e84']; simp; omega
    have hnd := numB_len_le 10 x84.f_Value.data.toList.length (by omega) (by omega)
    refine o_call rfl cal23 rfl (rText (rds_mrow e8_ok 0 rfl) (by (try simp only [List.length_append]); omega)) ?_
    rintro _ _ ⟨a88, c88, rfl, rfl⟩
    have hv89 : (headB18 (toM p) ++ votesB ((p.f_Votes.xs.map ofR).take j)) ++ (numB x65.f_Slot.toNat) ++ (numB x75.f_Ballot.toNat) ++ (numB (x84.f_Value.data.toList).length ++ x84.f_Value.data.toList) = headB18 (toM p) ++ votesB ((p.f_Votes.xs.map ofR).take (j + 1)) := by rw [e75', e84', votesB_on hx65']; simp [voteB, textB, nB, ofR]
    refine l_f2 ?_
    refine o_append e8_ok rfl rfl rfl Try.underlying28 (rds_own e8_ok 1 rfl) (by show (_ + _) * 1 ≤ _; (try simp only [List.length_append]); omega) (by (try simp only [List.length_append]); omega) fun a89 c89 => ?_
    refine l_f1 ?_
    refine l_drop ?_
    refine l_eq (t := 89) (v' := .slice a89 ((headB18 (toM p) ++ votesB ((p.f_Votes.xs.map ofR).take (j + 1)))).length c89) rfl (by rw [hv89]) ?_
    refine l_conv (L' := row e8.T e8.sz a89 ((headB18 (toM p) ++ votesB ((p.f_Votes.xs.map ofR).take (j + 1)))).length c89 (flat e8 (headB18 (toM p) ++ votesB ((p.f_Votes.xs.map ofR).take (j + 1)))) :: _) (fun w S => by rw [hv89] at S; exact S) ?_
    refine o_assign rfl rfl ?_
    refine l_nil ?_
    refine q_block ?_
    refine q_then ?_
    refine c_region ?_
    refine o_move rfl rfl ?_
    refine o_bin rfl rfl rfl (b_add (wrap_i64 (by omega) (by omega))) ?_
    refine o_assign rfl rfl ?_
    refine l_nil ?_
    refine q_conv (fun w S => (S.perm p1).tail) ?_
    exact q_round (j + 1, a89, c89) (by (try dsimp only); omega) (by (try dsimp only); omega) ⟨(by first | rfl | exact vint (by omega)), (by first | rfl | exact vint (by omega)), (by first | rfl | exact vint (by omega)), trivial⟩ (fun w S => S)
   · -- h3F
    have h3b := h3
    try simp only [decide_eq_false_iff_not, Int.not_lt, Int.not_le] at h3
    have hc17 : (headB18 (toM p) ++ votesB ((p.f_Votes.xs.map ofR).take j)) = bodyB (toM p) := by rw [List.take_of_length_le (by rw [List.length_map]; omega)]; rfl
    have hxl : (headB18 (toM p) ++ votesB ((p.f_Votes.xs.map ofR).take j)).length ≤ 400000 := by rw [hc17]; exact hbl
    simp only [List.length_append] at hxl
    have hsl7 : (numB (sumB (headB18 (toM p) ++ votesB ((p.f_Votes.xs.map ofR).take j))).toNat).length ≤ 10 := by rw [hc17]; exact hsl
    have hw95 : (headB18 (toM p) ++ votesB ((p.f_Votes.xs.map ofR).take j)) ++ numB (sumB (headB18 (toM p) ++ votesB ((p.f_Votes.xs.map ofR).take j))).toNat = wireB (toM p) := by rw [hc17]; rfl
    refine c_exit ?_
    refine q_pass_exit ?_
    refine q_pass_exit ?_
    refine q_hit ?_
    refine q_then ?_
    refine c_seq ?_
    refine c_region ?_
    refine o_move rfl rfl ?_
    refine o_move rfl rfl ?_
    refine o_call rfl cal24 rfl (rsum (rds_own e8_ok 0 rfl) (by (try simp only [List.length_append]); omega)) ?_
    rintro _ _ ⟨rfl, rfl⟩
    refine o_int rfl rfl Try.underlying55 Try.underlying23 (v32_u64 _) ?_
    refine o_call rfl cal22 rfl (rNum (v := (sumB (headB18 (toM p) ++ votesB ((p.f_Votes.xs.map ofR).take j))).toNat) (by omega)) ?_
    rintro _ _ ⟨a94, c94, rfl, rfl⟩
    refine l_f1 ?_
    refine o_append e8_ok rfl rfl rfl Try.underlying28 (rds_own e8_ok 1 rfl) (by show (_ + _) * 1 ≤ _; (try simp only [List.length_append]); omega) (by (try simp only [List.length_append]); omega) fun a95 c95 => ?_
    refine l_f1 ?_
    refine l_drop ?_
    refine l_eq (t := 95) (v' := .slice a95 ((wireB (toM p))).length c95) rfl (by rw [hw95]) ?_
    refine l_conv (L' := row e8.T e8.sz a95 ((wireB (toM p))).length c95 (flat e8 (wireB (toM p))) :: _) (fun w S => by rw [hw95] at S; exact S) ?_
    refine o_assign rfl rfl ?_
    refine o_assign rfl rfl ?_
    refine l_nil ?_
    refine q_then ?_
    refine c_ret ?_
    refine q_conv (fun w S => (S.perm p1).tail) ?_
    refine q_conv (fun w S => (S.perm p1).tail) ?_
    refine q_conv (fun w S => (S.perm p1).tail) ?_
    exact f_ret (r_two rfl rfl rfl) (⟨wireB (toM p), a95, c95, by rw [wrB, if_pos hok], by rw [show msgN (toM p) = 0 from if_pos hok]; first | done | rfl, rfl⟩) (fun w S => S)

end Go.Proofs.Ytoigakfglgdjdaa
