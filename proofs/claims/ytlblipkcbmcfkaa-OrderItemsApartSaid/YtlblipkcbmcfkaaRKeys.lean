/- Printed by eng2.py out of 09a/spec.py. -/
import Derived.Test.YtlblipkcbmcfkaaKeys
set_option linter.unusedVariables false
set_option linter.unusedSimpArgs false
set_option maxRecDepth 10000
namespace Go.Proofs.Ytlblipkcbmcfkaa
open Go.RowKit Classical
theorem ins_step {α : Type} {lt : α → α → Prop} {out cur : List α} {x x1 y1 : α} {k : Nat} (h0 : 0 < k) (h : InsAt lt out x k cur) (hx : cur[((k : Int)).toNat]? = some x1) (hy : cur[((k : Int) - 1).toNat]? = some y1) (hl : lt x1 y1) : InsAt lt out x (k - 1) ((cur.set ((k : Int)).toNat y1).set ((k : Int) - 1).toNat x1) := by
  obtain ⟨j, rfl⟩ : ∃ j, k = j + 1 := ⟨k - 1, by omega⟩
  rw [show (((j + 1 : Nat) : Int) - 1).toNat = j by omega] at hy ⊢
  exact insAt_on h hx hy hl
set_option maxHeartbeats 1000000 in
theorem rkeys_ {W : World} {F : List Res} {t : Txn} (T_t : TxR W F t) (hb : t.f_Reads.xs.length + t.f_Writes.xs.length ≤ 1000000) : CS Try.prog 29 #[.agg #[.int .i64 t.f_Kind, .slice t.f_Reads.a (t.f_Reads.xs).length t.f_Reads.c, .slice t.f_Writes.a (t.f_Writes.xs).length t.f_Writes.c, .slice t.f_Ops.a (t.f_Ops.xs).length t.f_Ops.c, .int .i64 t.f_To]] W (F) (fun r L' => ∃ (a : Option Addr) (c : Nat), r = .slice a (keysT t).length c ∧ L' = row e_S.T e_S.sz a (keysT t).length c (flat e_S (keysT t)) :: F) := by
 refine f_door (l0 := [(0, .agg #[.int .i64 t.f_Kind, .slice t.f_Reads.a (t.f_Reads.xs).length t.f_Reads.c, .slice t.f_Writes.a (t.f_Writes.xs).length t.f_Writes.c, .slice t.f_Ops.a (t.f_Ops.xs).length t.f_Ops.c, .int .i64 t.f_To])]) Try.func29 Try.ntmps29 rfl rfl rfl ?_
 refine c_seq ?_
 refine c_region ?_
 refine o_box rfl rfl fun b1 => ?_
 refine o_assign rfl rfl ?_
 refine l_nil ?_
 refine q_then ?_
 refine c_seq ?_
 refine c_region ?_
 refine o_lit e_S_ok rfl Try.underlying27 rfl rfl rfl (lit_ok rfl) ([] : List ByteArray) rfl rfl fun a8 => ?_
 refine o_assign rfl rfl ?_
 refine l_nil ?_
 refine q_then ?_
 refine c_seq ?_
 refine c_held [row e_S.T e_S.sz a8 (([] : List ByteArray)).length 0 (flat e_S ([] : List ByteArray)), blk b1 (.cells #[.int .i64 t.f_Kind, .slice t.f_Reads.a (t.f_Reads.xs).length t.f_Reads.c, .slice t.f_Writes.a (t.f_Writes.xs).length t.f_Writes.c, .slice t.f_Ops.a (t.f_Ops.xs).length t.f_Ops.c, .int .i64 t.f_To] 30 (0, 0))] (by kernel_rfl) rfl ?_
 refine h_take 1 rfl rfl (by kernel_rfl) (by kernel_rfl) (by kernel_rfl) (fun L0 => v_fieldAddr (q := ⟨b1, 1, none⟩) rfl rfl Try.underlying30 rfl ti27 rfl) ?_
 refine h_take 2 rfl rfl (by kernel_rfl) (by kernel_rfl) (by kernel_rfl) (fun L0 => v_load1 rfl rfl Try.underlying27 rfl (rd_mem 1 rfl rfl)) ?_
 refine h_take 4 rfl rfl (by kernel_rfl) (by kernel_rfl) (by kernel_rfl) (fun L0 => v_fieldAddr (q := ⟨b1, 2, none⟩) rfl rfl Try.underlying30 rfl ti27 rfl) ?_
 refine h_take 5 rfl rfl (by kernel_rfl) (by kernel_rfl) (by kernel_rfl) (fun L0 => v_load1 rfl rfl Try.underlying27 rfl (rd_mem 1 rfl rfl)) ?_
 refine h_one 0 rfl (by kernel_rfl) ?_
 refine o_lit e_S_ok rfl Try.underlying27 rfl rfl rfl (lit_ok rfl) ([] : List ByteArray) rfl rfl fun a9 => ?_
 refine l_nil ?_
 refine q_conv (fun w S => S.perm p2) ?_
 refine q_conv (fun w S => S.perm p2) ?_
 refine h_next ?_
 refine h_one 3 rfl (by kernel_rfl) ?_
 refine l_f2 ?_
 refine o_append e_S_ok rfl rfl rfl Try.underlying27 (TxR.c (TxR.c (TxR.c T_t))).rr (by show (_ + _) * _ ≤ _; simp only [List.length_nil]; omega) (by simp only [List.length_nil]; omega) fun a12 c12 => ?_
 refine l_nil ?_
 refine q_conv (fun w S => S.perm p2) ?_
 refine q_conv (fun w S => S.perm p2) ?_
 refine h_next ?_
 refine h_one 6 rfl (by kernel_rfl) ?_
 refine l_f2 ?_
 refine o_append e_S_ok rfl rfl rfl Try.underlying27 (TxR.c (TxR.c (TxR.c T_t))).rw (by show (_ + _) * _ ≤ _; simp only [List.length_nil, List.length_append]; omega) (by simp only [List.length_nil, List.length_append]; omega) fun a15 c15 => ?_
 refine l_eq (t := 15) (v' := .slice a15 ((t.f_Reads.xs ++ t.f_Writes.xs)).length c15) rfl (by rfl) ?_
 refine l_conv (L' := row e_S.T e_S.sz a15 ((t.f_Reads.xs ++ t.f_Writes.xs)).length c15 (flat e_S (t.f_Reads.xs ++ t.f_Writes.xs)) :: _) (fun w S => by exact S) ?_
 refine l_nil ?_
 refine q_conv (fun w S => S.perm p2) ?_
 refine q_conv (fun w S => S.perm p2) ?_
 refine h_next ?_
 refine h_take 7 rfl rfl (by kernel_rfl) (by kernel_rfl) (by kernel_rfl) (fun L0 => v_assign rfl rfl) ?_
 refine h_done (by kernel_rfl) ?_
 refine q_then ?_
 refine c_seq ?_
 refine c_seq ?_
 have hal : (t.f_Reads.xs ++ t.f_Writes.xs).length = t.f_Reads.xs.length + t.f_Writes.xs.length := List.length_append
 refine c_region ?_
 refine o_assign rfl rfl ?_
 refine l_nil ?_
 refine q_then ?_
 refine c_block ?_
 refine c_loop (α := Nat × (List ByteArray) × (Option Addr) × Nat) (fun z => [(3, .slice z.2.2.1 (z.2.1).length z.2.2.2), (4, .slice a15 ((t.f_Reads.xs ++ t.f_Writes.xs)).length c15), (5, .int .i64 (z.1 : Int))]) (fun z => row e_S.T e_S.sz z.2.2.1 (z.2.1).length z.2.2.2 (flat e_S z.2.1) :: blk b1 (.cells #[.int .i64 t.f_Kind, .slice t.f_Reads.a (t.f_Reads.xs).length t.f_Reads.c, .slice t.f_Writes.a (t.f_Writes.xs).length t.f_Writes.c, .slice t.f_Ops.a (t.f_Ops.xs).length t.f_Ops.c, .int .i64 t.f_To] 30 (0, 0)) :: row e_S.T e_S.sz a15 ((t.f_Reads.xs ++ t.f_Writes.xs)).length c15 (flat e_S (t.f_Reads.xs ++ t.f_Writes.xs)) :: F) (fun z => z.1 ≤ (t.f_Reads.xs ++ t.f_Writes.xs).length ∧ z.2.1 = setOf strlt ((t.f_Reads.xs ++ t.f_Writes.xs).take z.1)) (fun z => (t.f_Reads.xs ++ t.f_Writes.xs).length - z.1) (0, [], a8, 0) (by exact ⟨Nat.zero_le _, rfl⟩) ⟨(by first | rfl | exact vint (by omega)), (by first | rfl | exact vint (by omega)), (by first | rfl | exact vint (by omega)), trivial⟩ (fun w S => S) ?_
 rintro ⟨i, out, a3, c3⟩ ⟨hi, ho⟩
 try dsimp only at *
 have hol : out.length ≤ i := by have h9 := setOf_le strlt_sto ((t.f_Reads.xs ++ t.f_Writes.xs).take i); rw [List.length_take] at h9; rw [ho]; omega
 refine c_seq ?_
 refine c_seq ?_
 refine c_region ?_
 refine o_move rfl rfl ?_
 refine o_move rfl rfl ?_
 refine o_len rfl rfl Try.underlying27 ?_
 refine o_bin rfl rfl rfl b_lss ?_
 refine l_nil ?_
 refine q_then ?_
 refine c_cond rfl (fun h1 => ?_) (fun h1 => ?_)
 · -- h1T
  have h1b := h1
  try simp only [decide_eq_true_eq] at h1
  refine c_skip ?_
  refine q_then ?_
  refine c_seq ?_
  refine c_block ?_
  refine c_seq ?_
  refine c_seq ?_
  refine c_region ?_
  refine o_move rfl rfl ?_
  refine o_move rfl rfl ?_
  refine o_move rfl rfl ?_
  refine o_index e_S_ok rfl rfl rfl Try.underlying27 (by omega) (by omega) (rds_own e_S_ok 2 rfl) fun ad25 ead25 => ?_
  obtain ⟨x25, hx25⟩ : ∃ x, ((t.f_Reads.xs ++ t.f_Writes.xs))[((i : Int)).toNat]? = some x := ⟨_, List.getElem?_eq_getElem (by (try simp only [List.length_set]); omega)⟩
  refine o_load1 rfl rfl Try.underlying9 rfl (rd_sl0 e_S_ok ead25 (rds_own e_S_ok 2 rfl) hx25 rfl) ?_
  refine o_call rfl cal49 rfl (in_ (rds_own e_S_ok 0 rfl) (by omega)) ?_
  rintro _ _ ⟨rfl, rfl⟩
  refine l_nil ?_
  refine q_then ?_
  refine c_cond rfl (fun h2 => ?_) (fun h2 => ?_)
  · -- h2T
   have h2b := h2
   try simp only [decide_eq_true_eq] at h2
   refine c_exit ?_
   refine q_pass_exit ?_
   refine q_hit ?_
   refine q_then ?_
   refine c_region ?_
   refine o_move rfl rfl ?_
   refine o_bin rfl rfl rfl (b_add (wrap_i64 (by omega) (by omega))) ?_
   refine o_assign rfl rfl ?_
   refine l_nil ?_
   exact q_round (i + 1, out, a3, c3) (by exact ⟨by omega, by rw [setOf_take_in strlt_sto (x := x25) (by simpa using hx25) (by rw [← ho]; exact h2)]; exact ho⟩) (by (try dsimp only); omega) ⟨(by first | rfl | exact vint (by omega)), (by first | rfl | exact vint (by omega)), (by first | rfl | exact vint (by omega)), trivial⟩ (fun w S => S)
  · -- h2F
   have h2b := h2
   try simp only [decide_eq_false_iff_not, Int.not_lt, Int.not_le] at h2
   refine c_skip ?_
   refine q_then ?_
   refine c_seq ?_
   refine c_region ?_
   refine o_move rfl rfl ?_
   refine o_move rfl rfl ?_
   refine o_move rfl rfl ?_
   refine o_indexK e_S_ok ead25 rfl rfl rfl Try.underlying27 (by omega) (by omega) ?_
   obtain ⟨x31, hx31⟩ : ∃ x, ((t.f_Reads.xs ++ t.f_Writes.xs))[((i : Int)).toNat]? = some x := ⟨_, List.getElem?_eq_getElem (by (try simp only [List.length_set]); omega)⟩
   have e31 : x31 = x25 := by rw [hx25] at hx31; exact (Option.some.inj hx31).symm
   refine o_load1 rfl rfl Try.underlying9 rfl (rd_sl0 e_S_ok ead25 (rds_own e_S_ok 2 rfl) hx31 rfl) ?_
   refine o_lit e_S_ok rfl Try.underlying27 rfl rfl rfl (lit_ok rfl) [x31] rfl rfl fun a33 => ?_
   refine l_f1 ?_
   refine o_append e_S_ok rfl rfl rfl Try.underlying27 (rds_own e_S_ok 1 rfl) (by show (_ + _) * 16 ≤ _; (try simp only [List.length_append, List.length_cons, List.length_nil]); omega) (by (try simp only [List.length_append, List.length_cons, List.length_nil]); omega) fun a34 c34 => ?_
   refine l_f1 ?_
   refine l_drop ?_
   refine l_eq (t := 34) (v' := .slice a34 ((out ++ [x25])).length c34) rfl (by rw [e31]) ?_
   refine l_conv (L' := row e_S.T e_S.sz a34 ((out ++ [x25])).length c34 (flat e_S (out ++ [x25])) :: _) (fun w S => by rw [e31] at S; exact S) ?_
   refine o_assign rfl rfl ?_
   refine l_nil ?_
   refine q_then ?_
   refine c_seq ?_
   have hlo : (out ++ [x25]).length = out.length + 1 := by simp
   refine c_region ?_
   refine o_move rfl rfl ?_
   refine o_len rfl rfl Try.underlying27 ?_
   refine o_bin rfl rfl rfl (b_sub (wrap_i64 (by omega) (by omega))) ?_
   refine o_assign rfl rfl ?_
   refine l_nil ?_
   refine q_then ?_
   refine c_block ?_
   refine c_loop (α := Nat × (List ByteArray)) (fun z => [(3, .slice a34 (z.2).length c34), (4, .slice a15 ((t.f_Reads.xs ++ t.f_Writes.xs)).length c15), (5, .int .i64 (i : Int)), (6, .int .i64 (z.1 : Int))]) (fun z => row e_S.T e_S.sz a34 (z.2).length c34 (flat e_S z.2) :: blk b1 (.cells #[.int .i64 t.f_Kind, .slice t.f_Reads.a (t.f_Reads.xs).length t.f_Reads.c, .slice t.f_Writes.a (t.f_Writes.xs).length t.f_Writes.c, .slice t.f_Ops.a (t.f_Ops.xs).length t.f_Ops.c, .int .i64 t.f_To] 30 (0, 0)) :: row e_S.T e_S.sz a15 ((t.f_Reads.xs ++ t.f_Writes.xs)).length c15 (flat e_S (t.f_Reads.xs ++ t.f_Writes.xs)) :: F) (fun z => InsAt strlt out x25 z.1 z.2) (fun z => z.1) (out.length, out ++ [x25]) (by exact insAt_0 out x25) ⟨(by first | rfl | exact vint (by omega)), (by first | rfl | exact vint (by omega)), (by first | rfl | exact vint (by omega)), (by first | rfl | exact vint (by omega)), trivial⟩ (fun w S => S) ?_
   rintro ⟨k, cur⟩ hin
   try dsimp only at *
   have hcl := insAt_len hin
   refine c_seq ?_
   refine c_seq ?_
   refine c_fact (p := ∃ ad, a34 = some ad) (rds_some (e := e_S) (xs := cur) (rds_own e_S_ok 0 rfl) (by intro h0; have h00 := congrArg List.length h0; simp only [List.length_nil] at h00; omega)) ?_
   rintro ⟨adx, eadx⟩
   refine c_quiet (by kernel_rfl) (by kernel_rfl) ?_
   refine Qt.o_val rfl (v_move rfl rfl) ?_
   refine Qt.o_val rfl (v_bin rfl rfl rfl b_gtr) ?_
   refine Qt.o_val rfl (v_move rfl rfl) ?_
   refine Qt.l_split (t := 40) rfl (fun h3 => ?_) (fun h3 => ?_)
   · -- h3T
    have h3b := h3
    try simp only [decide_eq_true_eq] at h3
    refine Qt.o_yes rfl rfl rfl ?_
    refine Qt.o_val rfl (v_move rfl rfl) ?_
    refine Qt.o_yes rfl rfl rfl ?_
    refine Qt.o_val rfl (v_move rfl rfl) ?_
    refine Qt.o_yes rfl rfl rfl ?_
    refine Qt.o_val rfl (v_indexK e_S_ok eadx rfl rfl rfl Try.underlying27 (by omega) (by omega)) ?_
    obtain ⟨x43, hx43⟩ : ∃ x, (cur)[((k : Int)).toNat]? = some x := ⟨_, List.getElem?_eq_getElem (by (try simp only [List.length_set]); omega)⟩
    refine Qt.o_yes rfl rfl rfl ?_
    refine Qt.o_val rfl (v_load1 rfl rfl Try.underlying9 rfl (rd_sl0 e_S_ok eadx (rds_own e_S_ok 0 rfl) hx43 rfl)) ?_
    refine Qt.o_yes rfl rfl rfl ?_
    refine Qt.o_val rfl (v_move rfl rfl) ?_
    refine Qt.o_yes rfl rfl rfl ?_
    refine Qt.o_val rfl (v_move rfl rfl) ?_
    refine Qt.o_yes rfl rfl rfl ?_
    refine Qt.o_val rfl (v_bin rfl rfl rfl (b_sub (wrap_i64 (by omega) (by omega)))) ?_
    refine Qt.o_yes rfl rfl rfl ?_
    refine Qt.o_val rfl (v_indexK e_S_ok eadx rfl rfl rfl Try.underlying27 (by omega) (by omega)) ?_
    obtain ⟨x48, hx48⟩ : ∃ x, (cur)[((k : Int) - 1).toNat]? = some x := ⟨_, List.getElem?_eq_getElem (by (try simp only [List.length_set]); omega)⟩
    have hk1 : ((k : Int) - 1).toNat = k - 1 := by omega
    refine Qt.o_yes rfl rfl rfl ?_
    refine Qt.o_val rfl (v_load1 rfl rfl Try.underlying9 rfl (rd_sl0 e_S_ok eadx (rds_own e_S_ok 0 rfl) hx48 rfl)) ?_
    refine Qt.o_yes rfl rfl rfl ?_
    refine Qt.o_val rfl (v_bin rfl rfl rfl b_slss) ?_
    refine Qt.o_val rfl (v_pick_true rfl rfl rfl) ?_
    refine Qt.l_nil ?_
    refine q_then ?_
    refine c_cond rfl (fun h4 => ?_) (fun h4 => ?_)
    · -- h4T
     have h4b := h4
     try simp only [decide_eq_true_eq, decide_eq_false_iff_not, Bool.not_eq_eq_eq_not, Bool.not_true, Bool.not_false, Bool.not_eq_true', Bool.not_eq_false', Int.not_lt, Int.not_le, Bool.or_eq_true, Bool.and_eq_true] at h4
     refine c_skip ?_
     refine q_then ?_
     refine c_seq ?_
     refine c_block ?_
     refine c_seq ?_
     refine c_region ?_
     refine o_move rfl rfl ?_
     refine o_move rfl rfl ?_
     refine o_indexK e_S_ok eadx rfl rfl rfl Try.underlying27 (by omega) (by omega) ?_
     obtain ⟨x56, hx56⟩ : ∃ x, (cur)[((k : Int)).toNat]? = some x := ⟨_, List.getElem?_eq_getElem (by (try simp only [List.length_set]); omega)⟩
     refine o_load1 rfl rfl Try.underlying9 rfl (rd_sl0 e_S_ok eadx (rds_own e_S_ok 0 rfl) hx56 rfl) ?_
     refine o_assign rfl rfl ?_
     refine l_nil ?_
     refine q_then ?_
     refine c_seq ?_
     refine c_region ?_
     refine o_move rfl rfl ?_
     refine o_move rfl rfl ?_
     refine o_move rfl rfl ?_
     refine o_move rfl rfl ?_
     refine o_bin rfl rfl rfl (b_sub (wrap_i64 (by omega) (by omega))) ?_
     refine o_indexK e_S_ok eadx rfl rfl rfl Try.underlying27 (by omega) (by omega) ?_
     obtain ⟨x63, hx63⟩ : ∃ x, (cur)[((k : Int) - 1).toNat]? = some x := ⟨_, List.getElem?_eq_getElem (by (try simp only [List.length_set]); omega)⟩
     have hsl : strlt x56 x63 := by rw [show x56 = x43 from by rw [hx43] at hx56; exact (Option.some.inj hx56).symm, show x63 = x48 from by rw [hx48] at hx63; exact (Option.some.inj hx63).symm]; show slt _ _ = true; simpa using h4
     refine o_load1 rfl rfl Try.underlying9 rfl (rd_sl0 e_S_ok eadx (rds_own e_S_ok 0 rfl) hx63 rfl) ?_
     refine o_indexK e_S_ok eadx rfl rfl rfl Try.underlying27 (by omega) (by omega) ?_
     obtain ⟨x65, hx65⟩ : ∃ x, (cur)[((k : Int)).toNat]? = some x := ⟨_, List.getElem?_eq_getElem (by (try simp only [List.length_set]); omega)⟩
     refine o_storeRow0 (x1 := x63) e_S_ok eadx rfl rfl rfl ti9 hx65 rfl ?_
     refine l_nil ?_
     refine q_then ?_
     have hcs : (cur.set ((k : Int)).toNat x63).length = cur.length := List.length_set
     refine c_region ?_
     refine o_move rfl rfl ?_
     refine o_move rfl rfl ?_
     refine o_bin rfl rfl rfl (b_sub (wrap_i64 (by omega) (by omega))) ?_
     refine o_move rfl rfl ?_
     refine o_indexK e_S_ok eadx rfl rfl rfl Try.underlying27 (by omega) (by omega) ?_
     obtain ⟨x70, hx70⟩ : ∃ x, ((cur).set ((k : Int)).toNat x63)[((k : Int) - 1).toNat]? = some x := ⟨_, List.getElem?_eq_getElem (by (try simp only [List.length_set]); omega)⟩
     refine o_storeRow0 (x1 := x56) e_S_ok eadx rfl rfl rfl ti9 hx70 rfl ?_
     refine l_nil ?_
     refine q_block ?_
     refine q_then ?_
     refine c_region ?_
     refine o_move rfl rfl ?_
     refine o_bin rfl rfl rfl (b_sub (wrap_i64 (by omega) (by omega))) ?_
     refine o_assign rfl rfl ?_
     refine l_nil ?_
     exact q_round (k - 1, (cur.set ((k : Int)).toNat x63).set ((k : Int) - 1).toNat x56) (by exact ins_step (by omega) hin hx56 hx63 hsl) (by (try dsimp only); omega) ⟨(by (try dsimp only); rw [List.length_set, List.length_set]; rfl), (by first | rfl | exact vint (by omega)), (by first | rfl | exact vint (by omega)), (by first | rfl | exact vint (by omega)), trivial⟩ (fun w S => S)
    · -- h4F
     have h4b := h4
     try simp only [decide_eq_true_eq, decide_eq_false_iff_not, Bool.not_eq_eq_eq_not, Bool.not_true, Bool.not_false, Bool.not_eq_true', Bool.not_eq_false', Int.not_lt, Int.not_le, Bool.or_eq_true, Bool.and_eq_true] at h4
     refine c_exit ?_
     refine q_pass_exit ?_
     refine q_pass_exit ?_
     refine q_hit ?_
     refine q_block ?_
     refine q_then ?_
     refine c_region ?_
     refine o_move rfl rfl ?_
     refine o_bin rfl rfl rfl (b_add (wrap_i64 (by omega) (by omega))) ?_
     refine o_assign rfl rfl ?_
     refine l_nil ?_
     exact q_round (i + 1, cur, a34, c34) (by exact ⟨by omega, by rw [setOf_take_on strlt_sto (x := x25) (by simpa using hx25), ← ho]; exact insAt_end strlt_sto hin (by rw [ho]; exact setOf_srt strlt_sto _) h2 (.inr ⟨x43, x48, by simpa using hx43, by rw [← hk1]; exact hx48, by show ¬ slt _ _ = true; simpa using h4⟩)⟩) (by (try dsimp only); omega) ⟨(by first | rfl | exact vint (by omega)), (by first | rfl | exact vint (by omega)), (by first | rfl | exact vint (by omega)), trivial⟩ (fun w S => S)
   · -- h3F
    have h3b := h3
    try simp only [decide_eq_false_iff_not, Int.not_lt, Int.not_le] at h3
    refine Qt.o_no rfl rfl rfl rfl ?_
    refine Qt.o_no rfl rfl rfl rfl ?_
    refine Qt.o_no rfl rfl rfl rfl ?_
    refine Qt.o_no rfl rfl rfl rfl ?_
    refine Qt.o_no rfl rfl rfl rfl ?_
    refine Qt.o_no rfl rfl rfl rfl ?_
    refine Qt.o_no rfl rfl rfl rfl ?_
    refine Qt.o_no rfl rfl rfl rfl ?_
    refine Qt.o_no rfl rfl rfl rfl ?_
    refine Qt.o_no rfl rfl rfl rfl ?_
    refine Qt.o_val rfl (v_pick_false rfl rfl rfl) ?_
    refine Qt.l_nil ?_
    refine q_then ?_
    refine c_false rfl ?_
    refine c_exit ?_
    refine q_pass_exit ?_
    refine q_pass_exit ?_
    refine q_hit ?_
    refine q_block ?_
    refine q_then ?_
    refine c_region ?_
    refine o_move rfl rfl ?_
    refine o_bin rfl rfl rfl (b_add (wrap_i64 (by omega) (by omega))) ?_
    refine o_assign rfl rfl ?_
    refine l_nil ?_
    exact q_round (i + 1, cur, a34, c34) (by exact ⟨by omega, by rw [setOf_take_on strlt_sto (x := x25) (by simpa using hx25), ← ho]; exact insAt_end strlt_sto hin (by rw [ho]; exact setOf_srt strlt_sto _) h2 (.inl (by omega))⟩) (by (try dsimp only); omega) ⟨(by first | rfl | exact vint (by omega)), (by first | rfl | exact vint (by omega)), (by first | rfl | exact vint (by omega)), trivial⟩ (fun w S => S)
 · -- h1F
  have h1b := h1
  try simp only [decide_eq_false_iff_not, Int.not_lt, Int.not_le] at h1
  refine c_exit ?_
  refine q_pass_exit ?_
  refine q_pass_exit ?_
  refine q_hit ?_
  refine q_then ?_
  refine c_seq ?_
  have hall : out = keysT t := by rw [ho, List.take_of_length_le (by omega)]; rfl
  refine c_region ?_
  refine o_move rfl rfl ?_
  refine o_assign rfl rfl ?_
  refine l_nil ?_
  refine q_then ?_
  refine c_ret ?_
  refine q_conv (fun w S => (S.perm p1).tail) ?_
  refine q_conv (fun w S => (S.perm p1).tail) ?_
  exact f_ret (r_one rfl rfl) (⟨a3, c3, by rw [hall], by rw [hall]⟩) (fun w S => S)

end Go.Proofs.Ytlblipkcbmcfkaa
