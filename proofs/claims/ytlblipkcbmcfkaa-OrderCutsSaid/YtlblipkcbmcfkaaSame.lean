/- Printed by eng2.py out of 09a/spec.py. -/
import Derived.Test.YtlblipkcbmcfkaaFuns
set_option linter.unusedVariables false
set_option linter.unusedSimpArgs false
set_option maxRecDepth 10000
namespace Go.Proofs.Ytlblipkcbmcfkaa
open Go.RowKit Classical
theorem eqTo_on {α : Type} {xs ys : List α} {i : Nat} {x y : α} (h : ∀ j, j < i → xs[j]? = ys[j]?) (hx : xs[i]? = some x) (hy : ys[i]? = some y) (e : x = y) : ∀ j, j < i + 1 → xs[j]? = ys[j]? := fun j hj => by
  by_cases hji : j < i
  · exact h j hji
  · obtain rfl : j = i := by omega
    rw [hx, hy, e]
theorem eqTo_all {α : Type} {xs ys : List α} {i : Nat} (h : ∀ j, j < i → xs[j]? = ys[j]?) (hl : xs.length = ys.length) (hi : xs.length ≤ i) : xs = ys := List.ext_getElem? fun j => by
  by_cases hj : j < i
  · exact h j hj
  · rw [List.getElem?_eq_none (by omega), List.getElem?_eq_none (by omega)]
theorem sameTexts_ {W : World} {F : List Res} {xs : List ByteArray} {a : Option Addr} {c : Nat} (hs : RdS W F e_S a xs) (hn : xs.length ≤ 9223372036854775807) {ys : List ByteArray} {b : Option Addr} {c2 : Nat} (hs2 : RdS W F e_S b ys) : CS Try.prog 51 #[.slice a (xs).length c, .slice b (ys).length c2] W (F) (fun r L' => r = .bool (decide (xs = ys)) ∧ F = L') := by
 refine f_door (l0 := [(0, .slice a (xs).length c), (1, .slice b (ys).length c2)]) Try.func51 Try.ntmps51 rfl rfl rfl ?_
 refine c_seq ?_
 refine c_region ?_
 refine o_assign rfl rfl ?_
 refine l_nil ?_
 refine q_then ?_
 refine c_seq ?_
 refine c_seq ?_
 refine c_region ?_
 refine o_move rfl rfl ?_
 refine o_len rfl rfl Try.underlying27 ?_
 refine o_move rfl rfl ?_
 refine o_len rfl rfl Try.underlying27 ?_
 refine o_bin rfl rfl rfl b_neq ?_
 refine l_nil ?_
 refine q_then ?_
 refine c_cond rfl (fun h1 => ?_) (fun h1 => ?_)
 · -- h1T
  have h1b := h1
  try simp only [Bool.not_eq_true', decide_eq_false_iff_not, Int.not_lt, Int.not_le] at h1
  refine c_seq ?_
  refine c_region ?_
  refine o_assign rfl rfl ?_
  refine l_nil ?_
  refine q_then ?_
  refine c_ret ?_
  refine q_pass_ret ?_
  exact f_ret (r_one rfl rfl) (⟨vfalse (fun h9 => h1 (by rw [h9])), rfl⟩) (fun w S => S)
 · -- h1F
  have h1b := h1
  try simp only [Bool.not_eq_false', decide_eq_true_eq] at h1
  refine c_skip ?_
  refine q_then ?_
  refine c_seq ?_
  refine c_seq ?_
  refine c_region ?_
  refine o_assign rfl rfl ?_
  refine l_nil ?_
  refine q_then ?_
  refine c_block ?_
  refine c_loop (α := Nat) (fun z => [(0, .slice a (xs).length c), (1, .slice b (ys).length c2), (5, .int .i64 (z : Int))]) (fun z => F) (fun z => z ≤ xs.length ∧ ∀ j, j < z → xs[j]? = ys[j]?) (fun z => xs.length - z) (0) (by exact ⟨Nat.zero_le _, fun j h => absurd h (by omega)⟩) ⟨(by first | rfl | exact vint (by omega)), (by first | rfl | exact vint (by omega)), (by first | rfl | exact vint (by omega)), trivial⟩ (fun w S => S) ?_
  rintro i ⟨hi, heq⟩
  try dsimp only at *
  refine c_seq ?_
  refine c_seq ?_
  refine c_region ?_
  refine o_move rfl rfl ?_
  refine o_move rfl rfl ?_
  refine o_len rfl rfl Try.underlying27 ?_
  refine o_bin rfl rfl rfl b_lss ?_
  refine l_nil ?_
  refine q_then ?_
  refine c_cond rfl (fun h2 => ?_) (fun h2 => ?_)
  · -- h2T
   have h2b := h2
   try simp only [decide_eq_true_eq] at h2
   refine c_skip ?_
   refine q_then ?_
   refine c_seq ?_
   refine c_block ?_
   refine c_seq ?_
   refine c_fact (p := ∃ ad, a = some ad) (rds_some (e := e_S) (xs := xs) hs (by intro h0; have h00 := congrArg List.length h0; simp only [List.length_nil] at h00; omega)) ?_
   rintro ⟨adx, eadx⟩
   refine c_fact (p := ∃ ad, b = some ad) (rds_some (e := e_S) (xs := ys) hs2 (by intro h0; have h00 := congrArg List.length h0; simp only [List.length_nil] at h00; omega)) ?_
   rintro ⟨ady, eady⟩
   refine c_quiet (by kernel_rfl) (by kernel_rfl) ?_
   refine Qt.o_val rfl (v_move rfl rfl) ?_
   refine Qt.o_val rfl (v_move rfl rfl) ?_
   refine Qt.o_val rfl (v_indexK e_S_ok eadx rfl rfl rfl Try.underlying27 (by omega) (by omega)) ?_
   obtain ⟨x19, hx19⟩ : ∃ x, (xs)[((i : Int)).toNat]? = some x := ⟨_, List.getElem?_eq_getElem (by omega)⟩
   refine Qt.o_val rfl (v_load1 rfl rfl Try.underlying9 rfl (rd_sl0 e_S_ok eadx hs hx19 rfl)) ?_
   refine Qt.o_val rfl (v_move rfl rfl) ?_
   refine Qt.o_val rfl (v_move rfl rfl) ?_
   refine Qt.o_val rfl (v_indexK e_S_ok eady rfl rfl rfl Try.underlying27 (by omega) (by omega)) ?_
   obtain ⟨x23, hx23⟩ : ∃ x, (ys)[((i : Int)).toNat]? = some x := ⟨_, List.getElem?_eq_getElem (by omega)⟩
   have hxA : xs[i]? = some x19 := hx19
   have hxB : ys[i]? = some x23 := hx23
   refine Qt.o_val rfl (v_load1 rfl rfl Try.underlying9 rfl (rd_sl0 e_S_ok eady hs2 hx23 rfl)) ?_
   refine Qt.o_val rfl (v_bin rfl rfl rfl b_sneq) ?_
   refine Qt.l_nil ?_
   refine q_then ?_
   refine c_cond rfl (fun h3 => ?_) (fun h3 => ?_)
   · -- h3T
    have h3b := h3
    try simp only [Bool.not_eq_true', decide_eq_false_iff_not, Int.not_lt, Int.not_le] at h3
    refine c_seq ?_
    refine c_region ?_
    refine o_assign rfl rfl ?_
    refine l_nil ?_
    refine q_then ?_
    refine c_ret ?_
    refine q_block_ret ?_
    refine q_pass_ret ?_
    refine q_pass_ret ?_
    refine q_block_ret ?_
    refine q_pass_ret ?_
    exact f_ret (r_one rfl rfl) (⟨vfalse (fun h9 => by rw [h9] at hxA; rw [hxA] at hxB; exact h3 (Option.some.inj hxB)), rfl⟩) (fun w S => S)
   · -- h3F
    have h3b := h3
    try simp only [Bool.not_eq_false', decide_eq_true_eq] at h3
    refine c_skip ?_
    refine q_block ?_
    refine q_then ?_
    refine c_region ?_
    refine o_move rfl rfl ?_
    refine o_bin rfl rfl rfl (b_add (wrap_i64 (by omega) (by omega))) ?_
    refine o_assign rfl rfl ?_
    refine l_nil ?_
    exact q_round (i + 1) (by exact ⟨by omega, eqTo_on heq hxA hxB h3⟩) (by (try dsimp only); omega) ⟨(by first | rfl | exact vint (by omega)), (by first | rfl | exact vint (by omega)), (by first | rfl | exact vint (by omega)), trivial⟩ (fun w S => S)
  · -- h2F
   have h2b := h2
   try simp only [decide_eq_false_iff_not, Int.not_lt, Int.not_le] at h2
   refine c_exit ?_
   refine q_pass_exit ?_
   refine q_pass_exit ?_
   refine q_hit ?_
   refine q_then ?_
   refine c_seq ?_
   refine c_region ?_
   refine o_assign rfl rfl ?_
   refine l_nil ?_
   refine q_then ?_
   refine c_ret ?_
   exact f_ret (r_one rfl rfl) (⟨vtrue (eqTo_all heq (by omega) (by omega)), rfl⟩) (fun w S => S)

set_option maxHeartbeats 1000000 in
theorem same_ {W : World} {F : List Res} {a b : Txn} (T_a : TxR W F a) (T_b : TxR W F b) : CS Try.prog 30 #[.agg #[.int .i64 a.f_Kind, .slice a.f_Reads.a (a.f_Reads.xs).length a.f_Reads.c, .slice a.f_Writes.a (a.f_Writes.xs).length a.f_Writes.c, .slice a.f_Ops.a (a.f_Ops.xs).length a.f_Ops.c, .int .i64 a.f_To], .agg #[.int .i64 b.f_Kind, .slice b.f_Reads.a (b.f_Reads.xs).length b.f_Reads.c, .slice b.f_Writes.a (b.f_Writes.xs).length b.f_Writes.c, .slice b.f_Ops.a (b.f_Ops.xs).length b.f_Ops.c, .int .i64 b.f_To]] W (F) (fun r L' => r = .bool (decide (SameT a b)) ∧ F = L') := by
 have hla := T_a.len.lo
 refine f_door (l0 := [(0, .agg #[.int .i64 a.f_Kind, .slice a.f_Reads.a (a.f_Reads.xs).length a.f_Reads.c, .slice a.f_Writes.a (a.f_Writes.xs).length a.f_Writes.c, .slice a.f_Ops.a (a.f_Ops.xs).length a.f_Ops.c, .int .i64 a.f_To]), (1, .agg #[.int .i64 b.f_Kind, .slice b.f_Reads.a (b.f_Reads.xs).length b.f_Reads.c, .slice b.f_Writes.a (b.f_Writes.xs).length b.f_Writes.c, .slice b.f_Ops.a (b.f_Ops.xs).length b.f_Ops.c, .int .i64 b.f_To])]) Try.func30 Try.ntmps30 rfl rfl rfl ?_
 refine c_seq ?_
 refine c_region ?_
 refine o_box rfl rfl fun b2 => ?_
 refine o_box rfl rfl fun b3 => ?_
 refine o_assign rfl rfl ?_
 refine l_nil ?_
 refine q_then ?_
 refine c_seq ?_
 refine c_seq ?_
 refine c_region ?_
 refine o_fieldAddr (q := ⟨b2, 0, none⟩) rfl rfl Try.underlying30 rfl ti3 rfl ?_
 refine o_load1 rfl rfl Try.underlying3 rfl (rd_mem 1 rfl rfl) ?_
 refine o_fieldAddr (q := ⟨b3, 0, none⟩) rfl rfl Try.underlying30 rfl ti3 rfl ?_
 refine o_load1 rfl rfl Try.underlying3 rfl (rd_mem 0 rfl rfl) ?_
 refine o_bin rfl rfl rfl b_neq ?_
 refine o_move rfl rfl ?_
 refine l_split (t := 13) rfl (fun h1 => ?_) (fun h1 => ?_)
 · -- h1T
  have h1b := h1
  try simp only [Bool.not_eq_true', decide_eq_false_iff_not, Int.not_lt, Int.not_le] at h1
  refine o_no rfl rfl rfl rfl ?_
  refine o_no rfl rfl rfl rfl ?_
  refine o_no rfl rfl rfl rfl ?_
  refine o_no rfl rfl rfl rfl ?_
  refine o_no rfl rfl rfl rfl ?_
  refine o_pick_true rfl rfl rfl ?_
  refine o_move rfl rfl ?_
  refine o_no rfl rfl rfl rfl ?_
  refine o_no rfl rfl rfl rfl ?_
  refine o_no rfl rfl rfl rfl ?_
  refine o_no rfl rfl rfl rfl ?_
  refine o_no rfl rfl rfl rfl ?_
  refine o_no rfl rfl rfl rfl ?_
  refine o_pick_true rfl rfl rfl ?_
  refine o_move rfl rfl ?_
  refine o_no rfl rfl rfl rfl ?_
  refine o_no rfl rfl rfl rfl ?_
  refine o_no rfl rfl rfl rfl ?_
  refine o_no rfl rfl rfl rfl ?_
  refine o_no rfl rfl rfl rfl ?_
  refine o_no rfl rfl rfl rfl ?_
  refine o_pick_true rfl rfl rfl ?_
  refine o_move rfl rfl ?_
  refine o_no rfl rfl rfl rfl ?_
  refine o_no rfl rfl rfl rfl ?_
  refine o_no rfl rfl rfl rfl ?_
  refine o_no rfl rfl rfl rfl ?_
  refine o_no rfl rfl rfl rfl ?_
  refine o_no rfl rfl rfl rfl ?_
  refine o_no rfl rfl rfl rfl ?_
  refine o_pick_true rfl rfl rfl ?_
  refine l_nil ?_
  refine q_then ?_
  refine c_true rfl ?_
  refine c_seq ?_
  refine c_region ?_
  refine o_assign rfl rfl ?_
  refine l_nil ?_
  refine q_then ?_
  refine c_ret ?_
  refine q_pass_ret ?_
  refine q_conv (fun w S => S.tail) ?_
  refine q_conv (fun w S => S.tail) ?_
  exact f_ret (r_one rfl rfl) (⟨by first | exact vtrue (by unfold SameT; grind) | exact vfalse (by unfold SameT; grind), rfl⟩) (fun w S => S)
 · -- h1F
  have h1b := h1
  try simp only [Bool.not_eq_false', decide_eq_true_eq] at h1
  refine o_yes rfl rfl rfl ?_
  refine o_fieldAddr (q := ⟨b2, 4, none⟩) rfl rfl Try.underlying30 rfl ti3 rfl ?_
  refine o_yes rfl rfl rfl ?_
  refine o_load1 rfl rfl Try.underlying3 rfl (rd_mem 1 rfl rfl) ?_
  refine o_yes rfl rfl rfl ?_
  refine o_fieldAddr (q := ⟨b3, 4, none⟩) rfl rfl Try.underlying30 rfl ti3 rfl ?_
  refine o_yes rfl rfl rfl ?_
  refine o_load1 rfl rfl Try.underlying3 rfl (rd_mem 0 rfl rfl) ?_
  refine o_yes rfl rfl rfl ?_
  refine o_bin rfl rfl rfl b_neq ?_
  refine o_pick_false rfl rfl rfl ?_
  refine o_move rfl rfl ?_
  refine l_split (t := 20) rfl (fun h2 => ?_) (fun h2 => ?_)
  · -- h2T
   have h2b := h2
   try simp only [Bool.not_eq_true', decide_eq_false_iff_not, Int.not_lt, Int.not_le] at h2
   refine o_no rfl rfl rfl rfl ?_
   refine o_no rfl rfl rfl rfl ?_
   refine o_no rfl rfl rfl rfl ?_
   refine o_no rfl rfl rfl rfl ?_
   refine o_no rfl rfl rfl rfl ?_
   refine o_no rfl rfl rfl rfl ?_
   refine o_pick_true rfl rfl rfl ?_
   refine o_move rfl rfl ?_
   refine o_no rfl rfl rfl rfl ?_
   refine o_no rfl rfl rfl rfl ?_
   refine o_no rfl rfl rfl rfl ?_
   refine o_no rfl rfl rfl rfl ?_
   refine o_no rfl rfl rfl rfl ?_
   refine o_no rfl rfl rfl rfl ?_
   refine o_pick_true rfl rfl rfl ?_
   refine o_move rfl rfl ?_
   refine o_no rfl rfl rfl rfl ?_
   refine o_no rfl rfl rfl rfl ?_
   refine o_no rfl rfl rfl rfl ?_
   refine o_no rfl rfl rfl rfl ?_
   refine o_no rfl rfl rfl rfl ?_
   refine o_no rfl rfl rfl rfl ?_
   refine o_no rfl rfl rfl rfl ?_
   refine o_pick_true rfl rfl rfl ?_
   refine l_nil ?_
   refine q_then ?_
   refine c_true rfl ?_
   refine c_seq ?_
   refine c_region ?_
   refine o_assign rfl rfl ?_
   refine l_nil ?_
   refine q_then ?_
   refine c_ret ?_
   refine q_pass_ret ?_
   refine q_conv (fun w S => S.tail) ?_
   refine q_conv (fun w S => S.tail) ?_
   exact f_ret (r_one rfl rfl) (⟨by first | exact vtrue (by unfold SameT; grind) | exact vfalse (by unfold SameT; grind), rfl⟩) (fun w S => S)
  · -- h2F
   have h2b := h2
   try simp only [Bool.not_eq_false', decide_eq_true_eq] at h2
   refine o_yes rfl rfl rfl ?_
   refine o_fieldAddr (q := ⟨b2, 1, none⟩) rfl rfl Try.underlying30 rfl ti27 rfl ?_
   refine o_yes rfl rfl rfl ?_
   refine o_load1 rfl rfl Try.underlying27 rfl (rd_mem 1 rfl rfl) ?_
   refine o_yes rfl rfl rfl ?_
   refine o_fieldAddr (q := ⟨b3, 1, none⟩) rfl rfl Try.underlying30 rfl ti27 rfl ?_
   refine o_yes rfl rfl rfl ?_
   refine o_load1 rfl rfl Try.underlying27 rfl (rd_mem 0 rfl rfl) ?_
   refine o_yes rfl rfl rfl ?_
   refine o_call rfl cal51 rfl (sameTexts_ (TxR.c (TxR.c T_a)).rr (by first | exact T_a.len.lr | exact T_a.len.lw | exact T_a.len.lo | omega) (TxR.c (TxR.c T_b)).rr) ?_
   rintro _ _ ⟨rfl, rfl⟩
   refine o_yes rfl rfl rfl ?_
   refine o_not rfl rfl ?_
   refine o_pick_false rfl rfl rfl ?_
   refine o_move rfl rfl ?_
   refine l_split (t := 28) rfl (fun h3 => ?_) (fun h3 => ?_)
   · -- h3T
    have h3b := h3
    try simp only [Bool.not_eq_true', decide_eq_false_iff_not, Int.not_lt, Int.not_le] at h3
    refine o_no rfl rfl rfl rfl ?_
    refine o_no rfl rfl rfl rfl ?_
    refine o_no rfl rfl rfl rfl ?_
    refine o_no rfl rfl rfl rfl ?_
    refine o_no rfl rfl rfl rfl ?_
    refine o_no rfl rfl rfl rfl ?_
    refine o_pick_true rfl rfl rfl ?_
    refine o_move rfl rfl ?_
    refine o_no rfl rfl rfl rfl ?_
    refine o_no rfl rfl rfl rfl ?_
    refine o_no rfl rfl rfl rfl ?_
    refine o_no rfl rfl rfl rfl ?_
    refine o_no rfl rfl rfl rfl ?_
    refine o_no rfl rfl rfl rfl ?_
    refine o_no rfl rfl rfl rfl ?_
    refine o_pick_true rfl rfl rfl ?_
    refine l_nil ?_
    refine q_then ?_
    refine c_true rfl ?_
    refine c_seq ?_
    refine c_region ?_
    refine o_assign rfl rfl ?_
    refine l_nil ?_
    refine q_then ?_
    refine c_ret ?_
    refine q_pass_ret ?_
    refine q_conv (fun w S => S.tail) ?_
    refine q_conv (fun w S => S.tail) ?_
    exact f_ret (r_one rfl rfl) (⟨by first | exact vtrue (by unfold SameT; grind) | exact vfalse (by unfold SameT; grind), rfl⟩) (fun w S => S)
   · -- h3F
    have h3b := h3
    try simp only [Bool.not_eq_false', decide_eq_true_eq] at h3
    refine o_yes rfl rfl rfl ?_
    refine o_fieldAddr (q := ⟨b2, 2, none⟩) rfl rfl Try.underlying30 rfl ti27 rfl ?_
    refine o_yes rfl rfl rfl ?_
    refine o_load1 rfl rfl Try.underlying27 rfl (rd_mem 1 rfl rfl) ?_
    refine o_yes rfl rfl rfl ?_
    refine o_fieldAddr (q := ⟨b3, 2, none⟩) rfl rfl Try.underlying30 rfl ti27 rfl ?_
    refine o_yes rfl rfl rfl ?_
    refine o_load1 rfl rfl Try.underlying27 rfl (rd_mem 0 rfl rfl) ?_
    refine o_yes rfl rfl rfl ?_
    refine o_call rfl cal51 rfl (sameTexts_ (TxR.c (TxR.c T_a)).rw (by first | exact T_a.len.lr | exact T_a.len.lw | exact T_a.len.lo | omega) (TxR.c (TxR.c T_b)).rw) ?_
    rintro _ _ ⟨rfl, rfl⟩
    refine o_yes rfl rfl rfl ?_
    refine o_not rfl rfl ?_
    refine o_pick_false rfl rfl rfl ?_
    refine o_move rfl rfl ?_
    refine l_split (t := 36) rfl (fun h4 => ?_) (fun h4 => ?_)
    · -- h4T
     have h4b := h4
     try simp only [Bool.not_eq_true', decide_eq_false_iff_not, Int.not_lt, Int.not_le] at h4
     refine o_no rfl rfl rfl rfl ?_
     refine o_no rfl rfl rfl rfl ?_
     refine o_no rfl rfl rfl rfl ?_
     refine o_no rfl rfl rfl rfl ?_
     refine o_no rfl rfl rfl rfl ?_
     refine o_no rfl rfl rfl rfl ?_
     refine o_no rfl rfl rfl rfl ?_
     refine o_pick_true rfl rfl rfl ?_
     refine l_nil ?_
     refine q_then ?_
     refine c_true rfl ?_
     refine c_seq ?_
     refine c_region ?_
     refine o_assign rfl rfl ?_
     refine l_nil ?_
     refine q_then ?_
     refine c_ret ?_
     refine q_pass_ret ?_
     refine q_conv (fun w S => S.tail) ?_
     refine q_conv (fun w S => S.tail) ?_
     exact f_ret (r_one rfl rfl) (⟨by first | exact vtrue (by unfold SameT; grind) | exact vfalse (by unfold SameT; grind), rfl⟩) (fun w S => S)
    · -- h4F
     have h4b := h4
     try simp only [Bool.not_eq_false', decide_eq_true_eq] at h4
     refine o_yes rfl rfl rfl ?_
     refine o_fieldAddr (q := ⟨b2, 3, none⟩) rfl rfl Try.underlying30 rfl ti28 rfl ?_
     refine o_yes rfl rfl rfl ?_
     refine o_load1 rfl rfl Try.underlying28 rfl (rd_mem 1 rfl rfl) ?_
     refine o_yes rfl rfl rfl ?_
     refine o_len rfl rfl Try.underlying28 ?_
     refine o_yes rfl rfl rfl ?_
     refine o_fieldAddr (q := ⟨b3, 3, none⟩) rfl rfl Try.underlying30 rfl ti28 rfl ?_
     refine o_yes rfl rfl rfl ?_
     refine o_load1 rfl rfl Try.underlying28 rfl (rd_mem 0 rfl rfl) ?_
     refine o_yes rfl rfl rfl ?_
     refine o_len rfl rfl Try.underlying28 ?_
     refine o_yes rfl rfl rfl ?_
     refine o_bin rfl rfl rfl b_neq ?_
     refine o_pick_false rfl rfl rfl ?_
     refine l_nil ?_
     refine q_then ?_
     refine c_cond rfl (fun h5 => ?_) (fun h5 => ?_)
     · -- h5T
      have h5b := h5
      try simp only [Bool.not_eq_true', decide_eq_false_iff_not, Int.not_lt, Int.not_le] at h5
      refine c_seq ?_
      refine c_region ?_
      refine o_assign rfl rfl ?_
      refine l_nil ?_
      refine q_then ?_
      refine c_ret ?_
      refine q_pass_ret ?_
      refine q_conv (fun w S => S.tail) ?_
      refine q_conv (fun w S => S.tail) ?_
      exact f_ret (r_one rfl rfl) (⟨by first | exact vtrue (by unfold SameT; grind) | exact vfalse (by unfold SameT; grind), rfl⟩) (fun w S => S)
     · -- h5F
      have h5b := h5
      try simp only [Bool.not_eq_false', decide_eq_true_eq] at h5
      refine c_skip ?_
      refine q_then ?_
      refine c_seq ?_
      refine c_seq ?_
      refine c_region ?_
      refine o_assign rfl rfl ?_
      refine l_nil ?_
      refine q_then ?_
      refine c_block ?_
      refine c_loop (α := Nat) (fun z => [(2, .pointer (some ⟨b2, 0, none⟩)), (3, .pointer (some ⟨b3, 0, none⟩)), (5, .int .i64 (z : Int))]) (fun z => blk b3 (.cells #[.int .i64 b.f_Kind, .slice b.f_Reads.a (b.f_Reads.xs).length b.f_Reads.c, .slice b.f_Writes.a (b.f_Writes.xs).length b.f_Writes.c, .slice b.f_Ops.a (b.f_Ops.xs).length b.f_Ops.c, .int .i64 b.f_To] 30 (0, 0)) :: blk b2 (.cells #[.int .i64 a.f_Kind, .slice a.f_Reads.a (a.f_Reads.xs).length a.f_Reads.c, .slice a.f_Writes.a (a.f_Writes.xs).length a.f_Writes.c, .slice a.f_Ops.a (a.f_Ops.xs).length a.f_Ops.c, .int .i64 a.f_To] 30 (0, 0)) :: F) (fun z => z ≤ a.f_Ops.xs.length ∧ SameOps a.f_Ops.xs b.f_Ops.xs z) (fun z => a.f_Ops.xs.length - z) (0) (by exact ⟨Nat.zero_le _, sameOps_0⟩) ⟨(by first | rfl | exact vint (by omega)), (by first | rfl | exact vint (by omega)), (by first | rfl | exact vint (by omega)), trivial⟩ (fun w S => S) ?_
      rintro i ⟨hi, hso⟩
      try dsimp only at *
      refine c_seq ?_
      refine c_seq ?_
      refine c_region ?_
      refine o_move rfl rfl ?_
      refine o_fieldAddr (q := ⟨b2, 3, none⟩) rfl rfl Try.underlying30 rfl ti28 rfl ?_
      refine o_load1 rfl rfl Try.underlying28 rfl (rd_mem 1 rfl rfl) ?_
      refine o_len rfl rfl Try.underlying28 ?_
      refine o_bin rfl rfl rfl b_lss ?_
      refine l_nil ?_
      refine q_then ?_
      refine c_cond rfl (fun h6 => ?_) (fun h6 => ?_)
      · -- h6T
       have h6b := h6
       try simp only [decide_eq_true_eq] at h6
       refine c_skip ?_
       refine q_then ?_
       refine c_seq ?_
       refine c_block ?_
       refine c_seq ?_
       refine c_fact (p := ∃ ad, a.f_Ops.a = some ad) (rds_some (e := e_Op) (xs := a.f_Ops.xs) (TxR.c (TxR.c T_a)).ro (by intro h0; have h00 := congrArg List.length h0; simp only [List.length_nil] at h00; omega)) ?_
       rintro ⟨adx, eadx⟩
       refine c_fact (p := ∃ ad, b.f_Ops.a = some ad) (rds_some (e := e_Op) (xs := b.f_Ops.xs) (TxR.c (TxR.c T_b)).ro (by intro h0; have h00 := congrArg List.length h0; simp only [List.length_nil] at h00; omega)) ?_
       rintro ⟨ady, eady⟩
       refine c_heldF [] (blk b3 (.cells #[.int .i64 b.f_Kind, .slice b.f_Reads.a (b.f_Reads.xs).length b.f_Reads.c, .slice b.f_Writes.a (b.f_Writes.xs).length b.f_Writes.c, .slice b.f_Ops.a (b.f_Ops.xs).length b.f_Ops.c, .int .i64 b.f_To] 30 (0, 0)) :: blk b2 (.cells #[.int .i64 a.f_Kind, .slice a.f_Reads.a (a.f_Reads.xs).length a.f_Reads.c, .slice a.f_Writes.a (a.f_Writes.xs).length a.f_Writes.c, .slice a.f_Ops.a (a.f_Ops.xs).length a.f_Ops.c, .int .i64 a.f_To] 30 (0, 0)) :: F) (by kernel_rfl) ?_
       refine h_take 0 rfl rfl (by kernel_rfl) (by kernel_rfl) (by kernel_rfl) (fun L0 => v_fieldAddr (q := ⟨b2, 3, none⟩) rfl rfl Try.underlying30 rfl ti28 rfl) ?_
       refine h_take 1 rfl rfl (by kernel_rfl) (by kernel_rfl) (by kernel_rfl) (fun L0 => v_load1 rfl rfl Try.underlying28 rfl (rd_mem 1 rfl rfl)) ?_
       refine h_take 2 rfl rfl (by kernel_rfl) (by kernel_rfl) (by kernel_rfl) (fun L0 => v_move rfl rfl) ?_
       refine h_take 3 rfl rfl (by kernel_rfl) (by kernel_rfl) (by kernel_rfl) (fun L0 => v_indexK e_Op_ok eadx rfl rfl rfl Try.underlying28 (by omega) (by omega)) ?_
       obtain ⟨x55, hx55⟩ : ∃ x, (a.f_Ops.xs)[((i : Int)).toNat]? = some x := ⟨_, List.getElem?_eq_getElem (by omega)⟩
       refine h_take 4 rfl rfl (by kernel_rfl) (by kernel_rfl) (by kernel_rfl) (fun L0 => v_loadn (vs := e_Op.cells x55) rfl rfl Try.underlying53 rfl ti53 (rdn_sl e_Op_ok eadx (rds_app (TxR.c (TxR.c T_a)).ro) hx55)) ?_
       refine h_take 5 rfl rfl (by kernel_rfl) (by kernel_rfl) (by kernel_rfl) (fun L0 => v_fieldAddr (q := ⟨b3, 3, none⟩) rfl rfl Try.underlying30 rfl ti28 rfl) ?_
       refine h_take 6 rfl rfl (by kernel_rfl) (by kernel_rfl) (by kernel_rfl) (fun L0 => v_load1 rfl rfl Try.underlying28 rfl (rd_mem 0 rfl rfl)) ?_
       refine h_take 7 rfl rfl (by kernel_rfl) (by kernel_rfl) (by kernel_rfl) (fun L0 => v_move rfl rfl) ?_
       refine h_take 8 rfl rfl (by kernel_rfl) (by kernel_rfl) (by kernel_rfl) (fun L0 => v_indexK e_Op_ok eady rfl rfl rfl Try.underlying28 (by omega) (by omega)) ?_
       obtain ⟨x60, hx60⟩ : ∃ x, (b.f_Ops.xs)[((i : Int)).toNat]? = some x := ⟨_, List.getElem?_eq_getElem (by omega)⟩
       have hxA : a.f_Ops.xs[i]? = some x55 := hx55
       have hxB : b.f_Ops.xs[i]? = some x60 := hx60
       refine h_take 9 rfl rfl (by kernel_rfl) (by kernel_rfl) (by kernel_rfl) (fun L0 => v_loadn (vs := e_Op.cells x60) rfl rfl Try.underlying53 rfl ti53 (rdn_sl e_Op_ok eady (rds_app (TxR.c (TxR.c T_b)).ro) hx60)) ?_
       refine h_many (is := [10, 11]) (by kernel_rfl) (by decide) (forall_cons ⟨_, rfl, ?_⟩ (forall_cons ⟨_, rfl, ?_⟩ forall_nil))
       · -- 10 comes first
        refine l_conv (L' := blk b3 (.cells #[.int .i64 b.f_Kind, .slice b.f_Reads.a (b.f_Reads.xs).length b.f_Reads.c, .slice b.f_Writes.a (b.f_Writes.xs).length b.f_Writes.c, .slice b.f_Ops.a (b.f_Ops.xs).length b.f_Ops.c, .int .i64 b.f_To] 30 (0, 0)) :: blk b2 (.cells #[.int .i64 a.f_Kind, .slice a.f_Reads.a (a.f_Reads.xs).length a.f_Reads.c, .slice a.f_Writes.a (a.f_Writes.xs).length a.f_Writes.c, .slice a.f_Ops.a (a.f_Ops.xs).length a.f_Ops.c, .int .i64 a.f_To] 30 (0, 0)) :: F) (fun w S => S.perm List.perm_append_comm) ?_
        refine o_alloc rfl ti53 fun b6 => ?_
        refine l_nil ?_
        refine q_conv (L' := (blk b3 (.cells #[.int .i64 b.f_Kind, .slice b.f_Reads.a (b.f_Reads.xs).length b.f_Reads.c, .slice b.f_Writes.a (b.f_Writes.xs).length b.f_Writes.c, .slice b.f_Ops.a (b.f_Ops.xs).length b.f_Ops.c, .int .i64 b.f_To] 30 (0, 0)) :: blk b2 (.cells #[.int .i64 a.f_Kind, .slice a.f_Reads.a (a.f_Reads.xs).length a.f_Reads.c, .slice a.f_Writes.a (a.f_Writes.xs).length a.f_Writes.c, .slice a.f_Ops.a (a.f_Ops.xs).length a.f_Ops.c, .int .i64 a.f_To] 30 (0, 0)) :: F) ++ [blk b6 (.cells #[.int .i64 0, .string ByteArray.empty, .slice none 0 0, .int .i64 0] 53 (0, 0))]) (fun w S => S.perm (List.perm_append_comm (l₁ := [blk b6 (.cells #[.int .i64 0, .string ByteArray.empty, .slice none 0 0, .int .i64 0] 53 (0, 0))]) (l₂ := blk b3 (.cells #[.int .i64 b.f_Kind, .slice b.f_Reads.a (b.f_Reads.xs).length b.f_Reads.c, .slice b.f_Writes.a (b.f_Writes.xs).length b.f_Writes.c, .slice b.f_Ops.a (b.f_Ops.xs).length b.f_Ops.c, .int .i64 b.f_To] 30 (0, 0)) :: blk b2 (.cells #[.int .i64 a.f_Kind, .slice a.f_Reads.a (a.f_Reads.xs).length a.f_Reads.c, .slice a.f_Writes.a (a.f_Writes.xs).length a.f_Writes.c, .slice a.f_Ops.a (a.f_Ops.xs).length a.f_Ops.c, .int .i64 a.f_To] 30 (0, 0)) :: F))) ?_
        refine h_next ?_
        refine h_one 11 rfl (by kernel_rfl) ?_
        refine l_conv (L' := blk b6 (.cells #[.int .i64 0, .string ByteArray.empty, .slice none 0 0, .int .i64 0] 53 (0, 0)) :: blk b3 (.cells #[.int .i64 b.f_Kind, .slice b.f_Reads.a (b.f_Reads.xs).length b.f_Reads.c, .slice b.f_Writes.a (b.f_Writes.xs).length b.f_Writes.c, .slice b.f_Ops.a (b.f_Ops.xs).length b.f_Ops.c, .int .i64 b.f_To] 30 (0, 0)) :: blk b2 (.cells #[.int .i64 a.f_Kind, .slice a.f_Reads.a (a.f_Reads.xs).length a.f_Reads.c, .slice a.f_Writes.a (a.f_Writes.xs).length a.f_Writes.c, .slice a.f_Ops.a (a.f_Ops.xs).length a.f_Ops.c, .int .i64 a.f_To] 30 (0, 0)) :: F) (fun w S => S.perm List.perm_append_comm) ?_
        refine o_alloc rfl ti53 fun b7 => ?_
        refine l_nil ?_
        refine q_conv (L' := (blk b3 (.cells #[.int .i64 b.f_Kind, .slice b.f_Reads.a (b.f_Reads.xs).length b.f_Reads.c, .slice b.f_Writes.a (b.f_Writes.xs).length b.f_Writes.c, .slice b.f_Ops.a (b.f_Ops.xs).length b.f_Ops.c, .int .i64 b.f_To] 30 (0, 0)) :: blk b2 (.cells #[.int .i64 a.f_Kind, .slice a.f_Reads.a (a.f_Reads.xs).length a.f_Reads.c, .slice a.f_Writes.a (a.f_Writes.xs).length a.f_Writes.c, .slice a.f_Ops.a (a.f_Ops.xs).length a.f_Ops.c, .int .i64 a.f_To] 30 (0, 0)) :: F) ++ [blk b7 (.cells #[.int .i64 0, .string ByteArray.empty, .slice none 0 0, .int .i64 0] 53 (0, 0)), blk b6 (.cells #[.int .i64 0, .string ByteArray.empty, .slice none 0 0, .int .i64 0] 53 (0, 0))]) (fun w S => S.perm (List.perm_append_comm (l₁ := [blk b7 (.cells #[.int .i64 0, .string ByteArray.empty, .slice none 0 0, .int .i64 0] 53 (0, 0)), blk b6 (.cells #[.int .i64 0, .string ByteArray.empty, .slice none 0 0, .int .i64 0] 53 (0, 0))]) (l₂ := blk b3 (.cells #[.int .i64 b.f_Kind, .slice b.f_Reads.a (b.f_Reads.xs).length b.f_Reads.c, .slice b.f_Writes.a (b.f_Writes.xs).length b.f_Writes.c, .slice b.f_Ops.a (b.f_Ops.xs).length b.f_Ops.c, .int .i64 b.f_To] 30 (0, 0)) :: blk b2 (.cells #[.int .i64 a.f_Kind, .slice a.f_Reads.a (a.f_Reads.xs).length a.f_Reads.c, .slice a.f_Writes.a (a.f_Writes.xs).length a.f_Writes.c, .slice a.f_Ops.a (a.f_Ops.xs).length a.f_Ops.c, .int .i64 a.f_To] 30 (0, 0)) :: F))) ?_
        refine h_next ?_
        refine h_one 12 rfl (by kernel_rfl) ?_
        refine l_conv (L' := blk b7 (.cells #[.int .i64 0, .string ByteArray.empty, .slice none 0 0, .int .i64 0] 53 (0, 0)) :: blk b6 (.cells #[.int .i64 0, .string ByteArray.empty, .slice none 0 0, .int .i64 0] 53 (0, 0)) :: blk b3 (.cells #[.int .i64 b.f_Kind, .slice b.f_Reads.a (b.f_Reads.xs).length b.f_Reads.c, .slice b.f_Writes.a (b.f_Writes.xs).length b.f_Writes.c, .slice b.f_Ops.a (b.f_Ops.xs).length b.f_Ops.c, .int .i64 b.f_To] 30 (0, 0)) :: blk b2 (.cells #[.int .i64 a.f_Kind, .slice a.f_Reads.a (a.f_Reads.xs).length a.f_Reads.c, .slice a.f_Writes.a (a.f_Writes.xs).length a.f_Writes.c, .slice a.f_Ops.a (a.f_Ops.xs).length a.f_Ops.c, .int .i64 a.f_To] 30 (0, 0)) :: F) (fun w S => S.perm List.perm_append_comm) ?_
        refine l_f1 ?_
        refine o_storen rfl rfl ti53 rfl rfl rfl rfl ?_
        refine l_nil ?_
        refine q_conv (L' := (blk b3 (.cells #[.int .i64 b.f_Kind, .slice b.f_Reads.a (b.f_Reads.xs).length b.f_Reads.c, .slice b.f_Writes.a (b.f_Writes.xs).length b.f_Writes.c, .slice b.f_Ops.a (b.f_Ops.xs).length b.f_Ops.c, .int .i64 b.f_To] 30 (0, 0)) :: blk b2 (.cells #[.int .i64 a.f_Kind, .slice a.f_Reads.a (a.f_Reads.xs).length a.f_Reads.c, .slice a.f_Writes.a (a.f_Writes.xs).length a.f_Writes.c, .slice a.f_Ops.a (a.f_Ops.xs).length a.f_Ops.c, .int .i64 a.f_To] 30 (0, 0)) :: F) ++ [blk b6 (.cells #[.int .i64 x55.f_Kind, .string x55.f_Key, .slice x55.f_Value.a (x55.f_Value.xs).length x55.f_Value.c, .int .i64 x55.f_N] 53 (0, 0)), blk b7 (.cells #[.int .i64 0, .string ByteArray.empty, .slice none 0 0, .int .i64 0] 53 (0, 0))]) (fun w S => S.perm (List.perm_append_comm (l₁ := [blk b6 (.cells #[.int .i64 x55.f_Kind, .string x55.f_Key, .slice x55.f_Value.a (x55.f_Value.xs).length x55.f_Value.c, .int .i64 x55.f_N] 53 (0, 0)), blk b7 (.cells #[.int .i64 0, .string ByteArray.empty, .slice none 0 0, .int .i64 0] 53 (0, 0))]) (l₂ := blk b3 (.cells #[.int .i64 b.f_Kind, .slice b.f_Reads.a (b.f_Reads.xs).length b.f_Reads.c, .slice b.f_Writes.a (b.f_Writes.xs).length b.f_Writes.c, .slice b.f_Ops.a (b.f_Ops.xs).length b.f_Ops.c, .int .i64 b.f_To] 30 (0, 0)) :: blk b2 (.cells #[.int .i64 a.f_Kind, .slice a.f_Reads.a (a.f_Reads.xs).length a.f_Reads.c, .slice a.f_Writes.a (a.f_Writes.xs).length a.f_Writes.c, .slice a.f_Ops.a (a.f_Ops.xs).length a.f_Ops.c, .int .i64 a.f_To] 30 (0, 0)) :: F))) ?_
        refine h_next ?_
        refine h_one 13 rfl (by kernel_rfl) ?_
        refine l_conv (L' := blk b6 (.cells #[.int .i64 x55.f_Kind, .string x55.f_Key, .slice x55.f_Value.a (x55.f_Value.xs).length x55.f_Value.c, .int .i64 x55.f_N] 53 (0, 0)) :: blk b7 (.cells #[.int .i64 0, .string ByteArray.empty, .slice none 0 0, .int .i64 0] 53 (0, 0)) :: blk b3 (.cells #[.int .i64 b.f_Kind, .slice b.f_Reads.a (b.f_Reads.xs).length b.f_Reads.c, .slice b.f_Writes.a (b.f_Writes.xs).length b.f_Writes.c, .slice b.f_Ops.a (b.f_Ops.xs).length b.f_Ops.c, .int .i64 b.f_To] 30 (0, 0)) :: blk b2 (.cells #[.int .i64 a.f_Kind, .slice a.f_Reads.a (a.f_Reads.xs).length a.f_Reads.c, .slice a.f_Writes.a (a.f_Writes.xs).length a.f_Writes.c, .slice a.f_Ops.a (a.f_Ops.xs).length a.f_Ops.c, .int .i64 a.f_To] 30 (0, 0)) :: F) (fun w S => S.perm List.perm_append_comm) ?_
        refine l_f1 ?_
        refine o_storen rfl rfl ti53 rfl rfl rfl rfl ?_
        refine l_nil ?_
        refine q_conv (L' := (blk b3 (.cells #[.int .i64 b.f_Kind, .slice b.f_Reads.a (b.f_Reads.xs).length b.f_Reads.c, .slice b.f_Writes.a (b.f_Writes.xs).length b.f_Writes.c, .slice b.f_Ops.a (b.f_Ops.xs).length b.f_Ops.c, .int .i64 b.f_To] 30 (0, 0)) :: blk b2 (.cells #[.int .i64 a.f_Kind, .slice a.f_Reads.a (a.f_Reads.xs).length a.f_Reads.c, .slice a.f_Writes.a (a.f_Writes.xs).length a.f_Writes.c, .slice a.f_Ops.a (a.f_Ops.xs).length a.f_Ops.c, .int .i64 a.f_To] 30 (0, 0)) :: F) ++ [blk b7 (.cells #[.int .i64 x60.f_Kind, .string x60.f_Key, .slice x60.f_Value.a (x60.f_Value.xs).length x60.f_Value.c, .int .i64 x60.f_N] 53 (0, 0)), blk b6 (.cells #[.int .i64 x55.f_Kind, .string x55.f_Key, .slice x55.f_Value.a (x55.f_Value.xs).length x55.f_Value.c, .int .i64 x55.f_N] 53 (0, 0))]) (fun w S => S.perm (List.perm_append_comm (l₁ := [blk b7 (.cells #[.int .i64 x60.f_Kind, .string x60.f_Key, .slice x60.f_Value.a (x60.f_Value.xs).length x60.f_Value.c, .int .i64 x60.f_N] 53 (0, 0)), blk b6 (.cells #[.int .i64 x55.f_Kind, .string x55.f_Key, .slice x55.f_Value.a (x55.f_Value.xs).length x55.f_Value.c, .int .i64 x55.f_N] 53 (0, 0))]) (l₂ := blk b3 (.cells #[.int .i64 b.f_Kind, .slice b.f_Reads.a (b.f_Reads.xs).length b.f_Reads.c, .slice b.f_Writes.a (b.f_Writes.xs).length b.f_Writes.c, .slice b.f_Ops.a (b.f_Ops.xs).length b.f_Ops.c, .int .i64 b.f_To] 30 (0, 0)) :: blk b2 (.cells #[.int .i64 a.f_Kind, .slice a.f_Reads.a (a.f_Reads.xs).length a.f_Reads.c, .slice a.f_Writes.a (a.f_Writes.xs).length a.f_Writes.c, .slice a.f_Ops.a (a.f_Ops.xs).length a.f_Ops.c, .int .i64 a.f_To] 30 (0, 0)) :: F))) ?_
        refine h_next ?_
        refine h_done (by kernel_rfl) ?_
        refine q_conv (L' := blk b7 (.cells #[.int .i64 x60.f_Kind, .string x60.f_Key, .slice x60.f_Value.a (x60.f_Value.xs).length x60.f_Value.c, .int .i64 x60.f_N] 53 (0, 0)) :: blk b6 (.cells #[.int .i64 x55.f_Kind, .string x55.f_Key, .slice x55.f_Value.a (x55.f_Value.xs).length x55.f_Value.c, .int .i64 x55.f_N] 53 (0, 0)) :: blk b3 (.cells #[.int .i64 b.f_Kind, .slice b.f_Reads.a (b.f_Reads.xs).length b.f_Reads.c, .slice b.f_Writes.a (b.f_Writes.xs).length b.f_Writes.c, .slice b.f_Ops.a (b.f_Ops.xs).length b.f_Ops.c, .int .i64 b.f_To] 30 (0, 0)) :: blk b2 (.cells #[.int .i64 a.f_Kind, .slice a.f_Reads.a (a.f_Reads.xs).length a.f_Reads.c, .slice a.f_Writes.a (a.f_Writes.xs).length a.f_Writes.c, .slice a.f_Ops.a (a.f_Ops.xs).length a.f_Ops.c, .int .i64 a.f_To] 30 (0, 0)) :: F) (fun w S => S.perm List.perm_append_comm) ?_
        refine q_then ?_
        refine c_seq ?_
        refine c_region ?_
        refine o_fieldAddr (q := ⟨b6, 0, none⟩) rfl rfl Try.underlying53 rfl ti3 rfl ?_
        refine o_load1 rfl rfl Try.underlying3 rfl (rd_mem 1 rfl rfl) ?_
        refine o_fieldAddr (q := ⟨b7, 0, none⟩) rfl rfl Try.underlying53 rfl ti3 rfl ?_
        refine o_load1 rfl rfl Try.underlying3 rfl (rd_mem 0 rfl rfl) ?_
        refine o_bin rfl rfl rfl b_neq ?_
        refine o_move rfl rfl ?_
        refine l_split (t := 67) rfl (fun h7 => ?_) (fun h7 => ?_)
        · -- h7T
         have h7b := h7
         try simp only [Bool.not_eq_true', decide_eq_false_iff_not, Int.not_lt, Int.not_le] at h7
         refine o_no rfl rfl rfl rfl ?_
         refine o_no rfl rfl rfl rfl ?_
         refine o_no rfl rfl rfl rfl ?_
         refine o_no rfl rfl rfl rfl ?_
         refine o_no rfl rfl rfl rfl ?_
         refine o_pick_true rfl rfl rfl ?_
         refine o_move rfl rfl ?_
         refine o_no rfl rfl rfl rfl ?_
         refine o_no rfl rfl rfl rfl ?_
         refine o_no rfl rfl rfl rfl ?_
         refine o_no rfl rfl rfl rfl ?_
         refine o_no rfl rfl rfl rfl ?_
         refine o_pick_true rfl rfl rfl ?_
         refine o_move rfl rfl ?_
         refine o_no rfl rfl rfl rfl ?_
         refine o_no rfl rfl rfl rfl ?_
         refine o_no rfl rfl rfl rfl ?_
         refine o_no rfl rfl rfl rfl ?_
         refine o_no rfl rfl rfl rfl ?_
         refine o_no rfl rfl rfl rfl ?_
         refine o_no rfl rfl rfl rfl ?_
         refine o_pick_true rfl rfl rfl ?_
         refine l_nil ?_
         refine q_then ?_
         refine c_true rfl ?_
         refine c_seq ?_
         have hno : ¬ SameOps a.f_Ops.xs b.f_Ops.xs a.f_Ops.xs.length := fun h9 => by have h10 := h9 i _ _ (by omega) hxA hxB; unfold SameOp at h10; simp_all [bts_eq]
         refine c_region ?_
         refine o_assign rfl rfl ?_
         refine l_nil ?_
         refine q_then ?_
         refine c_ret ?_
         refine q_block_ret ?_
         refine q_pass_ret ?_
         refine q_pass_ret ?_
         refine q_block_ret ?_
         refine q_pass_ret ?_
         refine q_conv (fun w S => S.tail) ?_
         refine q_conv (fun w S => S.tail) ?_
         refine q_conv (fun w S => S.tail) ?_
         refine q_conv (fun w S => S.tail) ?_
         exact f_ret (r_one rfl rfl) (⟨by first | exact vtrue (by unfold SameT; grind) | exact vfalse (by unfold SameT; grind), rfl⟩) (fun w S => S)
        · -- h7F
         have h7b := h7
         try simp only [Bool.not_eq_false', decide_eq_true_eq] at h7
         refine o_yes rfl rfl rfl ?_
         refine o_fieldAddr (q := ⟨b6, 1, none⟩) rfl rfl Try.underlying53 rfl ti9 rfl ?_
         refine o_yes rfl rfl rfl ?_
         refine o_load1 rfl rfl Try.underlying9 rfl (rd_mem 1 rfl rfl) ?_
         refine o_yes rfl rfl rfl ?_
         refine o_fieldAddr (q := ⟨b7, 1, none⟩) rfl rfl Try.underlying53 rfl ti9 rfl ?_
         refine o_yes rfl rfl rfl ?_
         refine o_load1 rfl rfl Try.underlying9 rfl (rd_mem 0 rfl rfl) ?_
         refine o_yes rfl rfl rfl ?_
         refine o_bin rfl rfl rfl b_sneq ?_
         refine o_pick_false rfl rfl rfl ?_
         refine o_move rfl rfl ?_
         refine l_split (t := 74) rfl (fun h8 => ?_) (fun h8 => ?_)
         · -- h8T
          have h8b := h8
          try simp only [Bool.not_eq_true', decide_eq_false_iff_not, Int.not_lt, Int.not_le] at h8
          refine o_no rfl rfl rfl rfl ?_
          refine o_no rfl rfl rfl rfl ?_
          refine o_no rfl rfl rfl rfl ?_
          refine o_no rfl rfl rfl rfl ?_
          refine o_no rfl rfl rfl rfl ?_
          refine o_pick_true rfl rfl rfl ?_
          refine o_move rfl rfl ?_
          refine o_no rfl rfl rfl rfl ?_
          refine o_no rfl rfl rfl rfl ?_
          refine o_no rfl rfl rfl rfl ?_
          refine o_no rfl rfl rfl rfl ?_
          refine o_no rfl rfl rfl rfl ?_
          refine o_no rfl rfl rfl rfl ?_
          refine o_no rfl rfl rfl rfl ?_
          refine o_pick_true rfl rfl rfl ?_
          refine l_nil ?_
          refine q_then ?_
          refine c_true rfl ?_
          refine c_seq ?_
          have hno : ¬ SameOps a.f_Ops.xs b.f_Ops.xs a.f_Ops.xs.length := fun h9 => by have h10 := h9 i _ _ (by omega) hxA hxB; unfold SameOp at h10; simp_all [bts_eq]
          refine c_region ?_
          refine o_assign rfl rfl ?_
          refine l_nil ?_
          refine q_then ?_
          refine c_ret ?_
          refine q_block_ret ?_
          refine q_pass_ret ?_
          refine q_pass_ret ?_
          refine q_block_ret ?_
          refine q_pass_ret ?_
          refine q_conv (fun w S => S.tail) ?_
          refine q_conv (fun w S => S.tail) ?_
          refine q_conv (fun w S => S.tail) ?_
          refine q_conv (fun w S => S.tail) ?_
          exact f_ret (r_one rfl rfl) (⟨by first | exact vtrue (by unfold SameT; grind) | exact vfalse (by unfold SameT; grind), rfl⟩) (fun w S => S)
         · -- h8F
          have h8b := h8
          try simp only [Bool.not_eq_false', decide_eq_true_eq] at h8
          refine o_yes rfl rfl rfl ?_
          refine o_fieldAddr (q := ⟨b6, 3, none⟩) rfl rfl Try.underlying53 rfl ti2 rfl ?_
          refine o_yes rfl rfl rfl ?_
          refine o_load1 rfl rfl Try.underlying2 rfl (rd_mem 1 rfl rfl) ?_
          refine o_yes rfl rfl rfl ?_
          refine o_fieldAddr (q := ⟨b7, 3, none⟩) rfl rfl Try.underlying53 rfl ti2 rfl ?_
          refine o_yes rfl rfl rfl ?_
          refine o_load1 rfl rfl Try.underlying2 rfl (rd_mem 0 rfl rfl) ?_
          refine o_yes rfl rfl rfl ?_
          refine o_bin rfl rfl rfl b_neq ?_
          refine o_pick_false rfl rfl rfl ?_
          refine o_move rfl rfl ?_
          refine l_split (t := 81) rfl (fun h9 => ?_) (fun h9 => ?_)
          · -- h9T
           have h9b := h9
           try simp only [Bool.not_eq_true', decide_eq_false_iff_not, Int.not_lt, Int.not_le] at h9
           refine o_no rfl rfl rfl rfl ?_
           refine o_no rfl rfl rfl rfl ?_
           refine o_no rfl rfl rfl rfl ?_
           refine o_no rfl rfl rfl rfl ?_
           refine o_no rfl rfl rfl rfl ?_
           refine o_no rfl rfl rfl rfl ?_
           refine o_no rfl rfl rfl rfl ?_
           refine o_pick_true rfl rfl rfl ?_
           refine l_nil ?_
           refine q_then ?_
           refine c_true rfl ?_
           refine c_seq ?_
           have hno : ¬ SameOps a.f_Ops.xs b.f_Ops.xs a.f_Ops.xs.length := fun h9 => by have h10 := h9 i _ _ (by omega) hxA hxB; unfold SameOp at h10; simp_all [bts_eq]
           refine c_region ?_
           refine o_assign rfl rfl ?_
           refine l_nil ?_
           refine q_then ?_
           refine c_ret ?_
           refine q_block_ret ?_
           refine q_pass_ret ?_
           refine q_pass_ret ?_
           refine q_block_ret ?_
           refine q_pass_ret ?_
           refine q_conv (fun w S => S.tail) ?_
           refine q_conv (fun w S => S.tail) ?_
           refine q_conv (fun w S => S.tail) ?_
           refine q_conv (fun w S => S.tail) ?_
           exact f_ret (r_one rfl rfl) (⟨by first | exact vtrue (by unfold SameT; grind) | exact vfalse (by unfold SameT; grind), rfl⟩) (fun w S => S)
          · -- h9F
           have h9b := h9
           try simp only [Bool.not_eq_false', decide_eq_true_eq] at h9
           refine o_yes rfl rfl rfl ?_
           refine o_fieldAddr (q := ⟨b6, 2, none⟩) rfl rfl Try.underlying53 rfl ti45 rfl ?_
           refine o_yes rfl rfl rfl ?_
           refine o_load1 rfl rfl Try.underlying45 rfl (rd_mem 1 rfl rfl) ?_
           refine o_yes rfl rfl rfl ?_
           refine o_bytesStr (e := e8) rfl rfl rfl Try.underlying45 Try.underlying5 Try.underlying9 ((TxR.c (TxR.c (TxR.c (TxR.c T_a)))).rv x55 (List.mem_of_getElem? hx55)) ?_
           refine o_yes rfl rfl rfl ?_
           refine o_fieldAddr (q := ⟨b7, 2, none⟩) rfl rfl Try.underlying53 rfl ti45 rfl ?_
           refine o_yes rfl rfl rfl ?_
           refine o_load1 rfl rfl Try.underlying45 rfl (rd_mem 0 rfl rfl) ?_
           refine o_yes rfl rfl rfl ?_
           refine o_bytesStr (e := e8) rfl rfl rfl Try.underlying45 Try.underlying5 Try.underlying9 ((TxR.c (TxR.c (TxR.c (TxR.c T_b)))).rv x60 (List.mem_of_getElem? hx60)) ?_
           refine o_yes rfl rfl rfl ?_
           refine o_bin rfl rfl rfl b_sneq ?_
           refine o_pick_false rfl rfl rfl ?_
           refine l_nil ?_
           refine q_then ?_
           refine c_cond rfl (fun h10 => ?_) (fun h10 => ?_)
           · -- h10T
            have h10b := h10
            try simp only [Bool.not_eq_true', decide_eq_false_iff_not, Int.not_lt, Int.not_le] at h10
            refine c_seq ?_
            have hno : ¬ SameOps a.f_Ops.xs b.f_Ops.xs a.f_Ops.xs.length := fun h9 => by have h10 := h9 i _ _ (by omega) hxA hxB; unfold SameOp at h10; simp_all [bts_eq]
            refine c_region ?_
            refine o_assign rfl rfl ?_
            refine l_nil ?_
            refine q_then ?_
            refine c_ret ?_
            refine q_block_ret ?_
            refine q_pass_ret ?_
            refine q_pass_ret ?_
            refine q_block_ret ?_
            refine q_pass_ret ?_
            refine q_conv (fun w S => S.tail) ?_
            refine q_conv (fun w S => S.tail) ?_
            refine q_conv (fun w S => S.tail) ?_
            refine q_conv (fun w S => S.tail) ?_
            exact f_ret (r_one rfl rfl) (⟨by first | exact vtrue (by unfold SameT; grind) | exact vfalse (by unfold SameT; grind), rfl⟩) (fun w S => S)
           · -- h10F
            have h10b := h10
            try simp only [Bool.not_eq_false', decide_eq_true_eq] at h10
            refine c_skip ?_
            refine q_block ?_
            refine q_then ?_
            have hop : SameOp x55 x60 := by unfold SameOp; simp_all [bts_eq]
            refine c_region ?_
            refine o_move rfl rfl ?_
            refine o_bin rfl rfl rfl (b_add (wrap_i64 (by omega) (by omega))) ?_
            refine o_assign rfl rfl ?_
            refine l_nil ?_
            refine q_conv (fun w S => S.tail) ?_
            refine q_conv (fun w S => S.tail) ?_
            exact q_round (i + 1) (by exact ⟨by omega, sameOps_on hso hxA hxB hop⟩) (by (try dsimp only); omega) ⟨(by first | rfl | exact vint (by omega)), (by first | rfl | exact vint (by omega)), (by first | rfl | exact vint (by omega)), trivial⟩ (fun w S => S)
       · -- 11 comes first
        refine l_conv (L' := blk b3 (.cells #[.int .i64 b.f_Kind, .slice b.f_Reads.a (b.f_Reads.xs).length b.f_Reads.c, .slice b.f_Writes.a (b.f_Writes.xs).length b.f_Writes.c, .slice b.f_Ops.a (b.f_Ops.xs).length b.f_Ops.c, .int .i64 b.f_To] 30 (0, 0)) :: blk b2 (.cells #[.int .i64 a.f_Kind, .slice a.f_Reads.a (a.f_Reads.xs).length a.f_Reads.c, .slice a.f_Writes.a (a.f_Writes.xs).length a.f_Writes.c, .slice a.f_Ops.a (a.f_Ops.xs).length a.f_Ops.c, .int .i64 a.f_To] 30 (0, 0)) :: F) (fun w S => S.perm List.perm_append_comm) ?_
        refine o_alloc rfl ti53 fun b7 => ?_
        refine l_nil ?_
        refine q_conv (L' := (blk b3 (.cells #[.int .i64 b.f_Kind, .slice b.f_Reads.a (b.f_Reads.xs).length b.f_Reads.c, .slice b.f_Writes.a (b.f_Writes.xs).length b.f_Writes.c, .slice b.f_Ops.a (b.f_Ops.xs).length b.f_Ops.c, .int .i64 b.f_To] 30 (0, 0)) :: blk b2 (.cells #[.int .i64 a.f_Kind, .slice a.f_Reads.a (a.f_Reads.xs).length a.f_Reads.c, .slice a.f_Writes.a (a.f_Writes.xs).length a.f_Writes.c, .slice a.f_Ops.a (a.f_Ops.xs).length a.f_Ops.c, .int .i64 a.f_To] 30 (0, 0)) :: F) ++ [blk b7 (.cells #[.int .i64 0, .string ByteArray.empty, .slice none 0 0, .int .i64 0] 53 (0, 0))]) (fun w S => S.perm (List.perm_append_comm (l₁ := [blk b7 (.cells #[.int .i64 0, .string ByteArray.empty, .slice none 0 0, .int .i64 0] 53 (0, 0))]) (l₂ := blk b3 (.cells #[.int .i64 b.f_Kind, .slice b.f_Reads.a (b.f_Reads.xs).length b.f_Reads.c, .slice b.f_Writes.a (b.f_Writes.xs).length b.f_Writes.c, .slice b.f_Ops.a (b.f_Ops.xs).length b.f_Ops.c, .int .i64 b.f_To] 30 (0, 0)) :: blk b2 (.cells #[.int .i64 a.f_Kind, .slice a.f_Reads.a (a.f_Reads.xs).length a.f_Reads.c, .slice a.f_Writes.a (a.f_Writes.xs).length a.f_Writes.c, .slice a.f_Ops.a (a.f_Ops.xs).length a.f_Ops.c, .int .i64 a.f_To] 30 (0, 0)) :: F))) ?_
        refine h_next ?_
        refine h_one 10 rfl (by kernel_rfl) ?_
        refine l_conv (L' := blk b7 (.cells #[.int .i64 0, .string ByteArray.empty, .slice none 0 0, .int .i64 0] 53 (0, 0)) :: blk b3 (.cells #[.int .i64 b.f_Kind, .slice b.f_Reads.a (b.f_Reads.xs).length b.f_Reads.c, .slice b.f_Writes.a (b.f_Writes.xs).length b.f_Writes.c, .slice b.f_Ops.a (b.f_Ops.xs).length b.f_Ops.c, .int .i64 b.f_To] 30 (0, 0)) :: blk b2 (.cells #[.int .i64 a.f_Kind, .slice a.f_Reads.a (a.f_Reads.xs).length a.f_Reads.c, .slice a.f_Writes.a (a.f_Writes.xs).length a.f_Writes.c, .slice a.f_Ops.a (a.f_Ops.xs).length a.f_Ops.c, .int .i64 a.f_To] 30 (0, 0)) :: F) (fun w S => S.perm List.perm_append_comm) ?_
        refine o_alloc rfl ti53 fun b6 => ?_
        refine l_nil ?_
        refine q_conv (L' := (blk b3 (.cells #[.int .i64 b.f_Kind, .slice b.f_Reads.a (b.f_Reads.xs).length b.f_Reads.c, .slice b.f_Writes.a (b.f_Writes.xs).length b.f_Writes.c, .slice b.f_Ops.a (b.f_Ops.xs).length b.f_Ops.c, .int .i64 b.f_To] 30 (0, 0)) :: blk b2 (.cells #[.int .i64 a.f_Kind, .slice a.f_Reads.a (a.f_Reads.xs).length a.f_Reads.c, .slice a.f_Writes.a (a.f_Writes.xs).length a.f_Writes.c, .slice a.f_Ops.a (a.f_Ops.xs).length a.f_Ops.c, .int .i64 a.f_To] 30 (0, 0)) :: F) ++ [blk b6 (.cells #[.int .i64 0, .string ByteArray.empty, .slice none 0 0, .int .i64 0] 53 (0, 0)), blk b7 (.cells #[.int .i64 0, .string ByteArray.empty, .slice none 0 0, .int .i64 0] 53 (0, 0))]) (fun w S => S.perm (List.perm_append_comm (l₁ := [blk b6 (.cells #[.int .i64 0, .string ByteArray.empty, .slice none 0 0, .int .i64 0] 53 (0, 0)), blk b7 (.cells #[.int .i64 0, .string ByteArray.empty, .slice none 0 0, .int .i64 0] 53 (0, 0))]) (l₂ := blk b3 (.cells #[.int .i64 b.f_Kind, .slice b.f_Reads.a (b.f_Reads.xs).length b.f_Reads.c, .slice b.f_Writes.a (b.f_Writes.xs).length b.f_Writes.c, .slice b.f_Ops.a (b.f_Ops.xs).length b.f_Ops.c, .int .i64 b.f_To] 30 (0, 0)) :: blk b2 (.cells #[.int .i64 a.f_Kind, .slice a.f_Reads.a (a.f_Reads.xs).length a.f_Reads.c, .slice a.f_Writes.a (a.f_Writes.xs).length a.f_Writes.c, .slice a.f_Ops.a (a.f_Ops.xs).length a.f_Ops.c, .int .i64 a.f_To] 30 (0, 0)) :: F))) ?_
        refine h_next ?_
        refine h_one 12 rfl (by kernel_rfl) ?_
        refine l_conv (L' := blk b6 (.cells #[.int .i64 0, .string ByteArray.empty, .slice none 0 0, .int .i64 0] 53 (0, 0)) :: blk b7 (.cells #[.int .i64 0, .string ByteArray.empty, .slice none 0 0, .int .i64 0] 53 (0, 0)) :: blk b3 (.cells #[.int .i64 b.f_Kind, .slice b.f_Reads.a (b.f_Reads.xs).length b.f_Reads.c, .slice b.f_Writes.a (b.f_Writes.xs).length b.f_Writes.c, .slice b.f_Ops.a (b.f_Ops.xs).length b.f_Ops.c, .int .i64 b.f_To] 30 (0, 0)) :: blk b2 (.cells #[.int .i64 a.f_Kind, .slice a.f_Reads.a (a.f_Reads.xs).length a.f_Reads.c, .slice a.f_Writes.a (a.f_Writes.xs).length a.f_Writes.c, .slice a.f_Ops.a (a.f_Ops.xs).length a.f_Ops.c, .int .i64 a.f_To] 30 (0, 0)) :: F) (fun w S => S.perm List.perm_append_comm) ?_
        refine o_storen rfl rfl ti53 rfl rfl rfl rfl ?_
        refine l_nil ?_
        refine q_conv (L' := (blk b3 (.cells #[.int .i64 b.f_Kind, .slice b.f_Reads.a (b.f_Reads.xs).length b.f_Reads.c, .slice b.f_Writes.a (b.f_Writes.xs).length b.f_Writes.c, .slice b.f_Ops.a (b.f_Ops.xs).length b.f_Ops.c, .int .i64 b.f_To] 30 (0, 0)) :: blk b2 (.cells #[.int .i64 a.f_Kind, .slice a.f_Reads.a (a.f_Reads.xs).length a.f_Reads.c, .slice a.f_Writes.a (a.f_Writes.xs).length a.f_Writes.c, .slice a.f_Ops.a (a.f_Ops.xs).length a.f_Ops.c, .int .i64 a.f_To] 30 (0, 0)) :: F) ++ [blk b6 (.cells #[.int .i64 x55.f_Kind, .string x55.f_Key, .slice x55.f_Value.a (x55.f_Value.xs).length x55.f_Value.c, .int .i64 x55.f_N] 53 (0, 0)), blk b7 (.cells #[.int .i64 0, .string ByteArray.empty, .slice none 0 0, .int .i64 0] 53 (0, 0))]) (fun w S => S.perm (List.perm_append_comm (l₁ := [blk b6 (.cells #[.int .i64 x55.f_Kind, .string x55.f_Key, .slice x55.f_Value.a (x55.f_Value.xs).length x55.f_Value.c, .int .i64 x55.f_N] 53 (0, 0)), blk b7 (.cells #[.int .i64 0, .string ByteArray.empty, .slice none 0 0, .int .i64 0] 53 (0, 0))]) (l₂ := blk b3 (.cells #[.int .i64 b.f_Kind, .slice b.f_Reads.a (b.f_Reads.xs).length b.f_Reads.c, .slice b.f_Writes.a (b.f_Writes.xs).length b.f_Writes.c, .slice b.f_Ops.a (b.f_Ops.xs).length b.f_Ops.c, .int .i64 b.f_To] 30 (0, 0)) :: blk b2 (.cells #[.int .i64 a.f_Kind, .slice a.f_Reads.a (a.f_Reads.xs).length a.f_Reads.c, .slice a.f_Writes.a (a.f_Writes.xs).length a.f_Writes.c, .slice a.f_Ops.a (a.f_Ops.xs).length a.f_Ops.c, .int .i64 a.f_To] 30 (0, 0)) :: F))) ?_
        refine h_next ?_
        refine h_one 13 rfl (by kernel_rfl) ?_
        refine l_conv (L' := blk b6 (.cells #[.int .i64 x55.f_Kind, .string x55.f_Key, .slice x55.f_Value.a (x55.f_Value.xs).length x55.f_Value.c, .int .i64 x55.f_N] 53 (0, 0)) :: blk b7 (.cells #[.int .i64 0, .string ByteArray.empty, .slice none 0 0, .int .i64 0] 53 (0, 0)) :: blk b3 (.cells #[.int .i64 b.f_Kind, .slice b.f_Reads.a (b.f_Reads.xs).length b.f_Reads.c, .slice b.f_Writes.a (b.f_Writes.xs).length b.f_Writes.c, .slice b.f_Ops.a (b.f_Ops.xs).length b.f_Ops.c, .int .i64 b.f_To] 30 (0, 0)) :: blk b2 (.cells #[.int .i64 a.f_Kind, .slice a.f_Reads.a (a.f_Reads.xs).length a.f_Reads.c, .slice a.f_Writes.a (a.f_Writes.xs).length a.f_Writes.c, .slice a.f_Ops.a (a.f_Ops.xs).length a.f_Ops.c, .int .i64 a.f_To] 30 (0, 0)) :: F) (fun w S => S.perm List.perm_append_comm) ?_
        refine l_f1 ?_
        refine o_storen rfl rfl ti53 rfl rfl rfl rfl ?_
        refine l_nil ?_
        refine q_conv (L' := (blk b3 (.cells #[.int .i64 b.f_Kind, .slice b.f_Reads.a (b.f_Reads.xs).length b.f_Reads.c, .slice b.f_Writes.a (b.f_Writes.xs).length b.f_Writes.c, .slice b.f_Ops.a (b.f_Ops.xs).length b.f_Ops.c, .int .i64 b.f_To] 30 (0, 0)) :: blk b2 (.cells #[.int .i64 a.f_Kind, .slice a.f_Reads.a (a.f_Reads.xs).length a.f_Reads.c, .slice a.f_Writes.a (a.f_Writes.xs).length a.f_Writes.c, .slice a.f_Ops.a (a.f_Ops.xs).length a.f_Ops.c, .int .i64 a.f_To] 30 (0, 0)) :: F) ++ [blk b7 (.cells #[.int .i64 x60.f_Kind, .string x60.f_Key, .slice x60.f_Value.a (x60.f_Value.xs).length x60.f_Value.c, .int .i64 x60.f_N] 53 (0, 0)), blk b6 (.cells #[.int .i64 x55.f_Kind, .string x55.f_Key, .slice x55.f_Value.a (x55.f_Value.xs).length x55.f_Value.c, .int .i64 x55.f_N] 53 (0, 0))]) (fun w S => S.perm (List.perm_append_comm (l₁ := [blk b7 (.cells #[.int .i64 x60.f_Kind, .string x60.f_Key, .slice x60.f_Value.a (x60.f_Value.xs).length x60.f_Value.c, .int .i64 x60.f_N] 53 (0, 0)), blk b6 (.cells #[.int .i64 x55.f_Kind, .string x55.f_Key, .slice x55.f_Value.a (x55.f_Value.xs).length x55.f_Value.c, .int .i64 x55.f_N] 53 (0, 0))]) (l₂ := blk b3 (.cells #[.int .i64 b.f_Kind, .slice b.f_Reads.a (b.f_Reads.xs).length b.f_Reads.c, .slice b.f_Writes.a (b.f_Writes.xs).length b.f_Writes.c, .slice b.f_Ops.a (b.f_Ops.xs).length b.f_Ops.c, .int .i64 b.f_To] 30 (0, 0)) :: blk b2 (.cells #[.int .i64 a.f_Kind, .slice a.f_Reads.a (a.f_Reads.xs).length a.f_Reads.c, .slice a.f_Writes.a (a.f_Writes.xs).length a.f_Writes.c, .slice a.f_Ops.a (a.f_Ops.xs).length a.f_Ops.c, .int .i64 a.f_To] 30 (0, 0)) :: F))) ?_
        refine h_next ?_
        refine h_done (by kernel_rfl) ?_
        refine q_conv (L' := blk b7 (.cells #[.int .i64 x60.f_Kind, .string x60.f_Key, .slice x60.f_Value.a (x60.f_Value.xs).length x60.f_Value.c, .int .i64 x60.f_N] 53 (0, 0)) :: blk b6 (.cells #[.int .i64 x55.f_Kind, .string x55.f_Key, .slice x55.f_Value.a (x55.f_Value.xs).length x55.f_Value.c, .int .i64 x55.f_N] 53 (0, 0)) :: blk b3 (.cells #[.int .i64 b.f_Kind, .slice b.f_Reads.a (b.f_Reads.xs).length b.f_Reads.c, .slice b.f_Writes.a (b.f_Writes.xs).length b.f_Writes.c, .slice b.f_Ops.a (b.f_Ops.xs).length b.f_Ops.c, .int .i64 b.f_To] 30 (0, 0)) :: blk b2 (.cells #[.int .i64 a.f_Kind, .slice a.f_Reads.a (a.f_Reads.xs).length a.f_Reads.c, .slice a.f_Writes.a (a.f_Writes.xs).length a.f_Writes.c, .slice a.f_Ops.a (a.f_Ops.xs).length a.f_Ops.c, .int .i64 a.f_To] 30 (0, 0)) :: F) (fun w S => S.perm List.perm_append_comm) ?_
        refine q_then ?_
        refine c_seq ?_
        refine c_region ?_
        refine o_fieldAddr (q := ⟨b6, 0, none⟩) rfl rfl Try.underlying53 rfl ti3 rfl ?_
        refine o_load1 rfl rfl Try.underlying3 rfl (rd_mem 1 rfl rfl) ?_
        refine o_fieldAddr (q := ⟨b7, 0, none⟩) rfl rfl Try.underlying53 rfl ti3 rfl ?_
        refine o_load1 rfl rfl Try.underlying3 rfl (rd_mem 0 rfl rfl) ?_
        refine o_bin rfl rfl rfl b_neq ?_
        refine o_move rfl rfl ?_
        refine l_split (t := 67) rfl (fun h11 => ?_) (fun h11 => ?_)
        · -- h11T
         have h11b := h11
         try simp only [Bool.not_eq_true', decide_eq_false_iff_not, Int.not_lt, Int.not_le] at h11
         refine o_no rfl rfl rfl rfl ?_
         refine o_no rfl rfl rfl rfl ?_
         refine o_no rfl rfl rfl rfl ?_
         refine o_no rfl rfl rfl rfl ?_
         refine o_no rfl rfl rfl rfl ?_
         refine o_pick_true rfl rfl rfl ?_
         refine o_move rfl rfl ?_
         refine o_no rfl rfl rfl rfl ?_
         refine o_no rfl rfl rfl rfl ?_
         refine o_no rfl rfl rfl rfl ?_
         refine o_no rfl rfl rfl rfl ?_
         refine o_no rfl rfl rfl rfl ?_
         refine o_pick_true rfl rfl rfl ?_
         refine o_move rfl rfl ?_
         refine o_no rfl rfl rfl rfl ?_
         refine o_no rfl rfl rfl rfl ?_
         refine o_no rfl rfl rfl rfl ?_
         refine o_no rfl rfl rfl rfl ?_
         refine o_no rfl rfl rfl rfl ?_
         refine o_no rfl rfl rfl rfl ?_
         refine o_no rfl rfl rfl rfl ?_
         refine o_pick_true rfl rfl rfl ?_
         refine l_nil ?_
         refine q_then ?_
         refine c_true rfl ?_
         refine c_seq ?_
         have hno : ¬ SameOps a.f_Ops.xs b.f_Ops.xs a.f_Ops.xs.length := fun h9 => by have h10 := h9 i _ _ (by omega) hxA hxB; unfold SameOp at h10; simp_all [bts_eq]
         refine c_region ?_
         refine o_assign rfl rfl ?_
         refine l_nil ?_
         refine q_then ?_
         refine c_ret ?_
         refine q_block_ret ?_
         refine q_pass_ret ?_
         refine q_pass_ret ?_
         refine q_block_ret ?_
         refine q_pass_ret ?_
         refine q_conv (fun w S => S.tail) ?_
         refine q_conv (fun w S => S.tail) ?_
         refine q_conv (fun w S => S.tail) ?_
         refine q_conv (fun w S => S.tail) ?_
         exact f_ret (r_one rfl rfl) (⟨by first | exact vtrue (by unfold SameT; grind) | exact vfalse (by unfold SameT; grind), rfl⟩) (fun w S => S)
        · -- h11F
         have h11b := h11
         try simp only [Bool.not_eq_false', decide_eq_true_eq] at h11
         refine o_yes rfl rfl rfl ?_
         refine o_fieldAddr (q := ⟨b6, 1, none⟩) rfl rfl Try.underlying53 rfl ti9 rfl ?_
         refine o_yes rfl rfl rfl ?_
         refine o_load1 rfl rfl Try.underlying9 rfl (rd_mem 1 rfl rfl) ?_
         refine o_yes rfl rfl rfl ?_
         refine o_fieldAddr (q := ⟨b7, 1, none⟩) rfl rfl Try.underlying53 rfl ti9 rfl ?_
         refine o_yes rfl rfl rfl ?_
         refine o_load1 rfl rfl Try.underlying9 rfl (rd_mem 0 rfl rfl) ?_
         refine o_yes rfl rfl rfl ?_
         refine o_bin rfl rfl rfl b_sneq ?_
         refine o_pick_false rfl rfl rfl ?_
         refine o_move rfl rfl ?_
         refine l_split (t := 74) rfl (fun h12 => ?_) (fun h12 => ?_)
         · -- h12T
          have h12b := h12
          try simp only [Bool.not_eq_true', decide_eq_false_iff_not, Int.not_lt, Int.not_le] at h12
          refine o_no rfl rfl rfl rfl ?_
          refine o_no rfl rfl rfl rfl ?_
          refine o_no rfl rfl rfl rfl ?_
          refine o_no rfl rfl rfl rfl ?_
          refine o_no rfl rfl rfl rfl ?_
          refine o_pick_true rfl rfl rfl ?_
          refine o_move rfl rfl ?_
          refine o_no rfl rfl rfl rfl ?_
          refine o_no rfl rfl rfl rfl ?_
          refine o_no rfl rfl rfl rfl ?_
          refine o_no rfl rfl rfl rfl ?_
          refine o_no rfl rfl rfl rfl ?_
          refine o_no rfl rfl rfl rfl ?_
          refine o_no rfl rfl rfl rfl ?_
          refine o_pick_true rfl rfl rfl ?_
          refine l_nil ?_
          refine q_then ?_
          refine c_true rfl ?_
          refine c_seq ?_
          have hno : ¬ SameOps a.f_Ops.xs b.f_Ops.xs a.f_Ops.xs.length := fun h9 => by have h10 := h9 i _ _ (by omega) hxA hxB; unfold SameOp at h10; simp_all [bts_eq]
          refine c_region ?_
          refine o_assign rfl rfl ?_
          refine l_nil ?_
          refine q_then ?_
          refine c_ret ?_
          refine q_block_ret ?_
          refine q_pass_ret ?_
          refine q_pass_ret ?_
          refine q_block_ret ?_
          refine q_pass_ret ?_
          refine q_conv (fun w S => S.tail) ?_
          refine q_conv (fun w S => S.tail) ?_
          refine q_conv (fun w S => S.tail) ?_
          refine q_conv (fun w S => S.tail) ?_
          exact f_ret (r_one rfl rfl) (⟨by first | exact vtrue (by unfold SameT; grind) | exact vfalse (by unfold SameT; grind), rfl⟩) (fun w S => S)
         · -- h12F
          have h12b := h12
          try simp only [Bool.not_eq_false', decide_eq_true_eq] at h12
          refine o_yes rfl rfl rfl ?_
          refine o_fieldAddr (q := ⟨b6, 3, none⟩) rfl rfl Try.underlying53 rfl ti2 rfl ?_
          refine o_yes rfl rfl rfl ?_
          refine o_load1 rfl rfl Try.underlying2 rfl (rd_mem 1 rfl rfl) ?_
          refine o_yes rfl rfl rfl ?_
          refine o_fieldAddr (q := ⟨b7, 3, none⟩) rfl rfl Try.underlying53 rfl ti2 rfl ?_
          refine o_yes rfl rfl rfl ?_
          refine o_load1 rfl rfl Try.underlying2 rfl (rd_mem 0 rfl rfl) ?_
          refine o_yes rfl rfl rfl ?_
          refine o_bin rfl rfl rfl b_neq ?_
          refine o_pick_false rfl rfl rfl ?_
          refine o_move rfl rfl ?_
          refine l_split (t := 81) rfl (fun h13 => ?_) (fun h13 => ?_)
          · -- h13T
           have h13b := h13
           try simp only [Bool.not_eq_true', decide_eq_false_iff_not, Int.not_lt, Int.not_le] at h13
           refine o_no rfl rfl rfl rfl ?_
           refine o_no rfl rfl rfl rfl ?_
           refine o_no rfl rfl rfl rfl ?_
           refine o_no rfl rfl rfl rfl ?_
           refine o_no rfl rfl rfl rfl ?_
           refine o_no rfl rfl rfl rfl ?_
           refine o_no rfl rfl rfl rfl ?_
           refine o_pick_true rfl rfl rfl ?_
           refine l_nil ?_
           refine q_then ?_
           refine c_true rfl ?_
           refine c_seq ?_
           have hno : ¬ SameOps a.f_Ops.xs b.f_Ops.xs a.f_Ops.xs.length := fun h9 => by have h10 := h9 i _ _ (by omega) hxA hxB; unfold SameOp at h10; simp_all [bts_eq]
           refine c_region ?_
           refine o_assign rfl rfl ?_
           refine l_nil ?_
           refine q_then ?_
           refine c_ret ?_
           refine q_block_ret ?_
           refine q_pass_ret ?_
           refine q_pass_ret ?_
           refine q_block_ret ?_
           refine q_pass_ret ?_
           refine q_conv (fun w S => S.tail) ?_
           refine q_conv (fun w S => S.tail) ?_
           refine q_conv (fun w S => S.tail) ?_
           refine q_conv (fun w S => S.tail) ?_
           exact f_ret (r_one rfl rfl) (⟨by first | exact vtrue (by unfold SameT; grind) | exact vfalse (by unfold SameT; grind), rfl⟩) (fun w S => S)
          · -- h13F
           have h13b := h13
           try simp only [Bool.not_eq_false', decide_eq_true_eq] at h13
           refine o_yes rfl rfl rfl ?_
           refine o_fieldAddr (q := ⟨b6, 2, none⟩) rfl rfl Try.underlying53 rfl ti45 rfl ?_
           refine o_yes rfl rfl rfl ?_
           refine o_load1 rfl rfl Try.underlying45 rfl (rd_mem 1 rfl rfl) ?_
           refine o_yes rfl rfl rfl ?_
           refine o_bytesStr (e := e8) rfl rfl rfl Try.underlying45 Try.underlying5 Try.underlying9 ((TxR.c (TxR.c (TxR.c (TxR.c T_a)))).rv x55 (List.mem_of_getElem? hx55)) ?_
           refine o_yes rfl rfl rfl ?_
           refine o_fieldAddr (q := ⟨b7, 2, none⟩) rfl rfl Try.underlying53 rfl ti45 rfl ?_
           refine o_yes rfl rfl rfl ?_
           refine o_load1 rfl rfl Try.underlying45 rfl (rd_mem 0 rfl rfl) ?_
           refine o_yes rfl rfl rfl ?_
           refine o_bytesStr (e := e8) rfl rfl rfl Try.underlying45 Try.underlying5 Try.underlying9 ((TxR.c (TxR.c (TxR.c (TxR.c T_b)))).rv x60 (List.mem_of_getElem? hx60)) ?_
           refine o_yes rfl rfl rfl ?_
           refine o_bin rfl rfl rfl b_sneq ?_
           refine o_pick_false rfl rfl rfl ?_
           refine l_nil ?_
           refine q_then ?_
           refine c_cond rfl (fun h14 => ?_) (fun h14 => ?_)
           · -- h14T
            have h14b := h14
            try simp only [Bool.not_eq_true', decide_eq_false_iff_not, Int.not_lt, Int.not_le] at h14
            refine c_seq ?_
            have hno : ¬ SameOps a.f_Ops.xs b.f_Ops.xs a.f_Ops.xs.length := fun h9 => by have h10 := h9 i _ _ (by omega) hxA hxB; unfold SameOp at h10; simp_all [bts_eq]
            refine c_region ?_
            refine o_assign rfl rfl ?_
            refine l_nil ?_
            refine q_then ?_
            refine c_ret ?_
            refine q_block_ret ?_
            refine q_pass_ret ?_
            refine q_pass_ret ?_
            refine q_block_ret ?_
            refine q_pass_ret ?_
            refine q_conv (fun w S => S.tail) ?_
            refine q_conv (fun w S => S.tail) ?_
            refine q_conv (fun w S => S.tail) ?_
            refine q_conv (fun w S => S.tail) ?_
            exact f_ret (r_one rfl rfl) (⟨by first | exact vtrue (by unfold SameT; grind) | exact vfalse (by unfold SameT; grind), rfl⟩) (fun w S => S)
           · -- h14F
            have h14b := h14
            try simp only [Bool.not_eq_false', decide_eq_true_eq] at h14
            refine c_skip ?_
            refine q_block ?_
            refine q_then ?_
            have hop : SameOp x55 x60 := by unfold SameOp; simp_all [bts_eq]
            refine c_region ?_
            refine o_move rfl rfl ?_
            refine o_bin rfl rfl rfl (b_add (wrap_i64 (by omega) (by omega))) ?_
            refine o_assign rfl rfl ?_
            refine l_nil ?_
            refine q_conv (fun w S => S.tail) ?_
            refine q_conv (fun w S => S.tail) ?_
            exact q_round (i + 1) (by exact ⟨by omega, sameOps_on hso hxA hxB hop⟩) (by (try dsimp only); omega) ⟨(by first | rfl | exact vint (by omega)), (by first | rfl | exact vint (by omega)), (by first | rfl | exact vint (by omega)), trivial⟩ (fun w S => S)
      · -- h6F
       have h6b := h6
       try simp only [decide_eq_false_iff_not, Int.not_lt, Int.not_le] at h6
       refine c_exit ?_
       refine q_pass_exit ?_
       refine q_pass_exit ?_
       refine q_hit ?_
       refine q_then ?_
       refine c_seq ?_
       refine c_region ?_
       refine o_assign rfl rfl ?_
       refine l_nil ?_
       refine q_then ?_
       refine c_ret ?_
       refine q_conv (fun w S => S.tail) ?_
       refine q_conv (fun w S => S.tail) ?_
       exact f_ret (r_one rfl rfl) (⟨by first | exact vtrue (by unfold SameT; grind) | exact vfalse (by unfold SameT; grind), rfl⟩) (fun w S => S)

end Go.Proofs.Ytlblipkcbmcfkaa
