/- Printed by eng2.py out of 09a/spec.py. -/
import Derived.Test.YtlblipkcbmcfkaaOrdp
set_option linter.unusedVariables false
set_option linter.unusedSimpArgs false
set_option maxRecDepth 10000
namespace Go.Proofs.Ytlblipkcbmcfkaa
open Go.RowKit Classical
theorem rgreatT_ {W : World} {F : List Res} {o : Order} (T_o : OrdR W F o) : CS Try.prog 22 #[.agg #[.int .i64 o.f_Txn_Kind, .slice o.f_Txn_Reads.a (o.f_Txn_Reads.xs).length o.f_Txn_Reads.c, .slice o.f_Txn_Writes.a (o.f_Txn_Writes.xs).length o.f_Txn_Writes.c, .slice o.f_Txn_Ops.a (o.f_Txn_Ops.xs).length o.f_Txn_Ops.c, .int .i64 o.f_Txn_To]] W (F) (fun r L' => ∃ g : Bool, (g = false → o.f_Txn_Reads.xs.length ≤ 40 ∧ o.f_Txn_Writes.xs.length ≤ 40 ∧ o.f_Txn_Ops.xs.length ≤ 60 ∧ (∀ x ∈ o.f_Txn_Reads.xs, x.size ≤ 200) ∧ (∀ x ∈ o.f_Txn_Writes.xs, x.size ≤ 200) ∧ ∀ x ∈ o.f_Txn_Ops.xs, x.f_Key.size ≤ 200 ∧ x.f_Value.xs.length ≤ 200) ∧ r = .bool g ∧ F = L') := by
 have hlr := T_o.lr
 have hlw := T_o.lw
 have hlo := T_o.lo
 refine f_door (l0 := [(0, .agg #[.int .i64 o.f_Txn_Kind, .slice o.f_Txn_Reads.a (o.f_Txn_Reads.xs).length o.f_Txn_Reads.c, .slice o.f_Txn_Writes.a (o.f_Txn_Writes.xs).length o.f_Txn_Writes.c, .slice o.f_Txn_Ops.a (o.f_Txn_Ops.xs).length o.f_Txn_Ops.c, .int .i64 o.f_Txn_To])]) Try.func22 Try.ntmps22 rfl rfl rfl ?_
 refine c_seq ?_
 refine c_region ?_
 refine o_box rfl rfl fun b1 => ?_
 refine o_assign rfl rfl ?_
 refine l_nil ?_
 refine q_then ?_
 refine c_seq ?_
 refine c_seq ?_
 refine c_region ?_
 refine o_fieldAddr (q := ⟨b1, 1, none⟩) rfl rfl Try.underlying30 rfl ti27 rfl ?_
 refine o_load1 rfl rfl Try.underlying27 rfl (rd_mem 0 rfl rfl) ?_
 refine o_len rfl rfl Try.underlying27 ?_
 refine o_bin rfl rfl rfl b_gtr ?_
 refine o_move rfl rfl ?_
 refine l_split (t := 10) rfl (fun h1 => ?_) (fun h1 => ?_)
 · -- h1T
  have h1b := h1
  try simp only [decide_eq_true_eq] at h1
  refine o_no rfl rfl rfl rfl ?_
  refine o_no rfl rfl rfl rfl ?_
  refine o_no rfl rfl rfl rfl ?_
  refine o_no rfl rfl rfl rfl ?_
  refine o_pick_true rfl rfl rfl ?_
  refine o_move rfl rfl ?_
  refine o_no rfl rfl rfl rfl ?_
  refine o_no rfl rfl rfl rfl ?_
  refine o_no rfl rfl rfl rfl ?_
  refine o_no rfl rfl rfl rfl ?_
  refine o_pick_true rfl rfl rfl ?_
  refine l_nil ?_
  refine q_then ?_
  refine c_true rfl ?_
  refine c_seq ?_
  refine c_region ?_
  refine o_assign rfl rfl ?_
  refine l_nil ?_
  refine q_then ?_
  refine c_ret ?_
  refine q_pass_ret ?_
  refine q_conv (fun w S => S.tail) ?_
  exact f_ret (r_one rfl rfl) (⟨true, fun h9 => absurd h9 (by decide), rfl, rfl⟩) (fun w S => S)
 · -- h1F
  have h1b := h1
  try simp only [decide_eq_false_iff_not, Int.not_lt, Int.not_le] at h1
  refine o_yes rfl rfl rfl ?_
  refine o_fieldAddr (q := ⟨b1, 2, none⟩) rfl rfl Try.underlying30 rfl ti27 rfl ?_
  refine o_yes rfl rfl rfl ?_
  refine o_load1 rfl rfl Try.underlying27 rfl (rd_mem 0 rfl rfl) ?_
  refine o_yes rfl rfl rfl ?_
  refine o_len rfl rfl Try.underlying27 ?_
  refine o_yes rfl rfl rfl ?_
  refine o_bin rfl rfl rfl b_gtr ?_
  refine o_pick_false rfl rfl rfl ?_
  refine o_move rfl rfl ?_
  refine l_split (t := 16) rfl (fun h2 => ?_) (fun h2 => ?_)
  · -- h2T
   have h2b := h2
   try simp only [decide_eq_true_eq] at h2
   refine o_no rfl rfl rfl rfl ?_
   refine o_no rfl rfl rfl rfl ?_
   refine o_no rfl rfl rfl rfl ?_
   refine o_no rfl rfl rfl rfl ?_
   refine o_pick_true rfl rfl rfl ?_
   refine l_nil ?_
   refine q_then ?_
   refine c_true rfl ?_
   refine c_seq ?_
   refine c_region ?_
   refine o_assign rfl rfl ?_
   refine l_nil ?_
   refine q_then ?_
   refine c_ret ?_
   refine q_pass_ret ?_
   refine q_conv (fun w S => S.tail) ?_
   exact f_ret (r_one rfl rfl) (⟨true, fun h9 => absurd h9 (by decide), rfl, rfl⟩) (fun w S => S)
  · -- h2F
   have h2b := h2
   try simp only [decide_eq_false_iff_not, Int.not_lt, Int.not_le] at h2
   refine o_yes rfl rfl rfl ?_
   refine o_fieldAddr (q := ⟨b1, 3, none⟩) rfl rfl Try.underlying30 rfl ti28 rfl ?_
   refine o_yes rfl rfl rfl ?_
   refine o_load1 rfl rfl Try.underlying28 rfl (rd_mem 0 rfl rfl) ?_
   refine o_yes rfl rfl rfl ?_
   refine o_len rfl rfl Try.underlying28 ?_
   refine o_yes rfl rfl rfl ?_
   refine o_bin rfl rfl rfl b_gtr ?_
   refine o_pick_false rfl rfl rfl ?_
   refine l_nil ?_
   refine q_then ?_
   refine c_cond rfl (fun h3 => ?_) (fun h3 => ?_)
   · -- h3T
    have h3b := h3
    try simp only [decide_eq_true_eq] at h3
    refine c_seq ?_
    refine c_region ?_
    refine o_assign rfl rfl ?_
    refine l_nil ?_
    refine q_then ?_
    refine c_ret ?_
    refine q_pass_ret ?_
    refine q_conv (fun w S => S.tail) ?_
    exact f_ret (r_one rfl rfl) (⟨true, fun h9 => absurd h9 (by decide), rfl, rfl⟩) (fun w S => S)
   · -- h3F
    have h3b := h3
    try simp only [decide_eq_false_iff_not, Int.not_lt, Int.not_le] at h3
    refine c_skip ?_
    refine q_then ?_
    refine c_seq ?_
    refine c_seq ?_
    refine c_region ?_
    refine o_assign rfl rfl ?_
    refine l_nil ?_
    refine q_then ?_
    refine c_block ?_
    refine c_loop (α := Nat) (fun z => [(1, .pointer (some ⟨b1, 0, none⟩)), (3, .int .i64 (z : Int))]) (fun z => blk b1 (.cells #[.int .i64 o.f_Txn_Kind, .slice o.f_Txn_Reads.a (o.f_Txn_Reads.xs).length o.f_Txn_Reads.c, .slice o.f_Txn_Writes.a (o.f_Txn_Writes.xs).length o.f_Txn_Writes.c, .slice o.f_Txn_Ops.a (o.f_Txn_Ops.xs).length o.f_Txn_Ops.c, .int .i64 o.f_Txn_To] 30 (0, 0)) :: F) (fun z => z ≤ o.f_Txn_Reads.xs.length ∧ UpTo (fun x : ByteArray => x.size ≤ 200) o.f_Txn_Reads.xs z) (fun z => o.f_Txn_Reads.xs.length - z) (0) (by exact ⟨Nat.zero_le _, upTo_0⟩) ⟨(by first | rfl | exact vint (by omega)), (by first | rfl | exact vint (by omega)), trivial⟩ (fun w S => S) ?_
    rintro i1 ⟨hi1, ht1⟩
    try dsimp only at *
    refine c_seq ?_
    refine c_seq ?_
    refine c_region ?_
    refine o_move rfl rfl ?_
    refine o_fieldAddr (q := ⟨b1, 1, none⟩) rfl rfl Try.underlying30 rfl ti27 rfl ?_
    refine o_load1 rfl rfl Try.underlying27 rfl (rd_mem 0 rfl rfl) ?_
    refine o_len rfl rfl Try.underlying27 ?_
    refine o_bin rfl rfl rfl b_lss ?_
    refine l_nil ?_
    refine q_then ?_
    refine c_cond rfl (fun h4 => ?_) (fun h4 => ?_)
    · -- h4T
     have h4b := h4
     try simp only [decide_eq_true_eq] at h4
     refine c_skip ?_
     refine q_then ?_
     refine c_seq ?_
     refine c_block ?_
     refine c_seq ?_
     refine c_region ?_
     refine o_fieldAddr (q := ⟨b1, 1, none⟩) rfl rfl Try.underlying30 rfl ti27 rfl ?_
     refine o_load1 rfl rfl Try.underlying27 rfl (rd_mem 0 rfl rfl) ?_
     refine o_move rfl rfl ?_
     refine o_index e_S_ok rfl rfl rfl Try.underlying27 (by omega) (by omega) (OrdR.c T_o).rr fun ad32 ead32 => ?_
     obtain ⟨x32, hx32⟩ : ∃ x, (o.f_Txn_Reads.xs)[((i1 : Int)).toNat]? = some x := ⟨_, List.getElem?_eq_getElem (by omega)⟩
     refine o_load1 rfl rfl Try.underlying9 rfl (rd_sl0 e_S_ok ead32 (OrdR.c T_o).rr hx32 rfl) ?_
     refine o_lenStr rfl rfl Try.underlying9 ?_
     refine o_bin rfl rfl rfl b_gtr ?_
     refine l_nil ?_
     refine q_then ?_
     refine c_cond rfl (fun h5 => ?_) (fun h5 => ?_)
     · -- h5T
      have h5b := h5
      try simp only [decide_eq_true_eq] at h5
      refine c_seq ?_
      refine c_region ?_
      refine o_assign rfl rfl ?_
      refine l_nil ?_
      refine q_then ?_
      refine c_ret ?_
      refine q_block_ret ?_
      refine q_pass_ret ?_
      refine q_pass_ret ?_
      refine q_block_ret ?_
      refine q_pass_ret ?_
      refine q_conv (fun w S => S.tail) ?_
      exact f_ret (r_one rfl rfl) (⟨true, fun h9 => absurd h9 (by decide), rfl, rfl⟩) (fun w S => S)
     · -- h5F
      have h5b := h5
      try simp only [decide_eq_false_iff_not, Int.not_lt, Int.not_le] at h5
      refine c_skip ?_
      refine q_block ?_
      refine q_then ?_
      refine c_region ?_
      refine o_move rfl rfl ?_
      refine o_bin rfl rfl rfl (b_add (wrap_i64 (by omega) (by omega))) ?_
      refine o_assign rfl rfl ?_
      refine l_nil ?_
      exact q_round (i1 + 1) (by exact ⟨by omega, upTo_on ht1 hx32 (by show x32.size ≤ 200; omega)⟩) (by (try dsimp only); omega) ⟨(by first | rfl | exact vint (by omega)), (by first | rfl | exact vint (by omega)), trivial⟩ (fun w S => S)
    · -- h4F
     have h4b := h4
     try simp only [decide_eq_false_iff_not, Int.not_lt, Int.not_le] at h4
     refine c_exit ?_
     refine q_pass_exit ?_
     refine q_pass_exit ?_
     refine q_hit ?_
     refine q_then ?_
     refine c_seq ?_
     refine c_seq ?_
     refine c_region ?_
     refine o_assign rfl rfl ?_
     refine l_nil ?_
     refine q_then ?_
     refine c_block ?_
     refine c_loop (α := Nat) (fun z => [(1, .pointer (some ⟨b1, 0, none⟩)), (4, .int .i64 (z : Int))]) (fun z => blk b1 (.cells #[.int .i64 o.f_Txn_Kind, .slice o.f_Txn_Reads.a (o.f_Txn_Reads.xs).length o.f_Txn_Reads.c, .slice o.f_Txn_Writes.a (o.f_Txn_Writes.xs).length o.f_Txn_Writes.c, .slice o.f_Txn_Ops.a (o.f_Txn_Ops.xs).length o.f_Txn_Ops.c, .int .i64 o.f_Txn_To] 30 (0, 0)) :: F) (fun z => z ≤ o.f_Txn_Writes.xs.length ∧ UpTo (fun x : ByteArray => x.size ≤ 200) o.f_Txn_Writes.xs z) (fun z => o.f_Txn_Writes.xs.length - z) (0) (by exact ⟨Nat.zero_le _, upTo_0⟩) ⟨(by first | rfl | exact vint (by omega)), (by first | rfl | exact vint (by omega)), trivial⟩ (fun w S => S) ?_
     rintro i2 ⟨hi2, ht2⟩
     try dsimp only at *
     refine c_seq ?_
     refine c_seq ?_
     refine c_region ?_
     refine o_move rfl rfl ?_
     refine o_fieldAddr (q := ⟨b1, 2, none⟩) rfl rfl Try.underlying30 rfl ti27 rfl ?_
     refine o_load1 rfl rfl Try.underlying27 rfl (rd_mem 0 rfl rfl) ?_
     refine o_len rfl rfl Try.underlying27 ?_
     refine o_bin rfl rfl rfl b_lss ?_
     refine l_nil ?_
     refine q_then ?_
     refine c_cond rfl (fun h6 => ?_) (fun h6 => ?_)
     · -- h6T
      have h6b := h6
      try simp only [decide_eq_true_eq] at h6
      refine c_skip ?_
      refine q_then ?_
      refine c_seq ?_
      refine c_block ?_
      refine c_seq ?_
      refine c_region ?_
      refine o_fieldAddr (q := ⟨b1, 2, none⟩) rfl rfl Try.underlying30 rfl ti27 rfl ?_
      refine o_load1 rfl rfl Try.underlying27 rfl (rd_mem 0 rfl rfl) ?_
      refine o_move rfl rfl ?_
      refine o_index e_S_ok rfl rfl rfl Try.underlying27 (by omega) (by omega) (OrdR.c T_o).rw fun ad46 ead46 => ?_
      obtain ⟨x46, hx46⟩ : ∃ x, (o.f_Txn_Writes.xs)[((i2 : Int)).toNat]? = some x := ⟨_, List.getElem?_eq_getElem (by omega)⟩
      refine o_load1 rfl rfl Try.underlying9 rfl (rd_sl0 e_S_ok ead46 (OrdR.c T_o).rw hx46 rfl) ?_
      refine o_lenStr rfl rfl Try.underlying9 ?_
      refine o_bin rfl rfl rfl b_gtr ?_
      refine l_nil ?_
      refine q_then ?_
      refine c_cond rfl (fun h7 => ?_) (fun h7 => ?_)
      · -- h7T
       have h7b := h7
       try simp only [decide_eq_true_eq] at h7
       refine c_seq ?_
       refine c_region ?_
       refine o_assign rfl rfl ?_
       refine l_nil ?_
       refine q_then ?_
       refine c_ret ?_
       refine q_block_ret ?_
       refine q_pass_ret ?_
       refine q_pass_ret ?_
       refine q_block_ret ?_
       refine q_pass_ret ?_
       refine q_conv (fun w S => S.tail) ?_
       exact f_ret (r_one rfl rfl) (⟨true, fun h9 => absurd h9 (by decide), rfl, rfl⟩) (fun w S => S)
      · -- h7F
       have h7b := h7
       try simp only [decide_eq_false_iff_not, Int.not_lt, Int.not_le] at h7
       refine c_skip ?_
       refine q_block ?_
       refine q_then ?_
       refine c_region ?_
       refine o_move rfl rfl ?_
       refine o_bin rfl rfl rfl (b_add (wrap_i64 (by omega) (by omega))) ?_
       refine o_assign rfl rfl ?_
       refine l_nil ?_
       exact q_round (i2 + 1) (by exact ⟨by omega, upTo_on ht2 hx46 (by show x46.size ≤ 200; omega)⟩) (by (try dsimp only); omega) ⟨(by first | rfl | exact vint (by omega)), (by first | rfl | exact vint (by omega)), trivial⟩ (fun w S => S)
     · -- h6F
      have h6b := h6
      try simp only [decide_eq_false_iff_not, Int.not_lt, Int.not_le] at h6
      refine c_exit ?_
      refine q_pass_exit ?_
      refine q_pass_exit ?_
      refine q_hit ?_
      refine q_then ?_
      refine c_seq ?_
      refine c_seq ?_
      refine c_region ?_
      refine o_assign rfl rfl ?_
      refine l_nil ?_
      refine q_then ?_
      refine c_block ?_
      refine c_loop (α := Nat) (fun z => [(1, .pointer (some ⟨b1, 0, none⟩)), (5, .int .i64 (z : Int))]) (fun z => blk b1 (.cells #[.int .i64 o.f_Txn_Kind, .slice o.f_Txn_Reads.a (o.f_Txn_Reads.xs).length o.f_Txn_Reads.c, .slice o.f_Txn_Writes.a (o.f_Txn_Writes.xs).length o.f_Txn_Writes.c, .slice o.f_Txn_Ops.a (o.f_Txn_Ops.xs).length o.f_Txn_Ops.c, .int .i64 o.f_Txn_To] 30 (0, 0)) :: F) (fun z => z ≤ o.f_Txn_Ops.xs.length ∧ UpTo (fun x : Op => x.f_Key.size ≤ 200 ∧ x.f_Value.xs.length ≤ 200) o.f_Txn_Ops.xs z) (fun z => o.f_Txn_Ops.xs.length - z) (0) (by exact ⟨Nat.zero_le _, upTo_0⟩) ⟨(by first | rfl | exact vint (by omega)), (by first | rfl | exact vint (by omega)), trivial⟩ (fun w S => S) ?_
      rintro i3 ⟨hi3, ht3⟩
      try dsimp only at *
      refine c_seq ?_
      refine c_seq ?_
      refine c_region ?_
      refine o_move rfl rfl ?_
      refine o_fieldAddr (q := ⟨b1, 3, none⟩) rfl rfl Try.underlying30 rfl ti28 rfl ?_
      refine o_load1 rfl rfl Try.underlying28 rfl (rd_mem 0 rfl rfl) ?_
      refine o_len rfl rfl Try.underlying28 ?_
      refine o_bin rfl rfl rfl b_lss ?_
      refine l_nil ?_
      refine q_then ?_
      refine c_cond rfl (fun h8 => ?_) (fun h8 => ?_)
      · -- h8T
       have h8b := h8
       try simp only [decide_eq_true_eq] at h8
       refine c_skip ?_
       refine q_then ?_
       refine c_seq ?_
       refine c_block ?_
       refine c_seq ?_
       refine c_region ?_
       refine o_fieldAddr (q := ⟨b1, 3, none⟩) rfl rfl Try.underlying30 rfl ti28 rfl ?_
       refine o_load1 rfl rfl Try.underlying28 rfl (rd_mem 0 rfl rfl) ?_
       refine o_move rfl rfl ?_
       refine o_index e_Op_ok rfl rfl rfl Try.underlying28 (by omega) (by omega) (OrdR.c T_o).ro fun ad60 ead60 => ?_
       obtain ⟨x60, hx60⟩ : ∃ x, (o.f_Txn_Ops.xs)[((i3 : Int)).toNat]? = some x := ⟨_, List.getElem?_eq_getElem (by omega)⟩
       refine o_fieldAddr rfl rfl Try.underlying53 rfl ti9 (Addr.add_add' _ _ _) ?_
       refine o_load1 rfl rfl Try.underlying9 rfl (rd_sl e_Op_ok ead60 (OrdR.c T_o).ro hx60 rfl) ?_
       refine o_lenStr rfl rfl Try.underlying9 ?_
       refine o_bin rfl rfl rfl b_gtr ?_
       refine o_move rfl rfl ?_
       refine l_split (t := 65) rfl (fun h9 => ?_) (fun h9 => ?_)
       · -- h9T
        have h9b := h9
        try simp only [decide_eq_true_eq] at h9
        refine o_no rfl rfl rfl rfl ?_
        refine o_no rfl rfl rfl rfl ?_
        refine o_no rfl rfl rfl rfl ?_
        refine o_no rfl rfl rfl rfl ?_
        refine o_no rfl rfl rfl rfl ?_
        refine o_no rfl rfl rfl rfl ?_
        refine o_no rfl rfl rfl rfl ?_
        refine o_no rfl rfl rfl rfl ?_
        refine o_pick_true rfl rfl rfl ?_
        refine l_nil ?_
        refine q_then ?_
        refine c_true rfl ?_
        refine c_seq ?_
        refine c_region ?_
        refine o_assign rfl rfl ?_
        refine l_nil ?_
        refine q_then ?_
        refine c_ret ?_
        refine q_block_ret ?_
        refine q_pass_ret ?_
        refine q_pass_ret ?_
        refine q_block_ret ?_
        refine q_pass_ret ?_
        refine q_conv (fun w S => S.tail) ?_
        exact f_ret (r_one rfl rfl) (⟨true, fun h9 => absurd h9 (by decide), rfl, rfl⟩) (fun w S => S)
       · -- h9F
        have h9b := h9
        try simp only [decide_eq_false_iff_not, Int.not_lt, Int.not_le] at h9
        refine o_yes rfl rfl rfl ?_
        refine o_fieldAddr (q := ⟨b1, 3, none⟩) rfl rfl Try.underlying30 rfl ti28 rfl ?_
        refine o_yes rfl rfl rfl ?_
        refine o_load1 rfl rfl Try.underlying28 rfl (rd_mem 0 rfl rfl) ?_
        refine o_yes rfl rfl rfl ?_
        refine o_move rfl rfl ?_
        refine o_yes rfl rfl rfl ?_
        refine o_indexK e_Op_ok ead60 rfl rfl rfl Try.underlying28 (by omega) (by omega) ?_
        obtain ⟨x69, hx69⟩ : ∃ x, (o.f_Txn_Ops.xs)[((i3 : Int)).toNat]? = some x := ⟨_, List.getElem?_eq_getElem (by omega)⟩
        have e69 : x69 = x60 := by rw [hx60] at hx69; exact (Option.some.inj hx69).symm
        have e69' : x69.f_Value.xs.length = x60.f_Value.xs.length := by rw [e69]
        refine o_yes rfl rfl rfl ?_
        refine o_fieldAddr rfl rfl Try.underlying53 rfl ti45 (Addr.add_add' _ _ _) ?_
        refine o_yes rfl rfl rfl ?_
        refine o_load1 rfl rfl Try.underlying45 rfl (rd_sl e_Op_ok ead60 (OrdR.c T_o).ro hx69 rfl) ?_
        refine o_yes rfl rfl rfl ?_
        refine o_len rfl rfl Try.underlying45 ?_
        refine o_yes rfl rfl rfl ?_
        refine o_bin rfl rfl rfl b_gtr ?_
        refine o_pick_false rfl rfl rfl ?_
        refine l_nil ?_
        refine q_then ?_
        refine c_cond rfl (fun h10 => ?_) (fun h10 => ?_)
        · -- h10T
         have h10b := h10
         try simp only [decide_eq_true_eq] at h10
         refine c_seq ?_
         refine c_region ?_
         refine o_assign rfl rfl ?_
         refine l_nil ?_
         refine q_then ?_
         refine c_ret ?_
         refine q_block_ret ?_
         refine q_pass_ret ?_
         refine q_pass_ret ?_
         refine q_block_ret ?_
         refine q_pass_ret ?_
         refine q_conv (fun w S => S.tail) ?_
         exact f_ret (r_one rfl rfl) (⟨true, fun h9 => absurd h9 (by decide), rfl, rfl⟩) (fun w S => S)
        · -- h10F
         have h10b := h10
         try simp only [decide_eq_false_iff_not, Int.not_lt, Int.not_le] at h10
         refine c_skip ?_
         refine q_block ?_
         refine q_then ?_
         refine c_region ?_
         refine o_move rfl rfl ?_
         refine o_bin rfl rfl rfl (b_add (wrap_i64 (by omega) (by omega))) ?_
         refine o_assign rfl rfl ?_
         refine l_nil ?_
         exact q_round (i3 + 1) (by exact ⟨by omega, upTo_on ht3 hx60 ⟨by omega, by omega⟩⟩) (by (try dsimp only); omega) ⟨(by first | rfl | exact vint (by omega)), (by first | rfl | exact vint (by omega)), trivial⟩ (fun w S => S)
      · -- h8F
       have h8b := h8
       try simp only [decide_eq_false_iff_not, Int.not_lt, Int.not_le] at h8
       refine c_exit ?_
       refine q_pass_exit ?_
       refine q_pass_exit ?_
       refine q_hit ?_
       refine q_then ?_
       refine c_seq ?_
       refine c_region ?_
       refine o_assign rfl rfl ?_
       refine l_nil ?_
       refine q_then ?_
       refine c_ret ?_
       refine q_conv (fun w S => S.tail) ?_
       exact f_ret (r_one rfl rfl) (⟨false, fun _ => ⟨by omega, by omega, by omega, upTo_all ht1 (by omega), upTo_all ht2 (by omega), upTo_all ht3 (by omega)⟩, rfl, rfl⟩) (fun w S => S)

theorem rgreat_ {W : World} {F : List Res} {o : Order} (T_o : OrdR W F o) : CS Try.prog 8 #[.agg #[.int .i64 o.f_Tag_Id_Node, .int .u64 o.f_Tag_Id_Epoch, .int .u64 o.f_Tag_Id_Seq, .int .i64 o.f_Tag_Try, .int .i64 o.f_Txn_Kind, .slice o.f_Txn_Reads.a (o.f_Txn_Reads.xs).length o.f_Txn_Reads.c, .slice o.f_Txn_Writes.a (o.f_Txn_Writes.xs).length o.f_Txn_Writes.c, .slice o.f_Txn_Ops.a (o.f_Txn_Ops.xs).length o.f_Txn_Ops.c, .int .i64 o.f_Txn_To, .slice o.f_Marks.a (o.f_Marks.xs).length o.f_Marks.c]] W (F) (fun r L' => ∃ g : Bool, (g = false → OSmall o) ∧ r = .bool g ∧ F = L') := by
 have hlm := T_o.lm
 refine f_door (l0 := [(0, .agg #[.int .i64 o.f_Tag_Id_Node, .int .u64 o.f_Tag_Id_Epoch, .int .u64 o.f_Tag_Id_Seq, .int .i64 o.f_Tag_Try, .int .i64 o.f_Txn_Kind, .slice o.f_Txn_Reads.a (o.f_Txn_Reads.xs).length o.f_Txn_Reads.c, .slice o.f_Txn_Writes.a (o.f_Txn_Writes.xs).length o.f_Txn_Writes.c, .slice o.f_Txn_Ops.a (o.f_Txn_Ops.xs).length o.f_Txn_Ops.c, .int .i64 o.f_Txn_To, .slice o.f_Marks.a (o.f_Marks.xs).length o.f_Marks.c])]) Try.func8 Try.ntmps8 rfl rfl rfl ?_
 refine c_seq ?_
 refine c_region ?_
 refine o_box rfl rfl fun b1 => ?_
 refine o_assign rfl rfl ?_
 refine l_nil ?_
 refine q_then ?_
 refine c_seq ?_
 refine c_seq ?_
 refine c_region ?_
 refine o_fieldAddr (q := ⟨b1, 4, none⟩) rfl rfl Try.underlying33 rfl ti30 rfl ?_
 refine o_loadn (vs := [_, _, _, _, _]) rfl rfl Try.underlying30 rfl ti30 (rdn_lit 0 rfl rfl) ?_
 refine o_call rfl cal22 rfl (rgreatT_ (o := o) (OrdR.c T_o)) ?_
 rintro _ _ ⟨g6, hg6, rfl, rfl⟩
 refine o_move rfl rfl ?_
 refine l_split (t := 7) rfl (fun h1 => ?_) (fun h1 => ?_)
 · -- h1T
  have h1b := h1
  try simp only [decide_eq_true_eq, decide_eq_false_iff_not, Bool.not_eq_eq_eq_not, Bool.not_true, Bool.not_false, Bool.not_eq_true', Bool.not_eq_false', Int.not_lt, Int.not_le, Bool.or_eq_true, Bool.and_eq_true] at h1
  refine o_no rfl rfl rfl rfl ?_
  refine o_no rfl rfl rfl rfl ?_
  refine o_no rfl rfl rfl rfl ?_
  refine o_no rfl rfl rfl rfl ?_
  refine o_pick_true rfl rfl rfl ?_
  refine l_nil ?_
  refine q_then ?_
  refine c_true rfl ?_
  refine c_seq ?_
  refine c_region ?_
  refine o_assign rfl rfl ?_
  refine l_nil ?_
  refine q_then ?_
  refine c_ret ?_
  refine q_pass_ret ?_
  refine q_conv (fun w S => S.tail) ?_
  exact f_ret (r_one rfl rfl) (⟨true, fun h9 => absurd h9 (by decide), rfl, rfl⟩) (fun w S => S)
 · -- h1F
  have h1b := h1
  try simp only [decide_eq_true_eq, decide_eq_false_iff_not, Bool.not_eq_eq_eq_not, Bool.not_true, Bool.not_false, Bool.not_eq_true', Bool.not_eq_false', Int.not_lt, Int.not_le, Bool.or_eq_true, Bool.and_eq_true] at h1
  refine o_yes rfl rfl rfl ?_
  refine o_fieldAddr (q := ⟨b1, 9, none⟩) rfl rfl Try.underlying33 rfl ti31 rfl ?_
  refine o_yes rfl rfl rfl ?_
  refine o_load1 rfl rfl Try.underlying31 rfl (rd_mem 0 rfl rfl) ?_
  refine o_yes rfl rfl rfl ?_
  refine o_len rfl rfl Try.underlying31 ?_
  refine o_yes rfl rfl rfl ?_
  refine o_bin rfl rfl rfl b_gtr ?_
  refine o_pick_false rfl rfl rfl ?_
  refine l_nil ?_
  refine q_then ?_
  refine c_cond rfl (fun h2 => ?_) (fun h2 => ?_)
  · -- h2T
   have h2b := h2
   try simp only [decide_eq_true_eq] at h2
   refine c_seq ?_
   refine c_region ?_
   refine o_assign rfl rfl ?_
   refine l_nil ?_
   refine q_then ?_
   refine c_ret ?_
   refine q_pass_ret ?_
   refine q_conv (fun w S => S.tail) ?_
   exact f_ret (r_one rfl rfl) (⟨true, fun h9 => absurd h9 (by decide), rfl, rfl⟩) (fun w S => S)
  · -- h2F
   have h2b := h2
   try simp only [decide_eq_false_iff_not, Int.not_lt, Int.not_le] at h2
   refine c_skip ?_
   refine q_then ?_
   refine c_seq ?_
   refine c_seq ?_
   refine c_region ?_
   refine o_assign rfl rfl ?_
   refine l_nil ?_
   refine q_then ?_
   refine c_block ?_
   refine c_loop (α := Nat) (fun z => [(1, .pointer (some ⟨b1, 0, none⟩)), (3, .int .i64 (z : Int))]) (fun z => blk b1 (.cells #[.int .i64 o.f_Tag_Id_Node, .int .u64 o.f_Tag_Id_Epoch, .int .u64 o.f_Tag_Id_Seq, .int .i64 o.f_Tag_Try, .int .i64 o.f_Txn_Kind, .slice o.f_Txn_Reads.a (o.f_Txn_Reads.xs).length o.f_Txn_Reads.c, .slice o.f_Txn_Writes.a (o.f_Txn_Writes.xs).length o.f_Txn_Writes.c, .slice o.f_Txn_Ops.a (o.f_Txn_Ops.xs).length o.f_Txn_Ops.c, .int .i64 o.f_Txn_To, .slice o.f_Marks.a (o.f_Marks.xs).length o.f_Marks.c] 33 (0, 0)) :: F) (fun z => z ≤ o.f_Marks.xs.length ∧ UpTo (fun x : Mark => x.f_Key.size ≤ 200) o.f_Marks.xs z) (fun z => o.f_Marks.xs.length - z) (0) (by exact ⟨Nat.zero_le _, upTo_0⟩) ⟨(by first | rfl | exact vint (by omega)), (by first | rfl | exact vint (by omega)), trivial⟩ (fun w S => S) ?_
   rintro i1 ⟨hi1, ht1⟩
   try dsimp only at *
   refine c_seq ?_
   refine c_seq ?_
   refine c_region ?_
   refine o_move rfl rfl ?_
   refine o_fieldAddr (q := ⟨b1, 9, none⟩) rfl rfl Try.underlying33 rfl ti31 rfl ?_
   refine o_load1 rfl rfl Try.underlying31 rfl (rd_mem 0 rfl rfl) ?_
   refine o_len rfl rfl Try.underlying31 ?_
   refine o_bin rfl rfl rfl b_lss ?_
   refine l_nil ?_
   refine q_then ?_
   refine c_cond rfl (fun h3 => ?_) (fun h3 => ?_)
   · -- h3T
    have h3b := h3
    try simp only [decide_eq_true_eq] at h3
    refine c_skip ?_
    refine q_then ?_
    refine c_seq ?_
    refine c_block ?_
    refine c_seq ?_
    refine c_region ?_
    refine o_fieldAddr (q := ⟨b1, 9, none⟩) rfl rfl Try.underlying33 rfl ti31 rfl ?_
    refine o_load1 rfl rfl Try.underlying31 rfl (rd_mem 0 rfl rfl) ?_
    refine o_move rfl rfl ?_
    refine o_index e_Mark_ok rfl rfl rfl Try.underlying31 (by omega) (by omega) (OrdR.c T_o).rm fun ad23 ead23 => ?_
    obtain ⟨x23, hx23⟩ : ∃ x, (o.f_Marks.xs)[((i1 : Int)).toNat]? = some x := ⟨_, List.getElem?_eq_getElem (by omega)⟩
    refine o_fieldAddr rfl rfl Try.underlying51 rfl ti9 (Addr.add_add' _ _ _) ?_
    refine o_load1 rfl rfl Try.underlying9 rfl (rd_sl e_Mark_ok ead23 (OrdR.c T_o).rm hx23 rfl) ?_
    refine o_lenStr rfl rfl Try.underlying9 ?_
    refine o_bin rfl rfl rfl b_gtr ?_
    refine l_nil ?_
    refine q_then ?_
    refine c_cond rfl (fun h4 => ?_) (fun h4 => ?_)
    · -- h4T
     have h4b := h4
     try simp only [decide_eq_true_eq] at h4
     refine c_seq ?_
     refine c_region ?_
     refine o_assign rfl rfl ?_
     refine l_nil ?_
     refine q_then ?_
     refine c_ret ?_
     refine q_block_ret ?_
     refine q_pass_ret ?_
     refine q_pass_ret ?_
     refine q_block_ret ?_
     refine q_pass_ret ?_
     refine q_conv (fun w S => S.tail) ?_
     exact f_ret (r_one rfl rfl) (⟨true, fun h9 => absurd h9 (by decide), rfl, rfl⟩) (fun w S => S)
    · -- h4F
     have h4b := h4
     try simp only [decide_eq_false_iff_not, Int.not_lt, Int.not_le] at h4
     refine c_skip ?_
     refine q_block ?_
     refine q_then ?_
     refine c_region ?_
     refine o_move rfl rfl ?_
     refine o_bin rfl rfl rfl (b_add (wrap_i64 (by omega) (by omega))) ?_
     refine o_assign rfl rfl ?_
     refine l_nil ?_
     exact q_round (i1 + 1) (by exact ⟨by omega, upTo_on ht1 hx23 (by show x23.f_Key.size ≤ 200; omega)⟩) (by (try dsimp only); omega) ⟨(by first | rfl | exact vint (by omega)), (by first | rfl | exact vint (by omega)), trivial⟩ (fun w S => S)
   · -- h3F
    have h3b := h3
    try simp only [decide_eq_false_iff_not, Int.not_lt, Int.not_le] at h3
    refine c_exit ?_
    refine q_pass_exit ?_
    refine q_pass_exit ?_
    refine q_hit ?_
    refine q_then ?_
    refine c_seq ?_
    refine c_region ?_
    refine o_assign rfl rfl ?_
    refine l_nil ?_
    refine q_then ?_
    refine c_ret ?_
    refine q_conv (fun w S => S.tail) ?_
    exact f_ret (r_one rfl rfl) (⟨false, fun _ => (by obtain ⟨q1, q2, q3, q4, q5, q6⟩ := hg6 (by assumption); exact ⟨q1, q2, q3, by omega, q4, q5, upTo_all ht1 (by omega), q6⟩), rfl, rfl⟩) (fun w S => S)

end Go.Proofs.Ytlblipkcbmcfkaa
