/- Printed by eng2.py out of 14/spec.py. -/
import Derived.Test.YtjoigmbapnjhhaaFilI
import Derived.Test.YtjoigmbapnjhhaaRHomes
import Derived.Test.YtjoigmbapnjhhaaPart
set_option linter.unusedVariables false
set_option linter.unusedSimpArgs false
set_option maxRecDepth 10000
namespace Go.Proofs.Ytjoigmbapnjhhaa
open Go.RowKit Classical
theorem sub_mem'' {α : Type} {xs : List α} {l h : Nat} {x : α} (hx : x ∈ sub xs l h) : x ∈ xs := by
  unfold sub at hx
  exact List.mem_of_mem_take (List.mem_of_mem_drop hx)
theorem sub_take {α : Type} {xs : List α} {h : Nat} : sub xs 0 h = xs.take h := by unfold sub; rw [List.drop_zero]
set_option maxHeartbeats 1000000 in
theorem rlast_ {W : World} {F : List Res} {g : Int} {log : List Item} {a : Option Addr} {c : Nat} (hs : RdS W F e_Item a log) (ho : ∀ x ∈ log, OrdR W F x.ord) (hmk : ∀ x ∈ log, x.ord.f_Marks.xs.length ≤ 1000000) (hn : log.length ≤ 9223372036854775807) : CS Try.prog 15 #[.int .i64 g, .slice a log.length c] W (F) (fun r L' => r = .int .i64 (lastOf g log) ∧ F = L') := by
 refine f_door (l0 := [(0, .int .i64 g), (1, .slice a log.length c)]) Try.func15 Try.ntmps15 rfl rfl rfl ?_
 refine c_seq ?_
 refine c_region ?_
 refine o_assign rfl rfl ?_
 refine l_nil ?_
 refine q_then ?_
 refine c_seq ?_
 refine c_region ?_
 refine o_assign rfl rfl ?_
 refine l_nil ?_
 refine q_then ?_
 refine c_seq ?_
 refine c_seq ?_
 refine c_region ?_
 refine o_assign rfl rfl ?_
 refine l_nil ?_
 refine q_then ?_
 refine c_block ?_
 refine c_loop (α := Nat × Int) (fun z => [(0, .int .i64 g), (1, .slice a (log).length c), (5, .int .i64 z.2), (6, .int .i64 (z.1 : Int))]) (fun z => F) (fun z => z.1 ≤ log.length ∧ z.2 = lastOf g (log.take z.1)) (fun z => log.length - z.1) (0, -1) (by exact ⟨Nat.zero_le _, rfl⟩) ⟨(by first | rfl | exact vint (by omega)), (by first | rfl | exact vint (by omega)), (by first | rfl | exact vint (by omega)), (by first | rfl | exact vint (by omega)), trivial⟩ (fun w S => S) ?_
 rintro ⟨i, l⟩ ⟨hi, hl⟩
 try dsimp only at *
 refine c_seq ?_
 refine c_seq ?_
 refine c_region ?_
 refine o_move rfl rfl ?_
 refine o_move rfl rfl ?_
 refine o_len rfl rfl Try.underlying22 ?_
 refine o_bin rfl rfl rfl b_lss ?_
 refine l_nil ?_
 refine q_then ?_
 refine c_cond rfl (fun h1 => ?_) (fun h1 => ?_)
 · -- h1T
  have h1b := h1
  try simp only [decide_eq_true_eq] at h1
  refine c_skip ?_
  refine q_then ?_
  refine c_seq ?_
  refine c_block ?_
  refine c_seq ?_
  refine c_region ?_
  refine o_move rfl rfl ?_
  refine o_move rfl rfl ?_
  refine o_index e_Item_ok rfl rfl rfl Try.underlying22 (by omega) (by omega) hs fun ad16 ead16 => ?_
  obtain ⟨x16, hx16⟩ : ∃ x, (log)[((i : Int)).toNat]? = some x := ⟨_, List.getElem?_eq_getElem (by omega)⟩
  refine o_loadn (vs := e_Item.cells x16) rfl rfl Try.underlying41 rfl ti41 (rdn_sl e_Item_ok ead16 hs hx16) ?_
  refine o_alloc rfl ti41 fun b7 => ?_
  refine o_storen rfl rfl ti41 rfl rfl rfl rfl ?_
  refine l_nil ?_
  refine q_then ?_
  refine c_seq ?_
  refine c_region ?_
  refine o_fieldAddr (q := ⟨b7, 0, none⟩) rfl rfl Try.underlying41 rfl ti3 rfl ?_
  refine o_load1 rfl rfl Try.underlying3 rfl (rd_mem 0 rfl rfl) ?_
  refine o_bin rfl rfl rfl b_eql ?_
  refine o_move rfl rfl ?_
  refine l_split (t := 21) rfl (fun h2 => ?_) (fun h2 => ?_)
  · -- h2T
   have h2b := h2
   try simp only [decide_eq_true_eq] at h2
   refine o_yes rfl rfl rfl ?_
   refine o_fieldAddr (q := ⟨b7, 2, none⟩) rfl rfl Try.underlying41 rfl ti39 rfl ?_
   refine o_yes rfl rfl rfl ?_
   refine o_loadn (vs := [_, _, _, _, _, _, _, _, _, _]) rfl rfl Try.underlying39 rfl ti39 (rdn_lit 0 rfl rfl) ?_
   refine o_yes rfl rfl rfl ?_
   refine o_call rfl cal20 rfl (rsingle_ (o := x16.ord) (OrdR.c (ho x16 (List.mem_of_getElem? hx16))) (hmk x16 (List.mem_of_getElem? hx16))) ?_
   rintro _ _ ⟨rfl, rfl⟩
   refine o_yes rfl rfl rfl ?_
   refine o_not rfl rfl ?_
   refine o_pick_true rfl rfl rfl ?_
   refine o_move rfl rfl ?_
   refine l_split (t := 27) rfl (fun h3 => ?_) (fun h3 => ?_)
   · -- h3T
    have h3b := h3
    try simp only [Bool.not_eq_true', decide_eq_false_iff_not, Int.not_lt, Int.not_le] at h3
    refine o_yes rfl rfl rfl ?_
    refine o_fieldAddr (q := ⟨b7, 2, none⟩) rfl rfl Try.underlying41 rfl ti39 rfl ?_
    refine o_yes rfl rfl rfl ?_
    refine o_loadn (vs := [_, _, _, _, _, _, _, _, _, _]) rfl rfl Try.underlying39 rfl ti39 (rdn_lit 0 rfl rfl) ?_
    refine o_yes rfl rfl rfl ?_
    refine o_move rfl rfl ?_
    refine o_yes rfl rfl rfl ?_
    refine o_call rfl cal21 rfl (homeIn_ (o := x16.ord) (key := g) (OrdR.c (ho x16 (List.mem_of_getElem? hx16))) (hmk x16 (List.mem_of_getElem? hx16))) ?_
    rintro _ _ ⟨rfl, rfl⟩
    refine o_pick_true rfl rfl rfl ?_
    refine o_move rfl rfl ?_
    refine l_split (t := 33) rfl (fun h4 => ?_) (fun h4 => ?_)
    · -- h4T
     have h4b := h4
     try simp only [decide_eq_true_eq] at h4
     refine o_yes rfl rfl rfl ?_
     refine o_fieldAddr (q := ⟨b7, 1, none⟩) rfl rfl Try.underlying41 rfl ti3 rfl ?_
     refine o_yes rfl rfl rfl ?_
     refine o_load1 rfl rfl Try.underlying3 rfl (rd_mem 0 rfl rfl) ?_
     refine o_yes rfl rfl rfl ?_
     refine o_move rfl rfl ?_
     refine o_yes rfl rfl rfl ?_
     refine o_bin rfl rfl rfl b_gtr ?_
     refine o_pick_true rfl rfl rfl ?_
     refine l_nil ?_
     refine q_then ?_
     refine c_cond rfl (fun h5 => ?_) (fun h5 => ?_)
     · -- h5T
      have h5b := h5
      try simp only [decide_eq_true_eq] at h5
      refine c_region ?_
      refine o_fieldAddr (q := ⟨b7, 1, none⟩) rfl rfl Try.underlying41 rfl ti3 rfl ?_
      refine o_load1 rfl rfl Try.underlying3 rfl (rd_mem 0 rfl rfl) ?_
      refine o_assign rfl rfl ?_
      refine l_nil ?_
      refine q_block ?_
      refine q_then ?_
      refine c_region ?_
      refine o_move rfl rfl ?_
      refine o_bin rfl rfl rfl (b_add (wrap_i64 (by omega) (by omega))) ?_
      refine o_assign rfl rfl ?_
      refine l_nil ?_
      refine q_conv (fun w S => S.tail) ?_
      exact q_round (i + 1, x16.f_Index) (by exact ⟨by omega, by (try dsimp only); rw [lastOf_on hl hx16]; unfold lastOn PieceOk; grind⟩) (by (try dsimp only); omega) ⟨(by first | rfl | exact vint (by omega)), (by first | rfl | exact vint (by omega)), (by first | rfl | exact vint (by omega)), (by first | rfl | exact vint (by omega)), trivial⟩ (fun w S => S)
     · -- h5F
      have h5b := h5
      try simp only [decide_eq_false_iff_not, Int.not_lt, Int.not_le] at h5
      refine c_skip ?_
      refine q_block ?_
      refine q_then ?_
      refine c_region ?_
      refine o_move rfl rfl ?_
      refine o_bin rfl rfl rfl (b_add (wrap_i64 (by omega) (by omega))) ?_
      refine o_assign rfl rfl ?_
      refine l_nil ?_
      refine q_conv (fun w S => S.tail) ?_
      exact q_round (i + 1, l) (by exact ⟨by omega, by (try dsimp only); rw [lastOf_on hl hx16]; unfold lastOn PieceOk; grind⟩) (by (try dsimp only); omega) ⟨(by first | rfl | exact vint (by omega)), (by first | rfl | exact vint (by omega)), (by first | rfl | exact vint (by omega)), (by first | rfl | exact vint (by omega)), trivial⟩ (fun w S => S)
    · -- h4F
     have h4b := h4
     try simp only [decide_eq_false_iff_not, Int.not_lt, Int.not_le] at h4
     refine o_no rfl rfl rfl rfl ?_
     refine o_no rfl rfl rfl rfl ?_
     refine o_no rfl rfl rfl rfl ?_
     refine o_no rfl rfl rfl rfl ?_
     refine o_pick_false rfl rfl rfl ?_
     refine l_nil ?_
     refine q_then ?_
     refine c_false rfl ?_
     refine c_skip ?_
     refine q_block ?_
     refine q_then ?_
     refine c_region ?_
     refine o_move rfl rfl ?_
     refine o_bin rfl rfl rfl (b_add (wrap_i64 (by omega) (by omega))) ?_
     refine o_assign rfl rfl ?_
     refine l_nil ?_
     refine q_conv (fun w S => S.tail) ?_
     exact q_round (i + 1, l) (by exact ⟨by omega, by (try dsimp only); rw [lastOf_on hl hx16]; unfold lastOn PieceOk; grind⟩) (by (try dsimp only); omega) ⟨(by first | rfl | exact vint (by omega)), (by first | rfl | exact vint (by omega)), (by first | rfl | exact vint (by omega)), (by first | rfl | exact vint (by omega)), trivial⟩ (fun w S => S)
   · -- h3F
    have h3b := h3
    try simp only [Bool.not_eq_false', decide_eq_true_eq] at h3
    refine o_no rfl rfl rfl rfl ?_
    refine o_no rfl rfl rfl rfl ?_
    refine o_no rfl rfl rfl rfl ?_
    refine o_no rfl rfl rfl rfl ?_
    refine o_pick_false rfl rfl rfl ?_
    refine o_move rfl rfl ?_
    refine o_no rfl rfl rfl rfl ?_
    refine o_no rfl rfl rfl rfl ?_
    refine o_no rfl rfl rfl rfl ?_
    refine o_no rfl rfl rfl rfl ?_
    refine o_pick_false rfl rfl rfl ?_
    refine l_nil ?_
    refine q_then ?_
    refine c_false rfl ?_
    refine c_skip ?_
    refine q_block ?_
    refine q_then ?_
    refine c_region ?_
    refine o_move rfl rfl ?_
    refine o_bin rfl rfl rfl (b_add (wrap_i64 (by omega) (by omega))) ?_
    refine o_assign rfl rfl ?_
    refine l_nil ?_
    refine q_conv (fun w S => S.tail) ?_
    exact q_round (i + 1, l) (by exact ⟨by omega, by (try dsimp only); rw [lastOf_on hl hx16]; unfold lastOn PieceOk; grind⟩) (by (try dsimp only); omega) ⟨(by first | rfl | exact vint (by omega)), (by first | rfl | exact vint (by omega)), (by first | rfl | exact vint (by omega)), (by first | rfl | exact vint (by omega)), trivial⟩ (fun w S => S)
  · -- h2F
   have h2b := h2
   try simp only [decide_eq_false_iff_not, Int.not_lt, Int.not_le] at h2
   refine o_no rfl rfl rfl rfl ?_
   refine o_no rfl rfl rfl rfl ?_
   refine o_no rfl rfl rfl rfl ?_
   refine o_no rfl rfl rfl rfl ?_
   refine o_pick_false rfl rfl rfl ?_
   refine o_move rfl rfl ?_
   refine o_no rfl rfl rfl rfl ?_
   refine o_no rfl rfl rfl rfl ?_
   refine o_no rfl rfl rfl rfl ?_
   refine o_no rfl rfl rfl rfl ?_
   refine o_pick_false rfl rfl rfl ?_
   refine o_move rfl rfl ?_
   refine o_no rfl rfl rfl rfl ?_
   refine o_no rfl rfl rfl rfl ?_
   refine o_no rfl rfl rfl rfl ?_
   refine o_no rfl rfl rfl rfl ?_
   refine o_pick_false rfl rfl rfl ?_
   refine l_nil ?_
   refine q_then ?_
   refine c_false rfl ?_
   refine c_skip ?_
   refine q_block ?_
   refine q_then ?_
   refine c_region ?_
   refine o_move rfl rfl ?_
   refine o_bin rfl rfl rfl (b_add (wrap_i64 (by omega) (by omega))) ?_
   refine o_assign rfl rfl ?_
   refine l_nil ?_
   refine q_conv (fun w S => S.tail) ?_
   exact q_round (i + 1, l) (by exact ⟨by omega, by (try dsimp only); rw [lastOf_on hl hx16]; unfold lastOn PieceOk; grind⟩) (by (try dsimp only); omega) ⟨(by first | rfl | exact vint (by omega)), (by first | rfl | exact vint (by omega)), (by first | rfl | exact vint (by omega)), (by first | rfl | exact vint (by omega)), trivial⟩ (fun w S => S)
 · -- h1F
  have h1b := h1
  try simp only [decide_eq_false_iff_not, Int.not_lt, Int.not_le] at h1
  refine c_exit ?_
  refine q_pass_exit ?_
  refine q_pass_exit ?_
  refine q_hit ?_
  refine q_then ?_
  refine c_seq ?_
  refine c_region ?_
  refine o_move rfl rfl ?_
  refine o_assign rfl rfl ?_
  refine l_nil ?_
  refine q_then ?_
  refine c_ret ?_
  exact f_ret (r_one rfl rfl) (⟨by rw [hl, List.take_of_length_le (by omega)], rfl⟩) (fun w S => S)

abbrev CountsAt (i : Nat) : Prop := ∀ {W : World} {F : List Res} {g : Int} {log : List Item} {a : Option Addr} {c : Nat}, RdS W F e_Item a log → (∀ x ∈ log, OrdR W F x.ord) → (∀ x ∈ log, x.ord.f_Marks.xs.length ≤ 1000000) → log.length ≤ 9223372036854775807 → i < log.length → log.length ≤ c →
    CS Try.prog 13 #[.int .i64 g, .slice a log.length c, .int .i64 (i : Int)] W F (fun r L' => r = .bool (decide (Cnts g log i)) ∧ F = L')
set_option maxHeartbeats 2000000 in
theorem counts_step {i : Nat} (ih : ∀ m, m < i → CountsAt m) {W : World} {F : List Res} {g : Int} {log : List Item} {a : Option Addr} {c : Nat} (hs : RdS W F e_Item a log) (ho : ∀ x ∈ log, OrdR W F x.ord) (hmk : ∀ x ∈ log, x.ord.f_Marks.xs.length ≤ 1000000) (hn : log.length ≤ 9223372036854775807) (hi0 : i < log.length) (hcc : log.length ≤ c) : CS Try.prog 13 #[.int .i64 g, .slice a log.length c, .int .i64 (i : Int)] W (F) (fun r L' => r = .bool (decide (Cnts g log i)) ∧ F = L') := by
 refine f_door (l0 := [(0, .int .i64 g), (1, .slice a log.length c), (2, .int .i64 (i : Int))]) Try.func13 Try.ntmps13 rfl rfl rfl ?_
 refine c_seq ?_
 refine c_region ?_
 refine o_assign rfl rfl ?_
 refine l_nil ?_
 refine q_then ?_
 refine c_seq ?_
 refine c_region ?_
 refine o_move rfl rfl ?_
 refine o_move rfl rfl ?_
 refine o_index e_Item_ok rfl rfl rfl Try.underlying22 (by omega) (by omega) hs fun ad11 ead11 => ?_
 obtain ⟨x11, hx11⟩ : ∃ x, (log)[((i : Int)).toNat]? = some x := ⟨_, List.getElem?_eq_getElem (by omega)⟩
 refine o_loadn (vs := e_Item.cells x11) rfl rfl Try.underlying41 rfl ti41 (rdn_sl e_Item_ok ead11 hs hx11) ?_
 refine o_alloc rfl ti41 fun b7 => ?_
 refine o_storen rfl rfl ti41 rfl rfl rfl rfl ?_
 refine l_nil ?_
 refine q_then ?_
 refine c_seq ?_
 refine c_seq ?_
 refine c_region ?_
 refine o_fieldAddr (q := ⟨b7, 2, none⟩) rfl rfl Try.underlying41 rfl ti39 rfl ?_
 refine o_loadn (vs := [_, _, _, _, _, _, _, _, _, _]) rfl rfl Try.underlying39 rfl ti39 (rdn_lit 0 rfl rfl) ?_
 refine o_move rfl rfl ?_
 refine o_call rfl cal21 rfl (homeIn_ (o := x11.ord) (key := g) (OrdR.c (ho x11 (List.mem_of_getElem? hx11))) (hmk x11 (List.mem_of_getElem? hx11))) ?_
 rintro _ _ ⟨rfl, rfl⟩
 refine o_not rfl rfl ?_
 refine l_nil ?_
 refine q_then ?_
 refine c_cond rfl (fun h1 => ?_) (fun h1 => ?_)
 · -- h1T
  have h1b := h1
  try simp only [Bool.not_eq_true', decide_eq_false_iff_not, Int.not_lt, Int.not_le] at h1
  refine c_seq ?_
  refine c_region ?_
  refine o_assign rfl rfl ?_
  refine l_nil ?_
  refine q_then ?_
  refine c_ret ?_
  refine q_pass_ret ?_
  refine q_conv (fun w S => S.tail) ?_
  exact f_ret (r_one rfl rfl) (⟨vfalse' (cnts_no hx11 (by simpa using h1b)), rfl⟩) (fun w S => S)
 · -- h1F
  have h1b := h1
  try simp only [Bool.not_eq_false', decide_eq_true_eq] at h1
  refine c_skip ?_
  refine q_then ?_
  refine c_seq ?_
  refine c_seq ?_
  refine c_region ?_
  refine o_fieldAddr (q := ⟨b7, 0, none⟩) rfl rfl Try.underlying41 rfl ti3 rfl ?_
  refine o_load1 rfl rfl Try.underlying3 rfl (rd_mem 0 rfl rfl) ?_
  refine o_bin rfl rfl rfl b_eql ?_
  refine l_nil ?_
  refine q_then ?_
  refine c_cond rfl (fun h2 => ?_) (fun h2 => ?_)
  · -- h2T
   have h2b := h2
   try simp only [decide_eq_true_eq] at h2
   refine c_seq ?_
   refine c_seq ?_
   refine c_region ?_
   refine o_fieldAddr (q := ⟨b7, 2, none⟩) rfl rfl Try.underlying41 rfl ti39 rfl ?_
   refine o_loadn (vs := [_, _, _, _, _, _, _, _, _, _]) rfl rfl Try.underlying39 rfl ti39 (rdn_lit 0 rfl rfl) ?_
   refine o_call rfl cal20 rfl (rsingle_ (o := x11.ord) (OrdR.c (ho x11 (List.mem_of_getElem? hx11))) (hmk x11 (List.mem_of_getElem? hx11))) ?_
   rintro _ _ ⟨rfl, rfl⟩
   refine o_not rfl rfl ?_
   refine l_nil ?_
   refine q_then ?_
   refine c_cond rfl (fun h3 => ?_) (fun h3 => ?_)
   · -- h3T
    have h3b := h3
    try simp only [Bool.not_eq_true', decide_eq_false_iff_not, Int.not_lt, Int.not_le] at h3
    refine c_seq ?_
    refine c_region ?_
    refine o_assign rfl rfl ?_
    refine l_nil ?_
    refine q_then ?_
    refine c_ret ?_
    refine q_pass_ret ?_
    refine q_pass_ret ?_
    refine q_conv (fun w S => S.tail) ?_
    exact f_ret (r_one rfl rfl) (⟨vfalse' (cnts_notrun hx11 h2 (by simpa using h3b)), rfl⟩) (fun w S => S)
   · -- h3F
    have h3b := h3
    try simp only [Bool.not_eq_false', decide_eq_true_eq] at h3
    refine c_skip ?_
    refine q_then ?_
    refine c_seq ?_
    refine c_seq ?_
    refine c_region ?_
    refine o_assign rfl rfl ?_
    refine l_nil ?_
    refine q_then ?_
    refine c_block ?_
    refine c_loop (α := Nat) (fun z => [(0, .int .i64 g), (1, .slice a (log).length c), (2, .int .i64 (i : Int)), (7, .pointer (some ⟨b7, 0, none⟩)), (8, .int .i64 (z : Int))]) (fun z => blk b7 (.cells #[.int .i64 x11.f_Kind, .int .i64 x11.f_Index, .int .i64 x11.ord.f_Tag_Id_Node, .int .u64 x11.ord.f_Tag_Id_Epoch, .int .u64 x11.ord.f_Tag_Id_Seq, .int .i64 x11.ord.f_Tag_Try, .int .i64 x11.ord.f_Txn_Kind, .slice x11.ord.f_Txn_Reads.a (x11.ord.f_Txn_Reads.xs).length x11.ord.f_Txn_Reads.c, .slice x11.ord.f_Txn_Writes.a (x11.ord.f_Txn_Writes.xs).length x11.ord.f_Txn_Writes.c, .slice x11.ord.f_Txn_Ops.a (x11.ord.f_Txn_Ops.xs).length x11.ord.f_Txn_Ops.c, .int .i64 x11.ord.f_Txn_To, .slice x11.ord.f_Marks.a (x11.ord.f_Marks.xs).length x11.ord.f_Marks.c] 41 (0, 0)) :: F) (fun z => z ≤ i ∧ ∀ k, k < z → ¬ HadP g log x11.ord.tag k) (fun z => i - z) (0) (by exact ⟨Nat.zero_le _, fun k h => absurd h (by omega)⟩) ⟨(by first | rfl | exact vint (by omega)), (by first | rfl | exact vint (by omega)), (by first | rfl | exact vint (by omega)), (by first | rfl | exact vint (by omega)), (by first | rfl | exact vint (by omega)), trivial⟩ (fun w S => S) ?_
    rintro j ⟨hj, hno⟩
    try dsimp only at *
    refine c_seq ?_
    refine c_seq ?_
    refine c_region ?_
    refine o_move rfl rfl ?_
    refine o_move rfl rfl ?_
    refine o_bin rfl rfl rfl b_lss ?_
    refine l_nil ?_
    refine q_then ?_
    refine c_cond rfl (fun h4 => ?_) (fun h4 => ?_)
    · -- h4T
     have h4b := h4
     try simp only [decide_eq_true_eq] at h4
     refine c_skip ?_
     refine q_then ?_
     refine c_seq ?_
     refine c_block ?_
     refine c_seq ?_
     refine c_fact (p := ∃ ad, a = some ad) (rds_some (e := e_Item) (xs := log) (rds_c hs) (by intro h0; have h00 := congrArg List.length h0; simp only [List.length_nil] at h00; omega)) ?_
     rintro ⟨adx, eadx⟩
     refine c_heldF [] (blk b7 (.cells #[.int .i64 x11.f_Kind, .int .i64 x11.f_Index, .int .i64 x11.ord.f_Tag_Id_Node, .int .u64 x11.ord.f_Tag_Id_Epoch, .int .u64 x11.ord.f_Tag_Id_Seq, .int .i64 x11.ord.f_Tag_Try, .int .i64 x11.ord.f_Txn_Kind, .slice x11.ord.f_Txn_Reads.a (x11.ord.f_Txn_Reads.xs).length x11.ord.f_Txn_Reads.c, .slice x11.ord.f_Txn_Writes.a (x11.ord.f_Txn_Writes.xs).length x11.ord.f_Txn_Writes.c, .slice x11.ord.f_Txn_Ops.a (x11.ord.f_Txn_Ops.xs).length x11.ord.f_Txn_Ops.c, .int .i64 x11.ord.f_Txn_To, .slice x11.ord.f_Marks.a (x11.ord.f_Marks.xs).length x11.ord.f_Marks.c] 41 (0, 0)) :: F) (by kernel_rfl) ?_
     refine h_take 0 rfl rfl (by kernel_rfl) (by kernel_rfl) (by kernel_rfl) (fun L0 => v_move rfl rfl) ?_
     refine h_take 1 rfl rfl (by kernel_rfl) (by kernel_rfl) (by kernel_rfl) (fun L0 => v_move rfl rfl) ?_
     refine h_take 2 rfl rfl (by kernel_rfl) (by kernel_rfl) (by kernel_rfl) (fun L0 => v_indexK e_Item_ok eadx rfl rfl rfl Try.underlying22 (by omega) (by omega)) ?_
     obtain ⟨x32, hx32⟩ : ∃ x, (log)[((j : Int)).toNat]? = some x := ⟨_, List.getElem?_eq_getElem (by omega)⟩
     refine h_take 3 rfl rfl (by kernel_rfl) (by kernel_rfl) (by kernel_rfl) (fun L0 => v_fieldAddr rfl rfl Try.underlying41 rfl ti3 (Addr.add_add' _ _ _)) ?_
     refine h_take 4 rfl rfl (by kernel_rfl) (by kernel_rfl) (by kernel_rfl) (fun L0 => v_load1 rfl rfl Try.underlying3 rfl (rd_sl e_Item_ok eadx (rds_app (rds_c hs)) hx32 rfl)) ?_
     refine h_take 5 rfl rfl (by kernel_rfl) (by kernel_rfl) (by kernel_rfl) (fun L0 => v_bin rfl rfl rfl b_eql) ?_
     refine h_take 6 rfl rfl (by kernel_rfl) (by kernel_rfl) (by kernel_rfl) (fun L0 => v_move rfl rfl) ?_
     refine h_split (t := 36) rfl (fun h5 => ?_) (fun h5 => ?_)
     · -- h5T
      have h5b := h5
      try simp only [decide_eq_true_eq] at h5
      refine h_take_yes 7 rfl rfl rfl rfl rfl (by kernel_rfl) (by kernel_rfl) (by kernel_rfl) (fun L0 => v_move rfl rfl) ?_
      refine h_take_yes 8 rfl rfl rfl rfl rfl (by kernel_rfl) (by kernel_rfl) (by kernel_rfl) (fun L0 => v_move rfl rfl) ?_
      refine h_take_yes 9 rfl rfl rfl rfl rfl (by kernel_rfl) (by kernel_rfl) (by kernel_rfl) (fun L0 => v_indexK e_Item_ok eadx rfl rfl rfl Try.underlying22 (by omega) (by omega)) ?_
      obtain ⟨x39, hx39⟩ : ∃ x, (log)[((j : Int)).toNat]? = some x := ⟨_, List.getElem?_eq_getElem (by omega)⟩
      have e39 : x39 = x32 := by rw [hx32] at hx39; exact (Option.some.inj hx39).symm
      refine h_take_yes 10 rfl rfl rfl rfl rfl (by kernel_rfl) (by kernel_rfl) (by kernel_rfl) (fun L0 => v_fieldAddr rfl rfl Try.underlying41 rfl ti39 (Addr.add_add' _ _ _)) ?_
      refine h_take_yes 11 rfl rfl rfl rfl rfl (by kernel_rfl) (by kernel_rfl) (by kernel_rfl) (fun L0 => v_fieldAddr rfl rfl Try.underlying39 rfl ti32 (Addr.add_add' _ _ _)) ?_
      refine h_take_yes 12 rfl rfl rfl rfl rfl (by kernel_rfl) (by kernel_rfl) (by kernel_rfl) (fun L0 => v_loadn (vs := [.int .i64 x39.ord.f_Tag_Id_Node, .int .u64 x39.ord.f_Tag_Id_Epoch, .int .u64 x39.ord.f_Tag_Id_Seq, .int .i64 x39.ord.f_Tag_Try]) rfl rfl Try.underlying32 rfl ti32 (rdn_slo (n := 4) e_Item_ok eadx (rds_app (rds_c hs)) hx39 rfl)) ?_
      refine h_take_yes 13 rfl rfl rfl rfl rfl (by kernel_rfl) (by kernel_rfl) (by kernel_rfl) (fun L0 => v_fieldAddr (q := ⟨b7, 2, none⟩) rfl rfl Try.underlying41 rfl ti39 rfl) ?_
      refine h_take_yes 14 rfl rfl rfl rfl rfl (by kernel_rfl) (by kernel_rfl) (by kernel_rfl) (fun L0 => v_fieldAddr (q := ⟨b7, 2, none⟩) rfl rfl Try.underlying39 rfl ti32 rfl) ?_
      refine h_take_yes 15 rfl rfl rfl rfl rfl (by kernel_rfl) (by kernel_rfl) (by kernel_rfl) (fun L0 => v_loadn (vs := [_, _, _, _]) rfl rfl Try.underlying32 rfl ti32 (rdn_lit 0 rfl rfl)) ?_
      refine h_take_yes 16 rfl rfl rfl rfl rfl (by kernel_rfl) (by kernel_rfl) (by kernel_rfl) (fun L0 => v_bin rfl rfl rfl (b_eqlS32 ⟨x39.ord.f_Tag_Id_Node, x39.ord.f_Tag_Id_Epoch, x39.ord.f_Tag_Id_Seq, x39.ord.f_Tag_Try⟩ ⟨x11.ord.f_Tag_Id_Node, x11.ord.f_Tag_Id_Epoch, x11.ord.f_Tag_Id_Seq, x11.ord.f_Tag_Try⟩)) ?_
      refine h_take 17 rfl rfl (by kernel_rfl) (by kernel_rfl) (by kernel_rfl) (fun L0 => v_pick_true rfl rfl rfl) ?_
      refine h_take 18 rfl rfl (by kernel_rfl) (by kernel_rfl) (by kernel_rfl) (fun L0 => v_move rfl rfl) ?_
      refine h_split (t := 48) rfl (fun h6 => ?_) (fun h6 => ?_)
      · -- h6T
       have h6b := h6
       try simp only [decide_eq_true_eq] at h6
       refine h_take_yes 19 rfl rfl rfl rfl rfl (by kernel_rfl) (by kernel_rfl) (by kernel_rfl) (fun L0 => v_move rfl rfl) ?_
       refine h_take_yes 20 rfl rfl rfl rfl rfl (by kernel_rfl) (by kernel_rfl) (by kernel_rfl) (fun L0 => v_move rfl rfl) ?_
       refine h_take_yes 21 rfl rfl rfl rfl rfl (by kernel_rfl) (by kernel_rfl) (by kernel_rfl) (fun L0 => v_move rfl rfl) ?_
       refine h_one 22 rfl (by kernel_rfl) ?_
       refine l_conv (L' := blk b7 (.cells #[.int .i64 x11.f_Kind, .int .i64 x11.f_Index, .int .i64 x11.ord.f_Tag_Id_Node, .int .u64 x11.ord.f_Tag_Id_Epoch, .int .u64 x11.ord.f_Tag_Id_Seq, .int .i64 x11.ord.f_Tag_Try, .int .i64 x11.ord.f_Txn_Kind, .slice x11.ord.f_Txn_Reads.a (x11.ord.f_Txn_Reads.xs).length x11.ord.f_Txn_Reads.c, .slice x11.ord.f_Txn_Writes.a (x11.ord.f_Txn_Writes.xs).length x11.ord.f_Txn_Writes.c, .slice x11.ord.f_Txn_Ops.a (x11.ord.f_Txn_Ops.xs).length x11.ord.f_Txn_Ops.c, .int .i64 x11.ord.f_Txn_To, .slice x11.ord.f_Marks.a (x11.ord.f_Marks.xs).length x11.ord.f_Marks.c] 41 (0, 0)) :: F) (fun w S => S.perm List.perm_append_comm) ?_
       refine o_yes rfl rfl rfl ?_
       refine o_call rfl cal13 rfl (ih j (by omega) (rds_c hs) (fun x hx => (OrdR.c (ho x hx))) hmk (by omega) (by omega) (by omega)) ?_
       rintro _ _ ⟨rfl, rfl⟩
       refine l_nil ?_
       refine q_conv (L' := (blk b7 (.cells #[.int .i64 x11.f_Kind, .int .i64 x11.f_Index, .int .i64 x11.ord.f_Tag_Id_Node, .int .u64 x11.ord.f_Tag_Id_Epoch, .int .u64 x11.ord.f_Tag_Id_Seq, .int .i64 x11.ord.f_Tag_Try, .int .i64 x11.ord.f_Txn_Kind, .slice x11.ord.f_Txn_Reads.a (x11.ord.f_Txn_Reads.xs).length x11.ord.f_Txn_Reads.c, .slice x11.ord.f_Txn_Writes.a (x11.ord.f_Txn_Writes.xs).length x11.ord.f_Txn_Writes.c, .slice x11.ord.f_Txn_Ops.a (x11.ord.f_Txn_Ops.xs).length x11.ord.f_Txn_Ops.c, .int .i64 x11.ord.f_Txn_To, .slice x11.ord.f_Marks.a (x11.ord.f_Marks.xs).length x11.ord.f_Marks.c] 41 (0, 0)) :: F) ++ []) (fun w S => S.perm (List.perm_append_comm (l₁ := []) (l₂ := blk b7 (.cells #[.int .i64 x11.f_Kind, .int .i64 x11.f_Index, .int .i64 x11.ord.f_Tag_Id_Node, .int .u64 x11.ord.f_Tag_Id_Epoch, .int .u64 x11.ord.f_Tag_Id_Seq, .int .i64 x11.ord.f_Tag_Try, .int .i64 x11.ord.f_Txn_Kind, .slice x11.ord.f_Txn_Reads.a (x11.ord.f_Txn_Reads.xs).length x11.ord.f_Txn_Reads.c, .slice x11.ord.f_Txn_Writes.a (x11.ord.f_Txn_Writes.xs).length x11.ord.f_Txn_Writes.c, .slice x11.ord.f_Txn_Ops.a (x11.ord.f_Txn_Ops.xs).length x11.ord.f_Txn_Ops.c, .int .i64 x11.ord.f_Txn_To, .slice x11.ord.f_Marks.a (x11.ord.f_Marks.xs).length x11.ord.f_Marks.c] 41 (0, 0)) :: F))) ?_
       refine h_next ?_
       refine h_take 23 rfl rfl (by kernel_rfl) (by kernel_rfl) (by kernel_rfl) (fun L0 => v_pick_true rfl rfl rfl) ?_
       refine h_done (by kernel_rfl) ?_
       refine q_conv (L' := blk b7 (.cells #[.int .i64 x11.f_Kind, .int .i64 x11.f_Index, .int .i64 x11.ord.f_Tag_Id_Node, .int .u64 x11.ord.f_Tag_Id_Epoch, .int .u64 x11.ord.f_Tag_Id_Seq, .int .i64 x11.ord.f_Tag_Try, .int .i64 x11.ord.f_Txn_Kind, .slice x11.ord.f_Txn_Reads.a (x11.ord.f_Txn_Reads.xs).length x11.ord.f_Txn_Reads.c, .slice x11.ord.f_Txn_Writes.a (x11.ord.f_Txn_Writes.xs).length x11.ord.f_Txn_Writes.c, .slice x11.ord.f_Txn_Ops.a (x11.ord.f_Txn_Ops.xs).length x11.ord.f_Txn_Ops.c, .int .i64 x11.ord.f_Txn_To, .slice x11.ord.f_Marks.a (x11.ord.f_Marks.xs).length x11.ord.f_Marks.c] 41 (0, 0)) :: F) (fun w S => S.perm List.perm_append_comm) ?_
       refine q_then ?_
       refine c_cond rfl (fun h7 => ?_) (fun h7 => ?_)
       · -- h7T
        have h7b := h7
        try simp only [decide_eq_true_eq] at h7
        refine c_seq ?_
        refine c_region ?_
        refine o_assign rfl rfl ?_
        refine l_nil ?_
        refine q_then ?_
        refine c_ret ?_
        refine q_block_ret ?_
        refine q_pass_ret ?_
        refine q_pass_ret ?_
        refine q_block_ret ?_
        refine q_pass_ret ?_
        refine q_pass_ret ?_
        refine q_conv (fun w S => S.tail) ?_
        exact f_ret (r_one rfl rfl) (⟨vfalse' (cnts_again hx11 h2 (by omega) hx32 (by assumption) (by rw [← e39]; assumption) (by simp_all)), rfl⟩) (fun w S => S)
       · -- h7F
        have h7b := h7
        try simp only [decide_eq_false_iff_not, Int.not_lt, Int.not_le] at h7
        refine c_skip ?_
        refine q_block ?_
        refine q_then ?_
        refine c_region ?_
        refine o_move rfl rfl ?_
        refine o_bin rfl rfl rfl (b_add (wrap_i64 (by omega) (by omega))) ?_
        refine o_assign rfl rfl ?_
        refine l_nil ?_
        exact q_round (j + 1) (by exact ⟨by omega, fun k hk => by rcases Nat.lt_succ_iff_lt_or_eq.1 hk with h9 | h9; exact hno k h9; subst h9; rw [hadP hx32]; grind⟩) (by (try dsimp only); omega) ⟨(by first | rfl | exact vint (by omega)), (by first | rfl | exact vint (by omega)), (by first | rfl | exact vint (by omega)), (by first | rfl | exact vint (by omega)), (by first | rfl | exact vint (by omega)), trivial⟩ (fun w S => S)
      · -- h6F
       have h6b := h6
       try simp only [decide_eq_false_iff_not, Int.not_lt, Int.not_le] at h6
       refine h_take_no 19 rfl rfl rfl rfl rfl (by kernel_rfl) (by kernel_rfl) (by kernel_rfl) ?_
       refine h_take_no 20 rfl rfl rfl rfl rfl (by kernel_rfl) (by kernel_rfl) (by kernel_rfl) ?_
       refine h_take_no 21 rfl rfl rfl rfl rfl (by kernel_rfl) (by kernel_rfl) (by kernel_rfl) ?_
       refine h_take_no 22 rfl rfl rfl rfl rfl (by kernel_rfl) (by kernel_rfl) (by kernel_rfl) ?_
       refine h_take 23 rfl rfl (by kernel_rfl) (by kernel_rfl) (by kernel_rfl) (fun L0 => v_pick_false rfl rfl rfl) ?_
       refine h_done (by kernel_rfl) ?_
       refine q_conv (L' := blk b7 (.cells #[.int .i64 x11.f_Kind, .int .i64 x11.f_Index, .int .i64 x11.ord.f_Tag_Id_Node, .int .u64 x11.ord.f_Tag_Id_Epoch, .int .u64 x11.ord.f_Tag_Id_Seq, .int .i64 x11.ord.f_Tag_Try, .int .i64 x11.ord.f_Txn_Kind, .slice x11.ord.f_Txn_Reads.a (x11.ord.f_Txn_Reads.xs).length x11.ord.f_Txn_Reads.c, .slice x11.ord.f_Txn_Writes.a (x11.ord.f_Txn_Writes.xs).length x11.ord.f_Txn_Writes.c, .slice x11.ord.f_Txn_Ops.a (x11.ord.f_Txn_Ops.xs).length x11.ord.f_Txn_Ops.c, .int .i64 x11.ord.f_Txn_To, .slice x11.ord.f_Marks.a (x11.ord.f_Marks.xs).length x11.ord.f_Marks.c] 41 (0, 0)) :: F) (fun w S => S.perm List.perm_append_comm) ?_
       refine q_then ?_
       refine c_false rfl ?_
       refine c_skip ?_
       refine q_block ?_
       refine q_then ?_
       refine c_region ?_
       refine o_move rfl rfl ?_
       refine o_bin rfl rfl rfl (b_add (wrap_i64 (by omega) (by omega))) ?_
       refine o_assign rfl rfl ?_
       refine l_nil ?_
       exact q_round (j + 1) (by exact ⟨by omega, fun k hk => by rcases Nat.lt_succ_iff_lt_or_eq.1 hk with h9 | h9; exact hno k h9; subst h9; rw [hadP hx32]; grind⟩) (by (try dsimp only); omega) ⟨(by first | rfl | exact vint (by omega)), (by first | rfl | exact vint (by omega)), (by first | rfl | exact vint (by omega)), (by first | rfl | exact vint (by omega)), (by first | rfl | exact vint (by omega)), trivial⟩ (fun w S => S)
     · -- h5F
      have h5b := h5
      try simp only [decide_eq_false_iff_not, Int.not_lt, Int.not_le] at h5
      refine h_take_no 7 rfl rfl rfl rfl rfl (by kernel_rfl) (by kernel_rfl) (by kernel_rfl) ?_
      refine h_take_no 8 rfl rfl rfl rfl rfl (by kernel_rfl) (by kernel_rfl) (by kernel_rfl) ?_
      refine h_take_no 9 rfl rfl rfl rfl rfl (by kernel_rfl) (by kernel_rfl) (by kernel_rfl) ?_
      refine h_take_no 10 rfl rfl rfl rfl rfl (by kernel_rfl) (by kernel_rfl) (by kernel_rfl) ?_
      refine h_take_no 11 rfl rfl rfl rfl rfl (by kernel_rfl) (by kernel_rfl) (by kernel_rfl) ?_
      refine h_take_no 12 rfl rfl rfl rfl rfl (by kernel_rfl) (by kernel_rfl) (by kernel_rfl) ?_
      refine h_take_no 13 rfl rfl rfl rfl rfl (by kernel_rfl) (by kernel_rfl) (by kernel_rfl) ?_
      refine h_take_no 14 rfl rfl rfl rfl rfl (by kernel_rfl) (by kernel_rfl) (by kernel_rfl) ?_
      refine h_take_no 15 rfl rfl rfl rfl rfl (by kernel_rfl) (by kernel_rfl) (by kernel_rfl) ?_
      refine h_take_no 16 rfl rfl rfl rfl rfl (by kernel_rfl) (by kernel_rfl) (by kernel_rfl) ?_
      refine h_take 17 rfl rfl (by kernel_rfl) (by kernel_rfl) (by kernel_rfl) (fun L0 => v_pick_false rfl rfl rfl) ?_
      refine h_take 18 rfl rfl (by kernel_rfl) (by kernel_rfl) (by kernel_rfl) (fun L0 => v_move rfl rfl) ?_
      refine h_take_no 19 rfl rfl rfl rfl rfl (by kernel_rfl) (by kernel_rfl) (by kernel_rfl) ?_
      refine h_take_no 20 rfl rfl rfl rfl rfl (by kernel_rfl) (by kernel_rfl) (by kernel_rfl) ?_
      refine h_take_no 21 rfl rfl rfl rfl rfl (by kernel_rfl) (by kernel_rfl) (by kernel_rfl) ?_
      refine h_take_no 22 rfl rfl rfl rfl rfl (by kernel_rfl) (by kernel_rfl) (by kernel_rfl) ?_
      refine h_take 23 rfl rfl (by kernel_rfl) (by kernel_rfl) (by kernel_rfl) (fun L0 => v_pick_false rfl rfl rfl) ?_
      refine h_done (by kernel_rfl) ?_
      refine q_conv (L' := blk b7 (.cells #[.int .i64 x11.f_Kind, .int .i64 x11.f_Index, .int .i64 x11.ord.f_Tag_Id_Node, .int .u64 x11.ord.f_Tag_Id_Epoch, .int .u64 x11.ord.f_Tag_Id_Seq, .int .i64 x11.ord.f_Tag_Try, .int .i64 x11.ord.f_Txn_Kind, .slice x11.ord.f_Txn_Reads.a (x11.ord.f_Txn_Reads.xs).length x11.ord.f_Txn_Reads.c, .slice x11.ord.f_Txn_Writes.a (x11.ord.f_Txn_Writes.xs).length x11.ord.f_Txn_Writes.c, .slice x11.ord.f_Txn_Ops.a (x11.ord.f_Txn_Ops.xs).length x11.ord.f_Txn_Ops.c, .int .i64 x11.ord.f_Txn_To, .slice x11.ord.f_Marks.a (x11.ord.f_Marks.xs).length x11.ord.f_Marks.c] 41 (0, 0)) :: F) (fun w S => S.perm List.perm_append_comm) ?_
      refine q_then ?_
      refine c_false rfl ?_
      refine c_skip ?_
      refine q_block ?_
      refine q_then ?_
      refine c_region ?_
      refine o_move rfl rfl ?_
      refine o_bin rfl rfl rfl (b_add (wrap_i64 (by omega) (by omega))) ?_
      refine o_assign rfl rfl ?_
      refine l_nil ?_
      exact q_round (j + 1) (by exact ⟨by omega, fun k hk => by rcases Nat.lt_succ_iff_lt_or_eq.1 hk with h9 | h9; exact hno k h9; subst h9; rw [hadP hx32]; grind⟩) (by (try dsimp only); omega) ⟨(by first | rfl | exact vint (by omega)), (by first | rfl | exact vint (by omega)), (by first | rfl | exact vint (by omega)), (by first | rfl | exact vint (by omega)), (by first | rfl | exact vint (by omega)), trivial⟩ (fun w S => S)
    · -- h4F
     have h4b := h4
     try simp only [decide_eq_false_iff_not, Int.not_lt, Int.not_le] at h4
     refine c_exit ?_
     refine q_pass_exit ?_
     refine q_pass_exit ?_
     refine q_hit ?_
     refine q_then ?_
     refine c_seq ?_
     refine c_region ?_
     refine o_assign rfl rfl ?_
     refine l_nil ?_
     refine q_then ?_
     refine c_ret ?_
     refine q_pass_ret ?_
     refine q_conv (fun w S => S.tail) ?_
     exact f_ret (r_one rfl rfl) (⟨vtrue' (cnts_first hx11 ⟨h2, (by simpa using h1b), (by simpa using h3b)⟩ (fun k hk => hno k (by omega))), rfl⟩) (fun w S => S)
  · -- h2F
   have h2b := h2
   try simp only [decide_eq_false_iff_not, Int.not_lt, Int.not_le] at h2
   refine c_skip ?_
   refine q_then ?_
   refine c_seq ?_
   refine c_heldF [] (blk b7 (.cells #[.int .i64 x11.f_Kind, .int .i64 x11.f_Index, .int .i64 x11.ord.f_Tag_Id_Node, .int .u64 x11.ord.f_Tag_Id_Epoch, .int .u64 x11.ord.f_Tag_Id_Seq, .int .i64 x11.ord.f_Tag_Try, .int .i64 x11.ord.f_Txn_Kind, .slice x11.ord.f_Txn_Reads.a (x11.ord.f_Txn_Reads.xs).length x11.ord.f_Txn_Reads.c, .slice x11.ord.f_Txn_Writes.a (x11.ord.f_Txn_Writes.xs).length x11.ord.f_Txn_Writes.c, .slice x11.ord.f_Txn_Ops.a (x11.ord.f_Txn_Ops.xs).length x11.ord.f_Txn_Ops.c, .int .i64 x11.ord.f_Txn_To, .slice x11.ord.f_Marks.a (x11.ord.f_Marks.xs).length x11.ord.f_Marks.c] 41 (0, 0)) :: F) (by kernel_rfl) ?_
   refine h_take 0 rfl rfl (by kernel_rfl) (by kernel_rfl) (by kernel_rfl) (fun L0 => v_fieldAddr (q := ⟨b7, 0, none⟩) rfl rfl Try.underlying41 rfl ti3 rfl) ?_
   refine h_take 1 rfl rfl (by kernel_rfl) (by kernel_rfl) (by kernel_rfl) (fun L0 => v_load1 rfl rfl Try.underlying3 rfl (rd_mem 0 rfl rfl)) ?_
   refine h_take 2 rfl rfl (by kernel_rfl) (by kernel_rfl) (by kernel_rfl) (fun L0 => v_bin rfl rfl rfl b_eql) ?_
   refine h_take 3 rfl rfl (by kernel_rfl) (by kernel_rfl) (by kernel_rfl) (fun L0 => v_move rfl rfl) ?_
   refine h_split (t := 57) rfl (fun h8 => ?_) (fun h8 => ?_)
   · -- h8T
    have h8b := h8
    try simp only [decide_eq_true_eq] at h8
    refine h_take_yes 4 rfl rfl rfl rfl rfl (by kernel_rfl) (by kernel_rfl) (by kernel_rfl) (fun L0 => v_fieldAddr (q := ⟨b7, 2, none⟩) rfl rfl Try.underlying41 rfl ti39 rfl) ?_
    refine h_take_yes 5 rfl rfl rfl rfl rfl (by kernel_rfl) (by kernel_rfl) (by kernel_rfl) (fun L0 => v_loadn (vs := [_, _, _, _, _, _, _, _, _, _]) rfl rfl Try.underlying39 rfl ti39 (rdn_lit 0 rfl rfl)) ?_
    refine h_one 6 rfl (by kernel_rfl) ?_
    refine l_conv (L' := blk b7 (.cells #[.int .i64 x11.f_Kind, .int .i64 x11.f_Index, .int .i64 x11.ord.f_Tag_Id_Node, .int .u64 x11.ord.f_Tag_Id_Epoch, .int .u64 x11.ord.f_Tag_Id_Seq, .int .i64 x11.ord.f_Tag_Try, .int .i64 x11.ord.f_Txn_Kind, .slice x11.ord.f_Txn_Reads.a (x11.ord.f_Txn_Reads.xs).length x11.ord.f_Txn_Reads.c, .slice x11.ord.f_Txn_Writes.a (x11.ord.f_Txn_Writes.xs).length x11.ord.f_Txn_Writes.c, .slice x11.ord.f_Txn_Ops.a (x11.ord.f_Txn_Ops.xs).length x11.ord.f_Txn_Ops.c, .int .i64 x11.ord.f_Txn_To, .slice x11.ord.f_Marks.a (x11.ord.f_Marks.xs).length x11.ord.f_Marks.c] 41 (0, 0)) :: F) (fun w S => S.perm List.perm_append_comm) ?_
    refine o_yes rfl rfl rfl ?_
    refine o_call rfl cal20 rfl (rsingle_ (o := x11.ord) (OrdR.c (ho x11 (List.mem_of_getElem? hx11))) (hmk x11 (List.mem_of_getElem? hx11))) ?_
    rintro _ _ ⟨rfl, rfl⟩
    refine l_nil ?_
    refine q_conv (L' := (blk b7 (.cells #[.int .i64 x11.f_Kind, .int .i64 x11.f_Index, .int .i64 x11.ord.f_Tag_Id_Node, .int .u64 x11.ord.f_Tag_Id_Epoch, .int .u64 x11.ord.f_Tag_Id_Seq, .int .i64 x11.ord.f_Tag_Try, .int .i64 x11.ord.f_Txn_Kind, .slice x11.ord.f_Txn_Reads.a (x11.ord.f_Txn_Reads.xs).length x11.ord.f_Txn_Reads.c, .slice x11.ord.f_Txn_Writes.a (x11.ord.f_Txn_Writes.xs).length x11.ord.f_Txn_Writes.c, .slice x11.ord.f_Txn_Ops.a (x11.ord.f_Txn_Ops.xs).length x11.ord.f_Txn_Ops.c, .int .i64 x11.ord.f_Txn_To, .slice x11.ord.f_Marks.a (x11.ord.f_Marks.xs).length x11.ord.f_Marks.c] 41 (0, 0)) :: F) ++ []) (fun w S => S.perm (List.perm_append_comm (l₁ := []) (l₂ := blk b7 (.cells #[.int .i64 x11.f_Kind, .int .i64 x11.f_Index, .int .i64 x11.ord.f_Tag_Id_Node, .int .u64 x11.ord.f_Tag_Id_Epoch, .int .u64 x11.ord.f_Tag_Id_Seq, .int .i64 x11.ord.f_Tag_Try, .int .i64 x11.ord.f_Txn_Kind, .slice x11.ord.f_Txn_Reads.a (x11.ord.f_Txn_Reads.xs).length x11.ord.f_Txn_Reads.c, .slice x11.ord.f_Txn_Writes.a (x11.ord.f_Txn_Writes.xs).length x11.ord.f_Txn_Writes.c, .slice x11.ord.f_Txn_Ops.a (x11.ord.f_Txn_Ops.xs).length x11.ord.f_Txn_Ops.c, .int .i64 x11.ord.f_Txn_To, .slice x11.ord.f_Marks.a (x11.ord.f_Marks.xs).length x11.ord.f_Marks.c] 41 (0, 0)) :: F))) ?_
    refine h_next ?_
    refine h_take_yes 7 rfl rfl rfl rfl rfl (by kernel_rfl) (by kernel_rfl) (by kernel_rfl) (fun L0 => v_not rfl rfl) ?_
    refine h_take 8 rfl rfl (by kernel_rfl) (by kernel_rfl) (by kernel_rfl) (fun L0 => v_pick_true rfl rfl rfl) ?_
    refine h_take 9 rfl rfl (by kernel_rfl) (by kernel_rfl) (by kernel_rfl) (fun L0 => v_move rfl rfl) ?_
    refine h_split (t := 63) rfl (fun h9 => ?_) (fun h9 => ?_)
    · -- h9T
     have h9b := h9
     try simp only [Bool.not_eq_true', decide_eq_false_iff_not, Int.not_lt, Int.not_le] at h9
     refine h_take_yes 10 rfl rfl rfl rfl rfl (by kernel_rfl) (by kernel_rfl) (by kernel_rfl) (fun L0 => v_fieldAddr (q := ⟨b7, 1, none⟩) rfl rfl Try.underlying41 rfl ti3 rfl) ?_
     refine h_take_yes 11 rfl rfl rfl rfl rfl (by kernel_rfl) (by kernel_rfl) (by kernel_rfl) (fun L0 => v_load1 rfl rfl Try.underlying3 rfl (rd_mem 0 rfl rfl)) ?_
     refine h_take_yes 12 rfl rfl rfl rfl rfl (by kernel_rfl) (by kernel_rfl) (by kernel_rfl) (fun L0 => v_move rfl rfl) ?_
     refine h_take_yes 13 rfl rfl rfl rfl rfl (by kernel_rfl) (by kernel_rfl) (by kernel_rfl) (fun L0 => v_move rfl rfl) ?_
     refine h_take_yes 14 rfl rfl rfl rfl rfl (by kernel_rfl) (by kernel_rfl) (by kernel_rfl) (fun L0 => v_move rfl rfl) ?_
     refine h_take_yes 15 rfl rfl rfl rfl rfl (by kernel_rfl) (by kernel_rfl) (by kernel_rfl) (fun L0 => v_cut (l' := 0) (h' := i) (m := c) rfl rfl Try.underlying22 ti41 (.inl ⟨rfl, rfl⟩) (.inr ⟨_, _, rfl, icast rfl (by omega), (by omega)⟩) (.inl ⟨rfl, rfl⟩)) ?_
     obtain ⟨ys69, ay69, cut69, hys69, hlys69, eay69⟩ : ∃ ys_ ay_, (∀ {L : List Res}, RdS W L e_Item a log → RdS W L e_Item ay_ ys_) ∧ ys_ = sub log 0 i ∧ ys_.length = i - 0 ∧ cutA a c 0 12 = ay_ := ⟨_, _, fun h => rds_cut e_Item_ok h _ _ _ (by omega), rfl, sub_len (by omega), rfl⟩
     refine h_eq (t := 69) (v' := .slice ay69 ys69.length (c - 0)) rfl (by rw [eay69, hlys69]) ?_
     refine h_one 16 rfl (by kernel_rfl) ?_
     refine l_conv (L' := blk b7 (.cells #[.int .i64 x11.f_Kind, .int .i64 x11.f_Index, .int .i64 x11.ord.f_Tag_Id_Node, .int .u64 x11.ord.f_Tag_Id_Epoch, .int .u64 x11.ord.f_Tag_Id_Seq, .int .i64 x11.ord.f_Tag_Try, .int .i64 x11.ord.f_Txn_Kind, .slice x11.ord.f_Txn_Reads.a (x11.ord.f_Txn_Reads.xs).length x11.ord.f_Txn_Reads.c, .slice x11.ord.f_Txn_Writes.a (x11.ord.f_Txn_Writes.xs).length x11.ord.f_Txn_Writes.c, .slice x11.ord.f_Txn_Ops.a (x11.ord.f_Txn_Ops.xs).length x11.ord.f_Txn_Ops.c, .int .i64 x11.ord.f_Txn_To, .slice x11.ord.f_Marks.a (x11.ord.f_Marks.xs).length x11.ord.f_Marks.c] 41 (0, 0)) :: F) (fun w S => S.perm List.perm_append_comm) ?_
     refine o_yes rfl rfl rfl ?_
     refine o_call rfl cal15 rfl (rlast_ (log := ys69) (g := g) (cut69 (rds_c hs)) (fun x hx => (OrdR.c (ho x (sub_mem'' (by rw [hys69] at hx; exact hx))))) (fun x hx => hmk x (sub_mem'' (by rw [hys69] at hx; exact hx))) (by omega)) ?_
     rintro _ _ ⟨rfl, rfl⟩
     refine l_nil ?_
     refine q_conv (L' := (blk b7 (.cells #[.int .i64 x11.f_Kind, .int .i64 x11.f_Index, .int .i64 x11.ord.f_Tag_Id_Node, .int .u64 x11.ord.f_Tag_Id_Epoch, .int .u64 x11.ord.f_Tag_Id_Seq, .int .i64 x11.ord.f_Tag_Try, .int .i64 x11.ord.f_Txn_Kind, .slice x11.ord.f_Txn_Reads.a (x11.ord.f_Txn_Reads.xs).length x11.ord.f_Txn_Reads.c, .slice x11.ord.f_Txn_Writes.a (x11.ord.f_Txn_Writes.xs).length x11.ord.f_Txn_Writes.c, .slice x11.ord.f_Txn_Ops.a (x11.ord.f_Txn_Ops.xs).length x11.ord.f_Txn_Ops.c, .int .i64 x11.ord.f_Txn_To, .slice x11.ord.f_Marks.a (x11.ord.f_Marks.xs).length x11.ord.f_Marks.c] 41 (0, 0)) :: F) ++ []) (fun w S => S.perm (List.perm_append_comm (l₁ := []) (l₂ := blk b7 (.cells #[.int .i64 x11.f_Kind, .int .i64 x11.f_Index, .int .i64 x11.ord.f_Tag_Id_Node, .int .u64 x11.ord.f_Tag_Id_Epoch, .int .u64 x11.ord.f_Tag_Id_Seq, .int .i64 x11.ord.f_Tag_Try, .int .i64 x11.ord.f_Txn_Kind, .slice x11.ord.f_Txn_Reads.a (x11.ord.f_Txn_Reads.xs).length x11.ord.f_Txn_Reads.c, .slice x11.ord.f_Txn_Writes.a (x11.ord.f_Txn_Writes.xs).length x11.ord.f_Txn_Writes.c, .slice x11.ord.f_Txn_Ops.a (x11.ord.f_Txn_Ops.xs).length x11.ord.f_Txn_Ops.c, .int .i64 x11.ord.f_Txn_To, .slice x11.ord.f_Marks.a (x11.ord.f_Marks.xs).length x11.ord.f_Marks.c] 41 (0, 0)) :: F))) ?_
     refine h_next ?_
     refine h_take_yes 17 rfl rfl rfl rfl rfl (by kernel_rfl) (by kernel_rfl) (by kernel_rfl) (fun L0 => v_bin rfl rfl rfl b_gtr) ?_
     refine h_take 18 rfl rfl (by kernel_rfl) (by kernel_rfl) (by kernel_rfl) (fun L0 => v_pick_true rfl rfl rfl) ?_
     refine h_take 19 rfl rfl (by kernel_rfl) (by kernel_rfl) (by kernel_rfl) (fun L0 => v_assign rfl rfl) ?_
     refine h_done (by kernel_rfl) ?_
     refine q_conv (L' := blk b7 (.cells #[.int .i64 x11.f_Kind, .int .i64 x11.f_Index, .int .i64 x11.ord.f_Tag_Id_Node, .int .u64 x11.ord.f_Tag_Id_Epoch, .int .u64 x11.ord.f_Tag_Id_Seq, .int .i64 x11.ord.f_Tag_Try, .int .i64 x11.ord.f_Txn_Kind, .slice x11.ord.f_Txn_Reads.a (x11.ord.f_Txn_Reads.xs).length x11.ord.f_Txn_Reads.c, .slice x11.ord.f_Txn_Writes.a (x11.ord.f_Txn_Writes.xs).length x11.ord.f_Txn_Writes.c, .slice x11.ord.f_Txn_Ops.a (x11.ord.f_Txn_Ops.xs).length x11.ord.f_Txn_Ops.c, .int .i64 x11.ord.f_Txn_To, .slice x11.ord.f_Marks.a (x11.ord.f_Marks.xs).length x11.ord.f_Marks.c] 41 (0, 0)) :: F) (fun w S => S.perm List.perm_append_comm) ?_
     refine q_then ?_
     refine c_ret ?_
     refine q_conv (fun w S => S.tail) ?_
     exact f_ret (r_one rfl rfl) (⟨by first | exact vtrue' (by rw [cnts_piece hx11 h2, ← sub_take]; unfold PieceOk; grind) | exact vfalse' (by rw [cnts_piece hx11 h2, ← sub_take]; unfold PieceOk; grind) | exact bdec' (by rw [cnts_piece hx11 h2, ← sub_take]; unfold PieceOk; grind), rfl⟩) (fun w S => S)
    · -- h9F
     have h9b := h9
     try simp only [Bool.not_eq_false', decide_eq_true_eq] at h9
     refine h_take_no 10 rfl rfl rfl rfl rfl (by kernel_rfl) (by kernel_rfl) (by kernel_rfl) ?_
     refine h_take_no 11 rfl rfl rfl rfl rfl (by kernel_rfl) (by kernel_rfl) (by kernel_rfl) ?_
     refine h_take_no 12 rfl rfl rfl rfl rfl (by kernel_rfl) (by kernel_rfl) (by kernel_rfl) ?_
     refine h_take_no 13 rfl rfl rfl rfl rfl (by kernel_rfl) (by kernel_rfl) (by kernel_rfl) ?_
     refine h_take_no 14 rfl rfl rfl rfl rfl (by kernel_rfl) (by kernel_rfl) (by kernel_rfl) ?_
     refine h_take_no 15 rfl rfl rfl rfl rfl (by kernel_rfl) (by kernel_rfl) (by kernel_rfl) ?_
     refine h_take_no 16 rfl rfl rfl rfl rfl (by kernel_rfl) (by kernel_rfl) (by kernel_rfl) ?_
     refine h_take_no 17 rfl rfl rfl rfl rfl (by kernel_rfl) (by kernel_rfl) (by kernel_rfl) ?_
     refine h_take 18 rfl rfl (by kernel_rfl) (by kernel_rfl) (by kernel_rfl) (fun L0 => v_pick_false rfl rfl rfl) ?_
     refine h_take 19 rfl rfl (by kernel_rfl) (by kernel_rfl) (by kernel_rfl) (fun L0 => v_assign rfl rfl) ?_
     refine h_done (by kernel_rfl) ?_
     refine q_conv (L' := blk b7 (.cells #[.int .i64 x11.f_Kind, .int .i64 x11.f_Index, .int .i64 x11.ord.f_Tag_Id_Node, .int .u64 x11.ord.f_Tag_Id_Epoch, .int .u64 x11.ord.f_Tag_Id_Seq, .int .i64 x11.ord.f_Tag_Try, .int .i64 x11.ord.f_Txn_Kind, .slice x11.ord.f_Txn_Reads.a (x11.ord.f_Txn_Reads.xs).length x11.ord.f_Txn_Reads.c, .slice x11.ord.f_Txn_Writes.a (x11.ord.f_Txn_Writes.xs).length x11.ord.f_Txn_Writes.c, .slice x11.ord.f_Txn_Ops.a (x11.ord.f_Txn_Ops.xs).length x11.ord.f_Txn_Ops.c, .int .i64 x11.ord.f_Txn_To, .slice x11.ord.f_Marks.a (x11.ord.f_Marks.xs).length x11.ord.f_Marks.c] 41 (0, 0)) :: F) (fun w S => S.perm List.perm_append_comm) ?_
     refine q_then ?_
     refine c_ret ?_
     refine q_conv (fun w S => S.tail) ?_
     exact f_ret (r_one rfl rfl) (⟨by first | exact vtrue' (by rw [cnts_piece hx11 h2, ← sub_take]; unfold PieceOk; grind) | exact vfalse' (by rw [cnts_piece hx11 h2, ← sub_take]; unfold PieceOk; grind) | exact bdec' (by rw [cnts_piece hx11 h2, ← sub_take]; unfold PieceOk; grind), rfl⟩) (fun w S => S)
   · -- h8F
    have h8b := h8
    try simp only [decide_eq_false_iff_not, Int.not_lt, Int.not_le] at h8
    refine h_take_no 4 rfl rfl rfl rfl rfl (by kernel_rfl) (by kernel_rfl) (by kernel_rfl) ?_
    refine h_take_no 5 rfl rfl rfl rfl rfl (by kernel_rfl) (by kernel_rfl) (by kernel_rfl) ?_
    refine h_take_no 6 rfl rfl rfl rfl rfl (by kernel_rfl) (by kernel_rfl) (by kernel_rfl) ?_
    refine h_take_no 7 rfl rfl rfl rfl rfl (by kernel_rfl) (by kernel_rfl) (by kernel_rfl) ?_
    refine h_take 8 rfl rfl (by kernel_rfl) (by kernel_rfl) (by kernel_rfl) (fun L0 => v_pick_false rfl rfl rfl) ?_
    refine h_take 9 rfl rfl (by kernel_rfl) (by kernel_rfl) (by kernel_rfl) (fun L0 => v_move rfl rfl) ?_
    refine h_take_no 10 rfl rfl rfl rfl rfl (by kernel_rfl) (by kernel_rfl) (by kernel_rfl) ?_
    refine h_take_no 11 rfl rfl rfl rfl rfl (by kernel_rfl) (by kernel_rfl) (by kernel_rfl) ?_
    refine h_take_no 12 rfl rfl rfl rfl rfl (by kernel_rfl) (by kernel_rfl) (by kernel_rfl) ?_
    refine h_take_no 13 rfl rfl rfl rfl rfl (by kernel_rfl) (by kernel_rfl) (by kernel_rfl) ?_
    refine h_take_no 14 rfl rfl rfl rfl rfl (by kernel_rfl) (by kernel_rfl) (by kernel_rfl) ?_
    refine h_take_no 15 rfl rfl rfl rfl rfl (by kernel_rfl) (by kernel_rfl) (by kernel_rfl) ?_
    refine h_take_no 16 rfl rfl rfl rfl rfl (by kernel_rfl) (by kernel_rfl) (by kernel_rfl) ?_
    refine h_take_no 17 rfl rfl rfl rfl rfl (by kernel_rfl) (by kernel_rfl) (by kernel_rfl) ?_
    refine h_take 18 rfl rfl (by kernel_rfl) (by kernel_rfl) (by kernel_rfl) (fun L0 => v_pick_false rfl rfl rfl) ?_
    refine h_take 19 rfl rfl (by kernel_rfl) (by kernel_rfl) (by kernel_rfl) (fun L0 => v_assign rfl rfl) ?_
    refine h_done (by kernel_rfl) ?_
    refine q_conv (L' := blk b7 (.cells #[.int .i64 x11.f_Kind, .int .i64 x11.f_Index, .int .i64 x11.ord.f_Tag_Id_Node, .int .u64 x11.ord.f_Tag_Id_Epoch, .int .u64 x11.ord.f_Tag_Id_Seq, .int .i64 x11.ord.f_Tag_Try, .int .i64 x11.ord.f_Txn_Kind, .slice x11.ord.f_Txn_Reads.a (x11.ord.f_Txn_Reads.xs).length x11.ord.f_Txn_Reads.c, .slice x11.ord.f_Txn_Writes.a (x11.ord.f_Txn_Writes.xs).length x11.ord.f_Txn_Writes.c, .slice x11.ord.f_Txn_Ops.a (x11.ord.f_Txn_Ops.xs).length x11.ord.f_Txn_Ops.c, .int .i64 x11.ord.f_Txn_To, .slice x11.ord.f_Marks.a (x11.ord.f_Marks.xs).length x11.ord.f_Marks.c] 41 (0, 0)) :: F) (fun w S => S.perm List.perm_append_comm) ?_
    refine q_then ?_
    refine c_ret ?_
    refine q_conv (fun w S => S.tail) ?_
    exact f_ret (r_one rfl rfl) (⟨by first | exact vtrue' (by rw [cnts_piece hx11 h2, ← sub_take]; unfold PieceOk; grind) | exact vfalse' (by rw [cnts_piece hx11 h2, ← sub_take]; unfold PieceOk; grind) | exact bdec' (by rw [cnts_piece hx11 h2, ← sub_take]; unfold PieceOk; grind), rfl⟩) (fun w S => S)

theorem counts_ (i : Nat) : CountsAt i := by
  induction i using Nat.strongRecOn with
  | _ i ih => exact fun hs ho hmk hn hi0 hcc => counts_step ih hs ho hmk hn hi0 hcc
end Go.Proofs.Ytjoigmbapnjhhaa
