/- Printed by eng2.py out of 15/spec.py. -/
import Derived.Test.YteehongibjkjlaaSpeaks
import Derived.Test.YteehongibjkjlaaNext
import Derived.Test.YteehongibjkjlaaISame
import Derived.Test.YteehongibjkjlaaGLog
set_option linter.unusedVariables false
set_option linter.unusedSimpArgs false
set_option maxRecDepth 10000
namespace Go.Proofs.Yteehongibjkjlaa
open Go.RowKit Classical
set_option maxHeartbeats 2000000 in
theorem piecesL_ {W : World} {F : List Res} {g last : Int} {log : List Order} {a : Option Addr} {c : Nat} (hs : SlR W e_Order a log) (ho : ∀ x ∈ log, ∀ L, OrdR W L x) (hc : log.length ≤ c ∧ c ≤ 9223372036854775807) : CS Try.prog 5 #[.slice a log.length c, .int .i64 g, .int .i64 last] W (F) (fun r L' => r = .bool true ∧ F = L') := by
 refine f_door (l0 := [(0, .slice a log.length c), (1, .int .i64 g), (2, .int .i64 last)]) Try.func5 Try.ntmps5 rfl rfl rfl ?_
 refine c_seq ?_
 refine c_region ?_
 refine o_assign rfl rfl ?_
 refine l_nil ?_
 refine q_then ?_
 refine c_seq ?_
 refine c_seq ?_
 refine c_region ?_
 refine o_call rfl cal7 rfl (speaks_) ?_
 rintro _ _ ⟨rfl, rfl⟩
 refine o_not rfl rfl ?_
 refine l_nil ?_
 refine q_then ?_
 refine c_false rfl ?_
 refine c_skip ?_
 refine q_then ?_
 refine c_seq ?_
 refine c_seq ?_
 refine c_region ?_
 refine o_move rfl rfl ?_
 refine o_call rfl cal8 rfl (glog_ (rds_old hs) (fun x hx => ho x hx _) (by omega)) ?_
 rintro _ _ ⟨g15, hg15, rfl, rfl⟩
 refine l_nil ?_
 refine q_then ?_
 refine c_cond rfl (fun h1 => ?_) (fun h1 => ?_)
 · -- h1T
  have h1b := h1
  try simp only [decide_eq_true_eq, decide_eq_false_iff_not, Bool.not_eq_eq_eq_not, Bool.not_true, Bool.not_false, Bool.not_eq_true', Bool.not_eq_false', Int.not_lt, Int.not_le, Bool.or_eq_true, Bool.and_eq_true] at h1
  refine c_seq ?_
  refine c_region ?_
  refine o_assign rfl rfl ?_
  refine l_nil ?_
  refine q_then ?_
  refine c_ret ?_
  refine q_pass_ret ?_
  exact f_ret (r_one rfl rfl) (⟨rfl, rfl⟩) (fun w S => S)
 · -- h1F
  have h1b := h1
  try simp only [decide_eq_true_eq, decide_eq_false_iff_not, Bool.not_eq_eq_eq_not, Bool.not_true, Bool.not_false, Bool.not_eq_true', Bool.not_eq_false', Int.not_lt, Int.not_le, Bool.or_eq_true, Bool.and_eq_true] at h1
  refine c_skip ?_
  refine q_then ?_
  refine c_seq ?_
  have hgr := hg15 (by assumption)
  have hsm := hgr.2
  have hl : log.length ≤ 40 := by have := hgr.1; omega
  refine c_region ?_
  refine o_move rfl rfl ?_
  refine o_move rfl rfl ?_
  refine o_call rfl cal18 rfl (rpieces_ (g := g) hs ho hc hl hsm) ?_
  rintro _ _ ⟨a18, c18, ps18, hpc18, hin18, rfl, rfl⟩
  refine o_assign rfl rfl ?_
  refine l_nil ?_
  refine q_then ?_
  refine c_seq ?_
  refine c_seq ?_
  refine c_region ?_
  refine o_move rfl rfl ?_
  refine o_move rfl rfl ?_
  refine o_call rfl cal9 rfl (spieces_ (g := g) hs ho hc hl hsm) ?_
  rintro _ _ ⟨a21, c21, ps21, hdn21, rfl, rfl⟩
  have hit_ps21 := hdn21.2
  refine o_move rfl rfl ?_
  refine o_call rfl cal19 rfl (same15_ (rds_own e_Item_ok 0 rfl) (itsM_R hit_ps21 1 rfl) (rds_own e_Item_ok 2 rfl) (fun x hx => ho _ (hin18 x hx) _) (by rw [hdn21.1.len]; have := idx_le g log log.length; omega)) ?_
  rintro _ _ ⟨rfl, rfl⟩
  refine o_not rfl rfl ?_
  refine l_eq (t := 24) (v' := .bool false) rfl (show _ = Value.bool false from by rw [decide_eq_true (pcs_same hdn21.1 hpc18)]; rfl) ?_
  refine l_nil ?_
  refine q_then ?_
  refine c_false rfl ?_
  refine c_skip ?_
  refine q_then ?_
  refine c_seq ?_
  refine c_region ?_
  refine o_move rfl rfl ?_
  refine o_move rfl rfl ?_
  refine o_move rfl rfl ?_
  refine o_call rfl cal20 rfl (next_ (g := g) (last := last) hs ho hc hl hsm) ?_
  rintro _ _ ⟨y29, bb29, rfl, rfl, hlx29, hnx29⟩
  refine o_move rfl rfl ?_
  refine o_extract rfl rfl rfl ?_
  refine o_extract rfl rfl rfl ?_
  refine o_alloc rfl ti42 fun b8 => ?_
  refine o_storen rfl rfl ti42 rfl rfl rfl rfl ?_
  refine o_assign rfl rfl ?_
  refine l_nil ?_
  refine q_then ?_
  refine c_seq ?_
  refine c_seq ?_
  have hpl : ps18.length ≤ 40 := by rw [hpc18.len]; have := idx_le g log log.length; omega
  refine c_region ?_
  refine o_move rfl rfl ?_
  refine o_len rfl rfl Try.underlying27 ?_
  refine o_move rfl rfl ?_
  refine l_nil ?_
  refine q_then ?_
  refine c_block ?_
  refine c_loop (α := Nat) (fun z => [(2, .int .i64 last), (8, .pointer (some ⟨b8, 0, none⟩)), (9, .bool bb29), (32, .slice a18 (ps18).length c18), (33, .int .i64 ((ps18).length : Int)), (34, .int .i64 (z : Int))]) (fun z => blk b8 (.cells #[.int .i64 y29.f_Kind, .int .i64 y29.f_Index, .int .i64 y29.ord.f_Tag_Id_Node, .int .u64 y29.ord.f_Tag_Id_Epoch, .int .u64 y29.ord.f_Tag_Id_Seq, .int .i64 y29.ord.f_Tag_Try, .int .i64 y29.ord.f_Txn_Kind, .slice y29.ord.f_Txn_Reads.a (y29.ord.f_Txn_Reads.xs).length y29.ord.f_Txn_Reads.c, .slice y29.ord.f_Txn_Writes.a (y29.ord.f_Txn_Writes.xs).length y29.ord.f_Txn_Writes.c, .slice y29.ord.f_Txn_Ops.a (y29.ord.f_Txn_Ops.xs).length y29.ord.f_Txn_Ops.c, .int .i64 y29.ord.f_Txn_To, .slice y29.ord.f_Marks.a (y29.ord.f_Marks.xs).length y29.ord.f_Marks.c] 42 (0, 0)) :: ordM y29.ord :: row e_Item.T e_Item.sz a21 (ps21).length c21 (flat e_Item ps21) :: itsM ps21 :: row e_Item.T e_Item.sz a18 (ps18).length c18 (flat e_Item ps18) :: F) (fun z => z ≤ ps18.length ∧ ∀ (j : Nat) y, j < z → ps18[j]? = some y → y.f_Index ≤ last) (fun z => ps18.length - z) (0) (by exact ⟨Nat.zero_le _, fun j y h => absurd h (by omega)⟩) ⟨(by first | rfl | exact vint (by omega)), (by first | rfl | exact vint (by omega)), (by first | rfl | exact vint (by omega)), (by first | rfl | exact vint (by omega)), (by first | rfl | exact vint (by omega)), (by first | rfl | exact vint (by omega)), trivial⟩ (fun w S => S) ?_
  rintro i ⟨hi, hall⟩
  try dsimp only at *
  refine c_seq ?_
  refine c_region ?_
  refine o_bin rfl rfl rfl b_lss ?_
  refine l_nil ?_
  refine q_then ?_
  refine c_seq ?_
  refine c_cond rfl (fun h2 => ?_) (fun h2 => ?_)
  · -- h2T
   have h2b := h2
   try simp only [decide_eq_true_eq] at h2
   refine c_skip ?_
   refine q_then ?_
   refine c_seq ?_
   refine c_block ?_
   refine c_seq ?_
   refine c_region ?_
   refine o_index e_Item_ok rfl rfl rfl Try.underlying27 (by omega) (by omega) (rds_own e_Item_ok 4 rfl) fun ad36 ead36 => ?_
   obtain ⟨x36, hx36⟩ : ∃ x, (ps18)[((i : Int)).toNat]? = some x := ⟨_, List.getElem?_eq_getElem (by omega)⟩
   refine o_loadn (vs := e_Item.cells x36) rfl rfl Try.underlying42 rfl ti42 (rdn_sl e_Item_ok ead36 (rds_own e_Item_ok 4 rfl) hx36) ?_
   refine o_alloc rfl ti42 fun b11 => ?_
   refine o_storen rfl rfl ti42 rfl rfl rfl rfl ?_
   refine l_nil ?_
   refine q_then ?_
   refine c_seq ?_
   refine c_region ?_
   refine o_fieldAddr (q := ⟨b11, 1, none⟩) rfl rfl Try.underlying42 rfl ti3 rfl ?_
   refine o_load1 rfl rfl Try.underlying3 rfl (rd_mem 0 rfl rfl) ?_
   refine o_move rfl rfl ?_
   refine o_bin rfl rfl rfl b_gtr ?_
   refine l_nil ?_
   refine q_then ?_
   refine c_cond rfl (fun h3 => ?_) (fun h3 => ?_)
   · -- h3T
    have h3b := h3
    try simp only [decide_eq_true_eq] at h3
    have hni : NextIs g log last x36 := next_is (Nat.le_refl _) hpc18 (k := i) hx36 (fun j y hj hy => hall j y hj hy) (by omega)
    have hnn : bb29 = true ∧ NextIs g log last y29 := by rcases hnx29 with h9 | h9; exact h9; exact absurd h9.2.2 (next_not hni)
    refine c_seq ?_
    refine c_region ?_
    refine o_move rfl rfl ?_
    refine o_move rfl rfl ?_
    refine l_eq (t := 43) (v' := .bool true) rfl (show _ = Value.bool true from by rw [hnn.1]) ?_
    refine o_yes rfl rfl rfl ?_
    refine o_loadn (vs := [_, _, _, _, _, _, _, _, _, _, _, _]) rfl rfl Try.underlying42 rfl ti42 (rdn_lit 1 rfl rfl) ?_
    refine o_yes rfl rfl rfl ?_
    refine o_loadn (vs := [_, _, _, _, _, _, _, _, _, _, _, _]) rfl rfl Try.underlying42 rfl ti42 (rdn_lit 0 rfl rfl) ?_
    refine o_yes rfl rfl rfl ?_
    refine o_call rfl cal21 rfl (sameItem_ (x := y29) (y := x36) (ordM_R hlx29 2 rfl) (ho _ (hin18 x36 (List.mem_of_getElem? hx36)) _)) ?_
    rintro _ _ ⟨rfl, rfl⟩
    refine l_eq (t := 46) (v' := .bool true) rfl (show _ = Value.bool true from by rw [decide_eq_true (next_uniq hnn.2 hni)]) ?_
    refine o_pick_true rfl rfl rfl ?_
    refine o_assign rfl rfl ?_
    refine l_nil ?_
    refine q_then ?_
    refine c_ret ?_
    refine q_block_ret ?_
    refine q_pass_ret ?_
    refine q_pass_ret ?_
    refine q_block_ret ?_
    refine q_pass_ret ?_
    refine q_conv (fun w S => S.tail) ?_
    refine q_conv (fun w S => S.tail) ?_
    refine q_conv (fun w S => S.tail) ?_
    refine q_conv (fun w S => S.tail) ?_
    refine q_conv (fun w S => S.tail) ?_
    refine q_conv (fun w S => S.tail) ?_
    exact f_ret (r_one rfl rfl) (⟨rfl, rfl⟩) (fun w S => S)
   · -- h3F
    have h3b := h3
    try simp only [decide_eq_false_iff_not, Int.not_lt, Int.not_le] at h3
    refine c_skip ?_
    refine q_block ?_
    refine q_then ?_
    refine c_region ?_
    refine o_bin rfl rfl rfl (b_add (wrap_i64 (by omega) (by omega))) ?_
    refine o_move rfl rfl ?_
    refine l_nil ?_
    refine q_conv (fun w S => S.tail) ?_
    exact q_round (i + 1) (by exact ⟨by omega, fun j y hj hy => by rcases Nat.lt_succ_iff_lt_or_eq.1 hj with h9 | h9; exact hall j y h9 hy; subst h9; rw [show ps18[j]? = some x36 from hx36] at hy; cases hy; omega⟩) (by (try dsimp only); omega) ⟨(by first | rfl | exact vint (by omega)), (by first | rfl | exact vint (by omega)), (by first | rfl | exact vint (by omega)), (by first | rfl | exact vint (by omega)), (by first | rfl | exact vint (by omega)), (by first | rfl | exact vint (by omega)), trivial⟩ (fun w S => S)
  · -- h2F
   have h2b := h2
   try simp only [decide_eq_false_iff_not, Int.not_lt, Int.not_le] at h2
   refine c_exit ?_
   refine q_pass_exit ?_
   refine q_pass_exit ?_
   refine q_hit ?_
   refine q_then ?_
   refine c_seq ?_
   have hno : bb29 = false ∧ y29 = zItem := by rcases hnx29 with h9 | h9; exact absurd (no_next hpc18 (fun y hy => by obtain ⟨j, hj, e⟩ := List.mem_iff_getElem.1 hy; exact hall j y (by omega) (by rw [List.getElem?_eq_getElem hj, e]))) (next_not h9.2); exact ⟨h9.1, h9.2.1⟩
   refine c_region ?_
   refine o_move rfl rfl ?_
   refine o_not rfl rfl ?_
   refine l_eq (t := 50) (v' := .bool true) rfl (by rw [hno.1]; rfl) ?_
   refine o_move rfl rfl ?_
   refine o_yes rfl rfl rfl ?_
   refine o_loadn (vs := [_, _, _, _, _, _, _, _, _, _, _, _]) rfl rfl Try.underlying42 rfl ti42 (rdn_lit 0 rfl rfl) ?_
   refine o_yes rfl rfl rfl ?_
   refine o_build rfl sp42 ti42 rfl rfl ?_
   refine o_yes rfl rfl rfl ?_
   refine o_call rfl cal21 rfl (sameItem_ (x := y29) (y := (⟨0, 0, 0, 0, 0, 0, 0, ⟨none, [], 0⟩, ⟨none, [], 0⟩, ⟨none, [], 0⟩, 0, ⟨none, [], 0⟩⟩ : Item)) (ordM_R hlx29 1 rfl) (OrdR.mk (o := (⟨0, 0, 0, 0, 0, ⟨none, [], 0⟩, ⟨none, [], 0⟩, ⟨none, [], 0⟩, 0, ⟨none, [], 0⟩⟩ : Order)) (rds_nil _ _) (rds_nil _ _) (rds_nil _ _) (rds_nil _ _) (fun x hx => by cases hx) (by simp) (by simp) (by simp) (by simp) (fun x hx => by cases hx))) ?_
   rintro _ _ ⟨rfl, rfl⟩
   refine l_eq (t := 54) (v' := .bool true) rfl (by rw [decide_eq_true (by rw [hno.2]; exact sameI_refl _)]) ?_
   refine o_pick_true rfl rfl rfl ?_
   refine o_assign rfl rfl ?_
   refine l_nil ?_
   refine q_then ?_
   refine c_ret ?_
   refine q_conv (fun w S => S.tail) ?_
   refine q_conv (fun w S => S.tail) ?_
   refine q_conv (fun w S => S.tail) ?_
   refine q_conv (fun w S => S.tail) ?_
   refine q_conv (fun w S => S.tail) ?_
   exact f_ret (r_one rfl rfl) (⟨rfl, rfl⟩) (fun w S => S)

end Go.Proofs.Yteehongibjkjlaa
