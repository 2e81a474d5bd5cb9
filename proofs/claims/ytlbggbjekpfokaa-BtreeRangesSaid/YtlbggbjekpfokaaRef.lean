/- Printed by eng2.py out of 02/spec.py. -/
import Derived.Test.YtlbggbjekpfokaaRefp
set_option linter.unusedVariables false
set_option linter.unusedSimpArgs false
set_option maxRecDepth 10000
namespace Go.Proofs.Ytlbggbjekpfokaa
open Go.RowKit Classical
theorem place_ {W : World} {F : List Res} {m : Nat} {rs : List ItR} {k : ByteArray} (hn : rs.length ≤ 100000) : CS Try.prog 11 #[.pointer (some ⟨m, 0, none⟩), .string k] W (RfT m rs :: F) (fun r L' => ∃ (i : Nat) (b : Bool), PlaceOk rs k i b ∧ r = .tuple #[.int .i64 (i : Int), .bool b] ∧ L' = RfT m rs :: F) := by
 refine f_door (l0 := [(0, .pointer (some ⟨m, 0, none⟩)), (1, .string k)]) Try.func11 Try.ntmps11 rfl rfl rfl ?_
 refine c_seq ?_
 refine c_region ?_
 refine o_assign rfl rfl ?_
 refine o_assign rfl rfl ?_
 refine l_nil ?_
 refine q_then ?_
 refine c_seq ?_
 refine c_obj ?_
 rintro ⟨a_1, c_1⟩ ok_1
 refine c_conv (L' := blk m (.cells #[.slice a_1 (rs).length c_1] 30 (0, 0)) :: row e_ItR.T e_ItR.sz a_1 (rs).length c_1 (flat e_ItR rs) :: _) (fun w S => S) ?_
 refine c_region ?_
 refine o_assign rfl rfl ?_
 refine l_nil ?_
 refine q_then ?_
 refine c_seq ?_
 refine c_block ?_
 refine c_loop (α := Nat) (fun z => [(0, .pointer (some ⟨m, 0, none⟩)), (1, .string k), (6, .int .i64 (z : Int))]) (fun z => blk m (.cells #[.slice a_1 (rs).length c_1] 30 (0, 0)) :: row e_ItR.T e_ItR.sz a_1 (rs).length c_1 (flat e_ItR rs) :: F) (fun z => z ≤ rs.length ∧ ∀ c ∈ rs.take z, strlt c.f_Key k) (fun z => rs.length - z) (0) (by exact ⟨Nat.zero_le _, fun c hc => (by simp at hc)⟩) ⟨(by first | rfl | exact vint (by omega)), (by first | rfl | exact vint (by omega)), (by first | rfl | exact vint (by omega)), trivial⟩ (fun w S => S) ?_
 rintro i ⟨hi, hlo⟩
 try dsimp only at *
 refine c_seq ?_
 refine c_seq ?_
 refine c_region ?_
 refine o_move rfl rfl ?_
 refine o_move rfl rfl ?_
 refine o_nil rfl rfl ?_
 refine o_fieldAddr (q := ⟨m, 0, none⟩) rfl rfl Try.underlying30 rfl ti28 rfl ?_
 refine o_load1 rfl rfl Try.underlying28 rfl (rd_mem 0 rfl rfl) ?_
 refine o_len rfl rfl Try.underlying28 ?_
 refine o_bin rfl rfl rfl b_lss ?_
 refine o_move rfl rfl ?_
 refine l_split (t := 14) rfl (fun h1 => ?_) (fun h1 => ?_)
 · -- h1T
  have h1b := h1
  try simp only [decide_eq_true_eq] at h1
  refine o_yes rfl rfl rfl ?_
  refine o_move rfl rfl ?_
  refine o_yes rfl rfl rfl ?_
  refine o_nil rfl rfl ?_
  refine o_yes rfl rfl rfl ?_
  refine o_fieldAddr (q := ⟨m, 0, none⟩) rfl rfl Try.underlying30 rfl ti28 rfl ?_
  refine o_yes rfl rfl rfl ?_
  refine o_load1 rfl rfl Try.underlying28 rfl (rd_mem 0 rfl rfl) ?_
  refine o_yes rfl rfl rfl ?_
  refine o_move rfl rfl ?_
  refine o_yes rfl rfl rfl ?_
  refine o_index e_ItR_ok rfl rfl rfl Try.underlying28 (by omega) (by omega) (rds_own e_ItR_ok 1 rfl) fun ad20 ead20 => ?_
  obtain ⟨x20, hx20⟩ : ∃ x, (rs)[((i : Int)).toNat]? = some x := ⟨_, List.getElem?_eq_getElem (by omega)⟩
  refine o_yes rfl rfl rfl ?_
  refine o_fieldAddr rfl rfl Try.underlying40 rfl ti9 (Addr.add_add' _ _ _) ?_
  refine o_yes rfl rfl rfl ?_
  refine o_load1 rfl rfl Try.underlying9 rfl (rd_sl e_ItR_ok ead20 (rds_own e_ItR_ok 1 rfl) hx20 rfl) ?_
  refine o_yes rfl rfl rfl ?_
  refine o_move rfl rfl ?_
  refine o_yes rfl rfl rfl ?_
  refine o_bin rfl rfl rfl b_slss ?_
  refine o_pick_true rfl rfl rfl ?_
  refine l_nil ?_
  refine q_then ?_
  refine c_cond rfl (fun h2 => ?_) (fun h2 => ?_)
  · -- h2T
   have h2b := h2
   try simp only [decide_eq_true_eq, decide_eq_false_iff_not, Bool.not_eq_eq_eq_not, Bool.not_true, Bool.not_false, Bool.not_eq_true', Bool.not_eq_false', Int.not_lt, Int.not_le, Bool.or_eq_true, Bool.and_eq_true] at h2
   refine c_skip ?_
   refine q_then ?_
   refine c_block ?_
   refine c_region ?_
   refine o_move rfl rfl ?_
   refine o_bin rfl rfl rfl (b_add (wrap_i64 (by omega) (by omega))) ?_
   refine o_assign rfl rfl ?_
   refine l_nil ?_
   refine q_block ?_
   exact q_round (i + 1) (by exact ⟨by omega, place_on hlo hx20 h2b⟩) (by (try dsimp only); omega) ⟨(by first | rfl | exact vint (by omega)), (by first | rfl | exact vint (by omega)), (by first | rfl | exact vint (by omega)), trivial⟩ (fun w S => S)
  · -- h2F
   have h2b := h2
   try simp only [decide_eq_true_eq, decide_eq_false_iff_not, Bool.not_eq_eq_eq_not, Bool.not_true, Bool.not_false, Bool.not_eq_true', Bool.not_eq_false', Int.not_lt, Int.not_le, Bool.or_eq_true, Bool.and_eq_true] at h2
   refine c_exit ?_
   refine q_pass_exit ?_
   refine q_pass_exit ?_
   refine q_hit ?_
   refine q_then ?_
   refine c_seq ?_
   refine c_quiet (by kernel_rfl) (by kernel_rfl) ?_
   refine Qt.o_val rfl (v_move rfl rfl) ?_
   refine Qt.o_val rfl (v_move rfl rfl) ?_
   refine Qt.o_val rfl (v_move rfl rfl) ?_
   refine Qt.o_val rfl (v_nil rfl rfl) ?_
   refine Qt.o_val rfl (v_fieldAddr (q := ⟨m, 0, none⟩) rfl rfl Try.underlying30 rfl ti28 rfl) ?_
   refine Qt.o_val rfl (v_load1 rfl rfl Try.underlying28 rfl (rd_mem 0 rfl rfl)) ?_
   refine Qt.o_val rfl (v_len rfl rfl Try.underlying28) ?_
   refine Qt.o_val rfl (v_bin rfl rfl rfl b_lss) ?_
   refine Qt.l_eq (t := 35) (v' := .bool true) rfl (show _ = Value.bool true from by rw [decide_eq_true (by omega)]) ?_
   refine Qt.o_val rfl (v_move rfl rfl) ?_
   refine Qt.o_yes rfl rfl rfl ?_
   refine Qt.o_val rfl (v_move rfl rfl) ?_
   refine Qt.o_yes rfl rfl rfl ?_
   refine Qt.o_val rfl (v_nil rfl rfl) ?_
   refine Qt.o_yes rfl rfl rfl ?_
   refine Qt.o_val rfl (v_fieldAddr (q := ⟨m, 0, none⟩) rfl rfl Try.underlying30 rfl ti28 rfl) ?_
   refine Qt.o_yes rfl rfl rfl ?_
   refine Qt.o_val rfl (v_load1 rfl rfl Try.underlying28 rfl (rd_mem 0 rfl rfl)) ?_
   refine Qt.o_yes rfl rfl rfl ?_
   refine Qt.o_val rfl (v_move rfl rfl) ?_
   refine Qt.o_yes rfl rfl rfl ?_
   refine Qt.o_val rfl (v_indexK e_ItR_ok ead20 rfl rfl rfl Try.underlying28 (by omega) (by omega)) ?_
   obtain ⟨x42, hx42⟩ : ∃ x, (rs)[((i : Int)).toNat]? = some x := ⟨_, List.getElem?_eq_getElem (by omega)⟩
   refine Qt.o_yes rfl rfl rfl ?_
   refine Qt.o_val rfl (v_fieldAddr rfl rfl Try.underlying40 rfl ti9 (Addr.add_add' _ _ _)) ?_
   refine Qt.o_yes rfl rfl rfl ?_
   refine Qt.o_val rfl (v_load1 rfl rfl Try.underlying9 rfl (rd_sl e_ItR_ok ead20 (rds_own e_ItR_ok 1 rfl) hx42 rfl)) ?_
   refine Qt.o_yes rfl rfl rfl ?_
   refine Qt.o_val rfl (v_move rfl rfl) ?_
   refine Qt.o_yes rfl rfl rfl ?_
   refine Qt.o_val rfl (v_bin rfl rfl rfl b_seql) ?_
   refine Qt.o_val rfl (v_pick_true rfl rfl rfl) ?_
   refine Qt.o_val rfl (v_assign rfl rfl) ?_
   refine Qt.o_val rfl (v_assign rfl rfl) ?_
   refine Qt.l_nil ?_
   refine q_then ?_
   refine c_ret ?_
   refine q_conv (L' := RfT m rs :: _) (fun w S => Sat.obj_mk ⟨a_1, c_1⟩ ok_1 S) ?_
   exact f_ret (r_two rfl rfl rfl) (⟨i, _, (by first | exact place_hit hi hlo hx20 h2b hx42 | exact place_end hi hlo (by omega) | (exfalso; omega)), rfl, rfl⟩) (fun w S => S)
 · -- h1F
  have h1b := h1
  try simp only [decide_eq_false_iff_not, Int.not_lt, Int.not_le] at h1
  refine o_no rfl rfl rfl rfl ?_
  refine o_no rfl rfl rfl rfl ?_
  refine o_no rfl rfl rfl rfl ?_
  refine o_no rfl rfl rfl rfl ?_
  refine o_no rfl rfl rfl rfl ?_
  refine o_no rfl rfl rfl rfl ?_
  refine o_no rfl rfl rfl rfl ?_
  refine o_no rfl rfl rfl rfl ?_
  refine o_no rfl rfl rfl rfl ?_
  refine o_no rfl rfl rfl rfl ?_
  refine o_pick_false rfl rfl rfl ?_
  refine l_nil ?_
  refine q_then ?_
  refine c_false rfl ?_
  refine c_exit ?_
  refine q_pass_exit ?_
  refine q_pass_exit ?_
  refine q_hit ?_
  refine q_then ?_
  refine c_seq ?_
  refine c_quiet (by kernel_rfl) (by kernel_rfl) ?_
  refine Qt.o_val rfl (v_move rfl rfl) ?_
  refine Qt.o_val rfl (v_move rfl rfl) ?_
  refine Qt.o_val rfl (v_move rfl rfl) ?_
  refine Qt.o_val rfl (v_nil rfl rfl) ?_
  refine Qt.o_val rfl (v_fieldAddr (q := ⟨m, 0, none⟩) rfl rfl Try.underlying30 rfl ti28 rfl) ?_
  refine Qt.o_val rfl (v_load1 rfl rfl Try.underlying28 rfl (rd_mem 0 rfl rfl)) ?_
  refine Qt.o_val rfl (v_len rfl rfl Try.underlying28) ?_
  refine Qt.o_val rfl (v_bin rfl rfl rfl b_lss) ?_
  refine Qt.l_eq (t := 35) (v' := .bool false) rfl (show _ = Value.bool false from by rw [decide_eq_false (by omega)]) ?_
  refine Qt.o_val rfl (v_move rfl rfl) ?_
  refine Qt.o_no rfl rfl rfl rfl ?_
  refine Qt.o_no rfl rfl rfl rfl ?_
  refine Qt.o_no rfl rfl rfl rfl ?_
  refine Qt.o_no rfl rfl rfl rfl ?_
  refine Qt.o_no rfl rfl rfl rfl ?_
  refine Qt.o_no rfl rfl rfl rfl ?_
  refine Qt.o_no rfl rfl rfl rfl ?_
  refine Qt.o_no rfl rfl rfl rfl ?_
  refine Qt.o_no rfl rfl rfl rfl ?_
  refine Qt.o_no rfl rfl rfl rfl ?_
  refine Qt.o_val rfl (v_pick_false rfl rfl rfl) ?_
  refine Qt.o_val rfl (v_assign rfl rfl) ?_
  refine Qt.o_val rfl (v_assign rfl rfl) ?_
  refine Qt.l_nil ?_
  refine q_then ?_
  refine c_ret ?_
  refine q_conv (L' := RfT m rs :: _) (fun w S => Sat.obj_mk ⟨a_1, c_1⟩ ok_1 S) ?_
  exact f_ret (r_two rfl rfl rfl) (⟨i, _, (by first | exact place_hit hi hlo hx20 h2b hx42 | exact place_end hi hlo (by omega) | (exfalso; omega)), rfl, rfl⟩) (fun w S => S)

theorem rput_ {W : World} {F : List Res} {m : Nat} {rs : List ItR} {k : ByteArray} {v : Int} (hn : rs.length ≤ 10000) : CS Try.prog 10 #[.pointer (some ⟨m, 0, none⟩), .string k, .int .i64 v] W (RfT m rs :: F) (fun r L' => ∃ (i : Nat) (b : Bool) (old : Int) (had : Bool), PlaceOk rs k i b ∧ r = .tuple #[.int .i64 old, .bool had] ∧ L' = RfT m (putR rs k v i b) :: F) := by
 refine f_door (l0 := [(0, .pointer (some ⟨m, 0, none⟩)), (1, .string k), (2, .int .i64 v)]) Try.func10 Try.ntmps10 rfl rfl rfl ?_
 refine c_seq ?_
 refine c_region ?_
 refine o_assign rfl rfl ?_
 refine o_assign rfl rfl ?_
 refine l_nil ?_
 refine q_then ?_
 refine c_seq ?_
 refine c_region ?_
 refine o_move rfl rfl ?_
 refine o_move rfl rfl ?_
 refine o_call rfl cal11 rfl (place_ (k := k) (by omega)) ?_
 rintro _ _ ⟨i15, b15, hpl15, rfl, rfl⟩
 have hle15 := hpl15.le
 refine o_move rfl rfl ?_
 refine o_extract rfl rfl rfl ?_
 refine o_extract rfl rfl rfl ?_
 refine o_assign rfl rfl ?_
 refine o_assign rfl rfl ?_
 refine l_nil ?_
 refine q_then ?_
 refine c_seq ?_
 refine c_seq ?_
 refine c_region ?_
 refine o_move rfl rfl ?_
 refine l_nil ?_
 refine q_then ?_
 refine c_cond rfl (fun h1 => ?_) (fun h1 => ?_)
 · -- h1T
  have h1b := h1
  try simp only [decide_eq_true_eq, decide_eq_false_iff_not, Bool.not_eq_eq_eq_not, Bool.not_true, Bool.not_false, Bool.not_eq_true', Bool.not_eq_false', Int.not_lt, Int.not_le, Bool.or_eq_true, Bool.and_eq_true] at h1
  obtain ⟨y15, hy15, he15⟩ := hpl15.eq.1 h1b
  have hlt15 := (List.getElem?_eq_some_iff.1 hy15).1
  refine c_seq ?_
  refine c_region ?_
  refine o_move rfl rfl ?_
  refine o_nil rfl rfl ?_
  refine l_obj ?_
  rintro ⟨a_1, c_1⟩ ok_1
  refine l_conv (L' := blk m (.cells #[.slice a_1 (rs).length c_1] 30 (0, 0)) :: row e_ItR.T e_ItR.sz a_1 (rs).length c_1 (flat e_ItR rs) :: _) (fun w S => S) ?_
  refine o_fieldAddr (q := ⟨m, 0, none⟩) rfl rfl Try.underlying30 rfl ti28 rfl ?_
  refine o_load1 rfl rfl Try.underlying28 rfl (rd_mem 0 rfl rfl) ?_
  refine o_move rfl rfl ?_
  refine o_index e_ItR_ok rfl rfl rfl Try.underlying28 (by omega) (by omega) (rds_own e_ItR_ok 1 rfl) fun ad24 ead24 => ?_
  obtain ⟨x24, hx24⟩ : ∃ x, (rs)[((i15 : Int)).toNat]? = some x := ⟨_, List.getElem?_eq_getElem (by omega)⟩
  refine o_fieldAddr rfl rfl Try.underlying40 rfl ti3 (Addr.add_add' _ _ _) ?_
  refine o_load1 rfl rfl Try.underlying3 rfl (rd_sl e_ItR_ok ead24 (rds_own e_ItR_ok 1 rfl) hx24 rfl) ?_
  refine o_assign rfl rfl ?_
  refine l_nil ?_
  refine q_then ?_
  refine c_seq ?_
  refine c_region ?_
  refine o_move rfl rfl ?_
  refine o_nil rfl rfl ?_
  refine o_fieldAddr (q := ⟨m, 0, none⟩) rfl rfl Try.underlying30 rfl ti28 rfl ?_
  refine o_load1 rfl rfl Try.underlying28 rfl (rd_mem 0 rfl rfl) ?_
  refine o_move rfl rfl ?_
  refine o_move rfl rfl ?_
  refine o_indexK e_ItR_ok ead24 rfl rfl rfl Try.underlying28 (by omega) (by omega) ?_
  obtain ⟨x33, hx33⟩ : ∃ x, (rs)[((i15 : Int)).toNat]? = some x := ⟨_, List.getElem?_eq_getElem (by omega)⟩
  refine o_fieldAddr rfl rfl Try.underlying40 rfl ti3 (Addr.add_add' _ _ _) ?_
  refine l_f1 ?_
  refine o_storeRow (x1 := (⟨x33.f_Key, v⟩ : ItR)) e_ItR_ok ead24 rfl rfl rfl ti3 hx33 (by decide) rfl ?_
  refine l_f1 ?_
  refine l_conv (L' := blk m (.cells #[.slice a_1 (rs).length c_1] 30 (0, 0)) :: _) (fun w S => S) ?_
  refine l_conv (L' := blk m (.cells #[.slice a_1 ((rs).set ((i15 : Int)).toNat (⟨x33.f_Key, v⟩ : ItR)).length c_1] 30 (0, 0)) :: row e_ItR.T e_ItR.sz a_1 ((rs).set ((i15 : Int)).toNat (⟨x33.f_Key, v⟩ : ItR)).length c_1 (flat e_ItR ((rs).set ((i15 : Int)).toNat (⟨x33.f_Key, v⟩ : ItR))) :: F) (fun w S => by first | exact S | simpa only [List.length_set] using S | (simp only [List.length_set] at S ⊢; exact S)) ?_
  refine l_nil ?_
  refine q_then ?_
  refine c_seq ?_
  have hk33 : x33.f_Key = k := by rw [show rs[i15]? = some x33 from hx33] at hy15; cases hy15; exact he15
  refine c_region ?_
  refine o_move rfl rfl ?_
  refine o_assign rfl rfl ?_
  refine o_assign rfl rfl ?_
  refine l_nil ?_
  refine q_then ?_
  refine c_ret ?_
  refine q_pass_ret ?_
  refine q_conv (L' := RfT m ((rs).set ((i15 : Int)).toNat (⟨x33.f_Key, v⟩ : ItR)) :: _) (fun w S => Sat.obj_mk ⟨a_1, c_1⟩ trivial S) ?_
  exact f_ret (r_two rfl rfl rfl) (⟨i15, b15, _, _, hpl15, rfl, rfl⟩) (fun w S => by unfold putR; rw [if_pos h1b, ← hk33]; exact S)
 · -- h1F
  have h1b := h1
  try simp only [decide_eq_true_eq, decide_eq_false_iff_not, Bool.not_eq_eq_eq_not, Bool.not_true, Bool.not_false, Bool.not_eq_true', Bool.not_eq_false', Int.not_lt, Int.not_le, Bool.or_eq_true, Bool.and_eq_true] at h1
  refine c_skip ?_
  refine q_then ?_
  refine c_seq ?_
  refine c_obj ?_
  rintro ⟨a_2, c_2⟩ ok_2
  refine c_conv (L' := blk m (.cells #[.slice a_2 (rs).length c_2] 30 (0, 0)) :: row e_ItR.T e_ItR.sz a_2 (rs).length c_2 (flat e_ItR rs) :: _) (fun w S => S) ?_
  refine c_conv (fun w S => S.perm p1) ?_
  refine c_rowcap ?_
  intro hcap
  simp only [maxLen] at hcap
  refine c_region ?_
  refine o_lit e_ItR_ok rfl Try.underlying28 rfl rfl rfl (lit_ok rfl) ([] : List ItR) rfl rfl fun a36 => ?_
  refine o_move rfl rfl ?_
  refine o_nil rfl rfl ?_
  refine o_fieldAddr (q := ⟨m, 0, none⟩) rfl rfl Try.underlying30 rfl ti28 rfl ?_
  refine o_load1 rfl rfl Try.underlying28 rfl (rd_mem 2 rfl rfl) ?_
  refine o_move rfl rfl ?_
  refine o_cut (l' := 0) (h' := i15) (m := c_2) rfl rfl Try.underlying28 ti40 (.inl ⟨rfl, rfl⟩) (.inr ⟨_, _, rfl, icast rfl (by omega), (by omega)⟩) (.inl ⟨rfl, rfl⟩) ?_
  obtain ⟨ys42, ay42, cut42, hys42, hlys42, eay42⟩ : ∃ ys_ ay_, (∀ {L : List Res}, RdS W L e_ItR a_2 rs → RdS W L e_ItR ay_ ys_) ∧ ys_ = sub rs 0 i15 ∧ ys_.length = i15 - 0 ∧ cutA a_2 c_2 0 2 = ay_ := ⟨_, _, fun h => rds_cut e_ItR_ok h _ _ _ (by omega), rfl, sub_len (by omega), rfl⟩
  refine l_eq (t := 42) (v' := .slice ay42 ys42.length (c_2 - 0)) rfl (by rw [eay42, hlys42]) ?_
  refine o_append e_ItR_ok rfl rfl rfl Try.underlying28 (cut42 (rds_own e_ItR_ok 1 rfl)) (by show (_ + _) * 24 ≤ _; (try simp only [List.length_append, List.length_cons, List.length_nil]); omega) (by (try simp only [List.length_append, List.length_cons, List.length_nil]); omega) fun a43 c43 => ?_
  refine o_move rfl rfl ?_
  refine o_move rfl rfl ?_
  refine o_build rfl sp40 ti40 rfl ((fill_cons (cells' := [.string k, .int .i64 0]) rfl rfl rfl rfl (fill_cons (cells' := [.string k, .int .i64 v]) rfl rfl rfl rfl fill_nil))) ?_
  refine o_lit e_ItR_ok rfl Try.underlying28 rfl rfl rfl (lit_ok rfl) [⟨k, v⟩] rfl rfl fun a47 => ?_
  refine l_f1 ?_
  refine o_append e_ItR_ok rfl rfl rfl Try.underlying28 (rds_own e_ItR_ok 1 rfl) (by show (_ + _) * 24 ≤ _; (try simp only [List.length_append, List.length_cons, List.length_nil]); omega) (by (try simp only [List.length_append, List.length_cons, List.length_nil]); omega) fun a48 c48 => ?_
  refine l_f1 ?_
  refine l_drop ?_
  refine o_assign rfl rfl ?_
  refine l_nil ?_
  refine q_then ?_
  refine c_seq ?_
  refine c_region ?_
  refine o_move rfl rfl ?_
  refine o_move rfl rfl ?_
  refine o_move rfl rfl ?_
  refine o_nil rfl rfl ?_
  refine o_fieldAddr (q := ⟨m, 0, none⟩) rfl rfl Try.underlying30 rfl ti28 rfl ?_
  refine o_load1 rfl rfl Try.underlying28 rfl (rd_mem 2 rfl rfl) ?_
  refine o_move rfl rfl ?_
  refine o_cut (l' := i15) (h' := ((rs).length)) (m := c_2) rfl rfl Try.underlying28 ti40 (.inl ⟨rfl, rfl⟩) (.inl ⟨rfl, rfl, rfl⟩) (.inr ⟨_, _, rfl, icast rfl (by omega), (by omega)⟩) ?_
  obtain ⟨ys56, ay56, cut56, hys56, hlys56, eay56⟩ : ∃ ys_ ay_, (∀ {L : List Res}, RdS W L e_ItR a_2 rs → RdS W L e_ItR ay_ ys_) ∧ ys_ = sub rs i15 ((rs).length) ∧ ys_.length = ((rs).length) - i15 ∧ cutA a_2 c_2 i15 2 = ay_ := ⟨_, _, fun h => rds_cut e_ItR_ok h _ _ _ (by omega), rfl, sub_len (by omega), rfl⟩
  refine l_eq (t := 56) (v' := .slice ay56 ys56.length (c_2 - i15)) rfl (by rw [eay56, hlys56]) ?_
  refine o_append e_ItR_ok rfl rfl rfl Try.underlying28 (cut56 (rds_own e_ItR_ok 1 rfl)) (by show (_ + _) * 24 ≤ _; (try simp only [List.length_append, List.length_cons, List.length_nil]); omega) (by (try simp only [List.length_append, List.length_cons, List.length_nil]); omega) fun a57 c57 => ?_
  refine o_nil rfl rfl ?_
  refine o_fieldAddr (q := ⟨m, 0, none⟩) rfl rfl Try.underlying30 rfl ti28 rfl ?_
  refine l_f2 ?_
  refine o_store1 rfl rfl rfl ti28 rfl rfl ?_
  refine l_nil ?_
  refine q_then ?_
  refine c_seq ?_
  refine c_region ?_
  refine o_assign rfl rfl ?_
  refine o_assign rfl rfl ?_
  refine l_nil ?_
  refine q_then ?_
  refine c_ret ?_
  refine q_conv (L' := RfT m (([] : List ItR) ++ ys42 ++ [⟨k, v⟩] ++ ys56) :: _) (fun w S => Sat.obj_mk ⟨a57, c57⟩ trivial S) ?_
  refine q_conv (fun w S => (S.perm p1).tail) ?_
  exact f_ret (r_two rfl rfl rfl) (⟨i15, b15, _, _, hpl15, rfl, rfl⟩) (fun w S => by unfold putR; rw [if_neg (by simpa using h1b), ← put_two (x := ⟨k, v⟩) hys42 hys56]; exact S)

end Go.Proofs.Ytlbggbjekpfokaa
