/- Printed by eng2.py out of 12/spec2.py. -/
import Derived.Test.YtakjmdeckngnlaaTreB
import Derived.Test.YtakjmdeckngnlaaVotep
import Derived.Test.YtakjmdeckngnlaaVot
set_option linter.unusedVariables false
set_option linter.unusedSimpArgs false
set_option maxRecDepth 10000
namespace Go.Proofs.Ytakjmdeckngnlaa
open Go.RowKit Classical
def VtB (k : Nat) (s : VSB) : Res := obj (fun _ : Nat => OkVB s) fun x => [blk k (.cells #[.int .u64 s.pr, .pointer (some ⟨x, 0, none⟩)] 98 (0, 0)), treeR e_ItB eN111 115 117 ItB.f_key ilt x s.xs]
theorem vnewB {W : World} {F : List Res} : CS Try.prog 31 #[] W (F) (fun r L' => ∃ k : Nat, r = .pointer (some ⟨k, 0, none⟩) ∧ L' = VtB k ⟨0, []⟩ :: F) := by
 refine f_door (l0 := []) Try.func31 Try.ntmps31 rfl rfl rfl ?_
 refine c_seq ?_
 refine c_region ?_
 refine o_assign rfl rfl ?_
 refine l_nil ?_
 refine q_then ?_
 refine c_seq ?_
 refine c_region ?_
 refine o_call rfl cal42 rfl (new_B) ?_
 rintro _ _ ⟨t1, rfl, rfl⟩
 refine o_build rfl sp98 ti98 rfl ((fill_cons (cells' := [.int .u64 0, .pointer (some ⟨t1, 0, none⟩)]) rfl rfl rfl rfl fill_nil)) ?_
 refine o_box rfl rfl fun b3 => ?_
 refine o_assign rfl rfl ?_
 refine l_nil ?_
 refine q_then ?_
 refine c_ret ?_
 exact f_ret (r_one rfl rfl) (⟨b3, rfl, rfl⟩) (fun w S => Sat.obj_mk t1 okV_newB S)

theorem vaccB {W : World} {F : List Res} {k : Nat} {s : VSB} {v : (Vt Int)} : CS Try.prog 33 #[.pointer (some ⟨k, 0, none⟩), .agg #[.int .i64 v.Slot, .int .u64 v.Ballot, .int .i64 v.Value]] W (VtB k s :: F) (fun r L' => r = .bool (decide (accOkB s v)) ∧ L' = VtB k (accSB s v) :: F) := by
 refine f_door (l0 := [(0, .pointer (some ⟨k, 0, none⟩)), (1, .agg #[.int .i64 v.Slot, .int .u64 v.Ballot, .int .i64 v.Value])]) Try.func33 Try.ntmps33 rfl rfl rfl ?_
 refine c_seq ?_
 refine c_region ?_
 refine o_box rfl rfl fun b3 => ?_
 refine o_assign rfl rfl ?_
 refine l_nil ?_
 refine q_then ?_
 refine c_seq ?_
 refine c_seq ?_
 refine c_conv (fun w S => S.perm p1) ?_
 refine c_obj ?_
 rintro v_1 ok_1
 refine c_conv (L' := blk k (.cells #[.int .u64 s.pr, .pointer (some ⟨v_1, 0, none⟩)] 98 (0, 0)) :: treeR e_ItB eN111 115 117 ItB.f_key ilt v_1 s.xs :: _) (fun w S => S) ?_
 have hlen := okV_lenB ok_1
 refine c_quiet (by kernel_rfl) (by kernel_rfl) ?_
 refine Qt.o_val rfl (v_fieldAddr (q := ⟨b3, 1, none⟩) rfl rfl Try.underlying72 rfl ti29 rfl) ?_
 refine Qt.o_val rfl (v_load1 rfl rfl Try.underlying29 rfl (rd_mem 2 rfl rfl)) ?_
 refine Qt.o_val rfl (v_move rfl rfl) ?_
 refine Qt.o_val rfl (v_nil rfl rfl) ?_
 refine Qt.o_val rfl (v_fieldAddr (q := ⟨k, 0, none⟩) rfl rfl Try.underlying98 rfl ti29 rfl) ?_
 refine Qt.o_val rfl (v_load1 rfl rfl Try.underlying29 rfl (rd_mem 0 rfl rfl)) ?_
 refine Qt.o_val rfl (v_bin rfl rfl rfl b_lss) ?_
 refine Qt.o_val rfl (v_move rfl rfl) ?_
 refine Qt.l_split (t := 12) rfl (fun h1 => ?_) (fun h1 => ?_)
 · -- h1T
  have h1b := h1
  try simp only [decide_eq_true_eq] at h1
  refine Qt.o_no rfl rfl rfl rfl ?_
  refine Qt.o_no rfl rfl rfl rfl ?_
  refine Qt.o_no rfl rfl rfl rfl ?_
  refine Qt.o_val rfl (v_pick_true rfl rfl rfl) ?_
  refine Qt.o_val rfl (v_move rfl rfl) ?_
  refine Qt.o_no rfl rfl rfl rfl ?_
  refine Qt.o_no rfl rfl rfl rfl ?_
  refine Qt.o_no rfl rfl rfl rfl ?_
  refine Qt.o_val rfl (v_pick_true rfl rfl rfl) ?_
  refine Qt.l_nil ?_
  refine q_then ?_
  refine c_true rfl ?_
  refine c_seq ?_
  refine c_region ?_
  refine o_assign rfl rfl ?_
  refine l_nil ?_
  refine q_then ?_
  refine c_ret ?_
  refine q_pass_ret ?_
  have hno : ¬ accOkB s v := fun h9 => by have h91 := h9.1; have h92 := h9.2.1; have h93 := h9.2.2; omega
  refine q_conv (L' := VtB k s :: _) (fun w S => Sat.obj_mk v_1 ok_1 S) ?_
  refine q_conv (fun w S => (S.perm p1).tail) ?_
  exact f_ret (r_one rfl rfl) (⟨by rw [decide_eq_false hno], rfl⟩) (fun w S => by rw [show accSB s v = s from if_neg hno]; exact S)
 · -- h1F
  have h1b := h1
  try simp only [decide_eq_false_iff_not, Int.not_lt, Int.not_le] at h1
  refine Qt.o_yes rfl rfl rfl ?_
  refine Qt.o_val rfl (v_fieldAddr (q := ⟨b3, 0, none⟩) rfl rfl Try.underlying72 rfl ti3 rfl) ?_
  refine Qt.o_yes rfl rfl rfl ?_
  refine Qt.o_val rfl (v_load1 rfl rfl Try.underlying3 rfl (rd_mem 2 rfl rfl)) ?_
  refine Qt.o_yes rfl rfl rfl ?_
  refine Qt.o_val rfl (v_bin rfl rfl rfl b_lss) ?_
  refine Qt.o_val rfl (v_pick_false rfl rfl rfl) ?_
  refine Qt.o_val rfl (v_move rfl rfl) ?_
  refine Qt.l_split (t := 17) rfl (fun h2 => ?_) (fun h2 => ?_)
  · -- h2T
   have h2b := h2
   try simp only [decide_eq_true_eq] at h2
   refine Qt.o_no rfl rfl rfl rfl ?_
   refine Qt.o_no rfl rfl rfl rfl ?_
   refine Qt.o_no rfl rfl rfl rfl ?_
   refine Qt.o_val rfl (v_pick_true rfl rfl rfl) ?_
   refine Qt.l_nil ?_
   refine q_then ?_
   refine c_true rfl ?_
   refine c_seq ?_
   refine c_region ?_
   refine o_assign rfl rfl ?_
   refine l_nil ?_
   refine q_then ?_
   refine c_ret ?_
   refine q_pass_ret ?_
   have hno : ¬ accOkB s v := fun h9 => by have h91 := h9.1; have h92 := h9.2.1; have h93 := h9.2.2; omega
   refine q_conv (L' := VtB k s :: _) (fun w S => Sat.obj_mk v_1 ok_1 S) ?_
   refine q_conv (fun w S => (S.perm p1).tail) ?_
   exact f_ret (r_one rfl rfl) (⟨by rw [decide_eq_false hno], rfl⟩) (fun w S => by rw [show accSB s v = s from if_neg hno]; exact S)
  · -- h2F
   have h2b := h2
   try simp only [decide_eq_false_iff_not, Int.not_lt, Int.not_le] at h2
   refine Qt.o_yes rfl rfl rfl ?_
   refine Qt.o_val rfl (v_fieldAddr (q := ⟨b3, 0, none⟩) rfl rfl Try.underlying72 rfl ti3 rfl) ?_
   refine Qt.o_yes rfl rfl rfl ?_
   refine Qt.o_val rfl (v_load1 rfl rfl Try.underlying3 rfl (rd_mem 2 rfl rfl)) ?_
   refine Qt.o_yes rfl rfl rfl ?_
   refine Qt.o_val rfl (v_bin rfl rfl rfl b_geq) ?_
   refine Qt.o_val rfl (v_pick_false rfl rfl rfl) ?_
   refine Qt.l_nil ?_
   refine q_then ?_
   refine c_cond rfl (fun h3 => ?_) (fun h3 => ?_)
   · -- h3T
    have h3b := h3
    try simp only [decide_eq_true_eq] at h3
    refine c_seq ?_
    refine c_region ?_
    refine o_assign rfl rfl ?_
    refine l_nil ?_
    refine q_then ?_
    refine c_ret ?_
    refine q_pass_ret ?_
    have hno : ¬ accOkB s v := fun h9 => by have h91 := h9.1; have h92 := h9.2.1; have h93 := h9.2.2; omega
    refine q_conv (L' := VtB k s :: _) (fun w S => Sat.obj_mk v_1 ok_1 S) ?_
    refine q_conv (fun w S => (S.perm p1).tail) ?_
    exact f_ret (r_one rfl rfl) (⟨by rw [decide_eq_false hno], rfl⟩) (fun w S => by rw [show accSB s v = s from if_neg hno]; exact S)
   · -- h3F
    have h3b := h3
    try simp only [decide_eq_false_iff_not, Int.not_lt, Int.not_le] at h3
    refine c_skip ?_
    refine q_then ?_
    refine c_seq ?_
    refine c_region ?_
    refine o_move rfl rfl ?_
    refine o_fieldAddr (q := ⟨b3, 1, none⟩) rfl rfl Try.underlying72 rfl ti29 rfl ?_
    refine o_load1 rfl rfl Try.underlying29 rfl (rd_mem 2 rfl rfl) ?_
    refine o_nil rfl rfl ?_
    refine o_fieldAddr (q := ⟨k, 0, none⟩) rfl rfl Try.underlying98 rfl ti29 rfl ?_
    refine o_store1 rfl rfl rfl ti29 rfl rfl ?_
    refine l_nil ?_
    refine q_then ?_
    refine c_seq ?_
    refine c_conv (fun w S => S.perm p1) ?_
    refine c_conv (fun w S => S.perm p2) ?_
    refine c_conv (fun w S => S.perm p2) ?_
    refine c_held [blk k (.cells #[.int .u64 v.Ballot, .pointer (some ⟨v_1, 0, none⟩)] 98 (0, 0)), blk b3 (.cells #[.int .i64 v.Slot, .int .u64 v.Ballot, .int .i64 v.Value] 72 (0, 0))] (by kernel_rfl) rfl ?_
    refine h_take 0 rfl rfl (by kernel_rfl) (by kernel_rfl) (by kernel_rfl) (fun L0 => v_move rfl rfl) ?_
    refine h_take 1 rfl rfl (by kernel_rfl) (by kernel_rfl) (by kernel_rfl) (fun L0 => v_nil rfl rfl) ?_
    refine h_take 2 rfl rfl (by kernel_rfl) (by kernel_rfl) (by kernel_rfl) (fun L0 => v_fieldAddr (q := ⟨k, 1, none⟩) rfl rfl Try.underlying98 rfl ti95 rfl) ?_
    refine h_take 3 rfl rfl (by kernel_rfl) (by kernel_rfl) (by kernel_rfl) (fun L0 => v_load1 rfl rfl Try.underlying95 rfl (rd_mem 0 rfl rfl)) ?_
    refine h_take 4 rfl rfl (by kernel_rfl) (by kernel_rfl) (by kernel_rfl) (fun L0 => v_fieldAddr (q := ⟨b3, 0, none⟩) rfl rfl Try.underlying72 rfl ti3 rfl) ?_
    refine h_take 5 rfl rfl (by kernel_rfl) (by kernel_rfl) (by kernel_rfl) (fun L0 => v_load1 rfl rfl Try.underlying3 rfl (rd_mem 1 rfl rfl)) ?_
    refine h_take 6 rfl rfl (by kernel_rfl) (by kernel_rfl) (by kernel_rfl) (fun L0 => v_loadn (vs := [_, _, _]) rfl rfl Try.underlying72 rfl ti72 (rdn_lit 1 rfl rfl)) ?_
    refine h_one 7 rfl (by kernel_rfl) ?_
    refine l_f2 ?_
    refine o_call rfl cal44 rfl (tput_B (k := v.Slot) (v := v) (by omega)) ?_
    rintro _ _ ⟨old34, had34, ⟨hol34, hsr34⟩, rfl, rfl⟩
    refine l_nil ?_
    refine q_conv (fun w S => S.perm p2) ?_
    refine q_conv (fun w S => S.perm p2) ?_
    refine h_next ?_
    refine h_done (by kernel_rfl) ?_
    refine q_then ?_
    refine c_seq ?_
    refine c_region ?_
    refine o_assign rfl rfl ?_
    refine l_nil ?_
    refine q_then ?_
    refine c_ret ?_
    have hyes : accOkB s v := ⟨by omega, by omega, by omega⟩
    refine q_conv (fun w S => S.perm p1) ?_
    refine q_conv (fun w S => S.perm p2) ?_
    refine q_conv (fun w S => S.perm p2) ?_
    refine q_conv (L' := VtB k (⟨v.Ballot, (ins ItB.f_key ilt (⟨v.Slot, v⟩ : ItB) s.xs)⟩ : VSB) :: _) (fun w S => Sat.obj_mk v_1 (okV_accB ok_1 (by omega) (by omega) (by omega)) S) ?_
    refine q_conv (fun w S => (S.perm p1).tail) ?_
    exact f_ret (r_one rfl rfl) (⟨by rw [decide_eq_true hyes], rfl⟩) (fun w S => by rw [show accSB s v = _ from if_pos hyes]; exact S)

theorem vpromB {W : World} {F : List Res} {k : Nat} {s : VSB} {b fr : Int} : CS Try.prog 32 #[.pointer (some ⟨k, 0, none⟩), .int .u64 b, .int .i64 fr] W (VtB k s :: F) (fun r L' => ∃ (a' : Option Addr) (c' : Nat), r = .tuple #[.slice a' (promLB s b fr).length c', .bool (decide (s.pr ≤ b))] ∧ L' = row eVI.T eVI.sz a' ((promLB s b fr)).length c' (flat eVI (promLB s b fr)) :: VtB k (promSB s b) :: F) := by
 refine f_door (l0 := [(0, .pointer (some ⟨k, 0, none⟩)), (1, .int .u64 b), (2, .int .i64 fr)]) Try.func32 Try.ntmps32 rfl rfl rfl ?_
 refine c_seq ?_
 refine c_region ?_
 refine o_alloc rfl ti67 fun b6 => ?_
 refine o_assign rfl rfl ?_
 refine l_nil ?_
 refine q_then ?_
 refine c_seq ?_
 refine c_seq ?_
 refine c_conv (fun w S => S.perm p1) ?_
 refine c_obj ?_
 rintro v_1 ok_1
 refine c_conv (L' := blk k (.cells #[.int .u64 s.pr, .pointer (some ⟨v_1, 0, none⟩)] 98 (0, 0)) :: treeR e_ItB eN111 115 117 ItB.f_key ilt v_1 s.xs :: _) (fun w S => S) ?_
 have hlen := okV_lenB ok_1
 have hsel : (sel ItB.f_key ilt (some fr) s.xs).length ≤ s.xs.length := List.length_filter_le _ _
 refine c_region ?_
 refine o_move rfl rfl ?_
 refine o_move rfl rfl ?_
 refine o_nil rfl rfl ?_
 refine o_fieldAddr (q := ⟨k, 0, none⟩) rfl rfl Try.underlying98 rfl ti29 rfl ?_
 refine o_load1 rfl rfl Try.underlying29 rfl (rd_mem 0 rfl rfl) ?_
 refine o_bin rfl rfl rfl b_lss ?_
 refine l_nil ?_
 refine q_then ?_
 refine c_cond rfl (fun h1 => ?_) (fun h1 => ?_)
 · -- h1T
  have h1b := h1
  try simp only [decide_eq_true_eq] at h1
  have hno : ¬ s.pr ≤ b := by omega
  refine c_seq ?_
  refine c_region ?_
  refine l_f2 ?_
  refine o_store1 rfl rfl rfl ti67 rfl rfl ?_
  refine o_assign rfl rfl ?_
  refine l_nil ?_
  refine q_then ?_
  refine c_ret ?_
  refine q_pass_ret ?_
  refine q_conv (fun w S => S.perm p2) ?_
  refine q_conv (fun w S => S.perm p2) ?_
  refine q_conv (L' := VtB k s :: _) (fun w S => Sat.obj_mk v_1 ok_1 S) ?_
  refine f_retq (.inl rfl) (rs_2 rfl (rs_cell rfl Try.underlying67 rfl (rd_mem 1 rfl rfl)) (rs_tmp rfl)) (fun w S => ?_)
  replace S := (S.perm p1).tail
  exact ⟨_, ⟨none, 0, by rw [show promLB s b fr = [] from if_neg hno, decide_eq_false hno]; rfl, rfl⟩, (fun w S => by rw [show promLB s b fr = [] from if_neg hno, show promSB s b = s from if_neg hno]; exact S.own_nil) w S⟩
 · -- h1F
  have h1b := h1
  try simp only [decide_eq_false_iff_not, Int.not_lt, Int.not_le] at h1
  have hyes : s.pr ≤ b := by omega
  refine c_skip ?_
  refine q_then ?_
  refine c_seq ?_
  refine c_region ?_
  refine o_move rfl rfl ?_
  refine o_move rfl rfl ?_
  refine o_nil rfl rfl ?_
  refine o_fieldAddr (q := ⟨k, 0, none⟩) rfl rfl Try.underlying98 rfl ti29 rfl ?_
  refine o_store1 rfl rfl rfl ti29 rfl rfl ?_
  refine l_nil ?_
  refine q_then ?_
  refine c_seq ?_
  refine c_seq ?_
  refine c_nilrow eVI ?_
  refine c_region ?_
  refine o_move rfl rfl ?_
  refine o_nil rfl rfl ?_
  refine o_fieldAddr (q := ⟨k, 1, none⟩) rfl rfl Try.underlying98 rfl ti95 rfl ?_
  refine o_load1 rfl rfl Try.underlying95 rfl (rd_mem 1 rfl rfl) ?_
  refine o_move rfl rfl ?_
  refine o_call rfl cal43 rfl (from_B (t := v_1) (k := fr)) ?_
  rintro _ _ ⟨kt25, kk25, rfl, rfl⟩
  refine l_nil ?_
  refine q_then ?_
  refine c_block ?_
  refine c_conv (fun w S => S.perm p2) ?_
  refine c_conv (fun w S => S.perm p5) ?_
  refine c_conv (fun w S => S.perm p4) ?_
  refine c_conv (fun w S => S.perm p5) ?_
  refine c_conv (fun w S => S.perm p5) ?_
  refine c_conv (fun w S => S.perm p5) ?_
  refine c_rangeG (Li := [blk kt25 (.cells #[.pointer (some ⟨v_1, 0, none⟩)] 95 (0, 0)), blk kk25 (.cells #[.int .i64 fr] 3 (0, 0)), treeR e_ItB eN111 115 117 ItB.f_key ilt v_1 s.xs]) (L0 := blk k (.cells #[.int .u64 b, .pointer (some ⟨v_1, 0, none⟩)] 98 (0, 0)) :: blk b6 (.cells #[.slice none ((([] : List ItB).map ItB.f_value)).length 0] 67 (0, 0)) :: row eVI.T eVI.sz none ((([] : List ItB).map ItB.f_value)).length 0 (flat eVI (([] : List ItB).map ItB.f_value)) :: F) (fun pre L => ∃ a7 : Option Addr, ∃ c7 : Nat, (True) ∧ L = blk k (.cells #[.int .u64 b, .pointer (some ⟨v_1, 0, none⟩)] 98 (0, 0)) :: blk b6 (.cells #[.slice a7 ((pre.map ItB.f_value)).length c7] 67 (0, 0)) :: row eVI.T eVI.sz a7 ((pre.map ItB.f_value)).length c7 (flat eVI (pre.map ItB.f_value)) :: F) (fun c L => False) rfl rfl cal48 rfl (fun _ => rfl) (fromIter_B) (fun w S => S) ⟨none, 0, trivial, rfl⟩ ?_ ?_ ?_
  · -- round
   rintro Lxg2 kg2 rg2 Dg2 pre x _ hrg2 ⟨a7, c7, _, rfl⟩ hpre
   try dsimp only at *
   have hpl := hpre.length_le
   rw [List.length_append] at hpl
   simp only [List.length_cons, List.length_nil] at hpl
   have hml : (pre.map ItB.f_value).length = pre.length := List.length_map _
   refine c_conv (L' := blk kg2 (.loop rg2) :: Dg2 :: blk k (.cells #[.int .u64 b, .pointer (some ⟨v_1, 0, none⟩)] 98 (0, 0)) :: blk b6 (.cells #[.slice a7 ((pre.map ItB.f_value)).length c7] 67 (0, 0)) :: row eVI.T eVI.sz a7 ((pre.map ItB.f_value)).length c7 (flat eVI (pre.map ItB.f_value)) :: (Lxg2 ++ F)) (fun w S => S.perm (rgP Lxg2 [blk k (.cells #[.int .u64 b, .pointer (some ⟨v_1, 0, none⟩)] 98 (0, 0)), blk b6 (.cells #[.slice a7 ((pre.map ItB.f_value)).length c7] 67 (0, 0)), row eVI.T eVI.sz a7 ((pre.map ItB.f_value)).length c7 (flat eVI (pre.map ItB.f_value))] F)) ?_
   refine c_region ?_
   refine o_alloc rfl ti72 fun b9 => ?_
   refine o_storen rfl rfl ti72 rfl rfl rfl rfl ?_
   refine l_nil ?_
   refine q_conv (fun w S => S.perm p5) ?_
   refine q_conv (fun w S => S.perm p5) ?_
   refine q_conv (fun w S => S.perm p5) ?_
   refine q_conv (fun w S => S.perm p5) ?_
   refine q_conv (fun w S => S.perm p4) ?_
   refine q_conv (fun w S => S.perm p5) ?_
   refine q_begin rfl hrg2 ?_
   refine c_block ?_
   refine c_region ?_
   refine o_load1 rfl rfl Try.underlying67 rfl (rd_mem 4 rfl rfl) ?_
   refine o_loadn (vs := [_, _, _]) rfl rfl Try.underlying72 rfl ti72 (rdn_lit 1 rfl rfl) ?_
   refine o_lit eVI_ok rfl Try.underlying67 rfl rfl rfl (lit_ok rfl) [x.f_value] rfl rfl fun a30 => ?_
   refine l_f6 ?_
   refine o_append eVI_ok rfl rfl rfl Try.underlying67 (rds_own eVI_ok 1 rfl) (by show (_ + _) * _ ≤ _; rw [hml]; simp only [List.length_cons, List.length_nil]; omega) (by rw [hml]; simp only [List.length_cons, List.length_nil]; omega) fun a31 c31 => ?_
   refine l_f1 ?_
   refine l_drop ?_
   refine l_f5 ?_
   refine o_store1 rfl rfl rfl ti67 rfl rfl ?_
   refine l_nil ?_
   refine q_block ?_
   refine q_conv (L' := blk b6 (.cells #[.slice a31 (((pre ++ [x]).map ItB.f_value)).length c31] 67 (0, 0)) :: row eVI.T eVI.sz a31 (((pre ++ [x]).map ItB.f_value)).length c31 (flat eVI ((pre ++ [x]).map ItB.f_value)) :: _) (fun w S => by rw [show (pre.map ItB.f_value) ++ [x.f_value] = ((pre ++ [x]).map ItB.f_value) from by rw [List.map_append]; rfl] at S; exact S) ?_
   refine q_conv (fun w S => (S.perm p3).tail) ?_
   refine q_conv (fun w S => S.perm p1) ?_
   refine q_conv (fun w S => S.perm p1) ?_
   refine q_conv (fun w S => S.perm p4) ?_
   refine q_conv (fun w S => S.perm p4) ?_
   refine q_conv (fun w S => S.perm p4) ?_
   exact q_roundOn (.inl ⟨rfl, _, ⟨a31, c31, by trivial, rfl⟩, rfl⟩) (fun w S => S.perm (rgP Lxg2 [blk k (.cells #[.int .u64 b, .pointer (some ⟨v_1, 0, none⟩)] 98 (0, 0)), blk b6 (.cells #[.slice a31 (((pre ++ [x]).map ItB.f_value)).length c31] 67 (0, 0)), row eVI.T eVI.sz a31 (((pre ++ [x]).map ItB.f_value)).length c31 (flat eVI ((pre ++ [x]).map ItB.f_value))] F).symm)
  · -- all have come
   rintro dg2 _ ⟨a7, c7, _, rfl⟩
   try dsimp only at *
   refine q_block ?_
   refine q_then ?_
   refine c_seq ?_
   refine c_region ?_
   refine o_load1 rfl rfl Try.underlying67 rfl (rd_mem 5 rfl rfl) ?_
   refine l_f5 ?_
   refine o_store1 rfl rfl rfl ti67 rfl rfl ?_
   refine o_assign rfl rfl ?_
   refine l_nil ?_
   refine q_then ?_
   refine c_ret ?_
   refine q_conv (fun w S => S.perm p6) ?_
   refine q_conv (fun w S => S.perm p4) ?_
   refine q_conv (fun w S => S.perm p4) ?_
   refine q_conv (fun w S => S.perm p4) ?_
   refine q_conv (fun w S => S.perm p4) ?_
   refine q_conv (fun w S => S.perm p5) ?_
   refine q_conv (fun w S => S.perm p6) ?_
   refine q_conv (L' := VtB k (⟨b, s.xs⟩ : VSB) :: _) (fun w S => Sat.obj_mk v_1 (okV_promB ok_1 (by omega)) S) ?_
   refine q_conv (fun w S => S.perm p5) ?_
   refine q_conv (fun w S => S.perm p5) ?_
   refine q_conv (fun w S => S.perm p5) ?_
   refine q_conv (fun w S => S.perm p4) ?_
   refine q_conv (fun w S => S.perm p4) ?_
   refine q_conv (fun w S => S.perm p5) ?_
   refine f_retMq [dg2] (.inl rfl) rfl (fun w S => S) (rs_2 rfl (rs_cell rfl Try.underlying67 rfl (rd_mem 1 rfl rfl)) (rs_tmp rfl)) (fun w S => ?_)
   replace S := (S.perm p1).tail
   replace S := (S.perm p1).tail
   replace S := (S.perm p1).tail
   replace S := S.perm p1
   exact ⟨_, ⟨a7, c7, by rw [show promLB s b fr = (sel ItB.f_key ilt (some fr) s.xs).map ItB.f_value from if_pos hyes, decide_eq_true hyes] <;> rfl, rfl⟩, (fun w S => by rw [show promLB s b fr = (sel ItB.f_key ilt (some fr) s.xs).map ItB.f_value from if_pos hyes, show promSB s b = _ from if_pos hyes]; exact S) w S⟩
  · -- a round has left
   exact fun _ _ _ h => h.elim

end Go.Proofs.Ytakjmdeckngnlaa
