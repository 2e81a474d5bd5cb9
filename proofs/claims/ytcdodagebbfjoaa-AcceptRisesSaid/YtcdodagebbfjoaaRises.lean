/- Printed by eng2.py out of 11/spec.py. -/
import Derived.Test.YtcdodagebbfjoaaSpeaks
import Derived.Test.YtcdodagebbfjoaaVotB
import Derived.Test.YtcdodagebbfjoaaRisep
import Derived.Test.YtcdodagebbfjoaaRisTy
set_option linter.unusedVariables false
set_option linter.unusedSimpArgs false
set_option maxRecDepth 10000
namespace Go.Proofs.Ytcdodagebbfjoaa
open Go.RowKit Classical
set_option maxHeartbeats 1000000 in
theorem rises_ {W : World} {F : List Res} {os : List Op} {a : Option Addr} {c : Nat} (hs : SlR W e_Op a os) : CS Try.prog 6 #[.slice a os.length c] W (F) (fun r L' => r = .bool true ∧ F = L') := by
 refine f_door (l0 := [(0, .slice a os.length c)]) Try.func6 Try.ntmps6 rfl rfl rfl ?_
 refine c_seq ?_
 refine c_region ?_
 refine o_assign rfl rfl ?_
 refine l_nil ?_
 refine q_then ?_
 refine c_seq ?_
 refine c_seq ?_
 refine c_region ?_
 refine o_call rfl cal7 rfl (speaks_) ?_
 rintro _ _ ⟨rfl, rfl⟩
 refine o_not rfl rfl ?_
 refine l_nil ?_
 refine q_then ?_
 refine c_false rfl ?_
 refine c_skip ?_
 refine q_then ?_
 refine c_seq ?_
 refine c_seq ?_
 refine c_region ?_
 refine o_move rfl rfl ?_
 refine o_len rfl rfl Try.underlying22 ?_
 refine o_bin rfl rfl rfl b_gtr ?_
 refine l_nil ?_
 refine q_then ?_
 refine c_cond rfl (fun h1 => ?_) (fun h1 => ?_)
 · -- h1T
  have h1b := h1
  try simp only [decide_eq_true_eq] at h1
  refine c_seq ?_
  refine c_region ?_
  refine o_assign rfl rfl ?_
  refine l_nil ?_
  refine q_then ?_
  refine c_ret ?_
  refine q_pass_ret ?_
  exact f_ret (r_one rfl rfl) (⟨rfl, rfl⟩) (fun w S => S)
 · -- h1F
  have h1b := h1
  try simp only [decide_eq_false_iff_not, Int.not_lt, Int.not_le] at h1
  refine c_skip ?_
  refine q_then ?_
  refine c_seq ?_
  refine c_region ?_
  refine o_call rfl cal17 rfl (vnewB) ?_
  rintro _ _ ⟨k16, rfl, rfl⟩
  refine o_assign rfl rfl ?_
  refine l_nil ?_
  refine q_then ?_
  refine c_seq ?_
  refine c_seq ?_
  refine c_region ?_
  refine o_move rfl rfl ?_
  refine o_bin rfl rfl rfl (b_peq Try.underlying54 _) ?_
  refine l_nil ?_
  refine q_then ?_
  refine c_false rfl ?_
  refine c_skip ?_
  refine q_then ?_
  refine c_seq ?_
  refine c_region ?_
  refine o_buildArr0 rfl Try.underlying56 ti56 ti23 ?_
  refine o_alloc rfl ti56 fun b4 => ?_
  refine l_conv (L' := blk b4 (.cells (flat e_uint64 (List.replicate 64 (0 : Int))).toArray 56 (0, 0)) :: _) (fun w S => S) ?_
  refine o_storeSeg (vs := flat e_uint64 (List.replicate 64 0)) rfl rfl ti56 (sg_len (s := 1) e_uint64_ok rfl List.length_replicate rfl) (sg_len (s := 1) e_uint64_ok rfl List.length_replicate rfl) (by decide) (flat_one e_uint64_ok _) (pn_all (by first | rw [(sg_len (s := 1) e_uint64_ok rfl List.length_replicate rfl), (sg_len (s := 1) e_uint64_ok rfl List.length_replicate rfl)] | rw [(sg_len (s := 1) e_uint64_ok rfl List.length_replicate rfl)])) ?_
  refine o_assign rfl rfl ?_
  refine l_nil ?_
  refine q_then ?_
  refine c_seq ?_
  refine c_seq ?_
  refine c_region ?_
  refine o_move rfl rfl ?_
  refine o_len rfl rfl Try.underlying22 ?_
  refine o_move rfl rfl ?_
  refine l_nil ?_
  refine q_then ?_
  refine c_block ?_
  refine c_loop (α := Nat × VSB × (List Int)) (fun z => [(3, .pointer (some ⟨k16, 0, none⟩)), (4, .pointer (some ⟨b4, 0, none⟩)), (5, .int .u64 z.2.1.pr), (20, .slice a (os).length c), (21, .int .i64 ((os).length : Int)), (22, .int .i64 (z.1 : Int))]) (fun z => blk b4 (.cells (flat e_uint64 z.2.2).toArray 56 (0, 0)) :: VtB k16 z.2.1 :: F) (fun z => z.1 ≤ os.length ∧ OkVB z.2.1 ∧ RisesA z.2.1 z.2.2) (fun z => os.length - z.1) (0, (⟨0, []⟩ : VSB), (List.replicate 64 (0 : Int))) (by exact ⟨Nat.zero_le _, okV_newB, risesA_0⟩) ⟨(by first | rfl | exact vint (by omega)), (by first | rfl | exact vint (by omega)), (by first | rfl | exact vint (by omega)), (by first | rfl | exact vint (by omega)), (by first | rfl | exact vint (by omega)), (by first | rfl | exact vint (by omega)), trivial⟩ (fun w S => S) ?_
  rintro ⟨i, s, A⟩ ⟨hi, hkv, hA⟩
  try dsimp only at *
  refine c_seq ?_
  refine c_region ?_
  refine o_bin rfl rfl rfl b_lss ?_
  refine l_nil ?_
  refine q_then ?_
  refine c_seq ?_
  refine c_cond rfl (fun h2 => ?_) (fun h2 => ?_)
  · -- h2T
   have h2b := h2
   try simp only [decide_eq_true_eq] at h2
   refine c_skip ?_
   refine q_then ?_
   refine c_seq ?_
   refine c_block ?_
   refine c_seq ?_
   refine c_region ?_
   refine o_move rfl rfl ?_
   refine o_index e_Op_ok rfl rfl rfl Try.underlying22 (by omega) (by omega) (rds_c (rds_c (rds_old hs))) fun ad25 ead25 => ?_
   obtain ⟨x25, hx25⟩ : ∃ x, (os)[((i : Int)).toNat]? = some x := ⟨_, List.getElem?_eq_getElem (by omega)⟩
   refine o_loadn (vs := e_Op.cells x25) rfl rfl Try.underlying25 rfl ti25 (rdn_sl e_Op_ok ead25 (rds_c (rds_c (rds_old hs))) hx25) ?_
   refine o_alloc rfl ti25 fun b7 => ?_
   refine o_assign rfl rfl ?_
   refine o_storen rfl rfl ti25 rfl rfl rfl rfl ?_
   refine l_nil ?_
   refine q_then ?_
   refine c_seq ?_
   refine c_region ?_
   refine o_assign rfl rfl ?_
   refine l_nil ?_
   refine q_then ?_
   refine c_seq ?_
   refine c_seq ?_
   refine c_region ?_
   refine o_fieldAddr (q := ⟨b7, 0, none⟩) rfl rfl Try.underlying25 rfl ti4 rfl ?_
   refine o_load1 rfl rfl Try.underlying4 rfl (rd_mem 0 rfl rfl) ?_
   refine l_nil ?_
   refine q_then ?_
   refine c_cond rfl (fun h3 => ?_) (fun h3 => ?_)
   · -- h3T
    have h3b := h3
    try simp only [decide_eq_true_eq, decide_eq_false_iff_not, Bool.not_eq_eq_eq_not, Bool.not_true, Bool.not_false, Bool.not_eq_true', Bool.not_eq_false', Int.not_lt, Int.not_le, Bool.or_eq_true, Bool.and_eq_true] at h3
    refine c_region ?_
    refine o_move rfl rfl ?_
    refine o_fieldAddr (q := ⟨b7, 1, none⟩) rfl rfl Try.underlying25 rfl ti23 rfl ?_
    refine o_load1 rfl rfl Try.underlying23 rfl (rd_mem 0 rfl rfl) ?_
    refine l_f2 ?_
    refine o_call rfl cal18 rfl (vpromB (b := x25.f_Ballot) (fr := 0)) ?_
    rintro _ _ ⟨a33, c33, rfl, rfl⟩
    refine o_move rfl rfl ?_
    refine o_extract rfl rfl rfl ?_
    refine o_extract rfl rfl rfl ?_
    obtain ⟨ok, hok⟩ : ∃ ok : Bool, decide (s.pr ≤ x25.f_Ballot) = ok := ⟨_, rfl⟩
    refine l_eq (t := 35) (v' := .bool ok) rfl (by rw [← hok] <;> rfl) ?_
    refine o_assign rfl rfl ?_
    refine l_nil ?_
    refine q_then ?_
    refine c_seq ?_
    refine c_seq ?_
    refine (Classical.em (ok = true)).elim (fun ho => ?_) (fun ho => ?_)
    · -- ho True
     have hR := rstep_prom (s := s) hkv hok
     obtain ⟨s2, hs2⟩ : ∃ s2, s2 = (promSB s x25.f_Ballot) := ⟨_, rfl⟩
     rw [← hs2] at hR
     replace hR : RStep s x25.f_Ballot ok s2 := hR
     have hA2 := hA.step hR
     refine c_conv (fun w S => S.perm p1) ?_
     refine c_conv (L' := VtB k16 s2 :: _) (fun w S => by rw [← hs2] at S; exact S) ?_
     refine c_held [VtB k16 s2, row e_VoI.T e_VoI.sz a33 ((promLB s x25.f_Ballot 0)).length c33 (flat e_VoI (promLB s x25.f_Ballot 0)), blk b7 (.cells #[.bool x25.f_Promise, .int .u64 x25.f_Ballot, .int .i64 x25.f_Slot, .string x25.f_Value] 25 (0, 0)), blk b4 (.cells (flat e_uint64 A).toArray 56 (0, 0))] (by kernel_rfl) rfl ?_
     refine h_take 0 rfl rfl (by kernel_rfl) (by kernel_rfl) (by kernel_rfl) (fun L0 => v_move rfl rfl) ?_
     refine h_eq (t := 44) (v' := .bool true) rfl (show _ = Value.bool true from by rw [ho]) ?_
     refine h_take 1 rfl rfl (by kernel_rfl) (by kernel_rfl) (by kernel_rfl) (fun L0 => v_move rfl rfl) ?_
     refine h_take_yes 2 rfl rfl rfl rfl rfl (by kernel_rfl) (by kernel_rfl) (by kernel_rfl) (fun L0 => v_fieldAddr (q := ⟨b7, 1, none⟩) rfl rfl Try.underlying25 rfl ti23 rfl) ?_
     refine h_take_yes 3 rfl rfl rfl rfl rfl (by kernel_rfl) (by kernel_rfl) (by kernel_rfl) (fun L0 => v_load1 rfl rfl Try.underlying23 rfl (rd_mem 2 rfl rfl)) ?_
     refine h_take_yes 4 rfl rfl rfl rfl rfl (by kernel_rfl) (by kernel_rfl) (by kernel_rfl) (fun L0 => v_move rfl rfl) ?_
     refine h_take_yes 5 rfl rfl rfl rfl rfl (by kernel_rfl) (by kernel_rfl) (by kernel_rfl) (fun L0 => v_bin rfl rfl rfl b_lss) ?_
     refine h_eq (t := 49) (v' := .bool false) rfl (show _ = Value.bool false from by rw [decide_eq_false (by have := (hR.yes ho).2; omega)]) ?_
     refine h_take 6 rfl rfl (by kernel_rfl) (by kernel_rfl) (by kernel_rfl) (fun L0 => v_pick_true rfl rfl rfl) ?_
     refine h_take 7 rfl rfl (by kernel_rfl) (by kernel_rfl) (by kernel_rfl) (fun L0 => v_move rfl rfl) ?_
     refine h_take_yes 8 rfl rfl rfl rfl rfl (by kernel_rfl) (by kernel_rfl) (by kernel_rfl) (fun L0 => v_move rfl rfl) ?_
     refine h_take_yes 10 rfl rfl rfl rfl rfl (by kernel_rfl) (by kernel_rfl) (by kernel_rfl) (fun L0 => v_move rfl rfl) ?_
     refine h_one 9 rfl (by kernel_rfl) ?_
     refine o_yes rfl rfl rfl ?_
     refine o_call rfl cal20 rfl (vpdB) ?_
     rintro _ _ ⟨rfl, rfl⟩
     refine l_nil ?_
     refine h_next ?_
     refine h_take_yes 11 rfl rfl rfl rfl rfl (by kernel_rfl) (by kernel_rfl) (by kernel_rfl) (fun L0 => v_bin rfl rfl rfl b_lss) ?_
     refine h_eq (t := 55) (v' := .bool false) rfl (show _ = Value.bool false from by rw [decide_eq_false (by have := hR.pr; omega)]) ?_
     refine h_take 12 rfl rfl (by kernel_rfl) (by kernel_rfl) (by kernel_rfl) (fun L0 => v_pick_false rfl rfl rfl) ?_
     refine h_take 13 rfl rfl (by kernel_rfl) (by kernel_rfl) (by kernel_rfl) (fun L0 => v_move rfl rfl) ?_
     refine h_take_yes 14 rfl rfl rfl rfl rfl (by kernel_rfl) (by kernel_rfl) (by kernel_rfl) (fun L0 => v_move rfl rfl) ?_
     refine h_take_yes 16 rfl rfl rfl rfl rfl (by kernel_rfl) (by kernel_rfl) (by kernel_rfl) (fun L0 => v_move rfl rfl) ?_
     refine h_take_yes 17 rfl rfl rfl rfl rfl (by kernel_rfl) (by kernel_rfl) (by kernel_rfl) (fun L0 => v_move rfl rfl) ?_
     refine h_one 15 rfl (by kernel_rfl) ?_
     refine o_yes rfl rfl rfl ?_
     refine o_call rfl cal20 rfl (vpdB) ?_
     rintro _ _ ⟨rfl, rfl⟩
     refine l_nil ?_
     refine h_next ?_
     refine h_one 18 rfl (by kernel_rfl) ?_
     refine o_yes rfl rfl rfl ?_
     refine o_call rfl cal20 rfl (vpdB) ?_
     rintro _ _ ⟨rfl, rfl⟩
     refine l_nil ?_
     refine h_next ?_
     refine h_take_yes 19 rfl rfl rfl rfl rfl (by kernel_rfl) (by kernel_rfl) (by kernel_rfl) (fun L0 => v_max rfl rfl rfl Try.underlying23) ?_
     refine h_take_yes 20 rfl rfl rfl rfl rfl (by kernel_rfl) (by kernel_rfl) (by kernel_rfl) (fun L0 => v_bin rfl rfl rfl b_neq) ?_
     refine h_eq (t := 64) (v' := .bool false) rfl (show _ = Value.bool false from by first | (rw [decide_eq_false (by have := hR.pr; omega)]; done) | (have := hR.pr; simp; omega)) ?_
     refine h_take 21 rfl rfl (by kernel_rfl) (by kernel_rfl) (by kernel_rfl) (fun L0 => v_pick_false rfl rfl rfl) ?_
     refine h_take 22 rfl rfl (by kernel_rfl) (by kernel_rfl) (by kernel_rfl) (fun L0 => v_move rfl rfl) ?_
     refine h_take_yes 23 rfl rfl rfl rfl rfl (by kernel_rfl) (by kernel_rfl) (by kernel_rfl) (fun L0 => v_move rfl rfl) ?_
     refine h_eq (t := 67) (v' := .bool true) rfl (show _ = Value.bool true from by rw [ho]) ?_
     refine h_take_yes 24 rfl rfl rfl rfl rfl (by kernel_rfl) (by kernel_rfl) (by kernel_rfl) (fun L0 => v_move rfl rfl) ?_
     refine h_take_yes 25 rfl rfl rfl rfl rfl (by kernel_rfl) (by kernel_rfl) (by kernel_rfl) (fun L0 => v_move rfl rfl) ?_
     refine h_take_yes 27 rfl rfl rfl rfl rfl (by kernel_rfl) (by kernel_rfl) (by kernel_rfl) (fun L0 => v_fieldAddr (q := ⟨b7, 1, none⟩) rfl rfl Try.underlying25 rfl ti23 rfl) ?_
     refine h_take_yes 28 rfl rfl rfl rfl rfl (by kernel_rfl) (by kernel_rfl) (by kernel_rfl) (fun L0 => v_load1 rfl rfl Try.underlying23 rfl (rd_mem 2 rfl rfl)) ?_
     refine h_one 26 rfl (by kernel_rfl) ?_
     refine o_yes rfl rfl rfl ?_
     refine o_call rfl cal20 rfl (vpdB) ?_
     rintro _ _ ⟨rfl, rfl⟩
     refine l_nil ?_
     refine h_next ?_
     refine h_take_yes 29 rfl rfl rfl rfl rfl (by kernel_rfl) (by kernel_rfl) (by kernel_rfl) (fun L0 => v_bin rfl rfl rfl b_neq) ?_
     refine h_eq (t := 73) (v' := .bool false) rfl (show _ = Value.bool false from by first | (rw [decide_eq_false (by have := (hR.yes ho).1; omega)]; done) | (have := (hR.yes ho).1; simp [this])) ?_
     refine h_take_yes 30 rfl rfl rfl rfl rfl (by kernel_rfl) (by kernel_rfl) (by kernel_rfl) (fun L0 => v_pick_true rfl rfl rfl) ?_
     refine h_take 31 rfl rfl (by kernel_rfl) (by kernel_rfl) (by kernel_rfl) (fun L0 => v_pick_false rfl rfl rfl) ?_
     refine h_done (by kernel_rfl) ?_
     refine q_then ?_
     refine c_false rfl ?_
     refine c_skip ?_
     refine q_then ?_
     refine c_seq ?_
     refine c_region ?_
     refine o_move rfl rfl ?_
     refine o_call rfl cal20 rfl (vpdB) ?_
     rintro _ _ ⟨rfl, rfl⟩
     refine o_assign rfl rfl ?_
     refine l_nil ?_
     refine q_then ?_
     refine c_seq ?_
     have hl64 := okV_lenB hR.okv
     have hml : (s2.xs.map ItB.f_value).length = s2.xs.length := List.length_map ..
     refine c_region ?_
     refine o_move rfl rfl ?_
     refine o_call rfl cal21 rfl (vvotesB) ?_
     rintro _ _ ⟨a79, c79, rfl, rfl⟩
     refine o_len rfl rfl Try.underlying57 ?_
     refine o_move rfl rfl ?_
     refine l_nil ?_
     refine q_then ?_
     refine c_block ?_
     refine c_loop (α := Nat × (List Int)) (fun z => [(3, .pointer (some ⟨k16, 0, none⟩)), (4, .pointer (some ⟨b4, 0, none⟩)), (5, .int .u64 s2.pr), (20, .slice a (os).length c), (21, .int .i64 ((os).length : Int)), (22, .int .i64 (i : Int)), (79, .slice a79 ((s2.xs.map ItB.f_value)).length c79), (80, .int .i64 (((s2.xs.map ItB.f_value)).length : Int)), (81, .int .i64 (z.1 : Int))]) (fun z => row e_VoI.T e_VoI.sz a79 ((s2.xs.map ItB.f_value)).length c79 (flat e_VoI (s2.xs.map ItB.f_value)) :: VtB k16 s2 :: row e_VoI.T e_VoI.sz a33 ((promLB s x25.f_Ballot 0)).length c33 (flat e_VoI (promLB s x25.f_Ballot 0)) :: blk b7 (.cells #[.bool x25.f_Promise, .int .u64 x25.f_Ballot, .int .i64 x25.f_Slot, .string x25.f_Value] 25 (0, 0)) :: blk b4 (.cells (flat e_uint64 z.2).toArray 56 (0, 0)) :: F) (fun z => (z.1 : Int) ≤ ((s2.xs.map ItB.f_value).length : Int) ∧ RisesA s2 z.2) (fun z => s2.xs.length - z.1) (0, A) (by exact ⟨by omega, hA2⟩) ⟨(by first | rfl | exact vint (by omega)), (by first | rfl | exact vint (by omega)), (by first | rfl | exact vint (by omega)), (by first | rfl | exact vint (by omega)), (by first | rfl | exact vint (by omega)), (by first | rfl | exact vint (by omega)), (by first | rfl | exact vint (by omega)), (by first | rfl | exact vint (by omega)), (by first | rfl | exact vint (by omega)), trivial⟩ (fun w S => S) ?_
     rintro ⟨j, A3⟩ ⟨hj, hA3⟩
     try dsimp only at *
     refine c_seq ?_
     refine c_region ?_
     refine o_bin rfl rfl rfl b_lss ?_
     refine l_nil ?_
     refine q_then ?_
     refine c_seq ?_
     refine c_cond rfl (fun h4 => ?_) (fun h4 => ?_)
     · -- h4T
      have h4b := h4
      try simp only [decide_eq_true_eq] at h4
      refine c_skip ?_
      refine q_then ?_
      refine c_seq ?_
      refine c_block ?_
      refine c_seq ?_
      refine c_region ?_
      refine o_index e_VoI_ok rfl rfl rfl Try.underlying57 (by omega) (by omega) (rds_own e_VoI_ok 0 rfl) fun ad83 ead83 => ?_
      obtain ⟨x83, hx83⟩ : ∃ x, ((s2.xs.map ItB.f_value))[((j : Int)).toNat]? = some x := ⟨_, List.getElem?_eq_getElem (by omega)⟩
      refine o_loadn (vs := e_VoI.cells x83) rfl rfl Try.underlying62 rfl ti62 (rdn_sl e_VoI_ok ead83 (rds_own e_VoI_ok 0 rfl) hx83) ?_
      obtain ⟨y, hym, hyx, hys, hx0, hx1, hxp⟩ := rises_get hR.okv hx83
      refine o_alloc rfl ti62 fun b10 => ?_
      refine o_storen rfl rfl ti62 rfl rfl rfl rfl ?_
      refine l_nil ?_
      refine q_then ?_
      refine c_seq ?_
      refine c_seq ?_
      refine c_quiet (by kernel_rfl) (by kernel_rfl) ?_
      refine Qt.o_val rfl (v_fieldAddr (q := ⟨b10, 0, none⟩) rfl rfl Try.underlying62 rfl ti3 rfl) ?_
      refine Qt.o_val rfl (v_load1 rfl rfl Try.underlying3 rfl (rd_mem 0 rfl rfl)) ?_
      refine Qt.o_val rfl (v_bin rfl rfl rfl b_lss) ?_
      refine Qt.l_eq (t := 87) (v' := .bool false) rfl (show _ = Value.bool false from by rw [decide_eq_false (by omega)]) ?_
      refine Qt.o_val rfl (v_move rfl rfl) ?_
      refine Qt.o_yes rfl rfl rfl ?_
      refine Qt.o_val rfl (v_fieldAddr (q := ⟨b10, 0, none⟩) rfl rfl Try.underlying62 rfl ti3 rfl) ?_
      refine Qt.o_yes rfl rfl rfl ?_
      refine Qt.o_val rfl (v_load1 rfl rfl Try.underlying3 rfl (rd_mem 0 rfl rfl)) ?_
      refine Qt.o_yes rfl rfl rfl ?_
      refine Qt.o_val rfl (v_bin rfl rfl rfl b_gtr) ?_
      refine Qt.l_eq (t := 91) (v' := .bool false) rfl (show _ = Value.bool false from by rw [decide_eq_false (by omega)]) ?_
      refine Qt.o_val rfl (v_pick_false rfl rfl rfl) ?_
      refine Qt.o_val rfl (v_move rfl rfl) ?_
      refine Qt.o_yes rfl rfl rfl ?_
      refine Qt.o_val rfl (v_fieldAddr (q := ⟨b10, 1, none⟩) rfl rfl Try.underlying62 rfl ti23 rfl) ?_
      refine Qt.o_yes rfl rfl rfl ?_
      refine Qt.o_val rfl (v_load1 rfl rfl Try.underlying23 rfl (rd_mem 0 rfl rfl)) ?_
      refine Qt.o_yes rfl rfl rfl ?_
      refine Qt.o_val rfl (v_fieldAddr (q := ⟨b10, 0, none⟩) rfl rfl Try.underlying62 rfl ti3 rfl) ?_
      refine Qt.o_yes rfl rfl rfl ?_
      refine Qt.o_val rfl (v_load1 rfl rfl Try.underlying3 rfl (rd_mem 0 rfl rfl)) ?_
      refine Qt.o_yes rfl rfl rfl ?_
      refine Qt.o_val rfl (v_indexArr rfl rfl rfl Try.underlying56 ti23 (by omega) (by omega) (Addr.add_mk _ _ _)) ?_
      obtain ⟨x98, hx98⟩ : ∃ x, (A3)[(x83.f_Slot).toNat]? = some x := ⟨_, List.getElem?_eq_getElem (by have := hA3.len; omega)⟩
      have hx98' := hA3.at_ y hym x98 (by rw [← hys]; exact hx98)
      rw [hyx] at hx98'
      refine Qt.o_yes rfl rfl rfl ?_
      refine Qt.o_val rfl (v_load1 rfl rfl Try.underlying23 rfl (rd_mem 5 rfl (sg_arr (sg_flat (s := 1) (o := 0) e_uint64_ok rfl hx98 rfl (by omega))))) ?_
      refine Qt.o_yes rfl rfl rfl ?_
      refine Qt.o_val rfl (v_bin rfl rfl rfl b_lss) ?_
      refine Qt.l_eq (t := 100) (v' := .bool false) rfl (show _ = Value.bool false from by rw [decide_eq_false (by omega)]) ?_
      refine Qt.o_val rfl (v_pick_false rfl rfl rfl) ?_
      refine Qt.o_val rfl (v_move rfl rfl) ?_
      refine Qt.o_yes rfl rfl rfl ?_
      refine Qt.o_val rfl (v_fieldAddr (q := ⟨b10, 1, none⟩) rfl rfl Try.underlying62 rfl ti23 rfl) ?_
      refine Qt.o_yes rfl rfl rfl ?_
      refine Qt.o_val rfl (v_load1 rfl rfl Try.underlying23 rfl (rd_mem 0 rfl rfl)) ?_
      refine Qt.o_yes rfl rfl rfl ?_
      refine Qt.o_val rfl (v_move rfl rfl) ?_
      refine Qt.o_yes rfl rfl rfl ?_
      refine Qt.o_val rfl (v_bin rfl rfl rfl b_gtr) ?_
      refine Qt.l_eq (t := 106) (v' := .bool false) rfl (show _ = Value.bool false from by rw [decide_eq_false (by omega)]) ?_
      refine Qt.o_val rfl (v_pick_false rfl rfl rfl) ?_
      refine Qt.l_nil ?_
      refine q_then ?_
      refine c_false rfl ?_
      refine c_skip ?_
      refine q_then ?_
      refine c_region ?_
      refine o_fieldAddr (q := ⟨b10, 0, none⟩) rfl rfl Try.underlying62 rfl ti3 rfl ?_
      refine o_load1 rfl rfl Try.underlying3 rfl (rd_mem 0 rfl rfl) ?_
      refine o_fieldAddr (q := ⟨b10, 1, none⟩) rfl rfl Try.underlying62 rfl ti23 rfl ?_
      refine o_load1 rfl rfl Try.underlying23 rfl (rd_mem 0 rfl rfl) ?_
      refine o_indexArr rfl rfl rfl Try.underlying56 ti23 (by omega) (by omega) (Addr.add_mk _ _ _) ?_
      obtain ⟨x112, hx112⟩ : ∃ x, (A3)[(x83.f_Slot).toNat]? = some x := ⟨_, List.getElem?_eq_getElem (by have := hA3.len; omega)⟩
      refine l_f5 ?_
      refine o_storeArr rfl rfl rfl ti23 (sz_arr (sg_len (s := 1) e_uint64_ok rfl hA3.len rfl) (by omega)) (st_arr (st_flat (s := 1) (o := 0) (y := x83.f_Ballot) e_uint64_ok rfl hx112 (by decide) rfl (by omega))) ?_
      refine l_nil ?_
      refine q_block ?_
      refine q_then ?_
      refine c_region ?_
      refine o_bin rfl rfl rfl (b_add (wrap_i64 (by omega) (by omega))) ?_
      refine o_move rfl rfl ?_
      refine l_nil ?_
      refine q_conv (fun w S => (S.perm p1).tail) ?_
      refine q_conv (fun w S => S.perm p4) ?_
      refine q_conv (fun w S => S.perm p4) ?_
      refine q_conv (fun w S => S.perm p4) ?_
      refine q_conv (fun w S => S.perm p4) ?_
      exact q_round (j + 1, (A3).set (x83.f_Slot).toNat x83.f_Ballot) (by exact ⟨by omega, rises_end hA3 hR.okv hym hyx hys⟩) (by (try dsimp only); omega) ⟨(by first | rfl | exact vint (by omega)), (by first | rfl | exact vint (by omega)), (by first | rfl | exact vint (by omega)), (by first | rfl | exact vint (by omega)), (by first | rfl | exact vint (by omega)), (by first | rfl | exact vint (by omega)), (by first | rfl | exact vint (by omega)), (by first | rfl | exact vint (by omega)), (by first | rfl | exact vint (by omega)), trivial⟩ (fun w S => S)
     · -- h4F
      have h4b := h4
      try simp only [decide_eq_false_iff_not, Int.not_lt, Int.not_le] at h4
      refine c_exit ?_
      refine q_pass_exit ?_
      refine q_pass_exit ?_
      refine q_hit ?_
      refine q_block ?_
      refine q_then ?_
      refine c_region ?_
      refine o_bin rfl rfl rfl (b_add (wrap_i64 (by omega) (by omega))) ?_
      refine o_move rfl rfl ?_
      refine l_nil ?_
      refine q_conv (fun w S => S.tail) ?_
      refine q_conv (fun w S => (S.perm p1).tail) ?_
      refine q_conv (fun w S => (S.perm p1).tail) ?_
      refine q_conv (fun w S => S.perm p1) ?_
      exact q_round (i + 1, s2, A3) (by exact ⟨by omega, hR.okv, hA3⟩) (by (try dsimp only); omega) ⟨(by first | rfl | exact vint (by omega)), (by first | rfl | exact vint (by omega)), (by first | rfl | exact vint (by omega)), (by first | rfl | exact vint (by omega)), (by first | rfl | exact vint (by omega)), (by first | rfl | exact vint (by omega)), trivial⟩ (fun w S => S)
    · -- ho False
     have hR := rstep_prom (s := s) hkv hok
     obtain ⟨s2, hs2⟩ : ∃ s2, s2 = (promSB s x25.f_Ballot) := ⟨_, rfl⟩
     rw [← hs2] at hR
     replace hR : RStep s x25.f_Ballot ok s2 := hR
     have hA2 := hA.step hR
     refine c_conv (fun w S => S.perm p1) ?_
     refine c_conv (L' := VtB k16 s2 :: _) (fun w S => by rw [← hs2] at S; exact S) ?_
     refine c_held [VtB k16 s2, row e_VoI.T e_VoI.sz a33 ((promLB s x25.f_Ballot 0)).length c33 (flat e_VoI (promLB s x25.f_Ballot 0)), blk b7 (.cells #[.bool x25.f_Promise, .int .u64 x25.f_Ballot, .int .i64 x25.f_Slot, .string x25.f_Value] 25 (0, 0)), blk b4 (.cells (flat e_uint64 A).toArray 56 (0, 0))] (by kernel_rfl) rfl ?_
     refine h_take 0 rfl rfl (by kernel_rfl) (by kernel_rfl) (by kernel_rfl) (fun L0 => v_move rfl rfl) ?_
     refine h_eq (t := 44) (v' := .bool false) rfl (show _ = Value.bool false from by rw [show ok = false from by simpa using ho]) ?_
     refine h_take 1 rfl rfl (by kernel_rfl) (by kernel_rfl) (by kernel_rfl) (fun L0 => v_move rfl rfl) ?_
     refine h_take_no 2 rfl rfl rfl rfl rfl (by kernel_rfl) (by kernel_rfl) (by kernel_rfl) ?_
     refine h_take_no 3 rfl rfl rfl rfl rfl (by kernel_rfl) (by kernel_rfl) (by kernel_rfl) ?_
     refine h_take_no 4 rfl rfl rfl rfl rfl (by kernel_rfl) (by kernel_rfl) (by kernel_rfl) ?_
     refine h_take_no 5 rfl rfl rfl rfl rfl (by kernel_rfl) (by kernel_rfl) (by kernel_rfl) ?_
     refine h_take 6 rfl rfl (by kernel_rfl) (by kernel_rfl) (by kernel_rfl) (fun L0 => v_pick_false rfl rfl rfl) ?_
     refine h_take 7 rfl rfl (by kernel_rfl) (by kernel_rfl) (by kernel_rfl) (fun L0 => v_move rfl rfl) ?_
     refine h_take_yes 8 rfl rfl rfl rfl rfl (by kernel_rfl) (by kernel_rfl) (by kernel_rfl) (fun L0 => v_move rfl rfl) ?_
     refine h_take_yes 10 rfl rfl rfl rfl rfl (by kernel_rfl) (by kernel_rfl) (by kernel_rfl) (fun L0 => v_move rfl rfl) ?_
     refine h_one 9 rfl (by kernel_rfl) ?_
     refine o_yes rfl rfl rfl ?_
     refine o_call rfl cal20 rfl (vpdB) ?_
     rintro _ _ ⟨rfl, rfl⟩
     refine l_nil ?_
     refine h_next ?_
     refine h_take_yes 11 rfl rfl rfl rfl rfl (by kernel_rfl) (by kernel_rfl) (by kernel_rfl) (fun L0 => v_bin rfl rfl rfl b_lss) ?_
     refine h_eq (t := 55) (v' := .bool false) rfl (show _ = Value.bool false from by rw [decide_eq_false (by have := hR.pr; omega)]) ?_
     refine h_take 12 rfl rfl (by kernel_rfl) (by kernel_rfl) (by kernel_rfl) (fun L0 => v_pick_false rfl rfl rfl) ?_
     refine h_take 13 rfl rfl (by kernel_rfl) (by kernel_rfl) (by kernel_rfl) (fun L0 => v_move rfl rfl) ?_
     refine h_take_yes 14 rfl rfl rfl rfl rfl (by kernel_rfl) (by kernel_rfl) (by kernel_rfl) (fun L0 => v_move rfl rfl) ?_
     refine h_take_yes 16 rfl rfl rfl rfl rfl (by kernel_rfl) (by kernel_rfl) (by kernel_rfl) (fun L0 => v_move rfl rfl) ?_
     refine h_take_yes 17 rfl rfl rfl rfl rfl (by kernel_rfl) (by kernel_rfl) (by kernel_rfl) (fun L0 => v_move rfl rfl) ?_
     refine h_one 15 rfl (by kernel_rfl) ?_
     refine o_yes rfl rfl rfl ?_
     refine o_call rfl cal20 rfl (vpdB) ?_
     rintro _ _ ⟨rfl, rfl⟩
     refine l_nil ?_
     refine h_next ?_
     refine h_one 18 rfl (by kernel_rfl) ?_
     refine o_yes rfl rfl rfl ?_
     refine o_call rfl cal20 rfl (vpdB) ?_
     rintro _ _ ⟨rfl, rfl⟩
     refine l_nil ?_
     refine h_next ?_
     refine h_take_yes 19 rfl rfl rfl rfl rfl (by kernel_rfl) (by kernel_rfl) (by kernel_rfl) (fun L0 => v_max rfl rfl rfl Try.underlying23) ?_
     refine h_take_yes 20 rfl rfl rfl rfl rfl (by kernel_rfl) (by kernel_rfl) (by kernel_rfl) (fun L0 => v_bin rfl rfl rfl b_neq) ?_
     refine h_eq (t := 64) (v' := .bool false) rfl (show _ = Value.bool false from by first | (rw [decide_eq_false (by have := hR.pr; omega)]; done) | (have := hR.pr; simp; omega)) ?_
     refine h_take 21 rfl rfl (by kernel_rfl) (by kernel_rfl) (by kernel_rfl) (fun L0 => v_pick_false rfl rfl rfl) ?_
     refine h_take 22 rfl rfl (by kernel_rfl) (by kernel_rfl) (by kernel_rfl) (fun L0 => v_move rfl rfl) ?_
     refine h_take_yes 23 rfl rfl rfl rfl rfl (by kernel_rfl) (by kernel_rfl) (by kernel_rfl) (fun L0 => v_move rfl rfl) ?_
     refine h_eq (t := 67) (v' := .bool false) rfl (show _ = Value.bool false from by rw [show ok = false from by simpa using ho]) ?_
     refine h_take_yes 24 rfl rfl rfl rfl rfl (by kernel_rfl) (by kernel_rfl) (by kernel_rfl) (fun L0 => v_move rfl rfl) ?_
     refine h_take_no 25 rfl rfl rfl rfl rfl (by kernel_rfl) (by kernel_rfl) (by kernel_rfl) ?_
     refine h_take_no 26 rfl rfl rfl rfl rfl (by kernel_rfl) (by kernel_rfl) (by kernel_rfl) ?_
     refine h_take_no 27 rfl rfl rfl rfl rfl (by kernel_rfl) (by kernel_rfl) (by kernel_rfl) ?_
     refine h_take_no 28 rfl rfl rfl rfl rfl (by kernel_rfl) (by kernel_rfl) (by kernel_rfl) ?_
     refine h_take_no 29 rfl rfl rfl rfl rfl (by kernel_rfl) (by kernel_rfl) (by kernel_rfl) ?_
     refine h_take_yes 30 rfl rfl rfl rfl rfl (by kernel_rfl) (by kernel_rfl) (by kernel_rfl) (fun L0 => v_pick_false rfl rfl rfl) ?_
     refine h_take 31 rfl rfl (by kernel_rfl) (by kernel_rfl) (by kernel_rfl) (fun L0 => v_pick_false rfl rfl rfl) ?_
     refine h_done (by kernel_rfl) ?_
     refine q_then ?_
     refine c_false rfl ?_
     refine c_skip ?_
     refine q_then ?_
     refine c_seq ?_
     refine c_region ?_
     refine o_move rfl rfl ?_
     refine o_call rfl cal20 rfl (vpdB) ?_
     rintro _ _ ⟨rfl, rfl⟩
     refine o_assign rfl rfl ?_
     refine l_nil ?_
     refine q_then ?_
     refine c_seq ?_
     have hl64 := okV_lenB hR.okv
     have hml : (s2.xs.map ItB.f_value).length = s2.xs.length := List.length_map ..
     refine c_region ?_
     refine o_move rfl rfl ?_
     refine o_call rfl cal21 rfl (vvotesB) ?_
     rintro _ _ ⟨a79, c79, rfl, rfl⟩
     refine o_len rfl rfl Try.underlying57 ?_
     refine o_move rfl rfl ?_
     refine l_nil ?_
     refine q_then ?_
     refine c_block ?_
     refine c_loop (α := Nat × (List Int)) (fun z => [(3, .pointer (some ⟨k16, 0, none⟩)), (4, .pointer (some ⟨b4, 0, none⟩)), (5, .int .u64 s2.pr), (20, .slice a (os).length c), (21, .int .i64 ((os).length : Int)), (22, .int .i64 (i : Int)), (79, .slice a79 ((s2.xs.map ItB.f_value)).length c79), (80, .int .i64 (((s2.xs.map ItB.f_value)).length : Int)), (81, .int .i64 (z.1 : Int))]) (fun z => row e_VoI.T e_VoI.sz a79 ((s2.xs.map ItB.f_value)).length c79 (flat e_VoI (s2.xs.map ItB.f_value)) :: VtB k16 s2 :: row e_VoI.T e_VoI.sz a33 ((promLB s x25.f_Ballot 0)).length c33 (flat e_VoI (promLB s x25.f_Ballot 0)) :: blk b7 (.cells #[.bool x25.f_Promise, .int .u64 x25.f_Ballot, .int .i64 x25.f_Slot, .string x25.f_Value] 25 (0, 0)) :: blk b4 (.cells (flat e_uint64 z.2).toArray 56 (0, 0)) :: F) (fun z => (z.1 : Int) ≤ ((s2.xs.map ItB.f_value).length : Int) ∧ RisesA s2 z.2) (fun z => s2.xs.length - z.1) (0, A) (by exact ⟨by omega, hA2⟩) ⟨(by first | rfl | exact vint (by omega)), (by first | rfl | exact vint (by omega)), (by first | rfl | exact vint (by omega)), (by first | rfl | exact vint (by omega)), (by first | rfl | exact vint (by omega)), (by first | rfl | exact vint (by omega)), (by first | rfl | exact vint (by omega)), (by first | rfl | exact vint (by omega)), (by first | rfl | exact vint (by omega)), trivial⟩ (fun w S => S) ?_
     rintro ⟨j, A3⟩ ⟨hj, hA3⟩
     try dsimp only at *
     refine c_seq ?_
     refine c_region ?_
     refine o_bin rfl rfl rfl b_lss ?_
     refine l_nil ?_
     refine q_then ?_
     refine c_seq ?_
     refine c_cond rfl (fun h5 => ?_) (fun h5 => ?_)
     · -- h5T
      have h5b := h5
      try simp only [decide_eq_true_eq] at h5
      refine c_skip ?_
      refine q_then ?_
      refine c_seq ?_
      refine c_block ?_
      refine c_seq ?_
      refine c_region ?_
      refine o_index e_VoI_ok rfl rfl rfl Try.underlying57 (by omega) (by omega) (rds_own e_VoI_ok 0 rfl) fun ad83 ead83 => ?_
      obtain ⟨x83, hx83⟩ : ∃ x, ((s2.xs.map ItB.f_value))[((j : Int)).toNat]? = some x := ⟨_, List.getElem?_eq_getElem (by omega)⟩
      refine o_loadn (vs := e_VoI.cells x83) rfl rfl Try.underlying62 rfl ti62 (rdn_sl e_VoI_ok ead83 (rds_own e_VoI_ok 0 rfl) hx83) ?_
      obtain ⟨y, hym, hyx, hys, hx0, hx1, hxp⟩ := rises_get hR.okv hx83
      refine o_alloc rfl ti62 fun b10 => ?_
      refine o_storen rfl rfl ti62 rfl rfl rfl rfl ?_
      refine l_nil ?_
      refine q_then ?_
      refine c_seq ?_
      refine c_seq ?_
      refine c_quiet (by kernel_rfl) (by kernel_rfl) ?_
      refine Qt.o_val rfl (v_fieldAddr (q := ⟨b10, 0, none⟩) rfl rfl Try.underlying62 rfl ti3 rfl) ?_
      refine Qt.o_val rfl (v_load1 rfl rfl Try.underlying3 rfl (rd_mem 0 rfl rfl)) ?_
      refine Qt.o_val rfl (v_bin rfl rfl rfl b_lss) ?_
      refine Qt.l_eq (t := 87) (v' := .bool false) rfl (show _ = Value.bool false from by rw [decide_eq_false (by omega)]) ?_
      refine Qt.o_val rfl (v_move rfl rfl) ?_
      refine Qt.o_yes rfl rfl rfl ?_
      refine Qt.o_val rfl (v_fieldAddr (q := ⟨b10, 0, none⟩) rfl rfl Try.underlying62 rfl ti3 rfl) ?_
      refine Qt.o_yes rfl rfl rfl ?_
      refine Qt.o_val rfl (v_load1 rfl rfl Try.underlying3 rfl (rd_mem 0 rfl rfl)) ?_
      refine Qt.o_yes rfl rfl rfl ?_
      refine Qt.o_val rfl (v_bin rfl rfl rfl b_gtr) ?_
      refine Qt.l_eq (t := 91) (v' := .bool false) rfl (show _ = Value.bool false from by rw [decide_eq_false (by omega)]) ?_
      refine Qt.o_val rfl (v_pick_false rfl rfl rfl) ?_
      refine Qt.o_val rfl (v_move rfl rfl) ?_
      refine Qt.o_yes rfl rfl rfl ?_
      refine Qt.o_val rfl (v_fieldAddr (q := ⟨b10, 1, none⟩) rfl rfl Try.underlying62 rfl ti23 rfl) ?_
      refine Qt.o_yes rfl rfl rfl ?_
      refine Qt.o_val rfl (v_load1 rfl rfl Try.underlying23 rfl (rd_mem 0 rfl rfl)) ?_
      refine Qt.o_yes rfl rfl rfl ?_
      refine Qt.o_val rfl (v_fieldAddr (q := ⟨b10, 0, none⟩) rfl rfl Try.underlying62 rfl ti3 rfl) ?_
      refine Qt.o_yes rfl rfl rfl ?_
      refine Qt.o_val rfl (v_load1 rfl rfl Try.underlying3 rfl (rd_mem 0 rfl rfl)) ?_
      refine Qt.o_yes rfl rfl rfl ?_
      refine Qt.o_val rfl (v_indexArr rfl rfl rfl Try.underlying56 ti23 (by omega) (by omega) (Addr.add_mk _ _ _)) ?_
      obtain ⟨x98, hx98⟩ : ∃ x, (A3)[(x83.f_Slot).toNat]? = some x := ⟨_, List.getElem?_eq_getElem (by have := hA3.len; omega)⟩
      have hx98' := hA3.at_ y hym x98 (by rw [← hys]; exact hx98)
      rw [hyx] at hx98'
      refine Qt.o_yes rfl rfl rfl ?_
      refine Qt.o_val rfl (v_load1 rfl rfl Try.underlying23 rfl (rd_mem 5 rfl (sg_arr (sg_flat (s := 1) (o := 0) e_uint64_ok rfl hx98 rfl (by omega))))) ?_
      refine Qt.o_yes rfl rfl rfl ?_
      refine Qt.o_val rfl (v_bin rfl rfl rfl b_lss) ?_
      refine Qt.l_eq (t := 100) (v' := .bool false) rfl (show _ = Value.bool false from by rw [decide_eq_false (by omega)]) ?_
      refine Qt.o_val rfl (v_pick_false rfl rfl rfl) ?_
      refine Qt.o_val rfl (v_move rfl rfl) ?_
      refine Qt.o_yes rfl rfl rfl ?_
      refine Qt.o_val rfl (v_fieldAddr (q := ⟨b10, 1, none⟩) rfl rfl Try.underlying62 rfl ti23 rfl) ?_
      refine Qt.o_yes rfl rfl rfl ?_
      refine Qt.o_val rfl (v_load1 rfl rfl Try.underlying23 rfl (rd_mem 0 rfl rfl)) ?_
      refine Qt.o_yes rfl rfl rfl ?_
      refine Qt.o_val rfl (v_move rfl rfl) ?_
      refine Qt.o_yes rfl rfl rfl ?_
      refine Qt.o_val rfl (v_bin rfl rfl rfl b_gtr) ?_
      refine Qt.l_eq (t := 106) (v' := .bool false) rfl (show _ = Value.bool false from by rw [decide_eq_false (by omega)]) ?_
      refine Qt.o_val rfl (v_pick_false rfl rfl rfl) ?_
      refine Qt.l_nil ?_
      refine q_then ?_
      refine c_false rfl ?_
      refine c_skip ?_
      refine q_then ?_
      refine c_region ?_
      refine o_fieldAddr (q := ⟨b10, 0, none⟩) rfl rfl Try.underlying62 rfl ti3 rfl ?_
      refine o_load1 rfl rfl Try.underlying3 rfl (rd_mem 0 rfl rfl) ?_
      refine o_fieldAddr (q := ⟨b10, 1, none⟩) rfl rfl Try.underlying62 rfl ti23 rfl ?_
      refine o_load1 rfl rfl Try.underlying23 rfl (rd_mem 0 rfl rfl) ?_
      refine o_indexArr rfl rfl rfl Try.underlying56 ti23 (by omega) (by omega) (Addr.add_mk _ _ _) ?_
      obtain ⟨x112, hx112⟩ : ∃ x, (A3)[(x83.f_Slot).toNat]? = some x := ⟨_, List.getElem?_eq_getElem (by have := hA3.len; omega)⟩
      refine l_f5 ?_
      refine o_storeArr rfl rfl rfl ti23 (sz_arr (sg_len (s := 1) e_uint64_ok rfl hA3.len rfl) (by omega)) (st_arr (st_flat (s := 1) (o := 0) (y := x83.f_Ballot) e_uint64_ok rfl hx112 (by decide) rfl (by omega))) ?_
      refine l_nil ?_
      refine q_block ?_
      refine q_then ?_
      refine c_region ?_
      refine o_bin rfl rfl rfl (b_add (wrap_i64 (by omega) (by omega))) ?_
      refine o_move rfl rfl ?_
      refine l_nil ?_
      refine q_conv (fun w S => (S.perm p1).tail) ?_
      refine q_conv (fun w S => S.perm p4) ?_
      refine q_conv (fun w S => S.perm p4) ?_
      refine q_conv (fun w S => S.perm p4) ?_
      refine q_conv (fun w S => S.perm p4) ?_
      exact q_round (j + 1, (A3).set (x83.f_Slot).toNat x83.f_Ballot) (by exact ⟨by omega, rises_end hA3 hR.okv hym hyx hys⟩) (by (try dsimp only); omega) ⟨(by first | rfl | exact vint (by omega)), (by first | rfl | exact vint (by omega)), (by first | rfl | exact vint (by omega)), (by first | rfl | exact vint (by omega)), (by first | rfl | exact vint (by omega)), (by first | rfl | exact vint (by omega)), (by first | rfl | exact vint (by omega)), (by first | rfl | exact vint (by omega)), (by first | rfl | exact vint (by omega)), trivial⟩ (fun w S => S)
     · -- h5F
      have h5b := h5
      try simp only [decide_eq_false_iff_not, Int.not_lt, Int.not_le] at h5
      refine c_exit ?_
      refine q_pass_exit ?_
      refine q_pass_exit ?_
      refine q_hit ?_
      refine q_block ?_
      refine q_then ?_
      refine c_region ?_
      refine o_bin rfl rfl rfl (b_add (wrap_i64 (by omega) (by omega))) ?_
      refine o_move rfl rfl ?_
      refine l_nil ?_
      refine q_conv (fun w S => S.tail) ?_
      refine q_conv (fun w S => (S.perm p1).tail) ?_
      refine q_conv (fun w S => (S.perm p1).tail) ?_
      refine q_conv (fun w S => S.perm p1) ?_
      exact q_round (i + 1, s2, A3) (by exact ⟨by omega, hR.okv, hA3⟩) (by (try dsimp only); omega) ⟨(by first | rfl | exact vint (by omega)), (by first | rfl | exact vint (by omega)), (by first | rfl | exact vint (by omega)), (by first | rfl | exact vint (by omega)), (by first | rfl | exact vint (by omega)), (by first | rfl | exact vint (by omega)), trivial⟩ (fun w S => S)
   · -- h3F
    have h3b := h3
    try simp only [decide_eq_true_eq, decide_eq_false_iff_not, Bool.not_eq_eq_eq_not, Bool.not_true, Bool.not_false, Bool.not_eq_true', Bool.not_eq_false', Int.not_lt, Int.not_le, Bool.or_eq_true, Bool.and_eq_true] at h3
    refine c_region ?_
    refine o_move rfl rfl ?_
    refine o_fieldAddr (q := ⟨b7, 2, none⟩) rfl rfl Try.underlying25 rfl ti3 rfl ?_
    refine o_load1 rfl rfl Try.underlying3 rfl (rd_mem 0 rfl rfl) ?_
    refine o_fieldAddr (q := ⟨b7, 1, none⟩) rfl rfl Try.underlying25 rfl ti23 rfl ?_
    refine o_load1 rfl rfl Try.underlying23 rfl (rd_mem 0 rfl rfl) ?_
    refine o_move rfl rfl ?_
    refine o_build rfl sp62 ti62 rfl ((fill_cons (cells' := [.int .i64 x25.f_Slot, .int .u64 0, .int .i64 0]) rfl rfl rfl rfl (fill_cons (cells' := [.int .i64 x25.f_Slot, .int .u64 x25.f_Ballot, .int .i64 0]) rfl rfl rfl rfl (fill_cons (cells' := [.int .i64 x25.f_Slot, .int .u64 x25.f_Ballot, .int .i64 (i : Int)]) rfl rfl rfl rfl fill_nil)))) ?_
    refine l_f2 ?_
    refine o_call rfl cal19 rfl (vaccB (v := (⟨x25.f_Slot, x25.f_Ballot, (i : Int)⟩ : VoI))) ?_
    rintro _ _ ⟨rfl, rfl⟩
    obtain ⟨ok, hok⟩ : ∃ ok : Bool, decide (accOkB s (⟨x25.f_Slot, x25.f_Ballot, (i : Int)⟩ : VoI)) = ok := ⟨_, rfl⟩
    refine l_eq (t := 43) (v' := .bool ok) rfl (by rw [← hok] <;> rfl) ?_
    refine o_assign rfl rfl ?_
    refine l_nil ?_
    refine q_then ?_
    refine c_seq ?_
    refine c_seq ?_
    refine (Classical.em (ok = true)).elim (fun ho => ?_) (fun ho => ?_)
    · -- ho True
     have hR := rstep_acc (s := s) hkv hok
     obtain ⟨s2, hs2⟩ : ∃ s2, s2 = (accSB s (⟨x25.f_Slot, x25.f_Ballot, (i : Int)⟩ : VoI)) := ⟨_, rfl⟩
     rw [← hs2] at hR
     replace hR : RStep s x25.f_Ballot ok s2 := hR
     have hA2 := hA.step hR
     refine c_conv (L' := VtB k16 s2 :: _) (fun w S => by rw [← hs2] at S; exact S) ?_
     refine c_held [VtB k16 s2, blk b7 (.cells #[.bool x25.f_Promise, .int .u64 x25.f_Ballot, .int .i64 x25.f_Slot, .string x25.f_Value] 25 (0, 0)), blk b4 (.cells (flat e_uint64 A).toArray 56 (0, 0))] (by kernel_rfl) rfl ?_
     refine h_take 0 rfl rfl (by kernel_rfl) (by kernel_rfl) (by kernel_rfl) (fun L0 => v_move rfl rfl) ?_
     refine h_eq (t := 44) (v' := .bool true) rfl (show _ = Value.bool true from by rw [ho]) ?_
     refine h_take 1 rfl rfl (by kernel_rfl) (by kernel_rfl) (by kernel_rfl) (fun L0 => v_move rfl rfl) ?_
     refine h_take_yes 2 rfl rfl rfl rfl rfl (by kernel_rfl) (by kernel_rfl) (by kernel_rfl) (fun L0 => v_fieldAddr (q := ⟨b7, 1, none⟩) rfl rfl Try.underlying25 rfl ti23 rfl) ?_
     refine h_take_yes 3 rfl rfl rfl rfl rfl (by kernel_rfl) (by kernel_rfl) (by kernel_rfl) (fun L0 => v_load1 rfl rfl Try.underlying23 rfl (rd_mem 1 rfl rfl)) ?_
     refine h_take_yes 4 rfl rfl rfl rfl rfl (by kernel_rfl) (by kernel_rfl) (by kernel_rfl) (fun L0 => v_move rfl rfl) ?_
     refine h_take_yes 5 rfl rfl rfl rfl rfl (by kernel_rfl) (by kernel_rfl) (by kernel_rfl) (fun L0 => v_bin rfl rfl rfl b_lss) ?_
     refine h_eq (t := 49) (v' := .bool false) rfl (show _ = Value.bool false from by rw [decide_eq_false (by have := (hR.yes ho).2; omega)]) ?_
     refine h_take 6 rfl rfl (by kernel_rfl) (by kernel_rfl) (by kernel_rfl) (fun L0 => v_pick_true rfl rfl rfl) ?_
     refine h_take 7 rfl rfl (by kernel_rfl) (by kernel_rfl) (by kernel_rfl) (fun L0 => v_move rfl rfl) ?_
     refine h_take_yes 8 rfl rfl rfl rfl rfl (by kernel_rfl) (by kernel_rfl) (by kernel_rfl) (fun L0 => v_move rfl rfl) ?_
     refine h_take_yes 10 rfl rfl rfl rfl rfl (by kernel_rfl) (by kernel_rfl) (by kernel_rfl) (fun L0 => v_move rfl rfl) ?_
     refine h_one 9 rfl (by kernel_rfl) ?_
     refine o_yes rfl rfl rfl ?_
     refine o_call rfl cal20 rfl (vpdB) ?_
     rintro _ _ ⟨rfl, rfl⟩
     refine l_nil ?_
     refine h_next ?_
     refine h_take_yes 11 rfl rfl rfl rfl rfl (by kernel_rfl) (by kernel_rfl) (by kernel_rfl) (fun L0 => v_bin rfl rfl rfl b_lss) ?_
     refine h_eq (t := 55) (v' := .bool false) rfl (show _ = Value.bool false from by rw [decide_eq_false (by have := hR.pr; omega)]) ?_
     refine h_take 12 rfl rfl (by kernel_rfl) (by kernel_rfl) (by kernel_rfl) (fun L0 => v_pick_false rfl rfl rfl) ?_
     refine h_take 13 rfl rfl (by kernel_rfl) (by kernel_rfl) (by kernel_rfl) (fun L0 => v_move rfl rfl) ?_
     refine h_take_yes 14 rfl rfl rfl rfl rfl (by kernel_rfl) (by kernel_rfl) (by kernel_rfl) (fun L0 => v_move rfl rfl) ?_
     refine h_take_yes 16 rfl rfl rfl rfl rfl (by kernel_rfl) (by kernel_rfl) (by kernel_rfl) (fun L0 => v_move rfl rfl) ?_
     refine h_take_yes 17 rfl rfl rfl rfl rfl (by kernel_rfl) (by kernel_rfl) (by kernel_rfl) (fun L0 => v_move rfl rfl) ?_
     refine h_one 15 rfl (by kernel_rfl) ?_
     refine o_yes rfl rfl rfl ?_
     refine o_call rfl cal20 rfl (vpdB) ?_
     rintro _ _ ⟨rfl, rfl⟩
     refine l_nil ?_
     refine h_next ?_
     refine h_one 18 rfl (by kernel_rfl) ?_
     refine o_yes rfl rfl rfl ?_
     refine o_call rfl cal20 rfl (vpdB) ?_
     rintro _ _ ⟨rfl, rfl⟩
     refine l_nil ?_
     refine h_next ?_
     refine h_take_yes 19 rfl rfl rfl rfl rfl (by kernel_rfl) (by kernel_rfl) (by kernel_rfl) (fun L0 => v_max rfl rfl rfl Try.underlying23) ?_
     refine h_take_yes 20 rfl rfl rfl rfl rfl (by kernel_rfl) (by kernel_rfl) (by kernel_rfl) (fun L0 => v_bin rfl rfl rfl b_neq) ?_
     refine h_eq (t := 64) (v' := .bool false) rfl (show _ = Value.bool false from by first | (rw [decide_eq_false (by have := hR.pr; omega)]; done) | (have := hR.pr; simp; omega)) ?_
     refine h_take 21 rfl rfl (by kernel_rfl) (by kernel_rfl) (by kernel_rfl) (fun L0 => v_pick_false rfl rfl rfl) ?_
     refine h_take 22 rfl rfl (by kernel_rfl) (by kernel_rfl) (by kernel_rfl) (fun L0 => v_move rfl rfl) ?_
     refine h_take_yes 23 rfl rfl rfl rfl rfl (by kernel_rfl) (by kernel_rfl) (by kernel_rfl) (fun L0 => v_move rfl rfl) ?_
     refine h_eq (t := 67) (v' := .bool true) rfl (show _ = Value.bool true from by rw [ho]) ?_
     refine h_take_yes 24 rfl rfl rfl rfl rfl (by kernel_rfl) (by kernel_rfl) (by kernel_rfl) (fun L0 => v_move rfl rfl) ?_
     refine h_take_yes 25 rfl rfl rfl rfl rfl (by kernel_rfl) (by kernel_rfl) (by kernel_rfl) (fun L0 => v_move rfl rfl) ?_
     refine h_take_yes 27 rfl rfl rfl rfl rfl (by kernel_rfl) (by kernel_rfl) (by kernel_rfl) (fun L0 => v_fieldAddr (q := ⟨b7, 1, none⟩) rfl rfl Try.underlying25 rfl ti23 rfl) ?_
     refine h_take_yes 28 rfl rfl rfl rfl rfl (by kernel_rfl) (by kernel_rfl) (by kernel_rfl) (fun L0 => v_load1 rfl rfl Try.underlying23 rfl (rd_mem 1 rfl rfl)) ?_
     refine h_one 26 rfl (by kernel_rfl) ?_
     refine o_yes rfl rfl rfl ?_
     refine o_call rfl cal20 rfl (vpdB) ?_
     rintro _ _ ⟨rfl, rfl⟩
     refine l_nil ?_
     refine h_next ?_
     refine h_take_yes 29 rfl rfl rfl rfl rfl (by kernel_rfl) (by kernel_rfl) (by kernel_rfl) (fun L0 => v_bin rfl rfl rfl b_neq) ?_
     refine h_eq (t := 73) (v' := .bool false) rfl (show _ = Value.bool false from by first | (rw [decide_eq_false (by have := (hR.yes ho).1; omega)]; done) | (have := (hR.yes ho).1; simp [this])) ?_
     refine h_take_yes 30 rfl rfl rfl rfl rfl (by kernel_rfl) (by kernel_rfl) (by kernel_rfl) (fun L0 => v_pick_true rfl rfl rfl) ?_
     refine h_take 31 rfl rfl (by kernel_rfl) (by kernel_rfl) (by kernel_rfl) (fun L0 => v_pick_false rfl rfl rfl) ?_
     refine h_done (by kernel_rfl) ?_
     refine q_then ?_
     refine c_false rfl ?_
     refine c_skip ?_
     refine q_then ?_
     refine c_seq ?_
     refine c_region ?_
     refine o_move rfl rfl ?_
     refine o_call rfl cal20 rfl (vpdB) ?_
     rintro _ _ ⟨rfl, rfl⟩
     refine o_assign rfl rfl ?_
     refine l_nil ?_
     refine q_then ?_
     refine c_seq ?_
     have hl64 := okV_lenB hR.okv
     have hml : (s2.xs.map ItB.f_value).length = s2.xs.length := List.length_map ..
     refine c_region ?_
     refine o_move rfl rfl ?_
     refine o_call rfl cal21 rfl (vvotesB) ?_
     rintro _ _ ⟨a79, c79, rfl, rfl⟩
     refine o_len rfl rfl Try.underlying57 ?_
     refine o_move rfl rfl ?_
     refine l_nil ?_
     refine q_then ?_
     refine c_block ?_
     refine c_loop (α := Nat × (List Int)) (fun z => [(3, .pointer (some ⟨k16, 0, none⟩)), (4, .pointer (some ⟨b4, 0, none⟩)), (5, .int .u64 s2.pr), (20, .slice a (os).length c), (21, .int .i64 ((os).length : Int)), (22, .int .i64 (i : Int)), (79, .slice a79 ((s2.xs.map ItB.f_value)).length c79), (80, .int .i64 (((s2.xs.map ItB.f_value)).length : Int)), (81, .int .i64 (z.1 : Int))]) (fun z => row e_VoI.T e_VoI.sz a79 ((s2.xs.map ItB.f_value)).length c79 (flat e_VoI (s2.xs.map ItB.f_value)) :: VtB k16 s2 :: blk b7 (.cells #[.bool x25.f_Promise, .int .u64 x25.f_Ballot, .int .i64 x25.f_Slot, .string x25.f_Value] 25 (0, 0)) :: blk b4 (.cells (flat e_uint64 z.2).toArray 56 (0, 0)) :: F) (fun z => (z.1 : Int) ≤ ((s2.xs.map ItB.f_value).length : Int) ∧ RisesA s2 z.2) (fun z => s2.xs.length - z.1) (0, A) (by exact ⟨by omega, hA2⟩) ⟨(by first | rfl | exact vint (by omega)), (by first | rfl | exact vint (by omega)), (by first | rfl | exact vint (by omega)), (by first | rfl | exact vint (by omega)), (by first | rfl | exact vint (by omega)), (by first | rfl | exact vint (by omega)), (by first | rfl | exact vint (by omega)), (by first | rfl | exact vint (by omega)), (by first | rfl | exact vint (by omega)), trivial⟩ (fun w S => S) ?_
     rintro ⟨j, A3⟩ ⟨hj, hA3⟩
     try dsimp only at *
     refine c_seq ?_
     refine c_region ?_
     refine o_bin rfl rfl rfl b_lss ?_
     refine l_nil ?_
     refine q_then ?_
     refine c_seq ?_
     refine c_cond rfl (fun h6 => ?_) (fun h6 => ?_)
     · -- h6T
      have h6b := h6
      try simp only [decide_eq_true_eq] at h6
      refine c_skip ?_
      refine q_then ?_
      refine c_seq ?_
      refine c_block ?_
      refine c_seq ?_
      refine c_region ?_
      refine o_index e_VoI_ok rfl rfl rfl Try.underlying57 (by omega) (by omega) (rds_own e_VoI_ok 0 rfl) fun ad83 ead83 => ?_
      obtain ⟨x83, hx83⟩ : ∃ x, ((s2.xs.map ItB.f_value))[((j : Int)).toNat]? = some x := ⟨_, List.getElem?_eq_getElem (by omega)⟩
      refine o_loadn (vs := e_VoI.cells x83) rfl rfl Try.underlying62 rfl ti62 (rdn_sl e_VoI_ok ead83 (rds_own e_VoI_ok 0 rfl) hx83) ?_
      obtain ⟨y, hym, hyx, hys, hx0, hx1, hxp⟩ := rises_get hR.okv hx83
      refine o_alloc rfl ti62 fun b10 => ?_
      refine o_storen rfl rfl ti62 rfl rfl rfl rfl ?_
      refine l_nil ?_
      refine q_then ?_
      refine c_seq ?_
      refine c_seq ?_
      refine c_quiet (by kernel_rfl) (by kernel_rfl) ?_
      refine Qt.o_val rfl (v_fieldAddr (q := ⟨b10, 0, none⟩) rfl rfl Try.underlying62 rfl ti3 rfl) ?_
      refine Qt.o_val rfl (v_load1 rfl rfl Try.underlying3 rfl (rd_mem 0 rfl rfl)) ?_
      refine Qt.o_val rfl (v_bin rfl rfl rfl b_lss) ?_
      refine Qt.l_eq (t := 87) (v' := .bool false) rfl (show _ = Value.bool false from by rw [decide_eq_false (by omega)]) ?_
      refine Qt.o_val rfl (v_move rfl rfl) ?_
      refine Qt.o_yes rfl rfl rfl ?_
      refine Qt.o_val rfl (v_fieldAddr (q := ⟨b10, 0, none⟩) rfl rfl Try.underlying62 rfl ti3 rfl) ?_
      refine Qt.o_yes rfl rfl rfl ?_
      refine Qt.o_val rfl (v_load1 rfl rfl Try.underlying3 rfl (rd_mem 0 rfl rfl)) ?_
      refine Qt.o_yes rfl rfl rfl ?_
      refine Qt.o_val rfl (v_bin rfl rfl rfl b_gtr) ?_
      refine Qt.l_eq (t := 91) (v' := .bool false) rfl (show _ = Value.bool false from by rw [decide_eq_false (by omega)]) ?_
      refine Qt.o_val rfl (v_pick_false rfl rfl rfl) ?_
      refine Qt.o_val rfl (v_move rfl rfl) ?_
      refine Qt.o_yes rfl rfl rfl ?_
      refine Qt.o_val rfl (v_fieldAddr (q := ⟨b10, 1, none⟩) rfl rfl Try.underlying62 rfl ti23 rfl) ?_
      refine Qt.o_yes rfl rfl rfl ?_
      refine Qt.o_val rfl (v_load1 rfl rfl Try.underlying23 rfl (rd_mem 0 rfl rfl)) ?_
      refine Qt.o_yes rfl rfl rfl ?_
      refine Qt.o_val rfl (v_fieldAddr (q := ⟨b10, 0, none⟩) rfl rfl Try.underlying62 rfl ti3 rfl) ?_
      refine Qt.o_yes rfl rfl rfl ?_
      refine Qt.o_val rfl (v_load1 rfl rfl Try.underlying3 rfl (rd_mem 0 rfl rfl)) ?_
      refine Qt.o_yes rfl rfl rfl ?_
      refine Qt.o_val rfl (v_indexArr rfl rfl rfl Try.underlying56 ti23 (by omega) (by omega) (Addr.add_mk _ _ _)) ?_
      obtain ⟨x98, hx98⟩ : ∃ x, (A3)[(x83.f_Slot).toNat]? = some x := ⟨_, List.getElem?_eq_getElem (by have := hA3.len; omega)⟩
      have hx98' := hA3.at_ y hym x98 (by rw [← hys]; exact hx98)
      rw [hyx] at hx98'
      refine Qt.o_yes rfl rfl rfl ?_
      refine Qt.o_val rfl (v_load1 rfl rfl Try.underlying23 rfl (rd_mem 4 rfl (sg_arr (sg_flat (s := 1) (o := 0) e_uint64_ok rfl hx98 rfl (by omega))))) ?_
      refine Qt.o_yes rfl rfl rfl ?_
      refine Qt.o_val rfl (v_bin rfl rfl rfl b_lss) ?_
      refine Qt.l_eq (t := 100) (v' := .bool false) rfl (show _ = Value.bool false from by rw [decide_eq_false (by omega)]) ?_
      refine Qt.o_val rfl (v_pick_false rfl rfl rfl) ?_
      refine Qt.o_val rfl (v_move rfl rfl) ?_
      refine Qt.o_yes rfl rfl rfl ?_
      refine Qt.o_val rfl (v_fieldAddr (q := ⟨b10, 1, none⟩) rfl rfl Try.underlying62 rfl ti23 rfl) ?_
      refine Qt.o_yes rfl rfl rfl ?_
      refine Qt.o_val rfl (v_load1 rfl rfl Try.underlying23 rfl (rd_mem 0 rfl rfl)) ?_
      refine Qt.o_yes rfl rfl rfl ?_
      refine Qt.o_val rfl (v_move rfl rfl) ?_
      refine Qt.o_yes rfl rfl rfl ?_
      refine Qt.o_val rfl (v_bin rfl rfl rfl b_gtr) ?_
      refine Qt.l_eq (t := 106) (v' := .bool false) rfl (show _ = Value.bool false from by rw [decide_eq_false (by omega)]) ?_
      refine Qt.o_val rfl (v_pick_false rfl rfl rfl) ?_
      refine Qt.l_nil ?_
      refine q_then ?_
      refine c_false rfl ?_
      refine c_skip ?_
      refine q_then ?_
      refine c_region ?_
      refine o_fieldAddr (q := ⟨b10, 0, none⟩) rfl rfl Try.underlying62 rfl ti3 rfl ?_
      refine o_load1 rfl rfl Try.underlying3 rfl (rd_mem 0 rfl rfl) ?_
      refine o_fieldAddr (q := ⟨b10, 1, none⟩) rfl rfl Try.underlying62 rfl ti23 rfl ?_
      refine o_load1 rfl rfl Try.underlying23 rfl (rd_mem 0 rfl rfl) ?_
      refine o_indexArr rfl rfl rfl Try.underlying56 ti23 (by omega) (by omega) (Addr.add_mk _ _ _) ?_
      obtain ⟨x112, hx112⟩ : ∃ x, (A3)[(x83.f_Slot).toNat]? = some x := ⟨_, List.getElem?_eq_getElem (by have := hA3.len; omega)⟩
      refine l_f4 ?_
      refine o_storeArr rfl rfl rfl ti23 (sz_arr (sg_len (s := 1) e_uint64_ok rfl hA3.len rfl) (by omega)) (st_arr (st_flat (s := 1) (o := 0) (y := x83.f_Ballot) e_uint64_ok rfl hx112 (by decide) rfl (by omega))) ?_
      refine l_nil ?_
      refine q_block ?_
      refine q_then ?_
      refine c_region ?_
      refine o_bin rfl rfl rfl (b_add (wrap_i64 (by omega) (by omega))) ?_
      refine o_move rfl rfl ?_
      refine l_nil ?_
      refine q_conv (fun w S => (S.perm p1).tail) ?_
      refine q_conv (fun w S => S.perm p3) ?_
      refine q_conv (fun w S => S.perm p3) ?_
      refine q_conv (fun w S => S.perm p3) ?_
      exact q_round (j + 1, (A3).set (x83.f_Slot).toNat x83.f_Ballot) (by exact ⟨by omega, rises_end hA3 hR.okv hym hyx hys⟩) (by (try dsimp only); omega) ⟨(by first | rfl | exact vint (by omega)), (by first | rfl | exact vint (by omega)), (by first | rfl | exact vint (by omega)), (by first | rfl | exact vint (by omega)), (by first | rfl | exact vint (by omega)), (by first | rfl | exact vint (by omega)), (by first | rfl | exact vint (by omega)), (by first | rfl | exact vint (by omega)), (by first | rfl | exact vint (by omega)), trivial⟩ (fun w S => S)
     · -- h6F
      have h6b := h6
      try simp only [decide_eq_false_iff_not, Int.not_lt, Int.not_le] at h6
      refine c_exit ?_
      refine q_pass_exit ?_
      refine q_pass_exit ?_
      refine q_hit ?_
      refine q_block ?_
      refine q_then ?_
      refine c_region ?_
      refine o_bin rfl rfl rfl (b_add (wrap_i64 (by omega) (by omega))) ?_
      refine o_move rfl rfl ?_
      refine l_nil ?_
      refine q_conv (fun w S => S.tail) ?_
      refine q_conv (fun w S => (S.perm p1).tail) ?_
      refine q_conv (fun w S => S.perm p1) ?_
      exact q_round (i + 1, s2, A3) (by exact ⟨by omega, hR.okv, hA3⟩) (by (try dsimp only); omega) ⟨(by first | rfl | exact vint (by omega)), (by first | rfl | exact vint (by omega)), (by first | rfl | exact vint (by omega)), (by first | rfl | exact vint (by omega)), (by first | rfl | exact vint (by omega)), (by first | rfl | exact vint (by omega)), trivial⟩ (fun w S => S)
    · -- ho False
     have hR := rstep_acc (s := s) hkv hok
     obtain ⟨s2, hs2⟩ : ∃ s2, s2 = (accSB s (⟨x25.f_Slot, x25.f_Ballot, (i : Int)⟩ : VoI)) := ⟨_, rfl⟩
     rw [← hs2] at hR
     replace hR : RStep s x25.f_Ballot ok s2 := hR
     have hA2 := hA.step hR
     refine c_conv (L' := VtB k16 s2 :: _) (fun w S => by rw [← hs2] at S; exact S) ?_
     refine c_held [VtB k16 s2, blk b7 (.cells #[.bool x25.f_Promise, .int .u64 x25.f_Ballot, .int .i64 x25.f_Slot, .string x25.f_Value] 25 (0, 0)), blk b4 (.cells (flat e_uint64 A).toArray 56 (0, 0))] (by kernel_rfl) rfl ?_
     refine h_take 0 rfl rfl (by kernel_rfl) (by kernel_rfl) (by kernel_rfl) (fun L0 => v_move rfl rfl) ?_
     refine h_eq (t := 44) (v' := .bool false) rfl (show _ = Value.bool false from by rw [show ok = false from by simpa using ho]) ?_
     refine h_take 1 rfl rfl (by kernel_rfl) (by kernel_rfl) (by kernel_rfl) (fun L0 => v_move rfl rfl) ?_
     refine h_take_no 2 rfl rfl rfl rfl rfl (by kernel_rfl) (by kernel_rfl) (by kernel_rfl) ?_
     refine h_take_no 3 rfl rfl rfl rfl rfl (by kernel_rfl) (by kernel_rfl) (by kernel_rfl) ?_
     refine h_take_no 4 rfl rfl rfl rfl rfl (by kernel_rfl) (by kernel_rfl) (by kernel_rfl) ?_
     refine h_take_no 5 rfl rfl rfl rfl rfl (by kernel_rfl) (by kernel_rfl) (by kernel_rfl) ?_
     refine h_take 6 rfl rfl (by kernel_rfl) (by kernel_rfl) (by kernel_rfl) (fun L0 => v_pick_false rfl rfl rfl) ?_
     refine h_take 7 rfl rfl (by kernel_rfl) (by kernel_rfl) (by kernel_rfl) (fun L0 => v_move rfl rfl) ?_
     refine h_take_yes 8 rfl rfl rfl rfl rfl (by kernel_rfl) (by kernel_rfl) (by kernel_rfl) (fun L0 => v_move rfl rfl) ?_
     refine h_take_yes 10 rfl rfl rfl rfl rfl (by kernel_rfl) (by kernel_rfl) (by kernel_rfl) (fun L0 => v_move rfl rfl) ?_
     refine h_one 9 rfl (by kernel_rfl) ?_
     refine o_yes rfl rfl rfl ?_
     refine o_call rfl cal20 rfl (vpdB) ?_
     rintro _ _ ⟨rfl, rfl⟩
     refine l_nil ?_
     refine h_next ?_
     refine h_take_yes 11 rfl rfl rfl rfl rfl (by kernel_rfl) (by kernel_rfl) (by kernel_rfl) (fun L0 => v_bin rfl rfl rfl b_lss) ?_
     refine h_eq (t := 55) (v' := .bool false) rfl (show _ = Value.bool false from by rw [decide_eq_false (by have := hR.pr; omega)]) ?_
     refine h_take 12 rfl rfl (by kernel_rfl) (by kernel_rfl) (by kernel_rfl) (fun L0 => v_pick_false rfl rfl rfl) ?_
     refine h_take 13 rfl rfl (by kernel_rfl) (by kernel_rfl) (by kernel_rfl) (fun L0 => v_move rfl rfl) ?_
     refine h_take_yes 14 rfl rfl rfl rfl rfl (by kernel_rfl) (by kernel_rfl) (by kernel_rfl) (fun L0 => v_move rfl rfl) ?_
     refine h_take_yes 16 rfl rfl rfl rfl rfl (by kernel_rfl) (by kernel_rfl) (by kernel_rfl) (fun L0 => v_move rfl rfl) ?_
     refine h_take_yes 17 rfl rfl rfl rfl rfl (by kernel_rfl) (by kernel_rfl) (by kernel_rfl) (fun L0 => v_move rfl rfl) ?_
     refine h_one 15 rfl (by kernel_rfl) ?_
     refine o_yes rfl rfl rfl ?_
     refine o_call rfl cal20 rfl (vpdB) ?_
     rintro _ _ ⟨rfl, rfl⟩
     refine l_nil ?_
     refine h_next ?_
     refine h_one 18 rfl (by kernel_rfl) ?_
     refine o_yes rfl rfl rfl ?_
     refine o_call rfl cal20 rfl (vpdB) ?_
     rintro _ _ ⟨rfl, rfl⟩
     refine l_nil ?_
     refine h_next ?_
     refine h_take_yes 19 rfl rfl rfl rfl rfl (by kernel_rfl) (by kernel_rfl) (by kernel_rfl) (fun L0 => v_max rfl rfl rfl Try.underlying23) ?_
     refine h_take_yes 20 rfl rfl rfl rfl rfl (by kernel_rfl) (by kernel_rfl) (by kernel_rfl) (fun L0 => v_bin rfl rfl rfl b_neq) ?_
     refine h_eq (t := 64) (v' := .bool false) rfl (show _ = Value.bool false from by first | (rw [decide_eq_false (by have := hR.pr; omega)]; done) | (have := hR.pr; simp; omega)) ?_
     refine h_take 21 rfl rfl (by kernel_rfl) (by kernel_rfl) (by kernel_rfl) (fun L0 => v_pick_false rfl rfl rfl) ?_
     refine h_take 22 rfl rfl (by kernel_rfl) (by kernel_rfl) (by kernel_rfl) (fun L0 => v_move rfl rfl) ?_
     refine h_take_yes 23 rfl rfl rfl rfl rfl (by kernel_rfl) (by kernel_rfl) (by kernel_rfl) (fun L0 => v_move rfl rfl) ?_
     refine h_eq (t := 67) (v' := .bool false) rfl (show _ = Value.bool false from by rw [show ok = false from by simpa using ho]) ?_
     refine h_take_yes 24 rfl rfl rfl rfl rfl (by kernel_rfl) (by kernel_rfl) (by kernel_rfl) (fun L0 => v_move rfl rfl) ?_
     refine h_take_no 25 rfl rfl rfl rfl rfl (by kernel_rfl) (by kernel_rfl) (by kernel_rfl) ?_
     refine h_take_no 26 rfl rfl rfl rfl rfl (by kernel_rfl) (by kernel_rfl) (by kernel_rfl) ?_
     refine h_take_no 27 rfl rfl rfl rfl rfl (by kernel_rfl) (by kernel_rfl) (by kernel_rfl) ?_
     refine h_take_no 28 rfl rfl rfl rfl rfl (by kernel_rfl) (by kernel_rfl) (by kernel_rfl) ?_
     refine h_take_no 29 rfl rfl rfl rfl rfl (by kernel_rfl) (by kernel_rfl) (by kernel_rfl) ?_
     refine h_take_yes 30 rfl rfl rfl rfl rfl (by kernel_rfl) (by kernel_rfl) (by kernel_rfl) (fun L0 => v_pick_false rfl rfl rfl) ?_
     refine h_take 31 rfl rfl (by kernel_rfl) (by kernel_rfl) (by kernel_rfl) (fun L0 => v_pick_false rfl rfl rfl) ?_
     refine h_done (by kernel_rfl) ?_
     refine q_then ?_
     refine c_false rfl ?_
     refine c_skip ?_
     refine q_then ?_
     refine c_seq ?_
     refine c_region ?_
     refine o_move rfl rfl ?_
     refine o_call rfl cal20 rfl (vpdB) ?_
     rintro _ _ ⟨rfl, rfl⟩
     refine o_assign rfl rfl ?_
     refine l_nil ?_
     refine q_then ?_
     refine c_seq ?_
     have hl64 := okV_lenB hR.okv
     have hml : (s2.xs.map ItB.f_value).length = s2.xs.length := List.length_map ..
     refine c_region ?_
     refine o_move rfl rfl ?_
     refine o_call rfl cal21 rfl (vvotesB) ?_
     rintro _ _ ⟨a79, c79, rfl, rfl⟩
     refine o_len rfl rfl Try.underlying57 ?_
     refine o_move rfl rfl ?_
     refine l_nil ?_
     refine q_then ?_
     refine c_block ?_
     refine c_loop (α := Nat × (List Int)) (fun z => [(3, .pointer (some ⟨k16, 0, none⟩)), (4, .pointer (some ⟨b4, 0, none⟩)), (5, .int .u64 s2.pr), (20, .slice a (os).length c), (21, .int .i64 ((os).length : Int)), (22, .int .i64 (i : Int)), (79, .slice a79 ((s2.xs.map ItB.f_value)).length c79), (80, .int .i64 (((s2.xs.map ItB.f_value)).length : Int)), (81, .int .i64 (z.1 : Int))]) (fun z => row e_VoI.T e_VoI.sz a79 ((s2.xs.map ItB.f_value)).length c79 (flat e_VoI (s2.xs.map ItB.f_value)) :: VtB k16 s2 :: blk b7 (.cells #[.bool x25.f_Promise, .int .u64 x25.f_Ballot, .int .i64 x25.f_Slot, .string x25.f_Value] 25 (0, 0)) :: blk b4 (.cells (flat e_uint64 z.2).toArray 56 (0, 0)) :: F) (fun z => (z.1 : Int) ≤ ((s2.xs.map ItB.f_value).length : Int) ∧ RisesA s2 z.2) (fun z => s2.xs.length - z.1) (0, A) (by exact ⟨by omega, hA2⟩) ⟨(by first | rfl | exact vint (by omega)), (by first | rfl | exact vint (by omega)), (by first | rfl | exact vint (by omega)), (by first | rfl | exact vint (by omega)), (by first | rfl | exact vint (by omega)), (by first | rfl | exact vint (by omega)), (by first | rfl | exact vint (by omega)), (by first | rfl | exact vint (by omega)), (by first | rfl | exact vint (by omega)), trivial⟩ (fun w S => S) ?_
     rintro ⟨j, A3⟩ ⟨hj, hA3⟩
     try dsimp only at *
     refine c_seq ?_
     refine c_region ?_
     refine o_bin rfl rfl rfl b_lss ?_
     refine l_nil ?_
     refine q_then ?_
     refine c_seq ?_
     refine c_cond rfl (fun h7 => ?_) (fun h7 => ?_)
     · -- h7T
      have h7b := h7
      try simp only [decide_eq_true_eq] at h7
      refine c_skip ?_
      refine q_then ?_
      refine c_seq ?_
      refine c_block ?_
      refine c_seq ?_
      refine c_region ?_
      refine o_index e_VoI_ok rfl rfl rfl Try.underlying57 (by omega) (by omega) (rds_own e_VoI_ok 0 rfl) fun ad83 ead83 => ?_
      obtain ⟨x83, hx83⟩ : ∃ x, ((s2.xs.map ItB.f_value))[((j : Int)).toNat]? = some x := ⟨_, List.getElem?_eq_getElem (by omega)⟩
      refine o_loadn (vs := e_VoI.cells x83) rfl rfl Try.underlying62 rfl ti62 (rdn_sl e_VoI_ok ead83 (rds_own e_VoI_ok 0 rfl) hx83) ?_
      obtain ⟨y, hym, hyx, hys, hx0, hx1, hxp⟩ := rises_get hR.okv hx83
      refine o_alloc rfl ti62 fun b10 => ?_
      refine o_storen rfl rfl ti62 rfl rfl rfl rfl ?_
      refine l_nil ?_
      refine q_then ?_
      refine c_seq ?_
      refine c_seq ?_
      refine c_quiet (by kernel_rfl) (by kernel_rfl) ?_
      refine Qt.o_val rfl (v_fieldAddr (q := ⟨b10, 0, none⟩) rfl rfl Try.underlying62 rfl ti3 rfl) ?_
      refine Qt.o_val rfl (v_load1 rfl rfl Try.underlying3 rfl (rd_mem 0 rfl rfl)) ?_
      refine Qt.o_val rfl (v_bin rfl rfl rfl b_lss) ?_
      refine Qt.l_eq (t := 87) (v' := .bool false) rfl (show _ = Value.bool false from by rw [decide_eq_false (by omega)]) ?_
      refine Qt.o_val rfl (v_move rfl rfl) ?_
      refine Qt.o_yes rfl rfl rfl ?_
      refine Qt.o_val rfl (v_fieldAddr (q := ⟨b10, 0, none⟩) rfl rfl Try.underlying62 rfl ti3 rfl) ?_
      refine Qt.o_yes rfl rfl rfl ?_
      refine Qt.o_val rfl (v_load1 rfl rfl Try.underlying3 rfl (rd_mem 0 rfl rfl)) ?_
      refine Qt.o_yes rfl rfl rfl ?_
      refine Qt.o_val rfl (v_bin rfl rfl rfl b_gtr) ?_
      refine Qt.l_eq (t := 91) (v' := .bool false) rfl (show _ = Value.bool false from by rw [decide_eq_false (by omega)]) ?_
      refine Qt.o_val rfl (v_pick_false rfl rfl rfl) ?_
      refine Qt.o_val rfl (v_move rfl rfl) ?_
      refine Qt.o_yes rfl rfl rfl ?_
      refine Qt.o_val rfl (v_fieldAddr (q := ⟨b10, 1, none⟩) rfl rfl Try.underlying62 rfl ti23 rfl) ?_
      refine Qt.o_yes rfl rfl rfl ?_
      refine Qt.o_val rfl (v_load1 rfl rfl Try.underlying23 rfl (rd_mem 0 rfl rfl)) ?_
      refine Qt.o_yes rfl rfl rfl ?_
      refine Qt.o_val rfl (v_fieldAddr (q := ⟨b10, 0, none⟩) rfl rfl Try.underlying62 rfl ti3 rfl) ?_
      refine Qt.o_yes rfl rfl rfl ?_
      refine Qt.o_val rfl (v_load1 rfl rfl Try.underlying3 rfl (rd_mem 0 rfl rfl)) ?_
      refine Qt.o_yes rfl rfl rfl ?_
      refine Qt.o_val rfl (v_indexArr rfl rfl rfl Try.underlying56 ti23 (by omega) (by omega) (Addr.add_mk _ _ _)) ?_
      obtain ⟨x98, hx98⟩ : ∃ x, (A3)[(x83.f_Slot).toNat]? = some x := ⟨_, List.getElem?_eq_getElem (by have := hA3.len; omega)⟩
      have hx98' := hA3.at_ y hym x98 (by rw [← hys]; exact hx98)
      rw [hyx] at hx98'
      refine Qt.o_yes rfl rfl rfl ?_
      refine Qt.o_val rfl (v_load1 rfl rfl Try.underlying23 rfl (rd_mem 4 rfl (sg_arr (sg_flat (s := 1) (o := 0) e_uint64_ok rfl hx98 rfl (by omega))))) ?_
      refine Qt.o_yes rfl rfl rfl ?_
      refine Qt.o_val rfl (v_bin rfl rfl rfl b_lss) ?_
      refine Qt.l_eq (t := 100) (v' := .bool false) rfl (show _ = Value.bool false from by rw [decide_eq_false (by omega)]) ?_
      refine Qt.o_val rfl (v_pick_false rfl rfl rfl) ?_
      refine Qt.o_val rfl (v_move rfl rfl) ?_
      refine Qt.o_yes rfl rfl rfl ?_
      refine Qt.o_val rfl (v_fieldAddr (q := ⟨b10, 1, none⟩) rfl rfl Try.underlying62 rfl ti23 rfl) ?_
      refine Qt.o_yes rfl rfl rfl ?_
      refine Qt.o_val rfl (v_load1 rfl rfl Try.underlying23 rfl (rd_mem 0 rfl rfl)) ?_
      refine Qt.o_yes rfl rfl rfl ?_
      refine Qt.o_val rfl (v_move rfl rfl) ?_
      refine Qt.o_yes rfl rfl rfl ?_
      refine Qt.o_val rfl (v_bin rfl rfl rfl b_gtr) ?_
      refine Qt.l_eq (t := 106) (v' := .bool false) rfl (show _ = Value.bool false from by rw [decide_eq_false (by omega)]) ?_
      refine Qt.o_val rfl (v_pick_false rfl rfl rfl) ?_
      refine Qt.l_nil ?_
      refine q_then ?_
      refine c_false rfl ?_
      refine c_skip ?_
      refine q_then ?_
      refine c_region ?_
      refine o_fieldAddr (q := ⟨b10, 0, none⟩) rfl rfl Try.underlying62 rfl ti3 rfl ?_
      refine o_load1 rfl rfl Try.underlying3 rfl (rd_mem 0 rfl rfl) ?_
      refine o_fieldAddr (q := ⟨b10, 1, none⟩) rfl rfl Try.underlying62 rfl ti23 rfl ?_
      refine o_load1 rfl rfl Try.underlying23 rfl (rd_mem 0 rfl rfl) ?_
      refine o_indexArr rfl rfl rfl Try.underlying56 ti23 (by omega) (by omega) (Addr.add_mk _ _ _) ?_
      obtain ⟨x112, hx112⟩ : ∃ x, (A3)[(x83.f_Slot).toNat]? = some x := ⟨_, List.getElem?_eq_getElem (by have := hA3.len; omega)⟩
      refine l_f4 ?_
      refine o_storeArr rfl rfl rfl ti23 (sz_arr (sg_len (s := 1) e_uint64_ok rfl hA3.len rfl) (by omega)) (st_arr (st_flat (s := 1) (o := 0) (y := x83.f_Ballot) e_uint64_ok rfl hx112 (by decide) rfl (by omega))) ?_
      refine l_nil ?_
      refine q_block ?_
      refine q_then ?_
      refine c_region ?_
      refine o_bin rfl rfl rfl (b_add (wrap_i64 (by omega) (by omega))) ?_
      refine o_move rfl rfl ?_
      refine l_nil ?_
      refine q_conv (fun w S => (S.perm p1).tail) ?_
      refine q_conv (fun w S => S.perm p3) ?_
      refine q_conv (fun w S => S.perm p3) ?_
      refine q_conv (fun w S => S.perm p3) ?_
      exact q_round (j + 1, (A3).set (x83.f_Slot).toNat x83.f_Ballot) (by exact ⟨by omega, rises_end hA3 hR.okv hym hyx hys⟩) (by (try dsimp only); omega) ⟨(by first | rfl | exact vint (by omega)), (by first | rfl | exact vint (by omega)), (by first | rfl | exact vint (by omega)), (by first | rfl | exact vint (by omega)), (by first | rfl | exact vint (by omega)), (by first | rfl | exact vint (by omega)), (by first | rfl | exact vint (by omega)), (by first | rfl | exact vint (by omega)), (by first | rfl | exact vint (by omega)), trivial⟩ (fun w S => S)
     · -- h7F
      have h7b := h7
      try simp only [decide_eq_false_iff_not, Int.not_lt, Int.not_le] at h7
      refine c_exit ?_
      refine q_pass_exit ?_
      refine q_pass_exit ?_
      refine q_hit ?_
      refine q_block ?_
      refine q_then ?_
      refine c_region ?_
      refine o_bin rfl rfl rfl (b_add (wrap_i64 (by omega) (by omega))) ?_
      refine o_move rfl rfl ?_
      refine l_nil ?_
      refine q_conv (fun w S => S.tail) ?_
      refine q_conv (fun w S => (S.perm p1).tail) ?_
      refine q_conv (fun w S => S.perm p1) ?_
      exact q_round (i + 1, s2, A3) (by exact ⟨by omega, hR.okv, hA3⟩) (by (try dsimp only); omega) ⟨(by first | rfl | exact vint (by omega)), (by first | rfl | exact vint (by omega)), (by first | rfl | exact vint (by omega)), (by first | rfl | exact vint (by omega)), (by first | rfl | exact vint (by omega)), (by first | rfl | exact vint (by omega)), trivial⟩ (fun w S => S)
  · -- h2F
   have h2b := h2
   try simp only [decide_eq_false_iff_not, Int.not_lt, Int.not_le] at h2
   refine c_exit ?_
   refine q_pass_exit ?_
   refine q_pass_exit ?_
   refine q_hit ?_
   refine q_then ?_
   refine c_seq ?_
   refine c_region ?_
   refine o_assign rfl rfl ?_
   refine l_nil ?_
   refine q_then ?_
   refine c_ret ?_
   refine q_conv (fun w S => S.tail) ?_
   refine q_conv (fun w S => S.tail) ?_
   exact f_ret (r_one rfl rfl) (⟨rfl, rfl⟩) (fun w S => S)

end Go.Proofs.Ytcdodagebbfjoaa
