/- Printed by eng2.py out of 11/spec.py. -/
import Derived.Test.YtcdodagebbfjoaaSpeaks
import Derived.Test.YtcdodagebbfjoaaTellsp
set_option linter.unusedVariables false
set_option linter.unusedSimpArgs false
set_option maxRecDepth 10000
namespace Go.Proofs.Ytcdodagebbfjoaa
open Go.RowKit Classical
set_option maxHeartbeats 1000000 in
theorem tells_ {W : World} {F : List Res} {os : List Op} {o : Op} {a : Option Addr} {c : Nat} (hs : SlR W e_Op a os) (hu : 0 ≤ o.f_Ballot) : CS Try.prog 3 #[.slice a os.length c, .agg #[.bool o.f_Promise, .int .u64 o.f_Ballot, .int .i64 o.f_Slot, .string o.f_Value]] W (F) (fun r L' => r = .bool true ∧ F = L') := by
 refine f_door (l0 := [(0, .slice a os.length c), (1, .agg #[.bool o.f_Promise, .int .u64 o.f_Ballot, .int .i64 o.f_Slot, .string o.f_Value])]) Try.func3 Try.ntmps3 rfl rfl rfl ?_
 refine c_seq ?_
 refine c_region ?_
 refine o_box rfl rfl fun b3 => ?_
 refine o_assign rfl rfl ?_
 refine l_nil ?_
 refine q_then ?_
 refine c_seq ?_
 refine c_seq ?_
 refine c_region ?_
 refine o_call rfl cal7 rfl (speaks_) ?_
 rintro _ _ ⟨rfl, rfl⟩
 refine o_not rfl rfl ?_
 refine l_nil ?_
 refine q_then ?_
 refine c_false rfl ?_
 refine c_skip ?_
 refine q_then ?_
 refine c_seq ?_
 refine c_seq ?_
 refine c_region ?_
 refine o_move rfl rfl ?_
 refine o_len rfl rfl Try.underlying22 ?_
 refine o_bin rfl rfl rfl b_gtr ?_
 refine l_nil ?_
 refine q_then ?_
 refine c_cond rfl (fun h1 => ?_) (fun h1 => ?_)
 · -- h1T
  have h1b := h1
  try simp only [decide_eq_true_eq] at h1
  refine c_seq ?_
  refine c_region ?_
  refine o_assign rfl rfl ?_
  refine l_nil ?_
  refine q_then ?_
  refine c_ret ?_
  refine q_pass_ret ?_
  refine q_conv (fun w S => S.tail) ?_
  exact f_ret (r_one rfl rfl) (⟨rfl, rfl⟩) (fun w S => S)
 · -- h1F
  have h1b := h1
  try simp only [decide_eq_false_iff_not, Int.not_lt, Int.not_le] at h1
  refine c_skip ?_
  refine q_then ?_
  refine c_seq ?_
  refine c_region ?_
  refine o_call rfl cal8 rfl (vnewA) ?_
  rintro _ _ ⟨k16, rfl, rfl⟩
  refine o_assign rfl rfl ?_
  refine l_nil ?_
  refine q_then ?_
  refine c_seq ?_
  refine c_seq ?_
  refine c_region ?_
  refine o_move rfl rfl ?_
  refine o_bin rfl rfl rfl (b_peq Try.underlying27 _) ?_
  refine l_nil ?_
  refine q_then ?_
  refine c_false rfl ?_
  refine c_skip ?_
  refine q_then ?_
  refine c_seq ?_
  refine c_region ?_
  refine o_move rfl rfl ?_
  refine o_fieldAddr (q := ⟨b3, 2, none⟩) rfl rfl Try.underlying25 rfl ti3 rfl ?_
  refine o_load1 rfl rfl Try.underlying3 rfl (rd_mem 1 rfl rfl) ?_
  refine o_fieldAddr (q := ⟨b3, 1, none⟩) rfl rfl Try.underlying25 rfl ti23 rfl ?_
  refine o_load1 rfl rfl Try.underlying23 rfl (rd_mem 1 rfl rfl) ?_
  refine o_fieldAddr (q := ⟨b3, 3, none⟩) rfl rfl Try.underlying25 rfl ti9 rfl ?_
  refine o_load1 rfl rfl Try.underlying9 rfl (rd_mem 1 rfl rfl) ?_
  refine o_build rfl sp31 ti31 rfl ((fill_cons (cells' := [.int .i64 o.f_Slot, .int .u64 0, .string ByteArray.empty]) rfl rfl rfl rfl (fill_cons (cells' := [.int .i64 o.f_Slot, .int .u64 o.f_Ballot, .string ByteArray.empty]) rfl rfl rfl rfl (fill_cons (cells' := [.int .i64 o.f_Slot, .int .u64 o.f_Ballot, .string o.f_Value]) rfl rfl rfl rfl fill_nil)))) ?_
  refine o_call rfl cal9 rfl (vaccA (v := (⟨o.f_Slot, o.f_Ballot, o.f_Value⟩ : VoS))) ?_
  rintro _ _ ⟨rfl, rfl⟩
  obtain ⟨ok, hok⟩ : ∃ ok : Bool, decide (accOkA (⟨0, []⟩ : VSA) (⟨o.f_Slot, o.f_Ballot, o.f_Value⟩ : VoS)) = ok := ⟨_, rfl⟩
  have hok2 := tells_ok hu hok
  refine l_eq (t := 27) (v' := .bool ok) rfl (by rw [hok]) ?_
  refine o_assign rfl rfl ?_
  refine l_nil ?_
  refine q_then ?_
  refine c_seq ?_
  refine c_seq ?_
  refine c_region ?_
  refine o_move rfl rfl ?_
  refine o_fieldAddr (q := ⟨b3, 2, none⟩) rfl rfl Try.underlying25 rfl ti3 rfl ?_
  refine o_load1 rfl rfl Try.underlying3 rfl (rd_mem 1 rfl rfl) ?_
  refine o_bin rfl rfl rfl b_geq ?_
  refine o_move rfl rfl ?_
  refine l_split (t := 32) rfl (fun h2 => ?_) (fun h2 => ?_)
  · -- h2T
   have h2b := h2
   try simp only [decide_eq_true_eq] at h2
   refine o_yes rfl rfl rfl ?_
   refine o_fieldAddr (q := ⟨b3, 2, none⟩) rfl rfl Try.underlying25 rfl ti3 rfl ?_
   refine o_yes rfl rfl rfl ?_
   refine o_load1 rfl rfl Try.underlying3 rfl (rd_mem 1 rfl rfl) ?_
   refine o_yes rfl rfl rfl ?_
   refine o_bin rfl rfl rfl b_lss ?_
   refine o_pick_true rfl rfl rfl ?_
   refine o_bin rfl rfl rfl (b_bne Try.underlying4 _ _) ?_
   refine l_eq (t := 37) (v' := .bool false) rfl (show _ = Value.bool false from by rw [hok2]; first | (simp [*]; done) | (simp_all; done) | grind) ?_
   refine l_nil ?_
   refine q_then ?_
   refine c_false rfl ?_
   refine c_skip ?_
   refine q_then ?_
   refine c_seq ?_
   refine c_seq ?_
   refine c_region ?_
   refine o_move rfl rfl ?_
   refine o_len rfl rfl Try.underlying22 ?_
   refine o_move rfl rfl ?_
   refine l_nil ?_
   refine q_then ?_
   refine c_block ?_
   refine c_loop (α := Nat × VSA) (fun z => [(3, .pointer (some ⟨b3, 0, none⟩)), (5, .pointer (some ⟨k16, 0, none⟩)), (6, .bool ok), (38, .slice a (os).length c), (39, .int .i64 ((os).length : Int)), (40, .int .i64 (z.1 : Int))]) (fun z => VtA k16 z.2 :: blk b3 (.cells #[.bool o.f_Promise, .int .u64 o.f_Ballot, .int .i64 o.f_Slot, .string o.f_Value] 25 (0, 0)) :: F) (fun z => z.1 ≤ os.length ∧ TellsOk z.2 ok (⟨o.f_Slot, o.f_Ballot, o.f_Value⟩ : VoS)) (fun z => os.length - z.1) (0, accSA (⟨0, []⟩ : VSA) (⟨o.f_Slot, o.f_Ballot, o.f_Value⟩ : VoS)) (by exact ⟨Nat.zero_le _, tells_0 hok⟩) ⟨(by first | rfl | exact vint (by omega)), (by first | rfl | exact vint (by omega)), (by first | rfl | exact vint (by omega)), (by first | rfl | exact vint (by omega)), (by first | rfl | exact vint (by omega)), (by first | rfl | exact vint (by omega)), trivial⟩ (fun w S => S) ?_
   rintro ⟨i, s⟩ ⟨hi, hto⟩
   try dsimp only at *
   refine c_seq ?_
   refine c_region ?_
   refine o_bin rfl rfl rfl b_lss ?_
   refine l_nil ?_
   refine q_then ?_
   refine c_seq ?_
   refine c_cond rfl (fun h3 => ?_) (fun h3 => ?_)
   · -- h3T
    have h3b := h3
    try simp only [decide_eq_true_eq] at h3
    refine c_skip ?_
    refine q_then ?_
    refine c_seq ?_
    refine c_block ?_
    refine c_seq ?_
    refine c_region ?_
    refine o_index e_Op_ok rfl rfl rfl Try.underlying22 (by omega) (by omega) (rds_c (rds_c (rds_old hs))) fun ad42 ead42 => ?_
    obtain ⟨x42, hx42⟩ : ∃ x, (os)[((i : Int)).toNat]? = some x := ⟨_, List.getElem?_eq_getElem (by omega)⟩
    refine o_loadn (vs := e_Op.cells x42) rfl rfl Try.underlying25 rfl ti25 (rdn_sl e_Op_ok ead42 (rds_c (rds_c (rds_old hs))) hx42) ?_
    refine o_alloc rfl ti25 fun b8 => ?_
    refine o_storen rfl rfl ti25 rfl rfl rfl rfl ?_
    refine l_nil ?_
    refine q_then ?_
    refine c_seq ?_
    refine c_region ?_
    refine o_fieldAddr (q := ⟨b8, 0, none⟩) rfl rfl Try.underlying25 rfl ti4 rfl ?_
    refine o_load1 rfl rfl Try.underlying4 rfl (rd_mem 0 rfl rfl) ?_
    refine l_nil ?_
    refine q_then ?_
    refine c_cond rfl (fun h4 => ?_) (fun h4 => ?_)
    · -- h4T
     have h4b := h4
     try simp only [decide_eq_true_eq, decide_eq_false_iff_not, Bool.not_eq_eq_eq_not, Bool.not_true, Bool.not_false, Bool.not_eq_true', Bool.not_eq_false', Int.not_lt, Int.not_le, Bool.or_eq_true, Bool.and_eq_true] at h4
     refine c_seq ?_
     refine c_region ?_
     refine o_move rfl rfl ?_
     refine o_fieldAddr (q := ⟨b8, 1, none⟩) rfl rfl Try.underlying25 rfl ti23 rfl ?_
     refine o_load1 rfl rfl Try.underlying23 rfl (rd_mem 0 rfl rfl) ?_
     refine o_fieldAddr (q := ⟨b3, 2, none⟩) rfl rfl Try.underlying25 rfl ti3 rfl ?_
     refine o_load1 rfl rfl Try.underlying3 rfl (rd_mem 2 rfl rfl) ?_
     refine l_f1 ?_
     refine o_call rfl cal10 rfl (vpromA (b := x42.f_Ballot) (fr := o.f_Slot)) ?_
     rintro _ _ ⟨a52, c52, rfl, rfl⟩
     refine o_move rfl rfl ?_
     refine o_extract rfl rfl rfl ?_
     refine o_extract rfl rfl rfl ?_
     obtain ⟨is, his⟩ : ∃ is : Bool, decide (s.pr ≤ x42.f_Ballot) = is := ⟨_, rfl⟩
     refine l_eq (t := 54) (v' := .bool is) rfl (by rw [← his] <;> rfl) ?_
     refine o_assign rfl rfl ?_
     refine o_assign rfl rfl ?_
     refine l_nil ?_
     refine q_then ?_
     refine c_seq ?_
     refine c_seq ?_
     refine (Classical.em (is = true)).elim (fun hq => ?_) (fun hq => ?_)
     · -- hq True
      refine c_region ?_
      refine o_move rfl rfl ?_
      refine l_eq (t := 55) (v' := .bool true) rfl (show _ = Value.bool true from by rw [hq]) ?_
      refine o_fieldAddr (q := ⟨b8, 1, none⟩) rfl rfl Try.underlying25 rfl ti23 rfl ?_
      refine o_load1 rfl rfl Try.underlying23 rfl (rd_mem 2 rfl rfl) ?_
      refine o_fieldAddr (q := ⟨b3, 1, none⟩) rfl rfl Try.underlying25 rfl ti23 rfl ?_
      refine o_load1 rfl rfl Try.underlying23 rfl (rd_mem 3 rfl rfl) ?_
      refine o_bin rfl rfl rfl b_geq ?_
      refine o_move rfl rfl ?_
      refine l_split (t := 61) rfl (fun h5 => ?_) (fun h5 => ?_)
      · -- h5T
       have h5b := h5
       try simp only [decide_eq_true_eq] at h5
       refine o_no rfl rfl rfl rfl ?_
       refine o_no rfl rfl rfl rfl ?_
       refine o_pick_true rfl rfl rfl ?_
       refine o_bin rfl rfl rfl (b_bne Try.underlying4 _ _) ?_
       refine l_eq (t := 65) (v' := .bool false) rfl (show _ = Value.bool false from by first | rfl | (rw [tells_rise hto (by rw [hq, decide_eq_true_eq] at his; exact his) (by show ¬ o.f_Ballot ≤ x42.f_Ballot; first | assumption | omega)] <;> rfl)) ?_
       refine o_move rfl rfl ?_
       refine o_no rfl rfl rfl rfl ?_
       refine o_pick_false rfl rfl rfl ?_
       refine l_nil ?_
       refine q_then ?_
       refine c_false rfl ?_
       refine c_skip ?_
       refine q_then ?_
       refine c_seq ?_
       refine (Classical.em (ok = true)).elim (fun ho => ?_) (fun ho => ?_)
       · -- ho True
        have hto2 : TellsOk s true (⟨o.f_Slot, o.f_Ballot, o.f_Value⟩ : VoS) := by rw [← ho]; exact hto
        have hle : s.pr ≤ x42.f_Ballot := by rw [hq, decide_eq_true_eq] at his; exact his
        obtain ⟨zs, hzs⟩ := hto2.list hle
        replace hzs : promLA s x42.f_Ballot o.f_Slot = (⟨o.f_Slot, o.f_Ballot, o.f_Value⟩ : VoS) :: zs := hzs
        have hln : (promLA s x42.f_Ballot o.f_Slot).length = zs.length + 1 := by rw [hzs]; rfl
        refine c_fact (p := ∃ ad, a52 = some ad) (rds_some (e := e_VoS) (xs := (promLA s x42.f_Ballot o.f_Slot)) (rds_own e_VoS_ok 0 rfl) (by rw [hzs]; simp)) ?_
        rintro ⟨ad9, ead9⟩
        refine c_quiet (by kernel_rfl) (by kernel_rfl) ?_
        refine Qt.o_val rfl (v_move rfl rfl) ?_
        refine Qt.l_eq (t := 69) (v' := .bool true) rfl (show _ = Value.bool true from by rw [hq]) ?_
        refine Qt.o_val rfl (v_move rfl rfl) ?_
        refine Qt.o_yes rfl rfl rfl ?_
        refine Qt.o_val rfl (v_move rfl rfl) ?_
        refine Qt.l_eq (t := 71) (v' := .bool true) rfl (show _ = Value.bool true from by rw [ho]) ?_
        refine Qt.o_val rfl (v_pick_true rfl rfl rfl) ?_
        refine Qt.o_val rfl (v_move rfl rfl) ?_
        refine Qt.o_yes rfl rfl rfl ?_
        refine Qt.o_val rfl (v_move rfl rfl) ?_
        refine Qt.o_yes rfl rfl rfl ?_
        refine Qt.o_val rfl (v_len rfl rfl Try.underlying32) ?_
        refine Qt.o_yes rfl rfl rfl ?_
        refine Qt.o_val rfl (v_bin rfl rfl rfl b_eql) ?_
        refine Qt.l_eq (t := 76) (v' := .bool false) rfl (show _ = Value.bool false from by rw [hzs, decide_eq_false (by rw [List.length_cons]; omega)]) ?_
        refine Qt.o_yes rfl rfl rfl ?_
        refine Qt.o_val rfl (v_move rfl rfl) ?_
        refine Qt.o_yes rfl rfl rfl ?_
        refine Qt.o_val rfl (v_move rfl rfl) ?_
        refine Qt.o_yes rfl rfl rfl ?_
        refine Qt.o_val rfl (v_indexK e_VoS_ok ead9 rfl rfl rfl Try.underlying32 (by omega) (by omega)) ?_
        obtain ⟨x79, hx79⟩ : ∃ x, ((promLA s x42.f_Ballot o.f_Slot))[((0 : Int)).toNat]? = some x := ⟨_, List.getElem?_eq_getElem (by omega)⟩
        have e79 : x79 = (⟨o.f_Slot, o.f_Ballot, o.f_Value⟩ : VoS) := by have h9 := hx79; rw [hzs] at h9; simpa using h9.symm
        refine Qt.o_yes rfl rfl rfl ?_
        refine Qt.o_val rfl (v_fieldAddr rfl rfl Try.underlying31 rfl ti3 (Addr.add_add' _ _ _)) ?_
        refine Qt.o_yes rfl rfl rfl ?_
        refine Qt.o_val rfl (v_load1 rfl rfl Try.underlying3 rfl (rd_sl e_VoS_ok ead9 (rds_own e_VoS_ok 0 rfl) hx79 rfl)) ?_
        refine Qt.o_yes rfl rfl rfl ?_
        refine Qt.o_val rfl (v_fieldAddr (q := ⟨b3, 2, none⟩) rfl rfl Try.underlying25 rfl ti3 rfl) ?_
        refine Qt.o_yes rfl rfl rfl ?_
        refine Qt.o_val rfl (v_load1 rfl rfl Try.underlying3 rfl (rd_mem 3 rfl rfl)) ?_
        refine Qt.o_yes rfl rfl rfl ?_
        refine Qt.o_val rfl (v_bin rfl rfl rfl b_neq) ?_
        refine Qt.l_eq (t := 84) (v' := .bool false) rfl (show _ = Value.bool false from by rw [e79]; simp) ?_
        refine Qt.o_yes rfl rfl rfl ?_
        refine Qt.o_val rfl (v_pick_false rfl rfl rfl) ?_
        refine Qt.o_yes rfl rfl rfl ?_
        refine Qt.o_val rfl (v_move rfl rfl) ?_
        refine Qt.o_yes rfl rfl rfl ?_
        refine Qt.o_val rfl (v_move rfl rfl) ?_
        refine Qt.o_yes rfl rfl rfl ?_
        refine Qt.o_val rfl (v_indexK e_VoS_ok ead9 rfl rfl rfl Try.underlying32 (by omega) (by omega)) ?_
        obtain ⟨x88, hx88⟩ : ∃ x, ((promLA s x42.f_Ballot o.f_Slot))[((0 : Int)).toNat]? = some x := ⟨_, List.getElem?_eq_getElem (by omega)⟩
        have e88 : x88 = (⟨o.f_Slot, o.f_Ballot, o.f_Value⟩ : VoS) := by have h9 := hx88; rw [hzs] at h9; simpa using h9.symm
        refine Qt.o_yes rfl rfl rfl ?_
        refine Qt.o_val rfl (v_fieldAddr rfl rfl Try.underlying31 rfl ti9 (Addr.add_add' _ _ _)) ?_
        refine Qt.o_yes rfl rfl rfl ?_
        refine Qt.o_val rfl (v_load1 rfl rfl Try.underlying9 rfl (rd_sl e_VoS_ok ead9 (rds_own e_VoS_ok 0 rfl) hx88 rfl)) ?_
        refine Qt.o_yes rfl rfl rfl ?_
        refine Qt.o_val rfl (v_fieldAddr (q := ⟨b3, 3, none⟩) rfl rfl Try.underlying25 rfl ti9 rfl) ?_
        refine Qt.o_yes rfl rfl rfl ?_
        refine Qt.o_val rfl (v_load1 rfl rfl Try.underlying9 rfl (rd_mem 3 rfl rfl)) ?_
        refine Qt.o_yes rfl rfl rfl ?_
        refine Qt.o_val rfl (v_bin rfl rfl rfl b_sneq) ?_
        refine Qt.l_eq (t := 93) (v' := .bool false) rfl (show _ = Value.bool false from by rw [e88]; simp) ?_
        refine Qt.o_yes rfl rfl rfl ?_
        refine Qt.o_val rfl (v_pick_false rfl rfl rfl) ?_
        refine Qt.o_yes rfl rfl rfl ?_
        refine Qt.o_val rfl (v_move rfl rfl) ?_
        refine Qt.o_yes rfl rfl rfl ?_
        refine Qt.o_val rfl (v_move rfl rfl) ?_
        refine Qt.o_yes rfl rfl rfl ?_
        refine Qt.o_val rfl (v_indexK e_VoS_ok ead9 rfl rfl rfl Try.underlying32 (by omega) (by omega)) ?_
        obtain ⟨x97, hx97⟩ : ∃ x, ((promLA s x42.f_Ballot o.f_Slot))[((0 : Int)).toNat]? = some x := ⟨_, List.getElem?_eq_getElem (by omega)⟩
        have e97 : x97 = (⟨o.f_Slot, o.f_Ballot, o.f_Value⟩ : VoS) := by have h9 := hx97; rw [hzs] at h9; simpa using h9.symm
        refine Qt.o_yes rfl rfl rfl ?_
        refine Qt.o_val rfl (v_fieldAddr rfl rfl Try.underlying31 rfl ti23 (Addr.add_add' _ _ _)) ?_
        refine Qt.o_yes rfl rfl rfl ?_
        refine Qt.o_val rfl (v_load1 rfl rfl Try.underlying23 rfl (rd_sl e_VoS_ok ead9 (rds_own e_VoS_ok 0 rfl) hx97 rfl)) ?_
        refine Qt.o_yes rfl rfl rfl ?_
        refine Qt.o_val rfl (v_fieldAddr (q := ⟨b3, 1, none⟩) rfl rfl Try.underlying25 rfl ti23 rfl) ?_
        refine Qt.o_yes rfl rfl rfl ?_
        refine Qt.o_val rfl (v_load1 rfl rfl Try.underlying23 rfl (rd_mem 3 rfl rfl)) ?_
        refine Qt.o_yes rfl rfl rfl ?_
        refine Qt.o_val rfl (v_bin rfl rfl rfl b_neq) ?_
        refine Qt.l_eq (t := 102) (v' := .bool false) rfl (show _ = Value.bool false from by rw [e97]; simp) ?_
        refine Qt.o_yes rfl rfl rfl ?_
        refine Qt.o_val rfl (v_pick_false rfl rfl rfl) ?_
        refine Qt.o_val rfl (v_pick_true rfl rfl rfl) ?_
        refine Qt.l_nil ?_
        refine q_then ?_
        refine c_false rfl ?_
        refine c_skip ?_
        refine q_block ?_
        refine q_then ?_
        refine c_region ?_
        refine o_bin rfl rfl rfl (b_add (wrap_i64 (by omega) (by omega))) ?_
        refine o_move rfl rfl ?_
        refine l_nil ?_
        refine q_conv (fun w S => S.tail) ?_
        refine q_conv (fun w S => (S.perm p1).tail) ?_
        exact q_round (i + 1, (promSA s x42.f_Ballot)) (by exact ⟨by omega, hto.prom⟩) (by (try dsimp only); omega) ⟨(by first | rfl | exact vint (by omega)), (by first | rfl | exact vint (by omega)), (by first | rfl | exact vint (by omega)), (by first | rfl | exact vint (by omega)), (by first | rfl | exact vint (by omega)), (by first | rfl | exact vint (by omega)), trivial⟩ (fun w S => S)
       · -- ho False
        refine c_quiet (by kernel_rfl) (by kernel_rfl) ?_
        refine Qt.o_val rfl (v_move rfl rfl) ?_
        refine Qt.l_eq (t := 69) (v' := .bool true) rfl (show _ = Value.bool true from by rw [hq]) ?_
        refine Qt.o_val rfl (v_move rfl rfl) ?_
        refine Qt.o_yes rfl rfl rfl ?_
        refine Qt.o_val rfl (v_move rfl rfl) ?_
        refine Qt.l_eq (t := 71) (v' := .bool false) rfl (show _ = Value.bool false from by rw [show ok = false from by simpa using ho]) ?_
        refine Qt.o_val rfl (v_pick_true rfl rfl rfl) ?_
        refine Qt.o_val rfl (v_move rfl rfl) ?_
        refine Qt.o_no rfl rfl rfl rfl ?_
        refine Qt.o_no rfl rfl rfl rfl ?_
        refine Qt.o_no rfl rfl rfl rfl ?_
        refine Qt.o_no rfl rfl rfl rfl ?_
        refine Qt.o_no rfl rfl rfl rfl ?_
        refine Qt.o_no rfl rfl rfl rfl ?_
        refine Qt.o_no rfl rfl rfl rfl ?_
        refine Qt.o_no rfl rfl rfl rfl ?_
        refine Qt.o_no rfl rfl rfl rfl ?_
        refine Qt.o_no rfl rfl rfl rfl ?_
        refine Qt.o_no rfl rfl rfl rfl ?_
        refine Qt.o_no rfl rfl rfl rfl ?_
        refine Qt.o_no rfl rfl rfl rfl ?_
        refine Qt.o_no rfl rfl rfl rfl ?_
        refine Qt.o_no rfl rfl rfl rfl ?_
        refine Qt.o_no rfl rfl rfl rfl ?_
        refine Qt.o_no rfl rfl rfl rfl ?_
        refine Qt.o_no rfl rfl rfl rfl ?_
        refine Qt.o_no rfl rfl rfl rfl ?_
        refine Qt.o_no rfl rfl rfl rfl ?_
        refine Qt.o_no rfl rfl rfl rfl ?_
        refine Qt.o_no rfl rfl rfl rfl ?_
        refine Qt.o_no rfl rfl rfl rfl ?_
        refine Qt.o_no rfl rfl rfl rfl ?_
        refine Qt.o_no rfl rfl rfl rfl ?_
        refine Qt.o_no rfl rfl rfl rfl ?_
        refine Qt.o_no rfl rfl rfl rfl ?_
        refine Qt.o_no rfl rfl rfl rfl ?_
        refine Qt.o_no rfl rfl rfl rfl ?_
        refine Qt.o_no rfl rfl rfl rfl ?_
        refine Qt.o_val rfl (v_pick_false rfl rfl rfl) ?_
        refine Qt.l_nil ?_
        refine q_then ?_
        refine c_false rfl ?_
        refine c_skip ?_
        refine q_block ?_
        refine q_then ?_
        refine c_region ?_
        refine o_bin rfl rfl rfl (b_add (wrap_i64 (by omega) (by omega))) ?_
        refine o_move rfl rfl ?_
        refine l_nil ?_
        refine q_conv (fun w S => S.tail) ?_
        refine q_conv (fun w S => (S.perm p1).tail) ?_
        exact q_round (i + 1, (promSA s x42.f_Ballot)) (by exact ⟨by omega, hto.prom⟩) (by (try dsimp only); omega) ⟨(by first | rfl | exact vint (by omega)), (by first | rfl | exact vint (by omega)), (by first | rfl | exact vint (by omega)), (by first | rfl | exact vint (by omega)), (by first | rfl | exact vint (by omega)), (by first | rfl | exact vint (by omega)), trivial⟩ (fun w S => S)
      · -- h5F
       have h5b := h5
       try simp only [decide_eq_false_iff_not, Int.not_lt, Int.not_le] at h5
       refine o_yes rfl rfl rfl ?_
       refine o_move rfl rfl ?_
       refine o_yes rfl rfl rfl ?_
       refine o_not rfl rfl ?_
       refine o_pick_false rfl rfl rfl ?_
       refine o_bin rfl rfl rfl (b_bne Try.underlying4 _ _) ?_
       refine l_eq (t := 65) (v' := .bool false) rfl (show _ = Value.bool false from by first | rfl | (rw [tells_rise hto (by rw [hq, decide_eq_true_eq] at his; exact his) (by show ¬ o.f_Ballot ≤ x42.f_Ballot; first | assumption | omega)] <;> rfl)) ?_
       refine o_move rfl rfl ?_
       refine o_no rfl rfl rfl rfl ?_
       refine o_pick_false rfl rfl rfl ?_
       refine l_nil ?_
       refine q_then ?_
       refine c_false rfl ?_
       refine c_skip ?_
       refine q_then ?_
       refine c_seq ?_
       refine (Classical.em (ok = true)).elim (fun ho => ?_) (fun ho => ?_)
       · -- ho True
        have hto2 : TellsOk s true (⟨o.f_Slot, o.f_Ballot, o.f_Value⟩ : VoS) := by rw [← ho]; exact hto
        have hle : s.pr ≤ x42.f_Ballot := by rw [hq, decide_eq_true_eq] at his; exact his
        obtain ⟨zs, hzs⟩ := hto2.list hle
        replace hzs : promLA s x42.f_Ballot o.f_Slot = (⟨o.f_Slot, o.f_Ballot, o.f_Value⟩ : VoS) :: zs := hzs
        have hln : (promLA s x42.f_Ballot o.f_Slot).length = zs.length + 1 := by rw [hzs]; rfl
        refine c_fact (p := ∃ ad, a52 = some ad) (rds_some (e := e_VoS) (xs := (promLA s x42.f_Ballot o.f_Slot)) (rds_own e_VoS_ok 0 rfl) (by rw [hzs]; simp)) ?_
        rintro ⟨ad9, ead9⟩
        refine c_quiet (by kernel_rfl) (by kernel_rfl) ?_
        refine Qt.o_val rfl (v_move rfl rfl) ?_
        refine Qt.l_eq (t := 69) (v' := .bool true) rfl (show _ = Value.bool true from by rw [hq]) ?_
        refine Qt.o_val rfl (v_move rfl rfl) ?_
        refine Qt.o_yes rfl rfl rfl ?_
        refine Qt.o_val rfl (v_move rfl rfl) ?_
        refine Qt.l_eq (t := 71) (v' := .bool true) rfl (show _ = Value.bool true from by rw [ho]) ?_
        refine Qt.o_val rfl (v_pick_true rfl rfl rfl) ?_
        refine Qt.o_val rfl (v_move rfl rfl) ?_
        refine Qt.o_yes rfl rfl rfl ?_
        refine Qt.o_val rfl (v_move rfl rfl) ?_
        refine Qt.o_yes rfl rfl rfl ?_
        refine Qt.o_val rfl (v_len rfl rfl Try.underlying32) ?_
        refine Qt.o_yes rfl rfl rfl ?_
        refine Qt.o_val rfl (v_bin rfl rfl rfl b_eql) ?_
        refine Qt.l_eq (t := 76) (v' := .bool false) rfl (show _ = Value.bool false from by rw [hzs, decide_eq_false (by rw [List.length_cons]; omega)]) ?_
        refine Qt.o_yes rfl rfl rfl ?_
        refine Qt.o_val rfl (v_move rfl rfl) ?_
        refine Qt.o_yes rfl rfl rfl ?_
        refine Qt.o_val rfl (v_move rfl rfl) ?_
        refine Qt.o_yes rfl rfl rfl ?_
        refine Qt.o_val rfl (v_indexK e_VoS_ok ead9 rfl rfl rfl Try.underlying32 (by omega) (by omega)) ?_
        obtain ⟨x79, hx79⟩ : ∃ x, ((promLA s x42.f_Ballot o.f_Slot))[((0 : Int)).toNat]? = some x := ⟨_, List.getElem?_eq_getElem (by omega)⟩
        have e79 : x79 = (⟨o.f_Slot, o.f_Ballot, o.f_Value⟩ : VoS) := by have h9 := hx79; rw [hzs] at h9; simpa using h9.symm
        refine Qt.o_yes rfl rfl rfl ?_
        refine Qt.o_val rfl (v_fieldAddr rfl rfl Try.underlying31 rfl ti3 (Addr.add_add' _ _ _)) ?_
        refine Qt.o_yes rfl rfl rfl ?_
        refine Qt.o_val rfl (v_load1 rfl rfl Try.underlying3 rfl (rd_sl e_VoS_ok ead9 (rds_own e_VoS_ok 0 rfl) hx79 rfl)) ?_
        refine Qt.o_yes rfl rfl rfl ?_
        refine Qt.o_val rfl (v_fieldAddr (q := ⟨b3, 2, none⟩) rfl rfl Try.underlying25 rfl ti3 rfl) ?_
        refine Qt.o_yes rfl rfl rfl ?_
        refine Qt.o_val rfl (v_load1 rfl rfl Try.underlying3 rfl (rd_mem 3 rfl rfl)) ?_
        refine Qt.o_yes rfl rfl rfl ?_
        refine Qt.o_val rfl (v_bin rfl rfl rfl b_neq) ?_
        refine Qt.l_eq (t := 84) (v' := .bool false) rfl (show _ = Value.bool false from by rw [e79]; simp) ?_
        refine Qt.o_yes rfl rfl rfl ?_
        refine Qt.o_val rfl (v_pick_false rfl rfl rfl) ?_
        refine Qt.o_yes rfl rfl rfl ?_
        refine Qt.o_val rfl (v_move rfl rfl) ?_
        refine Qt.o_yes rfl rfl rfl ?_
        refine Qt.o_val rfl (v_move rfl rfl) ?_
        refine Qt.o_yes rfl rfl rfl ?_
        refine Qt.o_val rfl (v_indexK e_VoS_ok ead9 rfl rfl rfl Try.underlying32 (by omega) (by omega)) ?_
        obtain ⟨x88, hx88⟩ : ∃ x, ((promLA s x42.f_Ballot o.f_Slot))[((0 : Int)).toNat]? = some x := ⟨_, List.getElem?_eq_getElem (by omega)⟩
        have e88 : x88 = (⟨o.f_Slot, o.f_Ballot, o.f_Value⟩ : VoS) := by have h9 := hx88; rw [hzs] at h9; simpa using h9.symm
        refine Qt.o_yes rfl rfl rfl ?_
        refine Qt.o_val rfl (v_fieldAddr rfl rfl Try.underlying31 rfl ti9 (Addr.add_add' _ _ _)) ?_
        refine Qt.o_yes rfl rfl rfl ?_
        refine Qt.o_val rfl (v_load1 rfl rfl Try.underlying9 rfl (rd_sl e_VoS_ok ead9 (rds_own e_VoS_ok 0 rfl) hx88 rfl)) ?_
        refine Qt.o_yes rfl rfl rfl ?_
        refine Qt.o_val rfl (v_fieldAddr (q := ⟨b3, 3, none⟩) rfl rfl Try.underlying25 rfl ti9 rfl) ?_
        refine Qt.o_yes rfl rfl rfl ?_
        refine Qt.o_val rfl (v_load1 rfl rfl Try.underlying9 rfl (rd_mem 3 rfl rfl)) ?_
        refine Qt.o_yes rfl rfl rfl ?_
        refine Qt.o_val rfl (v_bin rfl rfl rfl b_sneq) ?_
        refine Qt.l_eq (t := 93) (v' := .bool false) rfl (show _ = Value.bool false from by rw [e88]; simp) ?_
        refine Qt.o_yes rfl rfl rfl ?_
        refine Qt.o_val rfl (v_pick_false rfl rfl rfl) ?_
        refine Qt.o_yes rfl rfl rfl ?_
        refine Qt.o_val rfl (v_move rfl rfl) ?_
        refine Qt.o_yes rfl rfl rfl ?_
        refine Qt.o_val rfl (v_move rfl rfl) ?_
        refine Qt.o_yes rfl rfl rfl ?_
        refine Qt.o_val rfl (v_indexK e_VoS_ok ead9 rfl rfl rfl Try.underlying32 (by omega) (by omega)) ?_
        obtain ⟨x97, hx97⟩ : ∃ x, ((promLA s x42.f_Ballot o.f_Slot))[((0 : Int)).toNat]? = some x := ⟨_, List.getElem?_eq_getElem (by omega)⟩
        have e97 : x97 = (⟨o.f_Slot, o.f_Ballot, o.f_Value⟩ : VoS) := by have h9 := hx97; rw [hzs] at h9; simpa using h9.symm
        refine Qt.o_yes rfl rfl rfl ?_
        refine Qt.o_val rfl (v_fieldAddr rfl rfl Try.underlying31 rfl ti23 (Addr.add_add' _ _ _)) ?_
        refine Qt.o_yes rfl rfl rfl ?_
        refine Qt.o_val rfl (v_load1 rfl rfl Try.underlying23 rfl (rd_sl e_VoS_ok ead9 (rds_own e_VoS_ok 0 rfl) hx97 rfl)) ?_
        refine Qt.o_yes rfl rfl rfl ?_
        refine Qt.o_val rfl (v_fieldAddr (q := ⟨b3, 1, none⟩) rfl rfl Try.underlying25 rfl ti23 rfl) ?_
        refine Qt.o_yes rfl rfl rfl ?_
        refine Qt.o_val rfl (v_load1 rfl rfl Try.underlying23 rfl (rd_mem 3 rfl rfl)) ?_
        refine Qt.o_yes rfl rfl rfl ?_
        refine Qt.o_val rfl (v_bin rfl rfl rfl b_neq) ?_
        refine Qt.l_eq (t := 102) (v' := .bool false) rfl (show _ = Value.bool false from by rw [e97]; simp) ?_
        refine Qt.o_yes rfl rfl rfl ?_
        refine Qt.o_val rfl (v_pick_false rfl rfl rfl) ?_
        refine Qt.o_val rfl (v_pick_true rfl rfl rfl) ?_
        refine Qt.l_nil ?_
        refine q_then ?_
        refine c_false rfl ?_
        refine c_skip ?_
        refine q_block ?_
        refine q_then ?_
        refine c_region ?_
        refine o_bin rfl rfl rfl (b_add (wrap_i64 (by omega) (by omega))) ?_
        refine o_move rfl rfl ?_
        refine l_nil ?_
        refine q_conv (fun w S => S.tail) ?_
        refine q_conv (fun w S => (S.perm p1).tail) ?_
        exact q_round (i + 1, (promSA s x42.f_Ballot)) (by exact ⟨by omega, hto.prom⟩) (by (try dsimp only); omega) ⟨(by first | rfl | exact vint (by omega)), (by first | rfl | exact vint (by omega)), (by first | rfl | exact vint (by omega)), (by first | rfl | exact vint (by omega)), (by first | rfl | exact vint (by omega)), (by first | rfl | exact vint (by omega)), trivial⟩ (fun w S => S)
       · -- ho False
        refine c_quiet (by kernel_rfl) (by kernel_rfl) ?_
        refine Qt.o_val rfl (v_move rfl rfl) ?_
        refine Qt.l_eq (t := 69) (v' := .bool true) rfl (show _ = Value.bool true from by rw [hq]) ?_
        refine Qt.o_val rfl (v_move rfl rfl) ?_
        refine Qt.o_yes rfl rfl rfl ?_
        refine Qt.o_val rfl (v_move rfl rfl) ?_
        refine Qt.l_eq (t := 71) (v' := .bool false) rfl (show _ = Value.bool false from by rw [show ok = false from by simpa using ho]) ?_
        refine Qt.o_val rfl (v_pick_true rfl rfl rfl) ?_
        refine Qt.o_val rfl (v_move rfl rfl) ?_
        refine Qt.o_no rfl rfl rfl rfl ?_
        refine Qt.o_no rfl rfl rfl rfl ?_
        refine Qt.o_no rfl rfl rfl rfl ?_
        refine Qt.o_no rfl rfl rfl rfl ?_
        refine Qt.o_no rfl rfl rfl rfl ?_
        refine Qt.o_no rfl rfl rfl rfl ?_
        refine Qt.o_no rfl rfl rfl rfl ?_
        refine Qt.o_no rfl rfl rfl rfl ?_
        refine Qt.o_no rfl rfl rfl rfl ?_
        refine Qt.o_no rfl rfl rfl rfl ?_
        refine Qt.o_no rfl rfl rfl rfl ?_
        refine Qt.o_no rfl rfl rfl rfl ?_
        refine Qt.o_no rfl rfl rfl rfl ?_
        refine Qt.o_no rfl rfl rfl rfl ?_
        refine Qt.o_no rfl rfl rfl rfl ?_
        refine Qt.o_no rfl rfl rfl rfl ?_
        refine Qt.o_no rfl rfl rfl rfl ?_
        refine Qt.o_no rfl rfl rfl rfl ?_
        refine Qt.o_no rfl rfl rfl rfl ?_
        refine Qt.o_no rfl rfl rfl rfl ?_
        refine Qt.o_no rfl rfl rfl rfl ?_
        refine Qt.o_no rfl rfl rfl rfl ?_
        refine Qt.o_no rfl rfl rfl rfl ?_
        refine Qt.o_no rfl rfl rfl rfl ?_
        refine Qt.o_no rfl rfl rfl rfl ?_
        refine Qt.o_no rfl rfl rfl rfl ?_
        refine Qt.o_no rfl rfl rfl rfl ?_
        refine Qt.o_no rfl rfl rfl rfl ?_
        refine Qt.o_no rfl rfl rfl rfl ?_
        refine Qt.o_no rfl rfl rfl rfl ?_
        refine Qt.o_val rfl (v_pick_false rfl rfl rfl) ?_
        refine Qt.l_nil ?_
        refine q_then ?_
        refine c_false rfl ?_
        refine c_skip ?_
        refine q_block ?_
        refine q_then ?_
        refine c_region ?_
        refine o_bin rfl rfl rfl (b_add (wrap_i64 (by omega) (by omega))) ?_
        refine o_move rfl rfl ?_
        refine l_nil ?_
        refine q_conv (fun w S => S.tail) ?_
        refine q_conv (fun w S => (S.perm p1).tail) ?_
        exact q_round (i + 1, (promSA s x42.f_Ballot)) (by exact ⟨by omega, hto.prom⟩) (by (try dsimp only); omega) ⟨(by first | rfl | exact vint (by omega)), (by first | rfl | exact vint (by omega)), (by first | rfl | exact vint (by omega)), (by first | rfl | exact vint (by omega)), (by first | rfl | exact vint (by omega)), (by first | rfl | exact vint (by omega)), trivial⟩ (fun w S => S)
     · -- hq False
      refine c_region ?_
      refine o_move rfl rfl ?_
      refine l_eq (t := 55) (v' := .bool false) rfl (show _ = Value.bool false from by rw [show is = false from by simpa using hq]) ?_
      refine o_fieldAddr (q := ⟨b8, 1, none⟩) rfl rfl Try.underlying25 rfl ti23 rfl ?_
      refine o_load1 rfl rfl Try.underlying23 rfl (rd_mem 2 rfl rfl) ?_
      refine o_fieldAddr (q := ⟨b3, 1, none⟩) rfl rfl Try.underlying25 rfl ti23 rfl ?_
      refine o_load1 rfl rfl Try.underlying23 rfl (rd_mem 3 rfl rfl) ?_
      refine o_bin rfl rfl rfl b_geq ?_
      refine o_move rfl rfl ?_
      refine l_split (t := 61) rfl (fun h6 => ?_) (fun h6 => ?_)
      · -- h6T
       have h6b := h6
       try simp only [decide_eq_true_eq] at h6
       refine o_no rfl rfl rfl rfl ?_
       refine o_no rfl rfl rfl rfl ?_
       refine o_pick_true rfl rfl rfl ?_
       refine o_bin rfl rfl rfl (b_bne Try.underlying4 _ _) ?_
       refine o_move rfl rfl ?_
       refine o_yes rfl rfl rfl ?_
       refine o_move rfl rfl ?_
       refine l_eq (t := 67) (v' := .bool false) rfl (show _ = Value.bool false from by rw [show is = false from by simpa using hq]) ?_
       refine o_pick_true rfl rfl rfl ?_
       refine l_nil ?_
       refine q_then ?_
       refine c_false rfl ?_
       refine c_skip ?_
       refine q_then ?_
       refine c_seq ?_
       refine (Classical.em (ok = true)).elim (fun ho => ?_) (fun ho => ?_)
       · -- ho True
        refine c_quiet (by kernel_rfl) (by kernel_rfl) ?_
        refine Qt.o_val rfl (v_move rfl rfl) ?_
        refine Qt.l_eq (t := 69) (v' := .bool false) rfl (show _ = Value.bool false from by rw [show is = false from by simpa using hq]) ?_
        refine Qt.o_val rfl (v_move rfl rfl) ?_
        refine Qt.o_no rfl rfl rfl rfl ?_
        refine Qt.o_val rfl (v_pick_false rfl rfl rfl) ?_
        refine Qt.o_val rfl (v_move rfl rfl) ?_
        refine Qt.o_no rfl rfl rfl rfl ?_
        refine Qt.o_no rfl rfl rfl rfl ?_
        refine Qt.o_no rfl rfl rfl rfl ?_
        refine Qt.o_no rfl rfl rfl rfl ?_
        refine Qt.o_no rfl rfl rfl rfl ?_
        refine Qt.o_no rfl rfl rfl rfl ?_
        refine Qt.o_no rfl rfl rfl rfl ?_
        refine Qt.o_no rfl rfl rfl rfl ?_
        refine Qt.o_no rfl rfl rfl rfl ?_
        refine Qt.o_no rfl rfl rfl rfl ?_
        refine Qt.o_no rfl rfl rfl rfl ?_
        refine Qt.o_no rfl rfl rfl rfl ?_
        refine Qt.o_no rfl rfl rfl rfl ?_
        refine Qt.o_no rfl rfl rfl rfl ?_
        refine Qt.o_no rfl rfl rfl rfl ?_
        refine Qt.o_no rfl rfl rfl rfl ?_
        refine Qt.o_no rfl rfl rfl rfl ?_
        refine Qt.o_no rfl rfl rfl rfl ?_
        refine Qt.o_no rfl rfl rfl rfl ?_
        refine Qt.o_no rfl rfl rfl rfl ?_
        refine Qt.o_no rfl rfl rfl rfl ?_
        refine Qt.o_no rfl rfl rfl rfl ?_
        refine Qt.o_no rfl rfl rfl rfl ?_
        refine Qt.o_no rfl rfl rfl rfl ?_
        refine Qt.o_no rfl rfl rfl rfl ?_
        refine Qt.o_no rfl rfl rfl rfl ?_
        refine Qt.o_no rfl rfl rfl rfl ?_
        refine Qt.o_no rfl rfl rfl rfl ?_
        refine Qt.o_no rfl rfl rfl rfl ?_
        refine Qt.o_no rfl rfl rfl rfl ?_
        refine Qt.o_val rfl (v_pick_false rfl rfl rfl) ?_
        refine Qt.l_nil ?_
        refine q_then ?_
        refine c_false rfl ?_
        refine c_skip ?_
        refine q_block ?_
        refine q_then ?_
        refine c_region ?_
        refine o_bin rfl rfl rfl (b_add (wrap_i64 (by omega) (by omega))) ?_
        refine o_move rfl rfl ?_
        refine l_nil ?_
        refine q_conv (fun w S => S.tail) ?_
        refine q_conv (fun w S => (S.perm p1).tail) ?_
        exact q_round (i + 1, (promSA s x42.f_Ballot)) (by exact ⟨by omega, hto.prom⟩) (by (try dsimp only); omega) ⟨(by first | rfl | exact vint (by omega)), (by first | rfl | exact vint (by omega)), (by first | rfl | exact vint (by omega)), (by first | rfl | exact vint (by omega)), (by first | rfl | exact vint (by omega)), (by first | rfl | exact vint (by omega)), trivial⟩ (fun w S => S)
       · -- ho False
        refine c_quiet (by kernel_rfl) (by kernel_rfl) ?_
        refine Qt.o_val rfl (v_move rfl rfl) ?_
        refine Qt.l_eq (t := 69) (v' := .bool false) rfl (show _ = Value.bool false from by rw [show is = false from by simpa using hq]) ?_
        refine Qt.o_val rfl (v_move rfl rfl) ?_
        refine Qt.o_no rfl rfl rfl rfl ?_
        refine Qt.o_val rfl (v_pick_false rfl rfl rfl) ?_
        refine Qt.o_val rfl (v_move rfl rfl) ?_
        refine Qt.o_no rfl rfl rfl rfl ?_
        refine Qt.o_no rfl rfl rfl rfl ?_
        refine Qt.o_no rfl rfl rfl rfl ?_
        refine Qt.o_no rfl rfl rfl rfl ?_
        refine Qt.o_no rfl rfl rfl rfl ?_
        refine Qt.o_no rfl rfl rfl rfl ?_
        refine Qt.o_no rfl rfl rfl rfl ?_
        refine Qt.o_no rfl rfl rfl rfl ?_
        refine Qt.o_no rfl rfl rfl rfl ?_
        refine Qt.o_no rfl rfl rfl rfl ?_
        refine Qt.o_no rfl rfl rfl rfl ?_
        refine Qt.o_no rfl rfl rfl rfl ?_
        refine Qt.o_no rfl rfl rfl rfl ?_
        refine Qt.o_no rfl rfl rfl rfl ?_
        refine Qt.o_no rfl rfl rfl rfl ?_
        refine Qt.o_no rfl rfl rfl rfl ?_
        refine Qt.o_no rfl rfl rfl rfl ?_
        refine Qt.o_no rfl rfl rfl rfl ?_
        refine Qt.o_no rfl rfl rfl rfl ?_
        refine Qt.o_no rfl rfl rfl rfl ?_
        refine Qt.o_no rfl rfl rfl rfl ?_
        refine Qt.o_no rfl rfl rfl rfl ?_
        refine Qt.o_no rfl rfl rfl rfl ?_
        refine Qt.o_no rfl rfl rfl rfl ?_
        refine Qt.o_no rfl rfl rfl rfl ?_
        refine Qt.o_no rfl rfl rfl rfl ?_
        refine Qt.o_no rfl rfl rfl rfl ?_
        refine Qt.o_no rfl rfl rfl rfl ?_
        refine Qt.o_no rfl rfl rfl rfl ?_
        refine Qt.o_no rfl rfl rfl rfl ?_
        refine Qt.o_val rfl (v_pick_false rfl rfl rfl) ?_
        refine Qt.l_nil ?_
        refine q_then ?_
        refine c_false rfl ?_
        refine c_skip ?_
        refine q_block ?_
        refine q_then ?_
        refine c_region ?_
        refine o_bin rfl rfl rfl (b_add (wrap_i64 (by omega) (by omega))) ?_
        refine o_move rfl rfl ?_
        refine l_nil ?_
        refine q_conv (fun w S => S.tail) ?_
        refine q_conv (fun w S => (S.perm p1).tail) ?_
        exact q_round (i + 1, (promSA s x42.f_Ballot)) (by exact ⟨by omega, hto.prom⟩) (by (try dsimp only); omega) ⟨(by first | rfl | exact vint (by omega)), (by first | rfl | exact vint (by omega)), (by first | rfl | exact vint (by omega)), (by first | rfl | exact vint (by omega)), (by first | rfl | exact vint (by omega)), (by first | rfl | exact vint (by omega)), trivial⟩ (fun w S => S)
      · -- h6F
       have h6b := h6
       try simp only [decide_eq_false_iff_not, Int.not_lt, Int.not_le] at h6
       refine o_yes rfl rfl rfl ?_
       refine o_move rfl rfl ?_
       refine o_yes rfl rfl rfl ?_
       refine o_not rfl rfl ?_
       refine o_pick_false rfl rfl rfl ?_
       refine o_bin rfl rfl rfl (b_bne Try.underlying4 _ _) ?_
       refine o_move rfl rfl ?_
       refine l_split (t := 66) rfl (fun h7 => ?_) (fun h7 => ?_)
       · -- h7T
        have h7b := h7
        try simp only [decide_eq_true_eq, decide_eq_false_iff_not, Bool.not_eq_eq_eq_not, Bool.not_true, Bool.not_false, Bool.not_eq_true', Bool.not_eq_false', Int.not_lt, Int.not_le, Bool.or_eq_true, Bool.and_eq_true] at h7
        refine o_yes rfl rfl rfl ?_
        refine o_move rfl rfl ?_
        refine l_eq (t := 67) (v' := .bool false) rfl (show _ = Value.bool false from by rw [show is = false from by simpa using hq]) ?_
        refine o_pick_true rfl rfl rfl ?_
        refine l_nil ?_
        refine q_then ?_
        refine c_false rfl ?_
        refine c_skip ?_
        refine q_then ?_
        refine c_seq ?_
        refine (Classical.em (ok = true)).elim (fun ho => ?_) (fun ho => ?_)
        · -- ho True
         refine c_quiet (by kernel_rfl) (by kernel_rfl) ?_
         refine Qt.o_val rfl (v_move rfl rfl) ?_
         refine Qt.l_eq (t := 69) (v' := .bool false) rfl (show _ = Value.bool false from by rw [show is = false from by simpa using hq]) ?_
         refine Qt.o_val rfl (v_move rfl rfl) ?_
         refine Qt.o_no rfl rfl rfl rfl ?_
         refine Qt.o_val rfl (v_pick_false rfl rfl rfl) ?_
         refine Qt.o_val rfl (v_move rfl rfl) ?_
         refine Qt.o_no rfl rfl rfl rfl ?_
         refine Qt.o_no rfl rfl rfl rfl ?_
         refine Qt.o_no rfl rfl rfl rfl ?_
         refine Qt.o_no rfl rfl rfl rfl ?_
         refine Qt.o_no rfl rfl rfl rfl ?_
         refine Qt.o_no rfl rfl rfl rfl ?_
         refine Qt.o_no rfl rfl rfl rfl ?_
         refine Qt.o_no rfl rfl rfl rfl ?_
         refine Qt.o_no rfl rfl rfl rfl ?_
         refine Qt.o_no rfl rfl rfl rfl ?_
         refine Qt.o_no rfl rfl rfl rfl ?_
         refine Qt.o_no rfl rfl rfl rfl ?_
         refine Qt.o_no rfl rfl rfl rfl ?_
         refine Qt.o_no rfl rfl rfl rfl ?_
         refine Qt.o_no rfl rfl rfl rfl ?_
         refine Qt.o_no rfl rfl rfl rfl ?_
         refine Qt.o_no rfl rfl rfl rfl ?_
         refine Qt.o_no rfl rfl rfl rfl ?_
         refine Qt.o_no rfl rfl rfl rfl ?_
         refine Qt.o_no rfl rfl rfl rfl ?_
         refine Qt.o_no rfl rfl rfl rfl ?_
         refine Qt.o_no rfl rfl rfl rfl ?_
         refine Qt.o_no rfl rfl rfl rfl ?_
         refine Qt.o_no rfl rfl rfl rfl ?_
         refine Qt.o_no rfl rfl rfl rfl ?_
         refine Qt.o_no rfl rfl rfl rfl ?_
         refine Qt.o_no rfl rfl rfl rfl ?_
         refine Qt.o_no rfl rfl rfl rfl ?_
         refine Qt.o_no rfl rfl rfl rfl ?_
         refine Qt.o_no rfl rfl rfl rfl ?_
         refine Qt.o_val rfl (v_pick_false rfl rfl rfl) ?_
         refine Qt.l_nil ?_
         refine q_then ?_
         refine c_false rfl ?_
         refine c_skip ?_
         refine q_block ?_
         refine q_then ?_
         refine c_region ?_
         refine o_bin rfl rfl rfl (b_add (wrap_i64 (by omega) (by omega))) ?_
         refine o_move rfl rfl ?_
         refine l_nil ?_
         refine q_conv (fun w S => S.tail) ?_
         refine q_conv (fun w S => (S.perm p1).tail) ?_
         exact q_round (i + 1, (promSA s x42.f_Ballot)) (by exact ⟨by omega, hto.prom⟩) (by (try dsimp only); omega) ⟨(by first | rfl | exact vint (by omega)), (by first | rfl | exact vint (by omega)), (by first | rfl | exact vint (by omega)), (by first | rfl | exact vint (by omega)), (by first | rfl | exact vint (by omega)), (by first | rfl | exact vint (by omega)), trivial⟩ (fun w S => S)
        · -- ho False
         refine c_quiet (by kernel_rfl) (by kernel_rfl) ?_
         refine Qt.o_val rfl (v_move rfl rfl) ?_
         refine Qt.l_eq (t := 69) (v' := .bool false) rfl (show _ = Value.bool false from by rw [show is = false from by simpa using hq]) ?_
         refine Qt.o_val rfl (v_move rfl rfl) ?_
         refine Qt.o_no rfl rfl rfl rfl ?_
         refine Qt.o_val rfl (v_pick_false rfl rfl rfl) ?_
         refine Qt.o_val rfl (v_move rfl rfl) ?_
         refine Qt.o_no rfl rfl rfl rfl ?_
         refine Qt.o_no rfl rfl rfl rfl ?_
         refine Qt.o_no rfl rfl rfl rfl ?_
         refine Qt.o_no rfl rfl rfl rfl ?_
         refine Qt.o_no rfl rfl rfl rfl ?_
         refine Qt.o_no rfl rfl rfl rfl ?_
         refine Qt.o_no rfl rfl rfl rfl ?_
         refine Qt.o_no rfl rfl rfl rfl ?_
         refine Qt.o_no rfl rfl rfl rfl ?_
         refine Qt.o_no rfl rfl rfl rfl ?_
         refine Qt.o_no rfl rfl rfl rfl ?_
         refine Qt.o_no rfl rfl rfl rfl ?_
         refine Qt.o_no rfl rfl rfl rfl ?_
         refine Qt.o_no rfl rfl rfl rfl ?_
         refine Qt.o_no rfl rfl rfl rfl ?_
         refine Qt.o_no rfl rfl rfl rfl ?_
         refine Qt.o_no rfl rfl rfl rfl ?_
         refine Qt.o_no rfl rfl rfl rfl ?_
         refine Qt.o_no rfl rfl rfl rfl ?_
         refine Qt.o_no rfl rfl rfl rfl ?_
         refine Qt.o_no rfl rfl rfl rfl ?_
         refine Qt.o_no rfl rfl rfl rfl ?_
         refine Qt.o_no rfl rfl rfl rfl ?_
         refine Qt.o_no rfl rfl rfl rfl ?_
         refine Qt.o_no rfl rfl rfl rfl ?_
         refine Qt.o_no rfl rfl rfl rfl ?_
         refine Qt.o_no rfl rfl rfl rfl ?_
         refine Qt.o_no rfl rfl rfl rfl ?_
         refine Qt.o_no rfl rfl rfl rfl ?_
         refine Qt.o_no rfl rfl rfl rfl ?_
         refine Qt.o_val rfl (v_pick_false rfl rfl rfl) ?_
         refine Qt.l_nil ?_
         refine q_then ?_
         refine c_false rfl ?_
         refine c_skip ?_
         refine q_block ?_
         refine q_then ?_
         refine c_region ?_
         refine o_bin rfl rfl rfl (b_add (wrap_i64 (by omega) (by omega))) ?_
         refine o_move rfl rfl ?_
         refine l_nil ?_
         refine q_conv (fun w S => S.tail) ?_
         refine q_conv (fun w S => (S.perm p1).tail) ?_
         exact q_round (i + 1, (promSA s x42.f_Ballot)) (by exact ⟨by omega, hto.prom⟩) (by (try dsimp only); omega) ⟨(by first | rfl | exact vint (by omega)), (by first | rfl | exact vint (by omega)), (by first | rfl | exact vint (by omega)), (by first | rfl | exact vint (by omega)), (by first | rfl | exact vint (by omega)), (by first | rfl | exact vint (by omega)), trivial⟩ (fun w S => S)
       · -- h7F
        have h7b := h7
        try simp only [decide_eq_true_eq, decide_eq_false_iff_not, Bool.not_eq_eq_eq_not, Bool.not_true, Bool.not_false, Bool.not_eq_true', Bool.not_eq_false', Int.not_lt, Int.not_le, Bool.or_eq_true, Bool.and_eq_true] at h7
        refine o_no rfl rfl rfl rfl ?_
        refine o_pick_false rfl rfl rfl ?_
        refine l_nil ?_
        refine q_then ?_
        refine c_false rfl ?_
        refine c_skip ?_
        refine q_then ?_
        refine c_seq ?_
        refine (Classical.em (ok = true)).elim (fun ho => ?_) (fun ho => ?_)
        · -- ho True
         refine c_quiet (by kernel_rfl) (by kernel_rfl) ?_
         refine Qt.o_val rfl (v_move rfl rfl) ?_
         refine Qt.l_eq (t := 69) (v' := .bool false) rfl (show _ = Value.bool false from by rw [show is = false from by simpa using hq]) ?_
         refine Qt.o_val rfl (v_move rfl rfl) ?_
         refine Qt.o_no rfl rfl rfl rfl ?_
         refine Qt.o_val rfl (v_pick_false rfl rfl rfl) ?_
         refine Qt.o_val rfl (v_move rfl rfl) ?_
         refine Qt.o_no rfl rfl rfl rfl ?_
         refine Qt.o_no rfl rfl rfl rfl ?_
         refine Qt.o_no rfl rfl rfl rfl ?_
         refine Qt.o_no rfl rfl rfl rfl ?_
         refine Qt.o_no rfl rfl rfl rfl ?_
         refine Qt.o_no rfl rfl rfl rfl ?_
         refine Qt.o_no rfl rfl rfl rfl ?_
         refine Qt.o_no rfl rfl rfl rfl ?_
         refine Qt.o_no rfl rfl rfl rfl ?_
         refine Qt.o_no rfl rfl rfl rfl ?_
         refine Qt.o_no rfl rfl rfl rfl ?_
         refine Qt.o_no rfl rfl rfl rfl ?_
         refine Qt.o_no rfl rfl rfl rfl ?_
         refine Qt.o_no rfl rfl rfl rfl ?_
         refine Qt.o_no rfl rfl rfl rfl ?_
         refine Qt.o_no rfl rfl rfl rfl ?_
         refine Qt.o_no rfl rfl rfl rfl ?_
         refine Qt.o_no rfl rfl rfl rfl ?_
         refine Qt.o_no rfl rfl rfl rfl ?_
         refine Qt.o_no rfl rfl rfl rfl ?_
         refine Qt.o_no rfl rfl rfl rfl ?_
         refine Qt.o_no rfl rfl rfl rfl ?_
         refine Qt.o_no rfl rfl rfl rfl ?_
         refine Qt.o_no rfl rfl rfl rfl ?_
         refine Qt.o_no rfl rfl rfl rfl ?_
         refine Qt.o_no rfl rfl rfl rfl ?_
         refine Qt.o_no rfl rfl rfl rfl ?_
         refine Qt.o_no rfl rfl rfl rfl ?_
         refine Qt.o_no rfl rfl rfl rfl ?_
         refine Qt.o_no rfl rfl rfl rfl ?_
         refine Qt.o_val rfl (v_pick_false rfl rfl rfl) ?_
         refine Qt.l_nil ?_
         refine q_then ?_
         refine c_false rfl ?_
         refine c_skip ?_
         refine q_block ?_
         refine q_then ?_
         refine c_region ?_
         refine o_bin rfl rfl rfl (b_add (wrap_i64 (by omega) (by omega))) ?_
         refine o_move rfl rfl ?_
         refine l_nil ?_
         refine q_conv (fun w S => S.tail) ?_
         refine q_conv (fun w S => (S.perm p1).tail) ?_
         exact q_round (i + 1, (promSA s x42.f_Ballot)) (by exact ⟨by omega, hto.prom⟩) (by (try dsimp only); omega) ⟨(by first | rfl | exact vint (by omega)), (by first | rfl | exact vint (by omega)), (by first | rfl | exact vint (by omega)), (by first | rfl | exact vint (by omega)), (by first | rfl | exact vint (by omega)), (by first | rfl | exact vint (by omega)), trivial⟩ (fun w S => S)
        · -- ho False
         refine c_quiet (by kernel_rfl) (by kernel_rfl) ?_
         refine Qt.o_val rfl (v_move rfl rfl) ?_
         refine Qt.l_eq (t := 69) (v' := .bool false) rfl (show _ = Value.bool false from by rw [show is = false from by simpa using hq]) ?_
         refine Qt.o_val rfl (v_move rfl rfl) ?_
         refine Qt.o_no rfl rfl rfl rfl ?_
         refine Qt.o_val rfl (v_pick_false rfl rfl rfl) ?_
         refine Qt.o_val rfl (v_move rfl rfl) ?_
         refine Qt.o_no rfl rfl rfl rfl ?_
         refine Qt.o_no rfl rfl rfl rfl ?_
         refine Qt.o_no rfl rfl rfl rfl ?_
         refine Qt.o_no rfl rfl rfl rfl ?_
         refine Qt.o_no rfl rfl rfl rfl ?_
         refine Qt.o_no rfl rfl rfl rfl ?_
         refine Qt.o_no rfl rfl rfl rfl ?_
         refine Qt.o_no rfl rfl rfl rfl ?_
         refine Qt.o_no rfl rfl rfl rfl ?_
         refine Qt.o_no rfl rfl rfl rfl ?_
         refine Qt.o_no rfl rfl rfl rfl ?_
         refine Qt.o_no rfl rfl rfl rfl ?_
         refine Qt.o_no rfl rfl rfl rfl ?_
         refine Qt.o_no rfl rfl rfl rfl ?_
         refine Qt.o_no rfl rfl rfl rfl ?_
         refine Qt.o_no rfl rfl rfl rfl ?_
         refine Qt.o_no rfl rfl rfl rfl ?_
         refine Qt.o_no rfl rfl rfl rfl ?_
         refine Qt.o_no rfl rfl rfl rfl ?_
         refine Qt.o_no rfl rfl rfl rfl ?_
         refine Qt.o_no rfl rfl rfl rfl ?_
         refine Qt.o_no rfl rfl rfl rfl ?_
         refine Qt.o_no rfl rfl rfl rfl ?_
         refine Qt.o_no rfl rfl rfl rfl ?_
         refine Qt.o_no rfl rfl rfl rfl ?_
         refine Qt.o_no rfl rfl rfl rfl ?_
         refine Qt.o_no rfl rfl rfl rfl ?_
         refine Qt.o_no rfl rfl rfl rfl ?_
         refine Qt.o_no rfl rfl rfl rfl ?_
         refine Qt.o_no rfl rfl rfl rfl ?_
         refine Qt.o_val rfl (v_pick_false rfl rfl rfl) ?_
         refine Qt.l_nil ?_
         refine q_then ?_
         refine c_false rfl ?_
         refine c_skip ?_
         refine q_block ?_
         refine q_then ?_
         refine c_region ?_
         refine o_bin rfl rfl rfl (b_add (wrap_i64 (by omega) (by omega))) ?_
         refine o_move rfl rfl ?_
         refine l_nil ?_
         refine q_conv (fun w S => S.tail) ?_
         refine q_conv (fun w S => (S.perm p1).tail) ?_
         exact q_round (i + 1, (promSA s x42.f_Ballot)) (by exact ⟨by omega, hto.prom⟩) (by (try dsimp only); omega) ⟨(by first | rfl | exact vint (by omega)), (by first | rfl | exact vint (by omega)), (by first | rfl | exact vint (by omega)), (by first | rfl | exact vint (by omega)), (by first | rfl | exact vint (by omega)), (by first | rfl | exact vint (by omega)), trivial⟩ (fun w S => S)
    · -- h4F
     have h4b := h4
     try simp only [decide_eq_true_eq, decide_eq_false_iff_not, Bool.not_eq_eq_eq_not, Bool.not_true, Bool.not_false, Bool.not_eq_true', Bool.not_eq_false', Int.not_lt, Int.not_le, Bool.or_eq_true, Bool.and_eq_true] at h4
     refine c_seq ?_
     refine c_region ?_
     refine o_fieldAddr (q := ⟨b8, 2, none⟩) rfl rfl Try.underlying25 rfl ti3 rfl ?_
     refine o_load1 rfl rfl Try.underlying3 rfl (rd_mem 0 rfl rfl) ?_
     refine o_fieldAddr (q := ⟨b3, 2, none⟩) rfl rfl Try.underlying25 rfl ti3 rfl ?_
     refine o_load1 rfl rfl Try.underlying3 rfl (rd_mem 2 rfl rfl) ?_
     refine o_bin rfl rfl rfl b_neq ?_
     refine l_nil ?_
     refine q_then ?_
     refine c_cond rfl (fun h8 => ?_) (fun h8 => ?_)
     · -- h8T
      have h8b := h8
      try simp only [Bool.not_eq_true', decide_eq_false_iff_not, Int.not_lt, Int.not_le] at h8
      refine c_region ?_
      refine o_move rfl rfl ?_
      refine o_fieldAddr (q := ⟨b8, 2, none⟩) rfl rfl Try.underlying25 rfl ti3 rfl ?_
      refine o_load1 rfl rfl Try.underlying3 rfl (rd_mem 0 rfl rfl) ?_
      refine o_fieldAddr (q := ⟨b8, 1, none⟩) rfl rfl Try.underlying25 rfl ti23 rfl ?_
      refine o_load1 rfl rfl Try.underlying23 rfl (rd_mem 0 rfl rfl) ?_
      refine o_fieldAddr (q := ⟨b8, 3, none⟩) rfl rfl Try.underlying25 rfl ti9 rfl ?_
      refine o_load1 rfl rfl Try.underlying9 rfl (rd_mem 0 rfl rfl) ?_
      refine o_build rfl sp31 ti31 rfl ((fill_cons (cells' := [.int .i64 x42.f_Slot, .int .u64 0, .string ByteArray.empty]) rfl rfl rfl rfl (fill_cons (cells' := [.int .i64 x42.f_Slot, .int .u64 x42.f_Ballot, .string ByteArray.empty]) rfl rfl rfl rfl (fill_cons (cells' := [.int .i64 x42.f_Slot, .int .u64 x42.f_Ballot, .string x42.f_Value]) rfl rfl rfl rfl fill_nil)))) ?_
      refine l_f1 ?_
      refine o_call rfl cal9 rfl (vaccA (v := (⟨x42.f_Slot, x42.f_Ballot, x42.f_Value⟩ : VoS))) ?_
      rintro _ _ ⟨rfl, rfl⟩
      refine l_nil ?_
      refine q_block ?_
      refine q_then ?_
      refine c_region ?_
      refine o_bin rfl rfl rfl (b_add (wrap_i64 (by omega) (by omega))) ?_
      refine o_move rfl rfl ?_
      refine l_nil ?_
      refine q_conv (fun w S => (S.perm p1).tail) ?_
      exact q_round (i + 1, (accSA s (⟨x42.f_Slot, x42.f_Ballot, x42.f_Value⟩ : VoS))) (by exact ⟨by omega, hto.acc (fun h9 => by simp_all)⟩) (by (try dsimp only); omega) ⟨(by first | rfl | exact vint (by omega)), (by first | rfl | exact vint (by omega)), (by first | rfl | exact vint (by omega)), (by first | rfl | exact vint (by omega)), (by first | rfl | exact vint (by omega)), (by first | rfl | exact vint (by omega)), trivial⟩ (fun w S => S)
     · -- h8F
      have h8b := h8
      try simp only [Bool.not_eq_false', decide_eq_true_eq] at h8
      refine c_skip ?_
      refine q_block ?_
      refine q_then ?_
      refine c_region ?_
      refine o_bin rfl rfl rfl (b_add (wrap_i64 (by omega) (by omega))) ?_
      refine o_move rfl rfl ?_
      refine l_nil ?_
      refine q_conv (fun w S => S.tail) ?_
      exact q_round (i + 1, s) (by exact ⟨by omega, hto⟩) (by (try dsimp only); omega) ⟨(by first | rfl | exact vint (by omega)), (by first | rfl | exact vint (by omega)), (by first | rfl | exact vint (by omega)), (by first | rfl | exact vint (by omega)), (by first | rfl | exact vint (by omega)), (by first | rfl | exact vint (by omega)), trivial⟩ (fun w S => S)
   · -- h3F
    have h3b := h3
    try simp only [decide_eq_false_iff_not, Int.not_lt, Int.not_le] at h3
    refine c_exit ?_
    refine q_pass_exit ?_
    refine q_pass_exit ?_
    refine q_hit ?_
    refine q_then ?_
    refine c_seq ?_
    refine c_region ?_
    refine o_assign rfl rfl ?_
    refine l_nil ?_
    refine q_then ?_
    refine c_ret ?_
    refine q_conv (fun w S => S.tail) ?_
    refine q_conv (fun w S => S.tail) ?_
    exact f_ret (r_one rfl rfl) (⟨rfl, rfl⟩) (fun w S => S)
  · -- h2F
   have h2b := h2
   try simp only [decide_eq_false_iff_not, Int.not_lt, Int.not_le] at h2
   refine o_no rfl rfl rfl rfl ?_
   refine o_no rfl rfl rfl rfl ?_
   refine o_no rfl rfl rfl rfl ?_
   refine o_pick_false rfl rfl rfl ?_
   refine o_bin rfl rfl rfl (b_bne Try.underlying4 _ _) ?_
   refine l_eq (t := 37) (v' := .bool false) rfl (show _ = Value.bool false from by rw [hok2]; first | (simp [*]; done) | (simp_all; done) | grind) ?_
   refine l_nil ?_
   refine q_then ?_
   refine c_false rfl ?_
   refine c_skip ?_
   refine q_then ?_
   refine c_seq ?_
   refine c_seq ?_
   refine c_region ?_
   refine o_move rfl rfl ?_
   refine o_len rfl rfl Try.underlying22 ?_
   refine o_move rfl rfl ?_
   refine l_nil ?_
   refine q_then ?_
   refine c_block ?_
   refine c_loop (α := Nat × VSA) (fun z => [(3, .pointer (some ⟨b3, 0, none⟩)), (5, .pointer (some ⟨k16, 0, none⟩)), (6, .bool ok), (38, .slice a (os).length c), (39, .int .i64 ((os).length : Int)), (40, .int .i64 (z.1 : Int))]) (fun z => VtA k16 z.2 :: blk b3 (.cells #[.bool o.f_Promise, .int .u64 o.f_Ballot, .int .i64 o.f_Slot, .string o.f_Value] 25 (0, 0)) :: F) (fun z => z.1 ≤ os.length ∧ TellsOk z.2 ok (⟨o.f_Slot, o.f_Ballot, o.f_Value⟩ : VoS)) (fun z => os.length - z.1) (0, accSA (⟨0, []⟩ : VSA) (⟨o.f_Slot, o.f_Ballot, o.f_Value⟩ : VoS)) (by exact ⟨Nat.zero_le _, tells_0 hok⟩) ⟨(by first | rfl | exact vint (by omega)), (by first | rfl | exact vint (by omega)), (by first | rfl | exact vint (by omega)), (by first | rfl | exact vint (by omega)), (by first | rfl | exact vint (by omega)), (by first | rfl | exact vint (by omega)), trivial⟩ (fun w S => S) ?_
   rintro ⟨i, s⟩ ⟨hi, hto⟩
   try dsimp only at *
   refine c_seq ?_
   refine c_region ?_
   refine o_bin rfl rfl rfl b_lss ?_
   refine l_nil ?_
   refine q_then ?_
   refine c_seq ?_
   refine c_cond rfl (fun h9 => ?_) (fun h9 => ?_)
   · -- h9T
    have h9b := h9
    try simp only [decide_eq_true_eq] at h9
    refine c_skip ?_
    refine q_then ?_
    refine c_seq ?_
    refine c_block ?_
    refine c_seq ?_
    refine c_region ?_
    refine o_index e_Op_ok rfl rfl rfl Try.underlying22 (by omega) (by omega) (rds_c (rds_c (rds_old hs))) fun ad42 ead42 => ?_
    obtain ⟨x42, hx42⟩ : ∃ x, (os)[((i : Int)).toNat]? = some x := ⟨_, List.getElem?_eq_getElem (by omega)⟩
    refine o_loadn (vs := e_Op.cells x42) rfl rfl Try.underlying25 rfl ti25 (rdn_sl e_Op_ok ead42 (rds_c (rds_c (rds_old hs))) hx42) ?_
    refine o_alloc rfl ti25 fun b8 => ?_
    refine o_storen rfl rfl ti25 rfl rfl rfl rfl ?_
    refine l_nil ?_
    refine q_then ?_
    refine c_seq ?_
    refine c_region ?_
    refine o_fieldAddr (q := ⟨b8, 0, none⟩) rfl rfl Try.underlying25 rfl ti4 rfl ?_
    refine o_load1 rfl rfl Try.underlying4 rfl (rd_mem 0 rfl rfl) ?_
    refine l_nil ?_
    refine q_then ?_
    refine c_cond rfl (fun h10 => ?_) (fun h10 => ?_)
    · -- h10T
     have h10b := h10
     try simp only [decide_eq_true_eq, decide_eq_false_iff_not, Bool.not_eq_eq_eq_not, Bool.not_true, Bool.not_false, Bool.not_eq_true', Bool.not_eq_false', Int.not_lt, Int.not_le, Bool.or_eq_true, Bool.and_eq_true] at h10
     refine c_seq ?_
     refine c_region ?_
     refine o_move rfl rfl ?_
     refine o_fieldAddr (q := ⟨b8, 1, none⟩) rfl rfl Try.underlying25 rfl ti23 rfl ?_
     refine o_load1 rfl rfl Try.underlying23 rfl (rd_mem 0 rfl rfl) ?_
     refine o_fieldAddr (q := ⟨b3, 2, none⟩) rfl rfl Try.underlying25 rfl ti3 rfl ?_
     refine o_load1 rfl rfl Try.underlying3 rfl (rd_mem 2 rfl rfl) ?_
     refine l_f1 ?_
     refine o_call rfl cal10 rfl (vpromA (b := x42.f_Ballot) (fr := o.f_Slot)) ?_
     rintro _ _ ⟨a52, c52, rfl, rfl⟩
     refine o_move rfl rfl ?_
     refine o_extract rfl rfl rfl ?_
     refine o_extract rfl rfl rfl ?_
     obtain ⟨is, his⟩ : ∃ is : Bool, decide (s.pr ≤ x42.f_Ballot) = is := ⟨_, rfl⟩
     refine l_eq (t := 54) (v' := .bool is) rfl (by rw [← his] <;> rfl) ?_
     refine o_assign rfl rfl ?_
     refine o_assign rfl rfl ?_
     refine l_nil ?_
     refine q_then ?_
     refine c_seq ?_
     refine c_seq ?_
     refine (Classical.em (is = true)).elim (fun hq => ?_) (fun hq => ?_)
     · -- hq True
      refine c_region ?_
      refine o_move rfl rfl ?_
      refine l_eq (t := 55) (v' := .bool true) rfl (show _ = Value.bool true from by rw [hq]) ?_
      refine o_fieldAddr (q := ⟨b8, 1, none⟩) rfl rfl Try.underlying25 rfl ti23 rfl ?_
      refine o_load1 rfl rfl Try.underlying23 rfl (rd_mem 2 rfl rfl) ?_
      refine o_fieldAddr (q := ⟨b3, 1, none⟩) rfl rfl Try.underlying25 rfl ti23 rfl ?_
      refine o_load1 rfl rfl Try.underlying23 rfl (rd_mem 3 rfl rfl) ?_
      refine o_bin rfl rfl rfl b_geq ?_
      refine o_move rfl rfl ?_
      refine l_split (t := 61) rfl (fun h11 => ?_) (fun h11 => ?_)
      · -- h11T
       have h11b := h11
       try simp only [decide_eq_true_eq] at h11
       refine o_no rfl rfl rfl rfl ?_
       refine o_no rfl rfl rfl rfl ?_
       refine o_pick_true rfl rfl rfl ?_
       refine o_bin rfl rfl rfl (b_bne Try.underlying4 _ _) ?_
       refine l_eq (t := 65) (v' := .bool false) rfl (show _ = Value.bool false from by first | rfl | (rw [tells_rise hto (by rw [hq, decide_eq_true_eq] at his; exact his) (by show ¬ o.f_Ballot ≤ x42.f_Ballot; first | assumption | omega)] <;> rfl)) ?_
       refine o_move rfl rfl ?_
       refine o_no rfl rfl rfl rfl ?_
       refine o_pick_false rfl rfl rfl ?_
       refine l_nil ?_
       refine q_then ?_
       refine c_false rfl ?_
       refine c_skip ?_
       refine q_then ?_
       refine c_seq ?_
       refine (Classical.em (ok = true)).elim (fun ho => ?_) (fun ho => ?_)
       · -- ho True
        have hto2 : TellsOk s true (⟨o.f_Slot, o.f_Ballot, o.f_Value⟩ : VoS) := by rw [← ho]; exact hto
        have hle : s.pr ≤ x42.f_Ballot := by rw [hq, decide_eq_true_eq] at his; exact his
        obtain ⟨zs, hzs⟩ := hto2.list hle
        replace hzs : promLA s x42.f_Ballot o.f_Slot = (⟨o.f_Slot, o.f_Ballot, o.f_Value⟩ : VoS) :: zs := hzs
        have hln : (promLA s x42.f_Ballot o.f_Slot).length = zs.length + 1 := by rw [hzs]; rfl
        refine c_fact (p := ∃ ad, a52 = some ad) (rds_some (e := e_VoS) (xs := (promLA s x42.f_Ballot o.f_Slot)) (rds_own e_VoS_ok 0 rfl) (by rw [hzs]; simp)) ?_
        rintro ⟨ad9, ead9⟩
        refine c_quiet (by kernel_rfl) (by kernel_rfl) ?_
        refine Qt.o_val rfl (v_move rfl rfl) ?_
        refine Qt.l_eq (t := 69) (v' := .bool true) rfl (show _ = Value.bool true from by rw [hq]) ?_
        refine Qt.o_val rfl (v_move rfl rfl) ?_
        refine Qt.o_yes rfl rfl rfl ?_
        refine Qt.o_val rfl (v_move rfl rfl) ?_
        refine Qt.l_eq (t := 71) (v' := .bool true) rfl (show _ = Value.bool true from by rw [ho]) ?_
        refine Qt.o_val rfl (v_pick_true rfl rfl rfl) ?_
        refine Qt.o_val rfl (v_move rfl rfl) ?_
        refine Qt.o_yes rfl rfl rfl ?_
        refine Qt.o_val rfl (v_move rfl rfl) ?_
        refine Qt.o_yes rfl rfl rfl ?_
        refine Qt.o_val rfl (v_len rfl rfl Try.underlying32) ?_
        refine Qt.o_yes rfl rfl rfl ?_
        refine Qt.o_val rfl (v_bin rfl rfl rfl b_eql) ?_
        refine Qt.l_eq (t := 76) (v' := .bool false) rfl (show _ = Value.bool false from by rw [hzs, decide_eq_false (by rw [List.length_cons]; omega)]) ?_
        refine Qt.o_yes rfl rfl rfl ?_
        refine Qt.o_val rfl (v_move rfl rfl) ?_
        refine Qt.o_yes rfl rfl rfl ?_
        refine Qt.o_val rfl (v_move rfl rfl) ?_
        refine Qt.o_yes rfl rfl rfl ?_
        refine Qt.o_val rfl (v_indexK e_VoS_ok ead9 rfl rfl rfl Try.underlying32 (by omega) (by omega)) ?_
        obtain ⟨x79, hx79⟩ : ∃ x, ((promLA s x42.f_Ballot o.f_Slot))[((0 : Int)).toNat]? = some x := ⟨_, List.getElem?_eq_getElem (by omega)⟩
        have e79 : x79 = (⟨o.f_Slot, o.f_Ballot, o.f_Value⟩ : VoS) := by have h9 := hx79; rw [hzs] at h9; simpa using h9.symm
        refine Qt.o_yes rfl rfl rfl ?_
        refine Qt.o_val rfl (v_fieldAddr rfl rfl Try.underlying31 rfl ti3 (Addr.add_add' _ _ _)) ?_
        refine Qt.o_yes rfl rfl rfl ?_
        refine Qt.o_val rfl (v_load1 rfl rfl Try.underlying3 rfl (rd_sl e_VoS_ok ead9 (rds_own e_VoS_ok 0 rfl) hx79 rfl)) ?_
        refine Qt.o_yes rfl rfl rfl ?_
        refine Qt.o_val rfl (v_fieldAddr (q := ⟨b3, 2, none⟩) rfl rfl Try.underlying25 rfl ti3 rfl) ?_
        refine Qt.o_yes rfl rfl rfl ?_
        refine Qt.o_val rfl (v_load1 rfl rfl Try.underlying3 rfl (rd_mem 3 rfl rfl)) ?_
        refine Qt.o_yes rfl rfl rfl ?_
        refine Qt.o_val rfl (v_bin rfl rfl rfl b_neq) ?_
        refine Qt.l_eq (t := 84) (v' := .bool false) rfl (show _ = Value.bool false from by rw [e79]; simp) ?_
        refine Qt.o_yes rfl rfl rfl ?_
        refine Qt.o_val rfl (v_pick_false rfl rfl rfl) ?_
        refine Qt.o_yes rfl rfl rfl ?_
        refine Qt.o_val rfl (v_move rfl rfl) ?_
        refine Qt.o_yes rfl rfl rfl ?_
        refine Qt.o_val rfl (v_move rfl rfl) ?_
        refine Qt.o_yes rfl rfl rfl ?_
        refine Qt.o_val rfl (v_indexK e_VoS_ok ead9 rfl rfl rfl Try.underlying32 (by omega) (by omega)) ?_
        obtain ⟨x88, hx88⟩ : ∃ x, ((promLA s x42.f_Ballot o.f_Slot))[((0 : Int)).toNat]? = some x := ⟨_, List.getElem?_eq_getElem (by omega)⟩
        have e88 : x88 = (⟨o.f_Slot, o.f_Ballot, o.f_Value⟩ : VoS) := by have h9 := hx88; rw [hzs] at h9; simpa using h9.symm
        refine Qt.o_yes rfl rfl rfl ?_
        refine Qt.o_val rfl (v_fieldAddr rfl rfl Try.underlying31 rfl ti9 (Addr.add_add' _ _ _)) ?_
        refine Qt.o_yes rfl rfl rfl ?_
        refine Qt.o_val rfl (v_load1 rfl rfl Try.underlying9 rfl (rd_sl e_VoS_ok ead9 (rds_own e_VoS_ok 0 rfl) hx88 rfl)) ?_
        refine Qt.o_yes rfl rfl rfl ?_
        refine Qt.o_val rfl (v_fieldAddr (q := ⟨b3, 3, none⟩) rfl rfl Try.underlying25 rfl ti9 rfl) ?_
        refine Qt.o_yes rfl rfl rfl ?_
        refine Qt.o_val rfl (v_load1 rfl rfl Try.underlying9 rfl (rd_mem 3 rfl rfl)) ?_
        refine Qt.o_yes rfl rfl rfl ?_
        refine Qt.o_val rfl (v_bin rfl rfl rfl b_sneq) ?_
        refine Qt.l_eq (t := 93) (v' := .bool false) rfl (show _ = Value.bool false from by rw [e88]; simp) ?_
        refine Qt.o_yes rfl rfl rfl ?_
        refine Qt.o_val rfl (v_pick_false rfl rfl rfl) ?_
        refine Qt.o_yes rfl rfl rfl ?_
        refine Qt.o_val rfl (v_move rfl rfl) ?_
        refine Qt.o_yes rfl rfl rfl ?_
        refine Qt.o_val rfl (v_move rfl rfl) ?_
        refine Qt.o_yes rfl rfl rfl ?_
        refine Qt.o_val rfl (v_indexK e_VoS_ok ead9 rfl rfl rfl Try.underlying32 (by omega) (by omega)) ?_
        obtain ⟨x97, hx97⟩ : ∃ x, ((promLA s x42.f_Ballot o.f_Slot))[((0 : Int)).toNat]? = some x := ⟨_, List.getElem?_eq_getElem (by omega)⟩
        have e97 : x97 = (⟨o.f_Slot, o.f_Ballot, o.f_Value⟩ : VoS) := by have h9 := hx97; rw [hzs] at h9; simpa using h9.symm
        refine Qt.o_yes rfl rfl rfl ?_
        refine Qt.o_val rfl (v_fieldAddr rfl rfl Try.underlying31 rfl ti23 (Addr.add_add' _ _ _)) ?_
        refine Qt.o_yes rfl rfl rfl ?_
        refine Qt.o_val rfl (v_load1 rfl rfl Try.underlying23 rfl (rd_sl e_VoS_ok ead9 (rds_own e_VoS_ok 0 rfl) hx97 rfl)) ?_
        refine Qt.o_yes rfl rfl rfl ?_
        refine Qt.o_val rfl (v_fieldAddr (q := ⟨b3, 1, none⟩) rfl rfl Try.underlying25 rfl ti23 rfl) ?_
        refine Qt.o_yes rfl rfl rfl ?_
        refine Qt.o_val rfl (v_load1 rfl rfl Try.underlying23 rfl (rd_mem 3 rfl rfl)) ?_
        refine Qt.o_yes rfl rfl rfl ?_
        refine Qt.o_val rfl (v_bin rfl rfl rfl b_neq) ?_
        refine Qt.l_eq (t := 102) (v' := .bool false) rfl (show _ = Value.bool false from by rw [e97]; simp) ?_
        refine Qt.o_yes rfl rfl rfl ?_
        refine Qt.o_val rfl (v_pick_false rfl rfl rfl) ?_
        refine Qt.o_val rfl (v_pick_true rfl rfl rfl) ?_
        refine Qt.l_nil ?_
        refine q_then ?_
        refine c_false rfl ?_
        refine c_skip ?_
        refine q_block ?_
        refine q_then ?_
        refine c_region ?_
        refine o_bin rfl rfl rfl (b_add (wrap_i64 (by omega) (by omega))) ?_
        refine o_move rfl rfl ?_
        refine l_nil ?_
        refine q_conv (fun w S => S.tail) ?_
        refine q_conv (fun w S => (S.perm p1).tail) ?_
        exact q_round (i + 1, (promSA s x42.f_Ballot)) (by exact ⟨by omega, hto.prom⟩) (by (try dsimp only); omega) ⟨(by first | rfl | exact vint (by omega)), (by first | rfl | exact vint (by omega)), (by first | rfl | exact vint (by omega)), (by first | rfl | exact vint (by omega)), (by first | rfl | exact vint (by omega)), (by first | rfl | exact vint (by omega)), trivial⟩ (fun w S => S)
       · -- ho False
        refine c_quiet (by kernel_rfl) (by kernel_rfl) ?_
        refine Qt.o_val rfl (v_move rfl rfl) ?_
        refine Qt.l_eq (t := 69) (v' := .bool true) rfl (show _ = Value.bool true from by rw [hq]) ?_
        refine Qt.o_val rfl (v_move rfl rfl) ?_
        refine Qt.o_yes rfl rfl rfl ?_
        refine Qt.o_val rfl (v_move rfl rfl) ?_
        refine Qt.l_eq (t := 71) (v' := .bool false) rfl (show _ = Value.bool false from by rw [show ok = false from by simpa using ho]) ?_
        refine Qt.o_val rfl (v_pick_true rfl rfl rfl) ?_
        refine Qt.o_val rfl (v_move rfl rfl) ?_
        refine Qt.o_no rfl rfl rfl rfl ?_
        refine Qt.o_no rfl rfl rfl rfl ?_
        refine Qt.o_no rfl rfl rfl rfl ?_
        refine Qt.o_no rfl rfl rfl rfl ?_
        refine Qt.o_no rfl rfl rfl rfl ?_
        refine Qt.o_no rfl rfl rfl rfl ?_
        refine Qt.o_no rfl rfl rfl rfl ?_
        refine Qt.o_no rfl rfl rfl rfl ?_
        refine Qt.o_no rfl rfl rfl rfl ?_
        refine Qt.o_no rfl rfl rfl rfl ?_
        refine Qt.o_no rfl rfl rfl rfl ?_
        refine Qt.o_no rfl rfl rfl rfl ?_
        refine Qt.o_no rfl rfl rfl rfl ?_
        refine Qt.o_no rfl rfl rfl rfl ?_
        refine Qt.o_no rfl rfl rfl rfl ?_
        refine Qt.o_no rfl rfl rfl rfl ?_
        refine Qt.o_no rfl rfl rfl rfl ?_
        refine Qt.o_no rfl rfl rfl rfl ?_
        refine Qt.o_no rfl rfl rfl rfl ?_
        refine Qt.o_no rfl rfl rfl rfl ?_
        refine Qt.o_no rfl rfl rfl rfl ?_
        refine Qt.o_no rfl rfl rfl rfl ?_
        refine Qt.o_no rfl rfl rfl rfl ?_
        refine Qt.o_no rfl rfl rfl rfl ?_
        refine Qt.o_no rfl rfl rfl rfl ?_
        refine Qt.o_no rfl rfl rfl rfl ?_
        refine Qt.o_no rfl rfl rfl rfl ?_
        refine Qt.o_no rfl rfl rfl rfl ?_
        refine Qt.o_no rfl rfl rfl rfl ?_
        refine Qt.o_no rfl rfl rfl rfl ?_
        refine Qt.o_val rfl (v_pick_false rfl rfl rfl) ?_
        refine Qt.l_nil ?_
        refine q_then ?_
        refine c_false rfl ?_
        refine c_skip ?_
        refine q_block ?_
        refine q_then ?_
        refine c_region ?_
        refine o_bin rfl rfl rfl (b_add (wrap_i64 (by omega) (by omega))) ?_
        refine o_move rfl rfl ?_
        refine l_nil ?_
        refine q_conv (fun w S => S.tail) ?_
        refine q_conv (fun w S => (S.perm p1).tail) ?_
        exact q_round (i + 1, (promSA s x42.f_Ballot)) (by exact ⟨by omega, hto.prom⟩) (by (try dsimp only); omega) ⟨(by first | rfl | exact vint (by omega)), (by first | rfl | exact vint (by omega)), (by first | rfl | exact vint (by omega)), (by first | rfl | exact vint (by omega)), (by first | rfl | exact vint (by omega)), (by first | rfl | exact vint (by omega)), trivial⟩ (fun w S => S)
      · -- h11F
       have h11b := h11
       try simp only [decide_eq_false_iff_not, Int.not_lt, Int.not_le] at h11
       refine o_yes rfl rfl rfl ?_
       refine o_move rfl rfl ?_
       refine o_yes rfl rfl rfl ?_
       refine o_not rfl rfl ?_
       refine o_pick_false rfl rfl rfl ?_
       refine o_bin rfl rfl rfl (b_bne Try.underlying4 _ _) ?_
       refine l_eq (t := 65) (v' := .bool false) rfl (show _ = Value.bool false from by first | rfl | (rw [tells_rise hto (by rw [hq, decide_eq_true_eq] at his; exact his) (by show ¬ o.f_Ballot ≤ x42.f_Ballot; first | assumption | omega)] <;> rfl)) ?_
       refine o_move rfl rfl ?_
       refine o_no rfl rfl rfl rfl ?_
       refine o_pick_false rfl rfl rfl ?_
       refine l_nil ?_
       refine q_then ?_
       refine c_false rfl ?_
       refine c_skip ?_
       refine q_then ?_
       refine c_seq ?_
       refine (Classical.em (ok = true)).elim (fun ho => ?_) (fun ho => ?_)
       · -- ho True
        have hto2 : TellsOk s true (⟨o.f_Slot, o.f_Ballot, o.f_Value⟩ : VoS) := by rw [← ho]; exact hto
        have hle : s.pr ≤ x42.f_Ballot := by rw [hq, decide_eq_true_eq] at his; exact his
        obtain ⟨zs, hzs⟩ := hto2.list hle
        replace hzs : promLA s x42.f_Ballot o.f_Slot = (⟨o.f_Slot, o.f_Ballot, o.f_Value⟩ : VoS) :: zs := hzs
        have hln : (promLA s x42.f_Ballot o.f_Slot).length = zs.length + 1 := by rw [hzs]; rfl
        refine c_fact (p := ∃ ad, a52 = some ad) (rds_some (e := e_VoS) (xs := (promLA s x42.f_Ballot o.f_Slot)) (rds_own e_VoS_ok 0 rfl) (by rw [hzs]; simp)) ?_
        rintro ⟨ad9, ead9⟩
        refine c_quiet (by kernel_rfl) (by kernel_rfl) ?_
        refine Qt.o_val rfl (v_move rfl rfl) ?_
        refine Qt.l_eq (t := 69) (v' := .bool true) rfl (show _ = Value.bool true from by rw [hq]) ?_
        refine Qt.o_val rfl (v_move rfl rfl) ?_
        refine Qt.o_yes rfl rfl rfl ?_
        refine Qt.o_val rfl (v_move rfl rfl) ?_
        refine Qt.l_eq (t := 71) (v' := .bool true) rfl (show _ = Value.bool true from by rw [ho]) ?_
        refine Qt.o_val rfl (v_pick_true rfl rfl rfl) ?_
        refine Qt.o_val rfl (v_move rfl rfl) ?_
        refine Qt.o_yes rfl rfl rfl ?_
        refine Qt.o_val rfl (v_move rfl rfl) ?_
        refine Qt.o_yes rfl rfl rfl ?_
        refine Qt.o_val rfl (v_len rfl rfl Try.underlying32) ?_
        refine Qt.o_yes rfl rfl rfl ?_
        refine Qt.o_val rfl (v_bin rfl rfl rfl b_eql) ?_
        refine Qt.l_eq (t := 76) (v' := .bool false) rfl (show _ = Value.bool false from by rw [hzs, decide_eq_false (by rw [List.length_cons]; omega)]) ?_
        refine Qt.o_yes rfl rfl rfl ?_
        refine Qt.o_val rfl (v_move rfl rfl) ?_
        refine Qt.o_yes rfl rfl rfl ?_
        refine Qt.o_val rfl (v_move rfl rfl) ?_
        refine Qt.o_yes rfl rfl rfl ?_
        refine Qt.o_val rfl (v_indexK e_VoS_ok ead9 rfl rfl rfl Try.underlying32 (by omega) (by omega)) ?_
        obtain ⟨x79, hx79⟩ : ∃ x, ((promLA s x42.f_Ballot o.f_Slot))[((0 : Int)).toNat]? = some x := ⟨_, List.getElem?_eq_getElem (by omega)⟩
        have e79 : x79 = (⟨o.f_Slot, o.f_Ballot, o.f_Value⟩ : VoS) := by have h9 := hx79; rw [hzs] at h9; simpa using h9.symm
        refine Qt.o_yes rfl rfl rfl ?_
        refine Qt.o_val rfl (v_fieldAddr rfl rfl Try.underlying31 rfl ti3 (Addr.add_add' _ _ _)) ?_
        refine Qt.o_yes rfl rfl rfl ?_
        refine Qt.o_val rfl (v_load1 rfl rfl Try.underlying3 rfl (rd_sl e_VoS_ok ead9 (rds_own e_VoS_ok 0 rfl) hx79 rfl)) ?_
        refine Qt.o_yes rfl rfl rfl ?_
        refine Qt.o_val rfl (v_fieldAddr (q := ⟨b3, 2, none⟩) rfl rfl Try.underlying25 rfl ti3 rfl) ?_
        refine Qt.o_yes rfl rfl rfl ?_
        refine Qt.o_val rfl (v_load1 rfl rfl Try.underlying3 rfl (rd_mem 3 rfl rfl)) ?_
        refine Qt.o_yes rfl rfl rfl ?_
        refine Qt.o_val rfl (v_bin rfl rfl rfl b_neq) ?_
        refine Qt.l_eq (t := 84) (v' := .bool false) rfl (show _ = Value.bool false from by rw [e79]; simp) ?_
        refine Qt.o_yes rfl rfl rfl ?_
        refine Qt.o_val rfl (v_pick_false rfl rfl rfl) ?_
        refine Qt.o_yes rfl rfl rfl ?_
        refine Qt.o_val rfl (v_move rfl rfl) ?_
        refine Qt.o_yes rfl rfl rfl ?_
        refine Qt.o_val rfl (v_move rfl rfl) ?_
        refine Qt.o_yes rfl rfl rfl ?_
        refine Qt.o_val rfl (v_indexK e_VoS_ok ead9 rfl rfl rfl Try.underlying32 (by omega) (by omega)) ?_
        obtain ⟨x88, hx88⟩ : ∃ x, ((promLA s x42.f_Ballot o.f_Slot))[((0 : Int)).toNat]? = some x := ⟨_, List.getElem?_eq_getElem (by omega)⟩
        have e88 : x88 = (⟨o.f_Slot, o.f_Ballot, o.f_Value⟩ : VoS) := by have h9 := hx88; rw [hzs] at h9; simpa using h9.symm
        refine Qt.o_yes rfl rfl rfl ?_
        refine Qt.o_val rfl (v_fieldAddr rfl rfl Try.underlying31 rfl ti9 (Addr.add_add' _ _ _)) ?_
        refine Qt.o_yes rfl rfl rfl ?_
        refine Qt.o_val rfl (v_load1 rfl rfl Try.underlying9 rfl (rd_sl e_VoS_ok ead9 (rds_own e_VoS_ok 0 rfl) hx88 rfl)) ?_
        refine Qt.o_yes rfl rfl rfl ?_
        refine Qt.o_val rfl (v_fieldAddr (q := ⟨b3, 3, none⟩) rfl rfl Try.underlying25 rfl ti9 rfl) ?_
        refine Qt.o_yes rfl rfl rfl ?_
        refine Qt.o_val rfl (v_load1 rfl rfl Try.underlying9 rfl (rd_mem 3 rfl rfl)) ?_
        refine Qt.o_yes rfl rfl rfl ?_
        refine Qt.o_val rfl (v_bin rfl rfl rfl b_sneq) ?_
        refine Qt.l_eq (t := 93) (v' := .bool false) rfl (show _ = Value.bool false from by rw [e88]; simp) ?_
        refine Qt.o_yes rfl rfl rfl ?_
        refine Qt.o_val rfl (v_pick_false rfl rfl rfl) ?_
        refine Qt.o_yes rfl rfl rfl ?_
        refine Qt.o_val rfl (v_move rfl rfl) ?_
        refine Qt.o_yes rfl rfl rfl ?_
        refine Qt.o_val rfl (v_move rfl rfl) ?_
        refine Qt.o_yes rfl rfl rfl ?_
        refine Qt.o_val rfl (v_indexK e_VoS_ok ead9 rfl rfl rfl Try.underlying32 (by omega) (by omega)) ?_
        obtain ⟨x97, hx97⟩ : ∃ x, ((promLA s x42.f_Ballot o.f_Slot))[((0 : Int)).toNat]? = some x := ⟨_, List.getElem?_eq_getElem (by omega)⟩
        have e97 : x97 = (⟨o.f_Slot, o.f_Ballot, o.f_Value⟩ : VoS) := by have h9 := hx97; rw [hzs] at h9; simpa using h9.symm
        refine Qt.o_yes rfl rfl rfl ?_
        refine Qt.o_val rfl (v_fieldAddr rfl rfl Try.underlying31 rfl ti23 (Addr.add_add' _ _ _)) ?_
        refine Qt.o_yes rfl rfl rfl ?_
        refine Qt.o_val rfl (v_load1 rfl rfl Try.underlying23 rfl (rd_sl e_VoS_ok ead9 (rds_own e_VoS_ok 0 rfl) hx97 rfl)) ?_
        refine Qt.o_yes rfl rfl rfl ?_
        refine Qt.o_val rfl (v_fieldAddr (q := ⟨b3, 1, none⟩) rfl rfl Try.underlying25 rfl ti23 rfl) ?_
        refine Qt.o_yes rfl rfl rfl ?_
        refine Qt.o_val rfl (v_load1 rfl rfl Try.underlying23 rfl (rd_mem 3 rfl rfl)) ?_
        refine Qt.o_yes rfl rfl rfl ?_
        refine Qt.o_val rfl (v_bin rfl rfl rfl b_neq) ?_
        refine Qt.l_eq (t := 102) (v' := .bool false) rfl (show _ = Value.bool false from by rw [e97]; simp) ?_
        refine Qt.o_yes rfl rfl rfl ?_
        refine Qt.o_val rfl (v_pick_false rfl rfl rfl) ?_
        refine Qt.o_val rfl (v_pick_true rfl rfl rfl) ?_
        refine Qt.l_nil ?_
        refine q_then ?_
        refine c_false rfl ?_
        refine c_skip ?_
        refine q_block ?_
        refine q_then ?_
        refine c_region ?_
        refine o_bin rfl rfl rfl (b_add (wrap_i64 (by omega) (by omega))) ?_
        refine o_move rfl rfl ?_
        refine l_nil ?_
        refine q_conv (fun w S => S.tail) ?_
        refine q_conv (fun w S => (S.perm p1).tail) ?_
        exact q_round (i + 1, (promSA s x42.f_Ballot)) (by exact ⟨by omega, hto.prom⟩) (by (try dsimp only); omega) ⟨(by first | rfl | exact vint (by omega)), (by first | rfl | exact vint (by omega)), (by first | rfl | exact vint (by omega)), (by first | rfl | exact vint (by omega)), (by first | rfl | exact vint (by omega)), (by first | rfl | exact vint (by omega)), trivial⟩ (fun w S => S)
       · -- ho False
        refine c_quiet (by kernel_rfl) (by kernel_rfl) ?_
        refine Qt.o_val rfl (v_move rfl rfl) ?_
        refine Qt.l_eq (t := 69) (v' := .bool true) rfl (show _ = Value.bool true from by rw [hq]) ?_
        refine Qt.o_val rfl (v_move rfl rfl) ?_
        refine Qt.o_yes rfl rfl rfl ?_
        refine Qt.o_val rfl (v_move rfl rfl) ?_
        refine Qt.l_eq (t := 71) (v' := .bool false) rfl (show _ = Value.bool false from by rw [show ok = false from by simpa using ho]) ?_
        refine Qt.o_val rfl (v_pick_true rfl rfl rfl) ?_
        refine Qt.o_val rfl (v_move rfl rfl) ?_
        refine Qt.o_no rfl rfl rfl rfl ?_
        refine Qt.o_no rfl rfl rfl rfl ?_
        refine Qt.o_no rfl rfl rfl rfl ?_
        refine Qt.o_no rfl rfl rfl rfl ?_
        refine Qt.o_no rfl rfl rfl rfl ?_
        refine Qt.o_no rfl rfl rfl rfl ?_
        refine Qt.o_no rfl rfl rfl rfl ?_
        refine Qt.o_no rfl rfl rfl rfl ?_
        refine Qt.o_no rfl rfl rfl rfl ?_
        refine Qt.o_no rfl rfl rfl rfl ?_
        refine Qt.o_no rfl rfl rfl rfl ?_
        refine Qt.o_no rfl rfl rfl rfl ?_
        refine Qt.o_no rfl rfl rfl rfl ?_
        refine Qt.o_no rfl rfl rfl rfl ?_
        refine Qt.o_no rfl rfl rfl rfl ?_
        refine Qt.o_no rfl rfl rfl rfl ?_
        refine Qt.o_no rfl rfl rfl rfl ?_
        refine Qt.o_no rfl rfl rfl rfl ?_
        refine Qt.o_no rfl rfl rfl rfl ?_
        refine Qt.o_no rfl rfl rfl rfl ?_
        refine Qt.o_no rfl rfl rfl rfl ?_
        refine Qt.o_no rfl rfl rfl rfl ?_
        refine Qt.o_no rfl rfl rfl rfl ?_
        refine Qt.o_no rfl rfl rfl rfl ?_
        refine Qt.o_no rfl rfl rfl rfl ?_
        refine Qt.o_no rfl rfl rfl rfl ?_
        refine Qt.o_no rfl rfl rfl rfl ?_
        refine Qt.o_no rfl rfl rfl rfl ?_
        refine Qt.o_no rfl rfl rfl rfl ?_
        refine Qt.o_no rfl rfl rfl rfl ?_
        refine Qt.o_val rfl (v_pick_false rfl rfl rfl) ?_
        refine Qt.l_nil ?_
        refine q_then ?_
        refine c_false rfl ?_
        refine c_skip ?_
        refine q_block ?_
        refine q_then ?_
        refine c_region ?_
        refine o_bin rfl rfl rfl (b_add (wrap_i64 (by omega) (by omega))) ?_
        refine o_move rfl rfl ?_
        refine l_nil ?_
        refine q_conv (fun w S => S.tail) ?_
        refine q_conv (fun w S => (S.perm p1).tail) ?_
        exact q_round (i + 1, (promSA s x42.f_Ballot)) (by exact ⟨by omega, hto.prom⟩) (by (try dsimp only); omega) ⟨(by first | rfl | exact vint (by omega)), (by first | rfl | exact vint (by omega)), (by first | rfl | exact vint (by omega)), (by first | rfl | exact vint (by omega)), (by first | rfl | exact vint (by omega)), (by first | rfl | exact vint (by omega)), trivial⟩ (fun w S => S)
     · -- hq False
      refine c_region ?_
      refine o_move rfl rfl ?_
      refine l_eq (t := 55) (v' := .bool false) rfl (show _ = Value.bool false from by rw [show is = false from by simpa using hq]) ?_
      refine o_fieldAddr (q := ⟨b8, 1, none⟩) rfl rfl Try.underlying25 rfl ti23 rfl ?_
      refine o_load1 rfl rfl Try.underlying23 rfl (rd_mem 2 rfl rfl) ?_
      refine o_fieldAddr (q := ⟨b3, 1, none⟩) rfl rfl Try.underlying25 rfl ti23 rfl ?_
      refine o_load1 rfl rfl Try.underlying23 rfl (rd_mem 3 rfl rfl) ?_
      refine o_bin rfl rfl rfl b_geq ?_
      refine o_move rfl rfl ?_
      refine l_split (t := 61) rfl (fun h12 => ?_) (fun h12 => ?_)
      · -- h12T
       have h12b := h12
       try simp only [decide_eq_true_eq] at h12
       refine o_no rfl rfl rfl rfl ?_
       refine o_no rfl rfl rfl rfl ?_
       refine o_pick_true rfl rfl rfl ?_
       refine o_bin rfl rfl rfl (b_bne Try.underlying4 _ _) ?_
       refine o_move rfl rfl ?_
       refine o_yes rfl rfl rfl ?_
       refine o_move rfl rfl ?_
       refine l_eq (t := 67) (v' := .bool false) rfl (show _ = Value.bool false from by rw [show is = false from by simpa using hq]) ?_
       refine o_pick_true rfl rfl rfl ?_
       refine l_nil ?_
       refine q_then ?_
       refine c_false rfl ?_
       refine c_skip ?_
       refine q_then ?_
       refine c_seq ?_
       refine (Classical.em (ok = true)).elim (fun ho => ?_) (fun ho => ?_)
       · -- ho True
        refine c_quiet (by kernel_rfl) (by kernel_rfl) ?_
        refine Qt.o_val rfl (v_move rfl rfl) ?_
        refine Qt.l_eq (t := 69) (v' := .bool false) rfl (show _ = Value.bool false from by rw [show is = false from by simpa using hq]) ?_
        refine Qt.o_val rfl (v_move rfl rfl) ?_
        refine Qt.o_no rfl rfl rfl rfl ?_
        refine Qt.o_val rfl (v_pick_false rfl rfl rfl) ?_
        refine Qt.o_val rfl (v_move rfl rfl) ?_
        refine Qt.o_no rfl rfl rfl rfl ?_
        refine Qt.o_no rfl rfl rfl rfl ?_
        refine Qt.o_no rfl rfl rfl rfl ?_
        refine Qt.o_no rfl rfl rfl rfl ?_
        refine Qt.o_no rfl rfl rfl rfl ?_
        refine Qt.o_no rfl rfl rfl rfl ?_
        refine Qt.o_no rfl rfl rfl rfl ?_
        refine Qt.o_no rfl rfl rfl rfl ?_
        refine Qt.o_no rfl rfl rfl rfl ?_
        refine Qt.o_no rfl rfl rfl rfl ?_
        refine Qt.o_no rfl rfl rfl rfl ?_
        refine Qt.o_no rfl rfl rfl rfl ?_
        refine Qt.o_no rfl rfl rfl rfl ?_
        refine Qt.o_no rfl rfl rfl rfl ?_
        refine Qt.o_no rfl rfl rfl rfl ?_
        refine Qt.o_no rfl rfl rfl rfl ?_
        refine Qt.o_no rfl rfl rfl rfl ?_
        refine Qt.o_no rfl rfl rfl rfl ?_
        refine Qt.o_no rfl rfl rfl rfl ?_
        refine Qt.o_no rfl rfl rfl rfl ?_
        refine Qt.o_no rfl rfl rfl rfl ?_
        refine Qt.o_no rfl rfl rfl rfl ?_
        refine Qt.o_no rfl rfl rfl rfl ?_
        refine Qt.o_no rfl rfl rfl rfl ?_
        refine Qt.o_no rfl rfl rfl rfl ?_
        refine Qt.o_no rfl rfl rfl rfl ?_
        refine Qt.o_no rfl rfl rfl rfl ?_
        refine Qt.o_no rfl rfl rfl rfl ?_
        refine Qt.o_no rfl rfl rfl rfl ?_
        refine Qt.o_no rfl rfl rfl rfl ?_
        refine Qt.o_val rfl (v_pick_false rfl rfl rfl) ?_
        refine Qt.l_nil ?_
        refine q_then ?_
        refine c_false rfl ?_
        refine c_skip ?_
        refine q_block ?_
        refine q_then ?_
        refine c_region ?_
        refine o_bin rfl rfl rfl (b_add (wrap_i64 (by omega) (by omega))) ?_
        refine o_move rfl rfl ?_
        refine l_nil ?_
        refine q_conv (fun w S => S.tail) ?_
        refine q_conv (fun w S => (S.perm p1).tail) ?_
        exact q_round (i + 1, (promSA s x42.f_Ballot)) (by exact ⟨by omega, hto.prom⟩) (by (try dsimp only); omega) ⟨(by first | rfl | exact vint (by omega)), (by first | rfl | exact vint (by omega)), (by first | rfl | exact vint (by omega)), (by first | rfl | exact vint (by omega)), (by first | rfl | exact vint (by omega)), (by first | rfl | exact vint (by omega)), trivial⟩ (fun w S => S)
       · -- ho False
        refine c_quiet (by kernel_rfl) (by kernel_rfl) ?_
        refine Qt.o_val rfl (v_move rfl rfl) ?_
        refine Qt.l_eq (t := 69) (v' := .bool false) rfl (show _ = Value.bool false from by rw [show is = false from by simpa using hq]) ?_
        refine Qt.o_val rfl (v_move rfl rfl) ?_
        refine Qt.o_no rfl rfl rfl rfl ?_
        refine Qt.o_val rfl (v_pick_false rfl rfl rfl) ?_
        refine Qt.o_val rfl (v_move rfl rfl) ?_
        refine Qt.o_no rfl rfl rfl rfl ?_
        refine Qt.o_no rfl rfl rfl rfl ?_
        refine Qt.o_no rfl rfl rfl rfl ?_
        refine Qt.o_no rfl rfl rfl rfl ?_
        refine Qt.o_no rfl rfl rfl rfl ?_
        refine Qt.o_no rfl rfl rfl rfl ?_
        refine Qt.o_no rfl rfl rfl rfl ?_
        refine Qt.o_no rfl rfl rfl rfl ?_
        refine Qt.o_no rfl rfl rfl rfl ?_
        refine Qt.o_no rfl rfl rfl rfl ?_
        refine Qt.o_no rfl rfl rfl rfl ?_
        refine Qt.o_no rfl rfl rfl rfl ?_
        refine Qt.o_no rfl rfl rfl rfl ?_
        refine Qt.o_no rfl rfl rfl rfl ?_
        refine Qt.o_no rfl rfl rfl rfl ?_
        refine Qt.o_no rfl rfl rfl rfl ?_
        refine Qt.o_no rfl rfl rfl rfl ?_
        refine Qt.o_no rfl rfl rfl rfl ?_
        refine Qt.o_no rfl rfl rfl rfl ?_
        refine Qt.o_no rfl rfl rfl rfl ?_
        refine Qt.o_no rfl rfl rfl rfl ?_
        refine Qt.o_no rfl rfl rfl rfl ?_
        refine Qt.o_no rfl rfl rfl rfl ?_
        refine Qt.o_no rfl rfl rfl rfl ?_
        refine Qt.o_no rfl rfl rfl rfl ?_
        refine Qt.o_no rfl rfl rfl rfl ?_
        refine Qt.o_no rfl rfl rfl rfl ?_
        refine Qt.o_no rfl rfl rfl rfl ?_
        refine Qt.o_no rfl rfl rfl rfl ?_
        refine Qt.o_no rfl rfl rfl rfl ?_
        refine Qt.o_val rfl (v_pick_false rfl rfl rfl) ?_
        refine Qt.l_nil ?_
        refine q_then ?_
        refine c_false rfl ?_
        refine c_skip ?_
        refine q_block ?_
        refine q_then ?_
        refine c_region ?_
        refine o_bin rfl rfl rfl (b_add (wrap_i64 (by omega) (by omega))) ?_
        refine o_move rfl rfl ?_
        refine l_nil ?_
        refine q_conv (fun w S => S.tail) ?_
        refine q_conv (fun w S => (S.perm p1).tail) ?_
        exact q_round (i + 1, (promSA s x42.f_Ballot)) (by exact ⟨by omega, hto.prom⟩) (by (try dsimp only); omega) ⟨(by first | rfl | exact vint (by omega)), (by first | rfl | exact vint (by omega)), (by first | rfl | exact vint (by omega)), (by first | rfl | exact vint (by omega)), (by first | rfl | exact vint (by omega)), (by first | rfl | exact vint (by omega)), trivial⟩ (fun w S => S)
      · -- h12F
       have h12b := h12
       try simp only [decide_eq_false_iff_not, Int.not_lt, Int.not_le] at h12
       refine o_yes rfl rfl rfl ?_
       refine o_move rfl rfl ?_
       refine o_yes rfl rfl rfl ?_
       refine o_not rfl rfl ?_
       refine o_pick_false rfl rfl rfl ?_
       refine o_bin rfl rfl rfl (b_bne Try.underlying4 _ _) ?_
       refine o_move rfl rfl ?_
       refine l_split (t := 66) rfl (fun h13 => ?_) (fun h13 => ?_)
       · -- h13T
        have h13b := h13
        try simp only [decide_eq_true_eq, decide_eq_false_iff_not, Bool.not_eq_eq_eq_not, Bool.not_true, Bool.not_false, Bool.not_eq_true', Bool.not_eq_false', Int.not_lt, Int.not_le, Bool.or_eq_true, Bool.and_eq_true] at h13
        refine o_yes rfl rfl rfl ?_
        refine o_move rfl rfl ?_
        refine l_eq (t := 67) (v' := .bool false) rfl (show _ = Value.bool false from by rw [show is = false from by simpa using hq]) ?_
        refine o_pick_true rfl rfl rfl ?_
        refine l_nil ?_
        refine q_then ?_
        refine c_false rfl ?_
        refine c_skip ?_
        refine q_then ?_
        refine c_seq ?_
        refine (Classical.em (ok = true)).elim (fun ho => ?_) (fun ho => ?_)
        · -- ho True
         refine c_quiet (by kernel_rfl) (by kernel_rfl) ?_
         refine Qt.o_val rfl (v_move rfl rfl) ?_
         refine Qt.l_eq (t := 69) (v' := .bool false) rfl (show _ = Value.bool false from by rw [show is = false from by simpa using hq]) ?_
         refine Qt.o_val rfl (v_move rfl rfl) ?_
         refine Qt.o_no rfl rfl rfl rfl ?_
         refine Qt.o_val rfl (v_pick_false rfl rfl rfl) ?_
         refine Qt.o_val rfl (v_move rfl rfl) ?_
         refine Qt.o_no rfl rfl rfl rfl ?_
         refine Qt.o_no rfl rfl rfl rfl ?_
         refine Qt.o_no rfl rfl rfl rfl ?_
         refine Qt.o_no rfl rfl rfl rfl ?_
         refine Qt.o_no rfl rfl rfl rfl ?_
         refine Qt.o_no rfl rfl rfl rfl ?_
         refine Qt.o_no rfl rfl rfl rfl ?_
         refine Qt.o_no rfl rfl rfl rfl ?_
         refine Qt.o_no rfl rfl rfl rfl ?_
         refine Qt.o_no rfl rfl rfl rfl ?_
         refine Qt.o_no rfl rfl rfl rfl ?_
         refine Qt.o_no rfl rfl rfl rfl ?_
         refine Qt.o_no rfl rfl rfl rfl ?_
         refine Qt.o_no rfl rfl rfl rfl ?_
         refine Qt.o_no rfl rfl rfl rfl ?_
         refine Qt.o_no rfl rfl rfl rfl ?_
         refine Qt.o_no rfl rfl rfl rfl ?_
         refine Qt.o_no rfl rfl rfl rfl ?_
         refine Qt.o_no rfl rfl rfl rfl ?_
         refine Qt.o_no rfl rfl rfl rfl ?_
         refine Qt.o_no rfl rfl rfl rfl ?_
         refine Qt.o_no rfl rfl rfl rfl ?_
         refine Qt.o_no rfl rfl rfl rfl ?_
         refine Qt.o_no rfl rfl rfl rfl ?_
         refine Qt.o_no rfl rfl rfl rfl ?_
         refine Qt.o_no rfl rfl rfl rfl ?_
         refine Qt.o_no rfl rfl rfl rfl ?_
         refine Qt.o_no rfl rfl rfl rfl ?_
         refine Qt.o_no rfl rfl rfl rfl ?_
         refine Qt.o_no rfl rfl rfl rfl ?_
         refine Qt.o_val rfl (v_pick_false rfl rfl rfl) ?_
         refine Qt.l_nil ?_
         refine q_then ?_
         refine c_false rfl ?_
         refine c_skip ?_
         refine q_block ?_
         refine q_then ?_
         refine c_region ?_
         refine o_bin rfl rfl rfl (b_add (wrap_i64 (by omega) (by omega))) ?_
         refine o_move rfl rfl ?_
         refine l_nil ?_
         refine q_conv (fun w S => S.tail) ?_
         refine q_conv (fun w S => (S.perm p1).tail) ?_
         exact q_round (i + 1, (promSA s x42.f_Ballot)) (by exact ⟨by omega, hto.prom⟩) (by (try dsimp only); omega) ⟨(by first | rfl | exact vint (by omega)), (by first | rfl | exact vint (by omega)), (by first | rfl | exact vint (by omega)), (by first | rfl | exact vint (by omega)), (by first | rfl | exact vint (by omega)), (by first | rfl | exact vint (by omega)), trivial⟩ (fun w S => S)
        · -- ho False
         refine c_quiet (by kernel_rfl) (by kernel_rfl) ?_
         refine Qt.o_val rfl (v_move rfl rfl) ?_
         refine Qt.l_eq (t := 69) (v' := .bool false) rfl (show _ = Value.bool false from by rw [show is = false from by simpa using hq]) ?_
         refine Qt.o_val rfl (v_move rfl rfl) ?_
         refine Qt.o_no rfl rfl rfl rfl ?_
         refine Qt.o_val rfl (v_pick_false rfl rfl rfl) ?_
         refine Qt.o_val rfl (v_move rfl rfl) ?_
         refine Qt.o_no rfl rfl rfl rfl ?_
         refine Qt.o_no rfl rfl rfl rfl ?_
         refine Qt.o_no rfl rfl rfl rfl ?_
         refine Qt.o_no rfl rfl rfl rfl ?_
         refine Qt.o_no rfl rfl rfl rfl ?_
         refine Qt.o_no rfl rfl rfl rfl ?_
         refine Qt.o_no rfl rfl rfl rfl ?_
         refine Qt.o_no rfl rfl rfl rfl ?_
         refine Qt.o_no rfl rfl rfl rfl ?_
         refine Qt.o_no rfl rfl rfl rfl ?_
         refine Qt.o_no rfl rfl rfl rfl ?_
         refine Qt.o_no rfl rfl rfl rfl ?_
         refine Qt.o_no rfl rfl rfl rfl ?_
         refine Qt.o_no rfl rfl rfl rfl ?_
         refine Qt.o_no rfl rfl rfl rfl ?_
         refine Qt.o_no rfl rfl rfl rfl ?_
         refine Qt.o_no rfl rfl rfl rfl ?_
         refine Qt.o_no rfl rfl rfl rfl ?_
         refine Qt.o_no rfl rfl rfl rfl ?_
         refine Qt.o_no rfl rfl rfl rfl ?_
         refine Qt.o_no rfl rfl rfl rfl ?_
         refine Qt.o_no rfl rfl rfl rfl ?_
         refine Qt.o_no rfl rfl rfl rfl ?_
         refine Qt.o_no rfl rfl rfl rfl ?_
         refine Qt.o_no rfl rfl rfl rfl ?_
         refine Qt.o_no rfl rfl rfl rfl ?_
         refine Qt.o_no rfl rfl rfl rfl ?_
         refine Qt.o_no rfl rfl rfl rfl ?_
         refine Qt.o_no rfl rfl rfl rfl ?_
         refine Qt.o_no rfl rfl rfl rfl ?_
         refine Qt.o_val rfl (v_pick_false rfl rfl rfl) ?_
         refine Qt.l_nil ?_
         refine q_then ?_
         refine c_false rfl ?_
         refine c_skip ?_
         refine q_block ?_
         refine q_then ?_
         refine c_region ?_
         refine o_bin rfl rfl rfl (b_add (wrap_i64 (by omega) (by omega))) ?_
         refine o_move rfl rfl ?_
         refine l_nil ?_
         refine q_conv (fun w S => S.tail) ?_
         refine q_conv (fun w S => (S.perm p1).tail) ?_
         exact q_round (i + 1, (promSA s x42.f_Ballot)) (by exact ⟨by omega, hto.prom⟩) (by (try dsimp only); omega) ⟨(by first | rfl | exact vint (by omega)), (by first | rfl | exact vint (by omega)), (by first | rfl | exact vint (by omega)), (by first | rfl | exact vint (by omega)), (by first | rfl | exact vint (by omega)), (by first | rfl | exact vint (by omega)), trivial⟩ (fun w S => S)
       · -- h13F
        have h13b := h13
        try simp only [decide_eq_true_eq, decide_eq_false_iff_not, Bool.not_eq_eq_eq_not, Bool.not_true, Bool.not_false, Bool.not_eq_true', Bool.not_eq_false', Int.not_lt, Int.not_le, Bool.or_eq_true, Bool.and_eq_true] at h13
        refine o_no rfl rfl rfl rfl ?_
        refine o_pick_false rfl rfl rfl ?_
        refine l_nil ?_
        refine q_then ?_
        refine c_false rfl ?_
        refine c_skip ?_
        refine q_then ?_
        refine c_seq ?_
        refine (Classical.em (ok = true)).elim (fun ho => ?_) (fun ho => ?_)
        · -- ho True
         refine c_quiet (by kernel_rfl) (by kernel_rfl) ?_
         refine Qt.o_val rfl (v_move rfl rfl) ?_
         refine Qt.l_eq (t := 69) (v' := .bool false) rfl (show _ = Value.bool false from by rw [show is = false from by simpa using hq]) ?_
         refine Qt.o_val rfl (v_move rfl rfl) ?_
         refine Qt.o_no rfl rfl rfl rfl ?_
         refine Qt.o_val rfl (v_pick_false rfl rfl rfl) ?_
         refine Qt.o_val rfl (v_move rfl rfl) ?_
         refine Qt.o_no rfl rfl rfl rfl ?_
         refine Qt.o_no rfl rfl rfl rfl ?_
         refine Qt.o_no rfl rfl rfl rfl ?_
         refine Qt.o_no rfl rfl rfl rfl ?_
         refine Qt.o_no rfl rfl rfl rfl ?_
         refine Qt.o_no rfl rfl rfl rfl ?_
         refine Qt.o_no rfl rfl rfl rfl ?_
         refine Qt.o_no rfl rfl rfl rfl ?_
         refine Qt.o_no rfl rfl rfl rfl ?_
         refine Qt.o_no rfl rfl rfl rfl ?_
         refine Qt.o_no rfl rfl rfl rfl ?_
         refine Qt.o_no rfl rfl rfl rfl ?_
         refine Qt.o_no rfl rfl rfl rfl ?_
         refine Qt.o_no rfl rfl rfl rfl ?_
         refine Qt.o_no rfl rfl rfl rfl ?_
         refine Qt.o_no rfl rfl rfl rfl ?_
         refine Qt.o_no rfl rfl rfl rfl ?_
         refine Qt.o_no rfl rfl rfl rfl ?_
         refine Qt.o_no rfl rfl rfl rfl ?_
         refine Qt.o_no rfl rfl rfl rfl ?_
         refine Qt.o_no rfl rfl rfl rfl ?_
         refine Qt.o_no rfl rfl rfl rfl ?_
         refine Qt.o_no rfl rfl rfl rfl ?_
         refine Qt.o_no rfl rfl rfl rfl ?_
         refine Qt.o_no rfl rfl rfl rfl ?_
         refine Qt.o_no rfl rfl rfl rfl ?_
         refine Qt.o_no rfl rfl rfl rfl ?_
         refine Qt.o_no rfl rfl rfl rfl ?_
         refine Qt.o_no rfl rfl rfl rfl ?_
         refine Qt.o_no rfl rfl rfl rfl ?_
         refine Qt.o_val rfl (v_pick_false rfl rfl rfl) ?_
         refine Qt.l_nil ?_
         refine q_then ?_
         refine c_false rfl ?_
         refine c_skip ?_
         refine q_block ?_
         refine q_then ?_
         refine c_region ?_
         refine o_bin rfl rfl rfl (b_add (wrap_i64 (by omega) (by omega))) ?_
         refine o_move rfl rfl ?_
         refine l_nil ?_
         refine q_conv (fun w S => S.tail) ?_
         refine q_conv (fun w S => (S.perm p1).tail) ?_
         exact q_round (i + 1, (promSA s x42.f_Ballot)) (by exact ⟨by omega, hto.prom⟩) (by (try dsimp only); omega) ⟨(by first | rfl | exact vint (by omega)), (by first | rfl | exact vint (by omega)), (by first | rfl | exact vint (by omega)), (by first | rfl | exact vint (by omega)), (by first | rfl | exact vint (by omega)), (by first | rfl | exact vint (by omega)), trivial⟩ (fun w S => S)
        · -- ho False
         refine c_quiet (by kernel_rfl) (by kernel_rfl) ?_
         refine Qt.o_val rfl (v_move rfl rfl) ?_
         refine Qt.l_eq (t := 69) (v' := .bool false) rfl (show _ = Value.bool false from by rw [show is = false from by simpa using hq]) ?_
         refine Qt.o_val rfl (v_move rfl rfl) ?_
         refine Qt.o_no rfl rfl rfl rfl ?_
         refine Qt.o_val rfl (v_pick_false rfl rfl rfl) ?_
         refine Qt.o_val rfl (v_move rfl rfl) ?_
         refine Qt.o_no rfl rfl rfl rfl ?_
         refine Qt.o_no rfl rfl rfl rfl ?_
         refine Qt.o_no rfl rfl rfl rfl ?_
         refine Qt.o_no rfl rfl rfl rfl ?_
         refine Qt.o_no rfl rfl rfl rfl ?_
         refine Qt.o_no rfl rfl rfl rfl ?_
         refine Qt.o_no rfl rfl rfl rfl ?_
         refine Qt.o_no rfl rfl rfl rfl ?_
         refine Qt.o_no rfl rfl rfl rfl ?_
         refine Qt.o_no rfl rfl rfl rfl ?_
         refine Qt.o_no rfl rfl rfl rfl ?_
         refine Qt.o_no rfl rfl rfl rfl ?_
         refine Qt.o_no rfl rfl rfl rfl ?_
         refine Qt.o_no rfl rfl rfl rfl ?_
         refine Qt.o_no rfl rfl rfl rfl ?_
         refine Qt.o_no rfl rfl rfl rfl ?_
         refine Qt.o_no rfl rfl rfl rfl ?_
         refine Qt.o_no rfl rfl rfl rfl ?_
         refine Qt.o_no rfl rfl rfl rfl ?_
         refine Qt.o_no rfl rfl rfl rfl ?_
         refine Qt.o_no rfl rfl rfl rfl ?_
         refine Qt.o_no rfl rfl rfl rfl ?_
         refine Qt.o_no rfl rfl rfl rfl ?_
         refine Qt.o_no rfl rfl rfl rfl ?_
         refine Qt.o_no rfl rfl rfl rfl ?_
         refine Qt.o_no rfl rfl rfl rfl ?_
         refine Qt.o_no rfl rfl rfl rfl ?_
         refine Qt.o_no rfl rfl rfl rfl ?_
         refine Qt.o_no rfl rfl rfl rfl ?_
         refine Qt.o_no rfl rfl rfl rfl ?_
         refine Qt.o_val rfl (v_pick_false rfl rfl rfl) ?_
         refine Qt.l_nil ?_
         refine q_then ?_
         refine c_false rfl ?_
         refine c_skip ?_
         refine q_block ?_
         refine q_then ?_
         refine c_region ?_
         refine o_bin rfl rfl rfl (b_add (wrap_i64 (by omega) (by omega))) ?_
         refine o_move rfl rfl ?_
         refine l_nil ?_
         refine q_conv (fun w S => S.tail) ?_
         refine q_conv (fun w S => (S.perm p1).tail) ?_
         exact q_round (i + 1, (promSA s x42.f_Ballot)) (by exact ⟨by omega, hto.prom⟩) (by (try dsimp only); omega) ⟨(by first | rfl | exact vint (by omega)), (by first | rfl | exact vint (by omega)), (by first | rfl | exact vint (by omega)), (by first | rfl | exact vint (by omega)), (by first | rfl | exact vint (by omega)), (by first | rfl | exact vint (by omega)), trivial⟩ (fun w S => S)
    · -- h10F
     have h10b := h10
     try simp only [decide_eq_true_eq, decide_eq_false_iff_not, Bool.not_eq_eq_eq_not, Bool.not_true, Bool.not_false, Bool.not_eq_true', Bool.not_eq_false', Int.not_lt, Int.not_le, Bool.or_eq_true, Bool.and_eq_true] at h10
     refine c_seq ?_
     refine c_region ?_
     refine o_fieldAddr (q := ⟨b8, 2, none⟩) rfl rfl Try.underlying25 rfl ti3 rfl ?_
     refine o_load1 rfl rfl Try.underlying3 rfl (rd_mem 0 rfl rfl) ?_
     refine o_fieldAddr (q := ⟨b3, 2, none⟩) rfl rfl Try.underlying25 rfl ti3 rfl ?_
     refine o_load1 rfl rfl Try.underlying3 rfl (rd_mem 2 rfl rfl) ?_
     refine o_bin rfl rfl rfl b_neq ?_
     refine l_nil ?_
     refine q_then ?_
     refine c_cond rfl (fun h14 => ?_) (fun h14 => ?_)
     · -- h14T
      have h14b := h14
      try simp only [Bool.not_eq_true', decide_eq_false_iff_not, Int.not_lt, Int.not_le] at h14
      refine c_region ?_
      refine o_move rfl rfl ?_
      refine o_fieldAddr (q := ⟨b8, 2, none⟩) rfl rfl Try.underlying25 rfl ti3 rfl ?_
      refine o_load1 rfl rfl Try.underlying3 rfl (rd_mem 0 rfl rfl) ?_
      refine o_fieldAddr (q := ⟨b8, 1, none⟩) rfl rfl Try.underlying25 rfl ti23 rfl ?_
      refine o_load1 rfl rfl Try.underlying23 rfl (rd_mem 0 rfl rfl) ?_
      refine o_fieldAddr (q := ⟨b8, 3, none⟩) rfl rfl Try.underlying25 rfl ti9 rfl ?_
      refine o_load1 rfl rfl Try.underlying9 rfl (rd_mem 0 rfl rfl) ?_
      refine o_build rfl sp31 ti31 rfl ((fill_cons (cells' := [.int .i64 x42.f_Slot, .int .u64 0, .string ByteArray.empty]) rfl rfl rfl rfl (fill_cons (cells' := [.int .i64 x42.f_Slot, .int .u64 x42.f_Ballot, .string ByteArray.empty]) rfl rfl rfl rfl (fill_cons (cells' := [.int .i64 x42.f_Slot, .int .u64 x42.f_Ballot, .string x42.f_Value]) rfl rfl rfl rfl fill_nil)))) ?_
      refine l_f1 ?_
      refine o_call rfl cal9 rfl (vaccA (v := (⟨x42.f_Slot, x42.f_Ballot, x42.f_Value⟩ : VoS))) ?_
      rintro _ _ ⟨rfl, rfl⟩
      refine l_nil ?_
      refine q_block ?_
      refine q_then ?_
      refine c_region ?_
      refine o_bin rfl rfl rfl (b_add (wrap_i64 (by omega) (by omega))) ?_
      refine o_move rfl rfl ?_
      refine l_nil ?_
      refine q_conv (fun w S => (S.perm p1).tail) ?_
      exact q_round (i + 1, (accSA s (⟨x42.f_Slot, x42.f_Ballot, x42.f_Value⟩ : VoS))) (by exact ⟨by omega, hto.acc (fun h9 => by simp_all)⟩) (by (try dsimp only); omega) ⟨(by first | rfl | exact vint (by omega)), (by first | rfl | exact vint (by omega)), (by first | rfl | exact vint (by omega)), (by first | rfl | exact vint (by omega)), (by first | rfl | exact vint (by omega)), (by first | rfl | exact vint (by omega)), trivial⟩ (fun w S => S)
     · -- h14F
      have h14b := h14
      try simp only [Bool.not_eq_false', decide_eq_true_eq] at h14
      refine c_skip ?_
      refine q_block ?_
      refine q_then ?_
      refine c_region ?_
      refine o_bin rfl rfl rfl (b_add (wrap_i64 (by omega) (by omega))) ?_
      refine o_move rfl rfl ?_
      refine l_nil ?_
      refine q_conv (fun w S => S.tail) ?_
      exact q_round (i + 1, s) (by exact ⟨by omega, hto⟩) (by (try dsimp only); omega) ⟨(by first | rfl | exact vint (by omega)), (by first | rfl | exact vint (by omega)), (by first | rfl | exact vint (by omega)), (by first | rfl | exact vint (by omega)), (by first | rfl | exact vint (by omega)), (by first | rfl | exact vint (by omega)), trivial⟩ (fun w S => S)
   · -- h9F
    have h9b := h9
    try simp only [decide_eq_false_iff_not, Int.not_lt, Int.not_le] at h9
    refine c_exit ?_
    refine q_pass_exit ?_
    refine q_pass_exit ?_
    refine q_hit ?_
    refine q_then ?_
    refine c_seq ?_
    refine c_region ?_
    refine o_assign rfl rfl ?_
    refine l_nil ?_
    refine q_then ?_
    refine c_ret ?_
    refine q_conv (fun w S => S.tail) ?_
    refine q_conv (fun w S => S.tail) ?_
    exact f_ret (r_one rfl rfl) (⟨rfl, rfl⟩) (fun w S => S)

end Go.Proofs.Ytcdodagebbfjoaa
