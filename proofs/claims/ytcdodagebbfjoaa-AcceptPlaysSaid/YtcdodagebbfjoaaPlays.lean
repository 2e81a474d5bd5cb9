/- Printed by eng2.py out of 11/spec.py. -/
import Derived.Test.YtcdodagebbfjoaaSpeaks
import Derived.Test.YtcdodagebbfjoaaRefV
set_option linter.unusedVariables false
set_option linter.unusedSimpArgs false
set_option maxRecDepth 10000
namespace Go.Proofs.Ytcdodagebbfjoaa
open Go.RowKit Classical
set_option maxHeartbeats 2000000 in
theorem plays_ {W : World} {F : List Res} {os : List Op} {a : Option Addr} {c : Nat} (hs : SlR W e_Op a os) : CS Try.prog 5 #[.slice a os.length c] W (F) (fun r L' => r = .bool true ∧ F = L') := by
 refine f_door (l0 := [(0, .slice a os.length c)]) Try.func5 Try.ntmps5 rfl rfl rfl ?_
 refine c_seq ?_
 refine c_region ?_
 refine o_assign rfl rfl ?_
 refine l_nil ?_
 refine q_then ?_
 refine c_seq ?_
 refine c_seq ?_
 refine c_region ?_
 refine o_call rfl cal7 rfl (speaks_) ?_
 rintro _ _ ⟨rfl, rfl⟩
 refine o_not rfl rfl ?_
 refine l_nil ?_
 refine q_then ?_
 refine c_false rfl ?_
 refine c_skip ?_
 refine q_then ?_
 refine c_seq ?_
 refine c_seq ?_
 refine c_region ?_
 refine o_move rfl rfl ?_
 refine o_len rfl rfl Try.underlying22 ?_
 refine o_bin rfl rfl rfl b_gtr ?_
 refine l_nil ?_
 refine q_then ?_
 refine c_cond rfl (fun h1 => ?_) (fun h1 => ?_)
 · -- h1T
  have h1b := h1
  try simp only [decide_eq_true_eq] at h1
  refine c_seq ?_
  refine c_region ?_
  refine o_assign rfl rfl ?_
  refine l_nil ?_
  refine q_then ?_
  refine c_ret ?_
  refine q_pass_ret ?_
  exact f_ret (r_one rfl rfl) (⟨rfl, rfl⟩) (fun w S => S)
 · -- h1F
  have h1b := h1
  try simp only [decide_eq_false_iff_not, Int.not_lt, Int.not_le] at h1
  refine c_skip ?_
  refine q_then ?_
  refine c_seq ?_
  refine c_region ?_
  refine o_call rfl cal8 rfl (vnewA) ?_
  rintro _ _ ⟨k19, rfl, rfl⟩
  refine o_build rfl sp44 ti44 rfl rfl ?_
  refine o_box rfl rfl fun m => ?_
  refine o_assign rfl rfl ?_
  refine o_assign rfl rfl ?_
  refine l_nil ?_
  refine q_then ?_
  refine c_seq ?_
  refine c_seq ?_
  refine c_conv (L' := RvR m (⟨0, List.replicate 64 false, List.replicate 64 ⟨0, 0, ByteArray.empty⟩⟩ : RvS) :: _) (fun w S => Sat.obj_mk () (⟨List.length_replicate, List.length_replicate⟩ : RvOk (⟨0, List.replicate 64 false, List.replicate 64 ⟨0, 0, ByteArray.empty⟩⟩ : RvS)) S) ?_
  refine c_region ?_
  refine o_move rfl rfl ?_
  refine o_bin rfl rfl rfl (b_peq Try.underlying27 _) ?_
  refine l_nil ?_
  refine q_then ?_
  refine c_false rfl ?_
  refine c_skip ?_
  refine q_then ?_
  refine c_seq ?_
  refine c_seq ?_
  refine c_region ?_
  refine o_move rfl rfl ?_
  refine o_len rfl rfl Try.underlying22 ?_
  refine o_move rfl rfl ?_
  refine l_nil ?_
  refine q_then ?_
  refine c_block ?_
  refine c_loop (α := Nat × VSA × RvS) (fun z => [(3, .pointer (some ⟨k19, 0, none⟩)), (4, .pointer (some ⟨m, 0, none⟩)), (24, .slice a (os).length c), (25, .int .i64 ((os).length : Int)), (26, .int .i64 (z.1 : Int))]) (fun z => RvR m z.2.2 :: VtA k19 z.2.1 :: F) (fun z => z.1 ≤ os.length ∧ OkVA z.2.1 ∧ RvOk z.2.2 ∧ Rel z.2.1 z.2.2) (fun z => os.length - z.1) (0, (⟨0, []⟩ : VSA), (⟨0, List.replicate 64 false, List.replicate 64 ⟨0, 0, ByteArray.empty⟩⟩ : RvS)) (by exact ⟨Nat.zero_le _, okV_newA, ⟨List.length_replicate, List.length_replicate⟩, rel_0⟩) ⟨(by first | rfl | exact vint (by omega)), (by first | rfl | exact vint (by omega)), (by first | rfl | exact vint (by omega)), (by first | rfl | exact vint (by omega)), (by first | rfl | exact vint (by omega)), trivial⟩ (fun w S => S) ?_
  rintro ⟨i, s, r⟩ ⟨hi, hkv, hrk, hrel⟩
  try dsimp only at *
  refine c_seq ?_
  refine c_region ?_
  refine o_bin rfl rfl rfl b_lss ?_
  refine l_nil ?_
  refine q_then ?_
  refine c_seq ?_
  refine c_cond rfl (fun h2 => ?_) (fun h2 => ?_)
  · -- h2T
   have h2b := h2
   try simp only [decide_eq_true_eq] at h2
   refine c_skip ?_
   refine q_then ?_
   refine c_seq ?_
   refine c_block ?_
   refine c_seq ?_
   refine c_region ?_
   refine o_index e_Op_ok rfl rfl rfl Try.underlying22 (by omega) (by omega) (rds_c (rds_c (rds_old hs))) fun ad28 ead28 => ?_
   obtain ⟨x28, hx28⟩ : ∃ x, (os)[((i : Int)).toNat]? = some x := ⟨_, List.getElem?_eq_getElem (by omega)⟩
   refine o_loadn (vs := e_Op.cells x28) rfl rfl Try.underlying25 rfl ti25 (rdn_sl e_Op_ok ead28 (rds_c (rds_c (rds_old hs))) hx28) ?_
   refine o_alloc rfl ti25 fun b6 => ?_
   refine o_storen rfl rfl ti25 rfl rfl rfl rfl ?_
   refine l_nil ?_
   refine q_then ?_
   refine c_seq ?_
   refine c_seq ?_
   refine c_region ?_
   refine o_fieldAddr (q := ⟨b6, 0, none⟩) rfl rfl Try.underlying25 rfl ti4 rfl ?_
   refine o_load1 rfl rfl Try.underlying4 rfl (rd_mem 0 rfl rfl) ?_
   refine l_nil ?_
   refine q_then ?_
   refine c_cond rfl (fun h3 => ?_) (fun h3 => ?_)
   · -- h3T
    have h3b := h3
    try simp only [decide_eq_true_eq, decide_eq_false_iff_not, Bool.not_eq_eq_eq_not, Bool.not_true, Bool.not_false, Bool.not_eq_true', Bool.not_eq_false', Int.not_lt, Int.not_le, Bool.or_eq_true, Bool.and_eq_true] at h3
    refine c_seq ?_
    refine c_region ?_
    refine o_move rfl rfl ?_
    refine o_fieldAddr (q := ⟨b6, 1, none⟩) rfl rfl Try.underlying25 rfl ti23 rfl ?_
    refine o_load1 rfl rfl Try.underlying23 rfl (rd_mem 0 rfl rfl) ?_
    refine o_fieldAddr (q := ⟨b6, 2, none⟩) rfl rfl Try.underlying25 rfl ti3 rfl ?_
    refine o_load1 rfl rfl Try.underlying3 rfl (rd_mem 0 rfl rfl) ?_
    refine l_f2 ?_
    refine o_call rfl cal10 rfl (vpromA (b := x28.f_Ballot) (fr := x28.f_Slot)) ?_
    rintro _ _ ⟨a38, c38, rfl, rfl⟩
    refine o_move rfl rfl ?_
    refine o_extract rfl rfl rfl ?_
    refine o_extract rfl rfl rfl ?_
    refine o_assign rfl rfl ?_
    refine o_assign rfl rfl ?_
    refine l_nil ?_
    refine q_then ?_
    refine c_seq ?_
    refine c_region ?_
    refine o_move rfl rfl ?_
    refine o_fieldAddr (q := ⟨b6, 1, none⟩) rfl rfl Try.underlying25 rfl ti23 rfl ?_
    refine o_load1 rfl rfl Try.underlying23 rfl (rd_mem 2 rfl rfl) ?_
    refine o_fieldAddr (q := ⟨b6, 2, none⟩) rfl rfl Try.underlying25 rfl ti3 rfl ?_
    refine o_load1 rfl rfl Try.underlying3 rfl (rd_mem 2 rfl rfl) ?_
    refine l_f3 ?_
    refine o_call rfl cal11 rfl (rprom (b := x28.f_Ballot) (fr := x28.f_Slot)) ?_
    rintro _ _ ⟨a47, c47, rfl, rfl⟩
    refine o_move rfl rfl ?_
    refine o_extract rfl rfl rfl ?_
    refine o_extract rfl rfl rfl ?_
    refine o_assign rfl rfl ?_
    refine o_assign rfl rfl ?_
    refine l_nil ?_
    refine q_then ?_
    refine c_seq ?_
    refine c_seq ?_
    refine c_region ?_
    refine o_move rfl rfl ?_
    refine o_move rfl rfl ?_
    refine o_bin rfl rfl rfl (b_bne Try.underlying4 _ _) ?_
    refine l_eq (t := 52) (v' := .bool false) rfl (show _ = Value.bool false from by rw [hrel.pr]; simp) ?_
    refine o_move rfl rfl ?_
    refine o_yes rfl rfl rfl ?_
    refine o_move rfl rfl ?_
    refine o_yes rfl rfl rfl ?_
    refine o_move rfl rfl ?_
    refine o_yes rfl rfl rfl ?_
    refine l_f2 ?_
    refine o_call rfl cal12 rfl (same_ (hrel.promL hkv hrk) (by have h8 := okV_lenA hkv; have h9 := promL_len (s := s) (b := x28.f_Ballot) (fr := x28.f_Slot); omega)) ?_
    rintro _ _ ⟨rfl, rfl⟩
    refine o_yes rfl rfl rfl ?_
    refine o_not rfl rfl ?_
    refine o_pick_false rfl rfl rfl ?_
    refine l_nil ?_
    refine q_then ?_
    refine c_false rfl ?_
    refine c_skip ?_
    refine q_then ?_
    refine c_seq ?_
    have hpl := promL_len (s := s) (b := x28.f_Ballot) (fr := x28.f_Slot)
    have hl1 := okV_lenA hkv
    refine c_region ?_
    refine o_move rfl rfl ?_
    refine o_len rfl rfl Try.underlying32 ?_
    refine o_move rfl rfl ?_
    refine l_nil ?_
    refine q_then ?_
    refine c_block ?_
    refine c_loop (α := Nat × (List VoS)) (fun z => [(3, .pointer (some ⟨k19, 0, none⟩)), (4, .pointer (some ⟨m, 0, none⟩)), (7, .slice a38 (z.2).length c38), (24, .slice a (os).length c), (25, .int .i64 ((os).length : Int)), (26, .int .i64 (i : Int)), (60, .int .i64 (((promLA s x28.f_Ballot x28.f_Slot)).length : Int)), (61, .int .i64 (z.1 : Int))]) (fun z => row e_VoS.T e_VoS.sz a38 (z.2).length c38 (flat e_VoS z.2) :: row e_VoR.T e_VoR.sz a47 ((rPromL r x28.f_Ballot x28.f_Slot)).length c47 (flat e_VoR (rPromL r x28.f_Ballot x28.f_Slot)) :: RvR m (rProm r x28.f_Ballot) :: VtA k19 (promSA s x28.f_Ballot) :: blk b6 (.cells #[.bool x28.f_Promise, .int .u64 x28.f_Ballot, .int .i64 x28.f_Slot, .string x28.f_Value] 25 (0, 0)) :: F) (fun z => (z.1 : Int) ≤ ((promLA s x28.f_Ballot x28.f_Slot).length : Int) ∧ z.2.length = (promLA s x28.f_Ballot x28.f_Slot).length) (fun z => (promLA s x28.f_Ballot x28.f_Slot).length - z.1) (0, (promLA s x28.f_Ballot x28.f_Slot)) (by exact ⟨by omega, rfl⟩) ⟨(by first | rfl | exact vint (by omega)), (by first | rfl | exact vint (by omega)), (by first | rfl | exact vint (by omega)), (by first | rfl | exact vint (by omega)), (by first | rfl | exact vint (by omega)), (by first | rfl | exact vint (by omega)), (by first | rfl | exact vint (by omega)), (by first | rfl | exact vint (by omega)), trivial⟩ (fun w S => S) ?_
    rintro ⟨j, ys⟩ ⟨hj, hyl⟩
    try dsimp only at *
    refine c_seq ?_
    refine c_region ?_
    refine o_bin rfl rfl rfl b_lss ?_
    refine l_nil ?_
    refine q_then ?_
    refine c_seq ?_
    refine c_cond rfl (fun h4 => ?_) (fun h4 => ?_)
    · -- h4T
     have h4b := h4
     try simp only [decide_eq_true_eq] at h4
     refine c_skip ?_
     refine q_then ?_
     refine c_seq ?_
     refine c_block ?_
     refine c_seq ?_
     refine c_region ?_
     refine o_move rfl rfl ?_
     refine o_assign rfl rfl ?_
     refine l_nil ?_
     refine q_then ?_
     refine c_region ?_
     refine o_move rfl rfl ?_
     refine o_move rfl rfl ?_
     refine o_index e_VoS_ok rfl rfl rfl Try.underlying32 (by omega) (by omega) (rds_own e_VoS_ok 0 rfl) fun ad66 ead66 => ?_
     obtain ⟨x66, hx66⟩ : ∃ x, (ys)[((j : Int)).toNat]? = some x := ⟨_, List.getElem?_eq_getElem (by omega)⟩
     refine o_fieldAddr rfl rfl Try.underlying31 rfl ti9 (Addr.add_add' _ _ _) ?_
     refine o_storeRow (x1 := (⟨x66.f_Slot, x66.f_Ballot, ⟨#[115, 112, 111, 105, 108, 116]⟩⟩ : VoS)) e_VoS_ok ead66 rfl rfl rfl ti9 hx66 (by decide) rfl ?_
     refine l_nil ?_
     refine q_block ?_
     refine q_then ?_
     refine c_region ?_
     refine o_bin rfl rfl rfl (b_add (wrap_i64 (by omega) (by omega))) ?_
     refine o_move rfl rfl ?_
     refine l_nil ?_
     exact q_round (j + 1, (ys).set ((j : Int)).toNat (⟨x66.f_Slot, x66.f_Ballot, ⟨#[115, 112, 111, 105, 108, 116]⟩⟩ : VoS)) (by exact ⟨by omega, by rw [List.length_set]; exact hyl⟩) (by (try dsimp only); omega) ⟨(by first | rfl | exact vint (by omega)), (by first | rfl | exact vint (by omega)), (by rw [List.length_set]; rfl), (by first | rfl | exact vint (by omega)), (by first | rfl | exact vint (by omega)), (by first | rfl | exact vint (by omega)), (by first | rfl | exact vint (by omega)), (by first | rfl | exact vint (by omega)), trivial⟩ (fun w S => S)
    · -- h4F
     have h4b := h4
     try simp only [decide_eq_false_iff_not, Int.not_lt, Int.not_le] at h4
     refine c_exit ?_
     refine q_pass_exit ?_
     refine q_pass_exit ?_
     refine q_hit ?_
     refine q_then ?_
     refine c_seq ?_
     have hrel2 := hrel.prom (b := x28.f_Ballot)
     have hkv2 := okV_promSA (b := x28.f_Ballot) hkv
     have hrk2 := rvOk_rProm (b := x28.f_Ballot) hrk
     obtain ⟨s2, hs2⟩ : ∃ s2, s2 = (promSA s x28.f_Ballot) := ⟨_, rfl⟩
     obtain ⟨r2, hr2⟩ : ∃ r2, r2 = (rProm r x28.f_Ballot) := ⟨_, rfl⟩
     rw [← hs2, ← hr2] at hrel2
     rw [← hs2] at hkv2
     rw [← hr2] at hrk2
     refine c_conv (fun w S => S.perm p4) ?_
     refine c_conv (fun w S => S.perm p2) ?_
     refine c_conv (fun w S => S.perm p2) ?_
     refine c_conv (fun w S => S.perm p3) ?_
     refine c_conv (fun w S => S.perm p4) ?_
     refine c_conv (L' := VtA k19 s2 :: RvR m r2 :: _) (fun w S => by rw [← hs2, ← hr2] at S; exact S) ?_
     have hl64 := okV_lenA hkv2
     have hml2 : (s2.xs.map ItA.f_value).length = s2.xs.length := List.length_map ..
     refine c_region ?_
     refine o_move rfl rfl ?_
     refine o_call rfl cal14 rfl (vvotesA) ?_
     rintro _ _ ⟨a89, c89, rfl, rfl⟩
     refine o_assign rfl rfl ?_
     refine l_nil ?_
     refine q_then ?_
     refine c_seq ?_
     refine c_seq ?_
     refine c_held [row e_VoS.T e_VoS.sz a89 ((s2.xs.map ItA.f_value)).length c89 (flat e_VoS (s2.xs.map ItA.f_value)), VtA k19 s2, RvR m r2, row e_VoS.T e_VoS.sz a38 (ys).length c38 (flat e_VoS ys), row e_VoR.T e_VoR.sz a47 ((rPromL r x28.f_Ballot x28.f_Slot)).length c47 (flat e_VoR (rPromL r x28.f_Ballot x28.f_Slot)), blk b6 (.cells #[.bool x28.f_Promise, .int .u64 x28.f_Ballot, .int .i64 x28.f_Slot, .string x28.f_Value] 25 (0, 0))] (by kernel_rfl) rfl ?_
     refine h_take 0 rfl rfl (by kernel_rfl) (by kernel_rfl) (by kernel_rfl) (fun L0 => v_move rfl rfl) ?_
     refine h_take 2 rfl rfl (by kernel_rfl) (by kernel_rfl) (by kernel_rfl) (fun L0 => v_move rfl rfl) ?_
     refine h_take 3 rfl rfl (by kernel_rfl) (by kernel_rfl) (by kernel_rfl) (fun L0 => v_nil rfl rfl) ?_
     refine h_take 4 rfl rfl (by kernel_rfl) (by kernel_rfl) (by kernel_rfl) (fun L0 => v_fieldAddr (q := ⟨m, 0, none⟩) rfl rfl Try.underlying44 rfl ti23 rfl) ?_
     refine h_take 5 rfl rfl (by kernel_rfl) (by kernel_rfl) (by kernel_rfl) (fun L0 => v_load1 rfl rfl Try.underlying23 rfl (rd_obj 2 rfl (fun x hp L' => (rd_mem 0 rfl (sg_arr (sg_in rfl)))))) ?_
     refine h_one 1 rfl (by kernel_rfl) ?_
     refine l_f1 ?_
     refine o_call rfl cal15 rfl (vpdA) ?_
     rintro _ _ ⟨rfl, rfl⟩
     refine l_nil ?_
     refine q_conv (fun w S => S.perm p5) ?_
     refine q_conv (fun w S => S.perm p5) ?_
     refine q_conv (fun w S => S.perm p5) ?_
     refine q_conv (fun w S => S.perm p5) ?_
     refine q_conv (fun w S => S.perm p4) ?_
     refine q_conv (fun w S => S.perm p5) ?_
     refine h_next ?_
     refine h_take 6 rfl rfl (by kernel_rfl) (by kernel_rfl) (by kernel_rfl) (fun L0 => v_bin rfl rfl rfl b_neq) ?_
     refine h_eq (t := 96) (v' := .bool false) rfl (show _ = Value.bool false from by rw [hrel2.pr]; simp) ?_
     refine h_take 7 rfl rfl (by kernel_rfl) (by kernel_rfl) (by kernel_rfl) (fun L0 => v_move rfl rfl) ?_
     refine h_take_yes 8 rfl rfl rfl rfl rfl (by kernel_rfl) (by kernel_rfl) (by kernel_rfl) (fun L0 => v_move rfl rfl) ?_
     refine h_take_yes 9 rfl rfl rfl rfl rfl (by kernel_rfl) (by kernel_rfl) (by kernel_rfl) (fun L0 => v_move rfl rfl) ?_
     refine h_one 10 rfl (by kernel_rfl) ?_
     refine o_yes rfl rfl rfl ?_
     refine l_f2 ?_
     refine o_call rfl cal16 rfl (rfrom (fr := 0)) ?_
     rintro _ _ ⟨a100, c100, rfl, rfl⟩
     refine l_nil ?_
     refine q_conv (fun w S => S.perm p6) ?_
     refine q_conv (fun w S => S.perm p6) ?_
     refine q_conv (fun w S => S.perm p6) ?_
     refine q_conv (fun w S => S.perm p4) ?_
     refine q_conv (fun w S => S.perm p6) ?_
     refine q_conv (fun w S => S.perm p6) ?_
     refine h_next ?_
     refine h_one 11 rfl (by kernel_rfl) ?_
     refine o_yes rfl rfl rfl ?_
     refine l_f6 ?_
     refine l_f1 ?_
     refine o_call rfl cal12 rfl (same_ (by rw [hrel2.list hkv2 hrk2, sel_all hkv2]) (by omega)) ?_
     rintro _ _ ⟨rfl, rfl⟩
     refine l_nil ?_
     refine q_conv (fun w S => S.perm p1) ?_
     refine q_conv (fun w S => S.perm p6) ?_
     refine q_conv (fun w S => S.perm p6) ?_
     refine q_conv (fun w S => S.perm p6) ?_
     refine q_conv (fun w S => S.perm p6) ?_
     refine q_conv (fun w S => S.perm p6) ?_
     refine q_conv (fun w S => S.perm p6) ?_
     refine h_next ?_
     refine h_take_yes 12 rfl rfl rfl rfl rfl (by kernel_rfl) (by kernel_rfl) (by kernel_rfl) (fun L0 => v_not rfl rfl) ?_
     refine h_take 13 rfl rfl (by kernel_rfl) (by kernel_rfl) (by kernel_rfl) (fun L0 => v_pick_false rfl rfl rfl) ?_
     refine h_done (by kernel_rfl) ?_
     refine q_then ?_
     refine c_false rfl ?_
     refine c_skip ?_
     refine q_then ?_
     refine c_seq ?_
     refine c_region ?_
     refine o_move rfl rfl ?_
     refine o_len rfl rfl Try.underlying32 ?_
     refine o_move rfl rfl ?_
     refine l_nil ?_
     refine q_then ?_
     refine c_block ?_
     refine c_loop (α := Nat × (List VoS)) (fun z => [(3, .pointer (some ⟨k19, 0, none⟩)), (4, .pointer (some ⟨m, 0, none⟩)), (12, .slice a89 (z.2).length c89), (24, .slice a (os).length c), (25, .int .i64 ((os).length : Int)), (26, .int .i64 (i : Int)), (105, .int .i64 (((s2.xs.map ItA.f_value)).length : Int)), (106, .int .i64 (z.1 : Int))]) (fun z => row e_VoS.T e_VoS.sz a89 (z.2).length c89 (flat e_VoS z.2) :: VtA k19 s2 :: RvR m r2 :: row e_VoS.T e_VoS.sz a38 (ys).length c38 (flat e_VoS ys) :: row e_VoR.T e_VoR.sz a47 ((rPromL r x28.f_Ballot x28.f_Slot)).length c47 (flat e_VoR (rPromL r x28.f_Ballot x28.f_Slot)) :: blk b6 (.cells #[.bool x28.f_Promise, .int .u64 x28.f_Ballot, .int .i64 x28.f_Slot, .string x28.f_Value] 25 (0, 0)) :: row e_VoR.T e_VoR.sz a100 ((refL r2 0 64)).length c100 (flat e_VoR (refL r2 0 64)) :: F) (fun z => (z.1 : Int) ≤ ((s2.xs.map ItA.f_value).length : Int) ∧ z.2.length = (s2.xs.map ItA.f_value).length) (fun z => s2.xs.length - z.1) (0, (s2.xs.map ItA.f_value)) (by exact ⟨by omega, rfl⟩) ⟨(by first | rfl | exact vint (by omega)), (by first | rfl | exact vint (by omega)), (by first | rfl | exact vint (by omega)), (by first | rfl | exact vint (by omega)), (by first | rfl | exact vint (by omega)), (by first | rfl | exact vint (by omega)), (by first | rfl | exact vint (by omega)), (by first | rfl | exact vint (by omega)), trivial⟩ (fun w S => S) ?_
     rintro ⟨j2, zs⟩ ⟨hj2, hzl⟩
     try dsimp only at *
     refine c_seq ?_
     refine c_region ?_
     refine o_bin rfl rfl rfl b_lss ?_
     refine l_nil ?_
     refine q_then ?_
     refine c_seq ?_
     refine c_cond rfl (fun h5 => ?_) (fun h5 => ?_)
     · -- h5T
      have h5b := h5
      try simp only [decide_eq_true_eq] at h5
      refine c_skip ?_
      refine q_then ?_
      refine c_seq ?_
      refine c_block ?_
      refine c_seq ?_
      refine c_region ?_
      refine o_move rfl rfl ?_
      refine o_assign rfl rfl ?_
      refine l_nil ?_
      refine q_then ?_
      refine c_region ?_
      refine o_move rfl rfl ?_
      refine o_move rfl rfl ?_
      refine o_index e_VoS_ok rfl rfl rfl Try.underlying32 (by omega) (by omega) (rds_own e_VoS_ok 0 rfl) fun ad111 ead111 => ?_
      obtain ⟨x111, hx111⟩ : ∃ x, (zs)[((j2 : Int)).toNat]? = some x := ⟨_, List.getElem?_eq_getElem (by omega)⟩
      refine o_fieldAddr rfl rfl Try.underlying31 rfl ti9 (Addr.add_add' _ _ _) ?_
      refine o_storeRow (x1 := (⟨x111.f_Slot, x111.f_Ballot, ⟨#[115, 112, 111, 105, 108, 116]⟩⟩ : VoS)) e_VoS_ok ead111 rfl rfl rfl ti9 hx111 (by decide) rfl ?_
      refine l_nil ?_
      refine q_block ?_
      refine q_then ?_
      refine c_region ?_
      refine o_bin rfl rfl rfl (b_add (wrap_i64 (by omega) (by omega))) ?_
      refine o_move rfl rfl ?_
      refine l_nil ?_
      exact q_round (j2 + 1, (zs).set ((j2 : Int)).toNat (⟨x111.f_Slot, x111.f_Ballot, ⟨#[115, 112, 111, 105, 108, 116]⟩⟩ : VoS)) (by exact ⟨by omega, by rw [List.length_set]; exact hzl⟩) (by (try dsimp only); omega) ⟨(by first | rfl | exact vint (by omega)), (by first | rfl | exact vint (by omega)), (by rw [List.length_set]; rfl), (by first | rfl | exact vint (by omega)), (by first | rfl | exact vint (by omega)), (by first | rfl | exact vint (by omega)), (by first | rfl | exact vint (by omega)), (by first | rfl | exact vint (by omega)), trivial⟩ (fun w S => S)
     · -- h5F
      have h5b := h5
      try simp only [decide_eq_false_iff_not, Int.not_lt, Int.not_le] at h5
      refine c_exit ?_
      refine q_pass_exit ?_
      refine q_pass_exit ?_
      refine q_hit ?_
      refine q_block ?_
      refine q_then ?_
      refine c_region ?_
      refine o_bin rfl rfl rfl (b_add (wrap_i64 (by omega) (by omega))) ?_
      refine o_move rfl rfl ?_
      refine l_nil ?_
      refine q_conv (fun w S => S.tail) ?_
      refine q_conv (fun w S => (S.perm p2).tail) ?_
      refine q_conv (fun w S => (S.perm p2).tail) ?_
      refine q_conv (fun w S => (S.perm p2).tail) ?_
      refine q_conv (fun w S => (S.perm p2).tail) ?_
      refine q_conv (fun w S => S.perm p1) ?_
      exact q_round (i + 1, s2, r2) (by exact ⟨by omega, hkv2, hrk2, hrel2⟩) (by (try dsimp only); omega) ⟨(by first | rfl | exact vint (by omega)), (by first | rfl | exact vint (by omega)), (by first | rfl | exact vint (by omega)), (by first | rfl | exact vint (by omega)), (by first | rfl | exact vint (by omega)), trivial⟩ (fun w S => S)
   · -- h3F
    have h3b := h3
    try simp only [decide_eq_true_eq, decide_eq_false_iff_not, Bool.not_eq_eq_eq_not, Bool.not_true, Bool.not_false, Bool.not_eq_true', Bool.not_eq_false', Int.not_lt, Int.not_le, Bool.or_eq_true, Bool.and_eq_true] at h3
    refine c_seq ?_
    refine c_held [blk b6 (.cells #[.bool x28.f_Promise, .int .u64 x28.f_Ballot, .int .i64 x28.f_Slot, .string x28.f_Value] 25 (0, 0))] (by kernel_rfl) rfl ?_
    refine h_take 0 rfl rfl (by kernel_rfl) (by kernel_rfl) (by kernel_rfl) (fun L0 => v_move rfl rfl) ?_
    refine h_take 1 rfl rfl (by kernel_rfl) (by kernel_rfl) (by kernel_rfl) (fun L0 => v_fieldAddr (q := ⟨b6, 2, none⟩) rfl rfl Try.underlying25 rfl ti3 rfl) ?_
    refine h_take 2 rfl rfl (by kernel_rfl) (by kernel_rfl) (by kernel_rfl) (fun L0 => v_load1 rfl rfl Try.underlying3 rfl (rd_mem 0 rfl rfl)) ?_
    refine h_take 3 rfl rfl (by kernel_rfl) (by kernel_rfl) (by kernel_rfl) (fun L0 => v_fieldAddr (q := ⟨b6, 1, none⟩) rfl rfl Try.underlying25 rfl ti23 rfl) ?_
    refine h_take 4 rfl rfl (by kernel_rfl) (by kernel_rfl) (by kernel_rfl) (fun L0 => v_load1 rfl rfl Try.underlying23 rfl (rd_mem 0 rfl rfl)) ?_
    refine h_take 5 rfl rfl (by kernel_rfl) (by kernel_rfl) (by kernel_rfl) (fun L0 => v_fieldAddr (q := ⟨b6, 3, none⟩) rfl rfl Try.underlying25 rfl ti9 rfl) ?_
    refine h_take 6 rfl rfl (by kernel_rfl) (by kernel_rfl) (by kernel_rfl) (fun L0 => v_load1 rfl rfl Try.underlying9 rfl (rd_mem 0 rfl rfl)) ?_
    refine h_take 7 rfl rfl (by kernel_rfl) (by kernel_rfl) (by kernel_rfl) (fun L0 => v_build rfl sp31 ti31 rfl ((fill_cons (cells' := [.int .i64 x28.f_Slot, .int .u64 0, .string ByteArray.empty]) rfl rfl rfl rfl (fill_cons (cells' := [.int .i64 x28.f_Slot, .int .u64 x28.f_Ballot, .string ByteArray.empty]) rfl rfl rfl rfl (fill_cons (cells' := [.int .i64 x28.f_Slot, .int .u64 x28.f_Ballot, .string x28.f_Value]) rfl rfl rfl rfl fill_nil))))) ?_
    refine h_take 9 rfl rfl (by kernel_rfl) (by kernel_rfl) (by kernel_rfl) (fun L0 => v_move rfl rfl) ?_
    refine h_take 10 rfl rfl (by kernel_rfl) (by kernel_rfl) (by kernel_rfl) (fun L0 => v_fieldAddr (q := ⟨b6, 2, none⟩) rfl rfl Try.underlying25 rfl ti3 rfl) ?_
    refine h_take 11 rfl rfl (by kernel_rfl) (by kernel_rfl) (by kernel_rfl) (fun L0 => v_load1 rfl rfl Try.underlying3 rfl (rd_mem 0 rfl rfl)) ?_
    refine h_take 12 rfl rfl (by kernel_rfl) (by kernel_rfl) (by kernel_rfl) (fun L0 => v_fieldAddr (q := ⟨b6, 1, none⟩) rfl rfl Try.underlying25 rfl ti23 rfl) ?_
    refine h_take 13 rfl rfl (by kernel_rfl) (by kernel_rfl) (by kernel_rfl) (fun L0 => v_load1 rfl rfl Try.underlying23 rfl (rd_mem 0 rfl rfl)) ?_
    refine h_take 14 rfl rfl (by kernel_rfl) (by kernel_rfl) (by kernel_rfl) (fun L0 => v_fieldAddr (q := ⟨b6, 3, none⟩) rfl rfl Try.underlying25 rfl ti9 rfl) ?_
    refine h_take 15 rfl rfl (by kernel_rfl) (by kernel_rfl) (by kernel_rfl) (fun L0 => v_load1 rfl rfl Try.underlying9 rfl (rd_mem 0 rfl rfl)) ?_
    refine h_take 16 rfl rfl (by kernel_rfl) (by kernel_rfl) (by kernel_rfl) (fun L0 => v_build rfl sp41 ti41 rfl ((fill_cons (cells' := [.int .i64 x28.f_Slot, .int .u64 0, .string ByteArray.empty]) rfl rfl rfl rfl (fill_cons (cells' := [.int .i64 x28.f_Slot, .int .u64 x28.f_Ballot, .string ByteArray.empty]) rfl rfl rfl rfl (fill_cons (cells' := [.int .i64 x28.f_Slot, .int .u64 x28.f_Ballot, .string x28.f_Value]) rfl rfl rfl rfl fill_nil))))) ?_
    refine h_one 8 rfl (by kernel_rfl) ?_
    refine l_f2 ?_
    refine o_call rfl cal9 rfl (vaccA (v := (⟨x28.f_Slot, x28.f_Ballot, x28.f_Value⟩ : VoS))) ?_
    rintro _ _ ⟨rfl, rfl⟩
    refine l_nil ?_
    refine q_conv (fun w S => S.perm p2) ?_
    refine q_conv (fun w S => S.perm p1) ?_
    refine q_conv (fun w S => S.perm p2) ?_
    refine h_next ?_
    refine h_one 17 rfl (by kernel_rfl) ?_
    refine l_f2 ?_
    refine o_call rfl cal13 rfl (racc (v := (⟨x28.f_Slot, x28.f_Ballot, x28.f_Value⟩ : VoR))) ?_
    rintro _ _ ⟨rfl, rfl⟩
    refine l_nil ?_
    refine q_conv (fun w S => S.perm p2) ?_
    refine q_conv (fun w S => S.perm p1) ?_
    refine q_conv (fun w S => S.perm p2) ?_
    refine h_next ?_
    refine h_take 18 rfl rfl (by kernel_rfl) (by kernel_rfl) (by kernel_rfl) (fun L0 => v_bin rfl rfl rfl (b_bne Try.underlying4 _ _)) ?_
    refine h_eq (t := 87) (v' := .bool false) rfl (show _ = Value.bool false from by have h9 : accOkA s (⟨x28.f_Slot, x28.f_Ballot, x28.f_Value⟩ : VoS) ↔ rAccOk r (⟨x28.f_Slot, x28.f_Ballot, x28.f_Value⟩ : VoR) := acc_same hrel; first | (simp [h9]; done) | (simp only [h9]; simp)) ?_
    refine h_done (by kernel_rfl) ?_
    refine q_then ?_
    refine c_false rfl ?_
    refine c_skip ?_
    refine q_then ?_
    refine c_seq ?_
    have hrel2 : Rel (accSA s (⟨x28.f_Slot, x28.f_Ballot, x28.f_Value⟩ : VoS)) (rAcc r (⟨x28.f_Slot, x28.f_Ballot, x28.f_Value⟩ : VoR)) := hrel.acc hkv hrk
    have hkv2 := okV_accSA (v := (⟨x28.f_Slot, x28.f_Ballot, x28.f_Value⟩ : VoS)) hkv
    have hrk2 := rvOk_rAcc (v := (⟨x28.f_Slot, x28.f_Ballot, x28.f_Value⟩ : VoR)) hrk
    obtain ⟨s2, hs2⟩ : ∃ s2, s2 = (accSA s (⟨x28.f_Slot, x28.f_Ballot, x28.f_Value⟩ : VoS)) := ⟨_, rfl⟩
    obtain ⟨r2, hr2⟩ : ∃ r2, r2 = (rAcc r (⟨x28.f_Slot, x28.f_Ballot, x28.f_Value⟩ : VoR)) := ⟨_, rfl⟩
    rw [← hs2, ← hr2] at hrel2
    rw [← hs2] at hkv2
    rw [← hr2] at hrk2
    refine c_conv (fun w S => S.perm p1) ?_
    refine c_conv (fun w S => S.perm p2) ?_
    refine c_conv (L' := VtA k19 s2 :: RvR m r2 :: _) (fun w S => by rw [← hs2, ← hr2] at S; exact S) ?_
    have hl64 := okV_lenA hkv2
    have hml2 : (s2.xs.map ItA.f_value).length = s2.xs.length := List.length_map ..
    refine c_region ?_
    refine o_move rfl rfl ?_
    refine o_call rfl cal14 rfl (vvotesA) ?_
    rintro _ _ ⟨a89, c89, rfl, rfl⟩
    refine o_assign rfl rfl ?_
    refine l_nil ?_
    refine q_then ?_
    refine c_seq ?_
    refine c_seq ?_
    refine c_held [row e_VoS.T e_VoS.sz a89 ((s2.xs.map ItA.f_value)).length c89 (flat e_VoS (s2.xs.map ItA.f_value)), VtA k19 s2, RvR m r2, blk b6 (.cells #[.bool x28.f_Promise, .int .u64 x28.f_Ballot, .int .i64 x28.f_Slot, .string x28.f_Value] 25 (0, 0))] (by kernel_rfl) rfl ?_
    refine h_take 0 rfl rfl (by kernel_rfl) (by kernel_rfl) (by kernel_rfl) (fun L0 => v_move rfl rfl) ?_
    refine h_take 2 rfl rfl (by kernel_rfl) (by kernel_rfl) (by kernel_rfl) (fun L0 => v_move rfl rfl) ?_
    refine h_take 3 rfl rfl (by kernel_rfl) (by kernel_rfl) (by kernel_rfl) (fun L0 => v_nil rfl rfl) ?_
    refine h_take 4 rfl rfl (by kernel_rfl) (by kernel_rfl) (by kernel_rfl) (fun L0 => v_fieldAddr (q := ⟨m, 0, none⟩) rfl rfl Try.underlying44 rfl ti23 rfl) ?_
    refine h_take 5 rfl rfl (by kernel_rfl) (by kernel_rfl) (by kernel_rfl) (fun L0 => v_load1 rfl rfl Try.underlying23 rfl (rd_obj 2 rfl (fun x hp L' => (rd_mem 0 rfl (sg_arr (sg_in rfl)))))) ?_
    refine h_one 1 rfl (by kernel_rfl) ?_
    refine l_f1 ?_
    refine o_call rfl cal15 rfl (vpdA) ?_
    rintro _ _ ⟨rfl, rfl⟩
    refine l_nil ?_
    refine q_conv (fun w S => S.perm p3) ?_
    refine q_conv (fun w S => S.perm p3) ?_
    refine q_conv (fun w S => S.perm p2) ?_
    refine q_conv (fun w S => S.perm p3) ?_
    refine h_next ?_
    refine h_take 6 rfl rfl (by kernel_rfl) (by kernel_rfl) (by kernel_rfl) (fun L0 => v_bin rfl rfl rfl b_neq) ?_
    refine h_eq (t := 96) (v' := .bool false) rfl (show _ = Value.bool false from by rw [hrel2.pr]; simp) ?_
    refine h_take 7 rfl rfl (by kernel_rfl) (by kernel_rfl) (by kernel_rfl) (fun L0 => v_move rfl rfl) ?_
    refine h_take_yes 8 rfl rfl rfl rfl rfl (by kernel_rfl) (by kernel_rfl) (by kernel_rfl) (fun L0 => v_move rfl rfl) ?_
    refine h_take_yes 9 rfl rfl rfl rfl rfl (by kernel_rfl) (by kernel_rfl) (by kernel_rfl) (fun L0 => v_move rfl rfl) ?_
    refine h_one 10 rfl (by kernel_rfl) ?_
    refine o_yes rfl rfl rfl ?_
    refine l_f2 ?_
    refine o_call rfl cal16 rfl (rfrom (fr := 0)) ?_
    rintro _ _ ⟨a100, c100, rfl, rfl⟩
    refine l_nil ?_
    refine q_conv (fun w S => S.perm p4) ?_
    refine q_conv (fun w S => S.perm p2) ?_
    refine q_conv (fun w S => S.perm p4) ?_
    refine q_conv (fun w S => S.perm p4) ?_
    refine h_next ?_
    refine h_one 11 rfl (by kernel_rfl) ?_
    refine o_yes rfl rfl rfl ?_
    refine l_f4 ?_
    refine l_f1 ?_
    refine o_call rfl cal12 rfl (same_ (by rw [hrel2.list hkv2 hrk2, sel_all hkv2]) (by omega)) ?_
    rintro _ _ ⟨rfl, rfl⟩
    refine l_nil ?_
    refine q_conv (fun w S => S.perm p1) ?_
    refine q_conv (fun w S => S.perm p4) ?_
    refine q_conv (fun w S => S.perm p4) ?_
    refine q_conv (fun w S => S.perm p4) ?_
    refine q_conv (fun w S => S.perm p4) ?_
    refine h_next ?_
    refine h_take_yes 12 rfl rfl rfl rfl rfl (by kernel_rfl) (by kernel_rfl) (by kernel_rfl) (fun L0 => v_not rfl rfl) ?_
    refine h_take 13 rfl rfl (by kernel_rfl) (by kernel_rfl) (by kernel_rfl) (fun L0 => v_pick_false rfl rfl rfl) ?_
    refine h_done (by kernel_rfl) ?_
    refine q_then ?_
    refine c_false rfl ?_
    refine c_skip ?_
    refine q_then ?_
    refine c_seq ?_
    refine c_region ?_
    refine o_move rfl rfl ?_
    refine o_len rfl rfl Try.underlying32 ?_
    refine o_move rfl rfl ?_
    refine l_nil ?_
    refine q_then ?_
    refine c_block ?_
    refine c_loop (α := Nat × (List VoS)) (fun z => [(3, .pointer (some ⟨k19, 0, none⟩)), (4, .pointer (some ⟨m, 0, none⟩)), (12, .slice a89 (z.2).length c89), (24, .slice a (os).length c), (25, .int .i64 ((os).length : Int)), (26, .int .i64 (i : Int)), (105, .int .i64 (((s2.xs.map ItA.f_value)).length : Int)), (106, .int .i64 (z.1 : Int))]) (fun z => row e_VoS.T e_VoS.sz a89 (z.2).length c89 (flat e_VoS z.2) :: VtA k19 s2 :: RvR m r2 :: blk b6 (.cells #[.bool x28.f_Promise, .int .u64 x28.f_Ballot, .int .i64 x28.f_Slot, .string x28.f_Value] 25 (0, 0)) :: row e_VoR.T e_VoR.sz a100 ((refL r2 0 64)).length c100 (flat e_VoR (refL r2 0 64)) :: F) (fun z => (z.1 : Int) ≤ ((s2.xs.map ItA.f_value).length : Int) ∧ z.2.length = (s2.xs.map ItA.f_value).length) (fun z => s2.xs.length - z.1) (0, (s2.xs.map ItA.f_value)) (by exact ⟨by omega, rfl⟩) ⟨(by first | rfl | exact vint (by omega)), (by first | rfl | exact vint (by omega)), (by first | rfl | exact vint (by omega)), (by first | rfl | exact vint (by omega)), (by first | rfl | exact vint (by omega)), (by first | rfl | exact vint (by omega)), (by first | rfl | exact vint (by omega)), (by first | rfl | exact vint (by omega)), trivial⟩ (fun w S => S) ?_
    rintro ⟨j2, zs⟩ ⟨hj2, hzl⟩
    try dsimp only at *
    refine c_seq ?_
    refine c_region ?_
    refine o_bin rfl rfl rfl b_lss ?_
    refine l_nil ?_
    refine q_then ?_
    refine c_seq ?_
    refine c_cond rfl (fun h6 => ?_) (fun h6 => ?_)
    · -- h6T
     have h6b := h6
     try simp only [decide_eq_true_eq] at h6
     refine c_skip ?_
     refine q_then ?_
     refine c_seq ?_
     refine c_block ?_
     refine c_seq ?_
     refine c_region ?_
     refine o_move rfl rfl ?_
     refine o_assign rfl rfl ?_
     refine l_nil ?_
     refine q_then ?_
     refine c_region ?_
     refine o_move rfl rfl ?_
     refine o_move rfl rfl ?_
     refine o_index e_VoS_ok rfl rfl rfl Try.underlying32 (by omega) (by omega) (rds_own e_VoS_ok 0 rfl) fun ad111 ead111 => ?_
     obtain ⟨x111, hx111⟩ : ∃ x, (zs)[((j2 : Int)).toNat]? = some x := ⟨_, List.getElem?_eq_getElem (by omega)⟩
     refine o_fieldAddr rfl rfl Try.underlying31 rfl ti9 (Addr.add_add' _ _ _) ?_
     refine o_storeRow (x1 := (⟨x111.f_Slot, x111.f_Ballot, ⟨#[115, 112, 111, 105, 108, 116]⟩⟩ : VoS)) e_VoS_ok ead111 rfl rfl rfl ti9 hx111 (by decide) rfl ?_
     refine l_nil ?_
     refine q_block ?_
     refine q_then ?_
     refine c_region ?_
     refine o_bin rfl rfl rfl (b_add (wrap_i64 (by omega) (by omega))) ?_
     refine o_move rfl rfl ?_
     refine l_nil ?_
     exact q_round (j2 + 1, (zs).set ((j2 : Int)).toNat (⟨x111.f_Slot, x111.f_Ballot, ⟨#[115, 112, 111, 105, 108, 116]⟩⟩ : VoS)) (by exact ⟨by omega, by rw [List.length_set]; exact hzl⟩) (by (try dsimp only); omega) ⟨(by first | rfl | exact vint (by omega)), (by first | rfl | exact vint (by omega)), (by rw [List.length_set]; rfl), (by first | rfl | exact vint (by omega)), (by first | rfl | exact vint (by omega)), (by first | rfl | exact vint (by omega)), (by first | rfl | exact vint (by omega)), (by first | rfl | exact vint (by omega)), trivial⟩ (fun w S => S)
    · -- h6F
     have h6b := h6
     try simp only [decide_eq_false_iff_not, Int.not_lt, Int.not_le] at h6
     refine c_exit ?_
     refine q_pass_exit ?_
     refine q_pass_exit ?_
     refine q_hit ?_
     refine q_block ?_
     refine q_then ?_
     refine c_region ?_
     refine o_bin rfl rfl rfl (b_add (wrap_i64 (by omega) (by omega))) ?_
     refine o_move rfl rfl ?_
     refine l_nil ?_
     refine q_conv (fun w S => S.tail) ?_
     refine q_conv (fun w S => (S.perm p2).tail) ?_
     refine q_conv (fun w S => (S.perm p2).tail) ?_
     refine q_conv (fun w S => S.perm p1) ?_
     exact q_round (i + 1, s2, r2) (by exact ⟨by omega, hkv2, hrk2, hrel2⟩) (by (try dsimp only); omega) ⟨(by first | rfl | exact vint (by omega)), (by first | rfl | exact vint (by omega)), (by first | rfl | exact vint (by omega)), (by first | rfl | exact vint (by omega)), (by first | rfl | exact vint (by omega)), trivial⟩ (fun w S => S)
  · -- h2F
   have h2b := h2
   try simp only [decide_eq_false_iff_not, Int.not_lt, Int.not_le] at h2
   refine c_exit ?_
   refine q_pass_exit ?_
   refine q_pass_exit ?_
   refine q_hit ?_
   refine q_then ?_
   refine c_seq ?_
   refine c_region ?_
   refine o_assign rfl rfl ?_
   refine l_nil ?_
   refine q_then ?_
   refine c_ret ?_
   refine q_conv (fun w S => S.tail) ?_
   refine q_conv (fun w S => S.tail) ?_
   exact f_ret (r_one rfl rfl) (⟨rfl, rfl⟩) (fun w S => S)

end Go.Proofs.Ytcdodagebbfjoaa
