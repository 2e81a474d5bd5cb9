/- Printed by eng2.py out of 02/spec.py. -/
import Derived.Test.YtlbggbjekpfokaaRef
import Derived.Test.YtlbggbjekpfokaaGreat
import Derived.Test.YtlbggbjekpfokaaSpeaks
set_option linter.unusedVariables false
set_option linter.unusedSimpArgs false
set_option maxRecDepth 10000
namespace Go.Proofs.Ytlbggbjekpfokaa
open Go.RowKit Classical
set_option maxHeartbeats 1000000 in
theorem ranges_ {W : World} {F : List Res} {os : List Op} {fr : ByteArray} {mo : Int} {a : Option Addr} {c : Nat} (hs : SlR W e_Op a os) : CS Try.prog 3 #[.slice a os.length c, .string fr, .int .i64 mo] W (F) (fun r L' => r = .bool true ∧ F = L') := by
 refine f_door (l0 := [(0, .slice a os.length c), (1, .string fr), (2, .int .i64 mo)]) Try.func3 Try.ntmps3 rfl rfl rfl ?_
 refine c_seq ?_
 refine c_region ?_
 refine o_box rfl rfl fun b5 => ?_
 refine o_alloc rfl ti4 fun b6 => ?_
 refine l_nil ?_
 refine q_then ?_
 refine c_seq ?_
 refine c_seq ?_
 refine c_region ?_
 refine o_call rfl cal6 rfl (speaks_) ?_
 rintro _ _ ⟨rfl, rfl⟩
 refine o_not rfl rfl ?_
 refine l_nil ?_
 refine q_then ?_
 refine c_false rfl ?_
 refine c_skip ?_
 refine q_then ?_
 refine c_seq ?_
 refine c_seq ?_
 refine c_region ?_
 refine o_move rfl rfl ?_
 refine o_call rfl cal7 rfl (great_ hs) ?_
 rintro _ _ ⟨gr19, hgr19, rfl, rfl⟩
 refine o_move rfl rfl ?_
 refine l_split (t := 20) rfl (fun h1 => ?_) (fun h1 => ?_)
 · -- h1T
  have h1b := h1
  try simp only [decide_eq_true_eq, decide_eq_false_iff_not, Bool.not_eq_eq_eq_not, Bool.not_true, Bool.not_false, Bool.not_eq_true', Bool.not_eq_false', Int.not_lt, Int.not_le, Bool.or_eq_true, Bool.and_eq_true] at h1
  refine o_no rfl rfl rfl rfl ?_
  refine o_no rfl rfl rfl rfl ?_
  refine o_no rfl rfl rfl rfl ?_
  refine o_pick_true rfl rfl rfl ?_
  refine l_nil ?_
  refine q_then ?_
  refine c_true rfl ?_
  refine c_seq ?_
  refine c_region ?_
  refine o_store1 rfl rfl rfl ti4 rfl rfl ?_
  refine l_nil ?_
  refine q_then ?_
  refine c_ret ?_
  refine q_pass_ret ?_
  refine f_retq (.inl rfl) (rs_1 rfl (rs_cell rfl Try.underlying4 rfl (rd_mem 0 rfl rfl))) (fun w S => ?_)
  replace S := S.tail
  replace S := S.tail
  exact ⟨_, ⟨by first | rfl | (rw [decide_eq_true (by omega)] <;> rfl), rfl⟩, (fun w S => S) w S⟩
 · -- h1F
  have h1b := h1
  try simp only [decide_eq_true_eq, decide_eq_false_iff_not, Bool.not_eq_eq_eq_not, Bool.not_true, Bool.not_false, Bool.not_eq_true', Bool.not_eq_false', Int.not_lt, Int.not_le, Bool.or_eq_true, Bool.and_eq_true] at h1
  refine o_yes rfl rfl rfl ?_
  refine o_move rfl rfl ?_
  refine o_yes rfl rfl rfl ?_
  refine o_lenStr rfl rfl Try.underlying9 ?_
  refine o_yes rfl rfl rfl ?_
  refine o_bin rfl rfl rfl b_gtr ?_
  refine o_pick_false rfl rfl rfl ?_
  refine l_nil ?_
  refine q_then ?_
  refine c_cond rfl (fun h2 => ?_) (fun h2 => ?_)
  · -- h2T
   have h2b := h2
   try simp only [decide_eq_true_eq] at h2
   refine c_seq ?_
   refine c_region ?_
   refine o_store1 rfl rfl rfl ti4 rfl rfl ?_
   refine l_nil ?_
   refine q_then ?_
   refine c_ret ?_
   refine q_pass_ret ?_
   refine f_retq (.inl rfl) (rs_1 rfl (rs_cell rfl Try.underlying4 rfl (rd_mem 0 rfl rfl))) (fun w S => ?_)
   replace S := S.tail
   replace S := S.tail
   exact ⟨_, ⟨by first | rfl | (rw [decide_eq_true (by omega)] <;> rfl), rfl⟩, (fun w S => S) w S⟩
  · -- h2F
   have h2b := h2
   try simp only [decide_eq_false_iff_not, Int.not_lt, Int.not_le] at h2
   refine c_skip ?_
   refine q_then ?_
   refine c_seq ?_
   have hos := hgr19 (by first | exact h1b | simpa using h1b)
   refine c_region ?_
   refine o_call rfl cal8 rfl (new_A) ?_
   rintro _ _ ⟨t25, rfl, rfl⟩
   refine o_build rfl sp30 ti30 rfl rfl ?_
   refine o_box rfl rfl fun m => ?_
   refine o_alloc rfl ti27 fun b8 => ?_
   refine o_assign rfl rfl ?_
   refine o_store1 rfl rfl rfl ti27 rfl rfl ?_
   refine l_nil ?_
   refine q_then ?_
   refine c_seq ?_
   refine c_seq ?_
   refine c_region ?_
   refine o_move rfl rfl ?_
   refine o_bin rfl rfl rfl (b_peq Try.underlying25 _) ?_
   refine l_nil ?_
   refine q_then ?_
   refine c_false rfl ?_
   refine c_skip ?_
   refine q_then ?_
   refine c_seq ?_
   refine c_seq ?_
   refine c_nilrow e_ItR ?_
   refine c_conv (fun w S => S.perm p5) ?_
   refine c_conv (fun w S => S.perm p5) ?_
   refine c_conv (fun w S => S.perm p5) ?_
   refine c_conv (fun w S => S.perm p4) ?_
   refine c_conv (fun w S => S.perm p4) ?_
   refine c_conv (fun w S => S.perm p5) ?_
   refine c_conv (L' := RfT m ([] : List ItR) :: _) (fun w S => Sat.obj_mk ⟨none, 0⟩ trivial S) ?_
   refine c_region ?_
   refine o_move rfl rfl ?_
   refine o_len rfl rfl Try.underlying22 ?_
   refine o_move rfl rfl ?_
   refine l_nil ?_
   refine q_then ?_
   refine c_block ?_
   refine c_loop (α := Nat × (List ItA)) (fun z => [(1, .string fr), (5, .pointer (some ⟨b5, 0, none⟩)), (6, .pointer (some ⟨b6, 0, none⟩)), (7, .pointer (some ⟨t25, 0, none⟩)), (8, .pointer (some ⟨b8, 0, none⟩)), (30, .slice a (os).length c), (31, .int .i64 ((os).length : Int)), (32, .int .i64 (z.1 : Int))]) (fun z => RfT m (z.2.map toR) :: blk b8 (.cells #[.pointer (some ⟨m, 0, none⟩)] 27 (0, 0)) :: treeR e_ItA eN57 61 63 ItA.f_key strlt t25 z.2 :: blk b6 (.cells #[.bool false] 4 (0, 0)) :: blk b5 (.cells #[.int .i64 mo] 3 (0, 0)) :: F) (fun z => z.1 ≤ os.length ∧ z.2.length ≤ z.1 ∧ Srt ItA.f_key strlt z.2) (fun z => os.length - z.1) (0, []) (by exact ⟨Nat.zero_le _, Nat.le_refl _, List.Pairwise.nil⟩) ⟨(by first | rfl | exact vint (by omega)), (by first | rfl | exact vint (by omega)), (by first | rfl | exact vint (by omega)), (by first | rfl | exact vint (by omega)), (by first | rfl | exact vint (by omega)), (by first | rfl | exact vint (by omega)), (by first | rfl | exact vint (by omega)), (by first | rfl | exact vint (by omega)), trivial⟩ (fun w S => S) ?_
   rintro ⟨i, ks⟩ ⟨hi, hkl, hsrt⟩
   try dsimp only at *
   refine c_seq ?_
   refine c_region ?_
   refine o_bin rfl rfl rfl b_lss ?_
   refine l_nil ?_
   refine q_then ?_
   refine c_seq ?_
   refine c_cond rfl (fun h3 => ?_) (fun h3 => ?_)
   · -- h3T
    have h3b := h3
    try simp only [decide_eq_true_eq] at h3
    refine c_skip ?_
    refine q_then ?_
    refine c_seq ?_
    refine c_block ?_
    refine c_seq ?_
    refine c_region ?_
    refine o_index e_Op_ok rfl rfl rfl Try.underlying22 (by omega) (by omega) (rds_c (rds_c (rds_c (rds_c (rds_c (rds_old hs)))))) fun ad34 ead34 => ?_
    obtain ⟨x34, hx34⟩ : ∃ x, (os)[((i : Int)).toNat]? = some x := ⟨_, List.getElem?_eq_getElem (by omega)⟩
    refine o_loadn (vs := e_Op.cells x34) rfl rfl Try.underlying32 rfl ti32 (rdn_sl e_Op_ok ead34 (rds_c (rds_c (rds_c (rds_c (rds_c (rds_old hs)))))) hx34) ?_
    refine o_alloc rfl ti32 fun b10 => ?_
    refine o_storen rfl rfl ti32 rfl rfl rfl rfl ?_
    refine l_nil ?_
    refine q_then ?_
    refine c_seq ?_
    refine c_region ?_
    refine o_move rfl rfl ?_
    refine o_fieldAddr (q := ⟨b10, 1, none⟩) rfl rfl Try.underlying32 rfl ti9 rfl ?_
    refine o_load1 rfl rfl Try.underlying9 rfl (rd_mem 0 rfl rfl) ?_
    refine o_fieldAddr (q := ⟨b10, 2, none⟩) rfl rfl Try.underlying32 rfl ti3 rfl ?_
    refine o_load1 rfl rfl Try.underlying3 rfl (rd_mem 0 rfl rfl) ?_
    refine l_f3 ?_
    refine o_call rfl cal9 rfl (tput_A (k := x34.f_Key) (v := x34.f_Value) (by omega)) ?_
    rintro _ _ ⟨old41, had41, ⟨hol41, hsr41⟩, rfl, rfl⟩
    have hln := insA_len hsr41 hol41 hkl
    refine l_nil ?_
    refine q_then ?_
    refine c_region ?_
    refine o_load1 rfl rfl Try.underlying27 rfl (rd_mem 3 rfl rfl) ?_
    refine o_fieldAddr (q := ⟨b10, 1, none⟩) rfl rfl Try.underlying32 rfl ti9 rfl ?_
    refine o_load1 rfl rfl Try.underlying9 rfl (rd_mem 1 rfl rfl) ?_
    refine o_fieldAddr (q := ⟨b10, 2, none⟩) rfl rfl Try.underlying32 rfl ti3 rfl ?_
    refine o_load1 rfl rfl Try.underlying3 rfl (rd_mem 1 rfl rfl) ?_
    refine l_f2 ?_
    refine o_call rfl cal10 rfl (rput_ (k := x34.f_Key) (v := x34.f_Value) (by rw [List.length_map]; omega)) ?_
    rintro _ _ ⟨i47, b47, ov47, hv47, hpl47, rfl, rfl⟩
    refine l_conv (L' := RfT m ((ins ItA.f_key strlt ⟨x34.f_Key, x34.f_Value⟩ ks).map toR) :: _) (fun w S => by rw [show (putR (ks.map toR) x34.f_Key x34.f_Value i47 b47) = ((ins ItA.f_key strlt ⟨x34.f_Key, x34.f_Value⟩ ks).map toR) from put_ins hsrt hpl47] at S; exact S) ?_
    refine l_nil ?_
    refine q_block ?_
    refine q_then ?_
    refine c_region ?_
    refine o_bin rfl rfl rfl (b_add (wrap_i64 (by omega) (by omega))) ?_
    refine o_move rfl rfl ?_
    refine l_nil ?_
    refine q_conv (fun w S => (S.perm p2).tail) ?_
    refine q_conv (fun w S => S.perm p4) ?_
    refine q_conv (fun w S => S.perm p4) ?_
    refine q_conv (fun w S => S.perm p3) ?_
    refine q_conv (fun w S => S.perm p4) ?_
    refine q_conv (fun w S => S.perm p4) ?_
    exact q_round (i + 1, (ins ItA.f_key strlt (⟨x34.f_Key, x34.f_Value⟩ : ItA) ks)) (by exact ⟨by omega, hln, srt_ins strlt_sto hsrt⟩) (by (try dsimp only); omega) ⟨(by first | rfl | exact vint (by omega)), (by first | rfl | exact vint (by omega)), (by first | rfl | exact vint (by omega)), (by first | rfl | exact vint (by omega)), (by first | rfl | exact vint (by omega)), (by first | rfl | exact vint (by omega)), (by first | rfl | exact vint (by omega)), (by first | rfl | exact vint (by omega)), trivial⟩ (fun w S => S)
   · -- h3F
    have h3b := h3
    try simp only [decide_eq_false_iff_not, Int.not_lt, Int.not_le] at h3
    refine c_exit ?_
    refine q_pass_exit ?_
    refine q_pass_exit ?_
    refine q_hit ?_
    refine q_then ?_
    refine c_seq ?_
    refine c_region ?_
    refine o_load1 rfl rfl Try.underlying27 rfl (rd_mem 1 rfl rfl) ?_
    refine o_move rfl rfl ?_
    refine o_call rfl cal11 rfl (place_ (k := fr) (by rw [List.length_map]; omega)) ?_
    rintro _ _ ⟨i52, b52, hpl52, rfl, rfl⟩
    refine o_move rfl rfl ?_
    refine o_extract rfl rfl rfl ?_
    refine o_extract rfl rfl rfl ?_
    refine o_alloc rfl ti3 fun b11 => ?_
    refine o_store1 rfl rfl rfl ti3 rfl rfl ?_
    refine o_assign rfl rfl ?_
    refine l_nil ?_
    refine q_then ?_
    refine c_seq ?_
    have hml : (ks.map toR).length = ks.length := List.length_map ..
    refine c_region ?_
    refine o_load1 rfl rfl Try.underlying3 rfl (rd_mem 0 rfl rfl) ?_
    refine o_alloc rfl ti3 fun b13 => ?_
    refine o_store1 rfl rfl rfl ti3 rfl rfl ?_
    refine l_nil ?_
    refine q_then ?_
    refine c_seq ?_
    refine c_seq ?_
    refine c_conv (fun w S => S.perm p2) ?_
    refine c_obj ?_
    rintro ⟨a_1, c_1⟩ ok_1
    refine c_conv (L' := blk m (.cells #[.slice a_1 ((ks.map toR)).length c_1] 30 (0, 0)) :: row e_ItR.T e_ItR.sz a_1 ((ks.map toR)).length c_1 (flat e_ItR (ks.map toR)) :: _) (fun w S => S) ?_
    refine c_region ?_
    refine o_move rfl rfl ?_
    refine o_move rfl rfl ?_
    refine o_call rfl cal12 rfl (from_A (t := t25) (k := fr)) ?_
    rintro _ _ ⟨kt58, kk58, rfl, rfl⟩
    refine l_nil ?_
    refine q_then ?_
    refine c_block ?_
    refine c_conv (fun w S => S.perm p9) ?_
    refine c_conv (fun w S => S.perm p9) ?_
    refine c_conv (fun w S => S.perm p5) ?_
    refine c_conv (fun w S => S.perm p5) ?_
    refine c_conv (fun w S => S.perm p8) ?_
    refine c_conv (fun w S => S.perm p8) ?_
    refine c_conv (fun w S => S.perm p8) ?_
    refine c_conv (fun w S => S.perm p9) ?_
    refine c_conv (fun w S => S.perm p9) ?_
    refine c_conv (fun w S => S.perm p9) ?_
    refine c_rangeG (Li := [blk kt58 (.cells #[.pointer (some ⟨t25, 0, none⟩)] 25 (0, 0)), blk kk58 (.cells #[.string fr] 9 (0, 0)), treeR e_ItA eN57 61 63 ItA.f_key strlt t25 ks]) (L0 := blk b13 (.cells #[.int .i64 (i52 : Int)] 3 (0, 0)) :: blk b11 (.cells #[.int .i64 (i52 : Int)] 3 (0, 0)) :: blk b8 (.cells #[.pointer (some ⟨m, 0, none⟩)] 27 (0, 0)) :: blk m (.cells #[.slice a_1 ((ks.map toR)).length c_1] 30 (0, 0)) :: row e_ItR.T e_ItR.sz a_1 ((ks.map toR)).length c_1 (flat e_ItR (ks.map toR)) :: blk b6 (.cells #[.bool false] 4 (0, 0)) :: blk b5 (.cells #[.int .i64 mo] 3 (0, 0)) :: F) (fun pre L => (pre.length = 0 ∨ (pre.length : Int) ≤ mo) ∧ L = blk b13 (.cells #[.int .i64 ((i52 : Int) + (pre.length : Int))] 3 (0, 0)) :: blk b11 (.cells #[.int .i64 (i52 : Int)] 3 (0, 0)) :: blk b8 (.cells #[.pointer (some ⟨m, 0, none⟩)] 27 (0, 0)) :: blk m (.cells #[.slice a_1 ((ks.map toR)).length c_1] 30 (0, 0)) :: row e_ItR.T e_ItR.sz a_1 ((ks.map toR)).length c_1 (flat e_ItR (ks.map toR)) :: blk b6 (.cells #[.bool false] 4 (0, 0)) :: blk b5 (.cells #[.int .i64 mo] 3 (0, 0)) :: F) (fun c L => (c = (.exit 2) ∧ ∃ mm : Nat, ((mm = 0 ∨ (mm : Int) ≤ mo) ∧ (mo ≤ mm ∨ ks.length ≤ i52 + mm) ∧ i52 + mm ≤ ks.length) ∧ L = blk b13 (.cells #[.int .i64 ((i52 : Int) + (mm : Int))] 3 (0, 0)) :: blk b11 (.cells #[.int .i64 (i52 : Int)] 3 (0, 0)) :: blk b8 (.cells #[.pointer (some ⟨m, 0, none⟩)] 27 (0, 0)) :: blk m (.cells #[.slice a_1 ((ks.map toR)).length c_1] 30 (0, 0)) :: row e_ItR.T e_ItR.sz a_1 ((ks.map toR)).length c_1 (flat e_ItR (ks.map toR)) :: blk b6 (.cells #[.bool false] 4 (0, 0)) :: blk b5 (.cells #[.int .i64 mo] 3 (0, 0)) :: F)) rfl rfl cal26 rfl (fun _ => rfl) (fromIter_A) (fun w S => S) ⟨.inl rfl, rfl⟩ ?_ ?_ ?_
    · -- round
     rintro Lxg4 kg4 rg4 Dg4 pre x _ hrg4 ⟨hp0, rfl⟩ hpre
     try dsimp only at *
     obtain ⟨hget, hltp⟩ := pre_get hsrt hpl52 hpre
     refine c_conv (L' := blk kg4 (.loop rg4) :: Dg4 :: blk b13 (.cells #[.int .i64 ((i52 : Int) + (pre.length : Int))] 3 (0, 0)) :: blk b11 (.cells #[.int .i64 (i52 : Int)] 3 (0, 0)) :: blk b8 (.cells #[.pointer (some ⟨m, 0, none⟩)] 27 (0, 0)) :: blk m (.cells #[.slice a_1 ((ks.map toR)).length c_1] 30 (0, 0)) :: row e_ItR.T e_ItR.sz a_1 ((ks.map toR)).length c_1 (flat e_ItR (ks.map toR)) :: blk b6 (.cells #[.bool false] 4 (0, 0)) :: blk b5 (.cells #[.int .i64 mo] 3 (0, 0)) :: (Lxg4 ++ F)) (fun w S => S.perm (rgP Lxg4 [blk b13 (.cells #[.int .i64 ((i52 : Int) + (pre.length : Int))] 3 (0, 0)), blk b11 (.cells #[.int .i64 (i52 : Int)] 3 (0, 0)), blk b8 (.cells #[.pointer (some ⟨m, 0, none⟩)] 27 (0, 0)), blk m (.cells #[.slice a_1 ((ks.map toR)).length c_1] 30 (0, 0)), row e_ItR.T e_ItR.sz a_1 ((ks.map toR)).length c_1 (flat e_ItR (ks.map toR)), blk b6 (.cells #[.bool false] 4 (0, 0)), blk b5 (.cells #[.int .i64 mo] 3 (0, 0))] F)) ?_
     refine c_seq ?_
     refine c_region ?_
     refine o_assign rfl rfl ?_
     refine l_nil ?_
     refine q_then ?_
     refine c_region ?_
     refine o_assign rfl rfl ?_
     refine l_nil ?_
     refine q_begin rfl hrg4 ?_
     refine c_block ?_
     refine c_seq ?_
     refine c_seq ?_
     refine c_held [blk kg4 (.loop _), Dg4, blk b13 (.cells #[.int .i64 ((i52 : Int) + (pre.length : Int))] 3 (0, 0)), blk b11 (.cells #[.int .i64 (i52 : Int)] 3 (0, 0)), blk b8 (.cells #[.pointer (some ⟨m, 0, none⟩)] 27 (0, 0)), blk m (.cells #[.slice a_1 ((ks.map toR)).length c_1] 30 (0, 0)), row e_ItR.T e_ItR.sz a_1 ((ks.map toR)).length c_1 (flat e_ItR (ks.map toR)), blk b6 (.cells #[.bool false] 4 (0, 0)), blk b5 (.cells #[.int .i64 mo] 3 (0, 0))] (by kernel_rfl) rfl ?_
     refine h_take 0 rfl rfl (by kernel_rfl) (by kernel_rfl) (by kernel_rfl) (fun L0 => v_load1 rfl rfl Try.underlying3 rfl (rd_mem 2 rfl rfl)) ?_
     refine h_take 1 rfl rfl (by kernel_rfl) (by kernel_rfl) (by kernel_rfl) (fun L0 => v_load1 rfl rfl Try.underlying3 rfl (rd_mem 3 rfl rfl)) ?_
     refine h_take 2 rfl rfl (by kernel_rfl) (by kernel_rfl) (by kernel_rfl) (fun L0 => v_bin rfl rfl rfl (b_sub (wrap_i64 (by omega) (by omega)))) ?_
     refine h_take 3 rfl rfl (by kernel_rfl) (by kernel_rfl) (by kernel_rfl) (fun L0 => v_load1 rfl rfl Try.underlying3 rfl (rd_mem 8 rfl rfl)) ?_
     refine h_take 4 rfl rfl (by kernel_rfl) (by kernel_rfl) (by kernel_rfl) (fun L0 => v_bin rfl rfl rfl b_geq) ?_
     refine h_take 5 rfl rfl (by kernel_rfl) (by kernel_rfl) (by kernel_rfl) (fun L0 => v_move rfl rfl) ?_
     refine h_split (t := 66) rfl (fun h5 => ?_) (fun h5 => ?_)
     · -- h5T
      have h5b := h5
      try simp only [decide_eq_true_eq] at h5
      refine h_take_no 6 rfl rfl rfl rfl rfl (by kernel_rfl) (by kernel_rfl) (by kernel_rfl) ?_
      refine h_take_no 7 rfl rfl rfl rfl rfl (by kernel_rfl) (by kernel_rfl) (by kernel_rfl) ?_
      refine h_take_no 8 rfl rfl rfl rfl rfl (by kernel_rfl) (by kernel_rfl) (by kernel_rfl) ?_
      refine h_take_no 9 rfl rfl rfl rfl rfl (by kernel_rfl) (by kernel_rfl) (by kernel_rfl) ?_
      refine h_take_no 10 rfl rfl rfl rfl rfl (by kernel_rfl) (by kernel_rfl) (by kernel_rfl) ?_
      refine h_take_no 11 rfl rfl rfl rfl rfl (by kernel_rfl) (by kernel_rfl) (by kernel_rfl) ?_
      refine h_take_no 12 rfl rfl rfl rfl rfl (by kernel_rfl) (by kernel_rfl) (by kernel_rfl) ?_
      refine h_take 13 rfl rfl (by kernel_rfl) (by kernel_rfl) (by kernel_rfl) (fun L0 => v_pick_true rfl rfl rfl) ?_
      refine h_done (by kernel_rfl) ?_
      refine q_then ?_
      refine c_true rfl ?_
      refine c_exit ?_
      refine q_pass_exit ?_
      refine q_miss rfl ?_
      exact q_roundExit (.inr ⟨rfl, _, _, ⟨rfl, pre.length, by exact ⟨hp0, by (try rw [List.length_map] at *); omega, by omega⟩, rfl⟩, rfl⟩) (fun w S => S.perm (rgP Lxg4 [blk b13 (.cells #[.int .i64 ((i52 : Int) + (pre.length : Int))] 3 (0, 0)), blk b11 (.cells #[.int .i64 (i52 : Int)] 3 (0, 0)), blk b8 (.cells #[.pointer (some ⟨m, 0, none⟩)] 27 (0, 0)), blk m (.cells #[.slice a_1 ((ks.map toR)).length c_1] 30 (0, 0)), row e_ItR.T e_ItR.sz a_1 ((ks.map toR)).length c_1 (flat e_ItR (ks.map toR)), blk b6 (.cells #[.bool false] 4 (0, 0)), blk b5 (.cells #[.int .i64 mo] 3 (0, 0))] F).symm)
     · -- h5F
      have h5b := h5
      try simp only [decide_eq_false_iff_not, Int.not_lt, Int.not_le] at h5
      refine h_take_yes 6 rfl rfl rfl rfl rfl (by kernel_rfl) (by kernel_rfl) (by kernel_rfl) (fun L0 => v_load1 rfl rfl Try.underlying3 rfl (rd_mem 2 rfl rfl)) ?_
      refine h_take_yes 7 rfl rfl rfl rfl rfl (by kernel_rfl) (by kernel_rfl) (by kernel_rfl) (fun L0 => v_load1 rfl rfl Try.underlying27 rfl (rd_mem 4 rfl rfl)) ?_
      refine h_take_yes 8 rfl rfl rfl rfl rfl (by kernel_rfl) (by kernel_rfl) (by kernel_rfl) (fun L0 => v_nil rfl rfl) ?_
      refine h_take_yes 9 rfl rfl rfl rfl rfl (by kernel_rfl) (by kernel_rfl) (by kernel_rfl) (fun L0 => v_fieldAddr (q := ⟨m, 0, none⟩) rfl rfl Try.underlying30 rfl ti28 rfl) ?_
      refine h_take_yes 10 rfl rfl rfl rfl rfl (by kernel_rfl) (by kernel_rfl) (by kernel_rfl) (fun L0 => v_load1 rfl rfl Try.underlying28 rfl (rd_mem 5 rfl rfl)) ?_
      refine h_take_yes 11 rfl rfl rfl rfl rfl (by kernel_rfl) (by kernel_rfl) (by kernel_rfl) (fun L0 => v_len rfl rfl Try.underlying28) ?_
      refine h_take_yes 12 rfl rfl rfl rfl rfl (by kernel_rfl) (by kernel_rfl) (by kernel_rfl) (fun L0 => v_bin rfl rfl rfl b_geq) ?_
      refine h_take 13 rfl rfl (by kernel_rfl) (by kernel_rfl) (by kernel_rfl) (fun L0 => v_pick_false rfl rfl rfl) ?_
      refine h_done (by kernel_rfl) ?_
      refine q_then ?_
      refine c_cond rfl (fun h6 => ?_) (fun h6 => ?_)
      · -- h6T
       have h6b := h6
       try simp only [decide_eq_true_eq] at h6
       refine c_exit ?_
       refine q_pass_exit ?_
       refine q_miss rfl ?_
       exact q_roundExit (.inr ⟨rfl, _, _, ⟨rfl, pre.length, by exact ⟨hp0, by (try rw [List.length_map] at *); omega, by omega⟩, rfl⟩, rfl⟩) (fun w S => S.perm (rgP Lxg4 [blk b13 (.cells #[.int .i64 ((i52 : Int) + (pre.length : Int))] 3 (0, 0)), blk b11 (.cells #[.int .i64 (i52 : Int)] 3 (0, 0)), blk b8 (.cells #[.pointer (some ⟨m, 0, none⟩)] 27 (0, 0)), blk m (.cells #[.slice a_1 ((ks.map toR)).length c_1] 30 (0, 0)), row e_ItR.T e_ItR.sz a_1 ((ks.map toR)).length c_1 (flat e_ItR (ks.map toR)), blk b6 (.cells #[.bool false] 4 (0, 0)), blk b5 (.cells #[.int .i64 mo] 3 (0, 0))] F).symm)
      · -- h6F
       have h6b := h6
       try simp only [decide_eq_false_iff_not, Int.not_lt, Int.not_le] at h6
       refine c_skip ?_
       refine q_then ?_
       refine c_seq ?_
       refine c_seq ?_
       refine c_fact (p := ∃ ad, a_1 = some ad) (rds_some (e := e_ItR) (xs := (ks.map toR)) (rds_own e_ItR_ok 6 rfl) (by intro h0; have h00 := congrArg List.length h0; simp only [List.length_nil] at h00; omega)) ?_
       rintro ⟨adm, eadm⟩
       refine c_held [blk kg4 (.loop _), Dg4, blk b13 (.cells #[.int .i64 ((i52 : Int) + (pre.length : Int))] 3 (0, 0)), blk b11 (.cells #[.int .i64 (i52 : Int)] 3 (0, 0)), blk b8 (.cells #[.pointer (some ⟨m, 0, none⟩)] 27 (0, 0)), blk m (.cells #[.slice a_1 ((ks.map toR)).length c_1] 30 (0, 0)), row e_ItR.T e_ItR.sz a_1 ((ks.map toR)).length c_1 (flat e_ItR (ks.map toR)), blk b6 (.cells #[.bool false] 4 (0, 0)), blk b5 (.cells #[.int .i64 mo] 3 (0, 0))] (by kernel_rfl) rfl ?_
       refine h_take 0 rfl rfl (by kernel_rfl) (by kernel_rfl) (by kernel_rfl) (fun L0 => v_load1 rfl rfl Try.underlying27 rfl (rd_mem 4 rfl rfl)) ?_
       refine h_take 1 rfl rfl (by kernel_rfl) (by kernel_rfl) (by kernel_rfl) (fun L0 => v_nil rfl rfl) ?_
       refine h_take 2 rfl rfl (by kernel_rfl) (by kernel_rfl) (by kernel_rfl) (fun L0 => v_fieldAddr (q := ⟨m, 0, none⟩) rfl rfl Try.underlying30 rfl ti28 rfl) ?_
       refine h_take 3 rfl rfl (by kernel_rfl) (by kernel_rfl) (by kernel_rfl) (fun L0 => v_load1 rfl rfl Try.underlying28 rfl (rd_mem 5 rfl rfl)) ?_
       refine h_take 4 rfl rfl (by kernel_rfl) (by kernel_rfl) (by kernel_rfl) (fun L0 => v_load1 rfl rfl Try.underlying3 rfl (rd_mem 2 rfl rfl)) ?_
       refine h_take 5 rfl rfl (by kernel_rfl) (by kernel_rfl) (by kernel_rfl) (fun L0 => v_indexK e_ItR_ok eadm rfl rfl rfl Try.underlying28 (by omega) (by omega)) ?_
       obtain ⟨x80, hx80⟩ : ∃ x, ((ks.map toR))[(((i52 : Int) + (pre.length : Int))).toNat]? = some x := ⟨_, List.getElem?_eq_getElem (by omega)⟩
       have e80 : x80 = toR x := by have h9 := hx80; rw [show (((i52 : Int) + (pre.length : Int))).toNat = i52 + pre.length from by omega, hget] at h9; exact (Option.some.inj h9).symm
       refine h_take 6 rfl rfl (by kernel_rfl) (by kernel_rfl) (by kernel_rfl) (fun L0 => v_fieldAddr rfl rfl Try.underlying40 rfl ti9 (Addr.add_add' _ _ _)) ?_
       refine h_take 7 rfl rfl (by kernel_rfl) (by kernel_rfl) (by kernel_rfl) (fun L0 => v_load1 rfl rfl Try.underlying9 rfl (rd_sl e_ItR_ok eadm (rds_own e_ItR_ok 6 rfl) hx80 rfl)) ?_
       refine h_take 8 rfl rfl (by kernel_rfl) (by kernel_rfl) (by kernel_rfl) (fun L0 => v_move rfl rfl) ?_
       refine h_take 9 rfl rfl (by kernel_rfl) (by kernel_rfl) (by kernel_rfl) (fun L0 => v_bin rfl rfl rfl b_sneq) ?_
       refine h_eq (t := 84) (v' := .bool false) rfl (show _ = Value.bool false from by rw [e80]; simp [toR]) ?_
       refine h_take 10 rfl rfl (by kernel_rfl) (by kernel_rfl) (by kernel_rfl) (fun L0 => v_move rfl rfl) ?_
       refine h_take_yes 11 rfl rfl rfl rfl rfl (by kernel_rfl) (by kernel_rfl) (by kernel_rfl) (fun L0 => v_load1 rfl rfl Try.underlying27 rfl (rd_mem 4 rfl rfl)) ?_
       refine h_take_yes 12 rfl rfl rfl rfl rfl (by kernel_rfl) (by kernel_rfl) (by kernel_rfl) (fun L0 => v_nil rfl rfl) ?_
       refine h_take_yes 13 rfl rfl rfl rfl rfl (by kernel_rfl) (by kernel_rfl) (by kernel_rfl) (fun L0 => v_fieldAddr (q := ⟨m, 0, none⟩) rfl rfl Try.underlying30 rfl ti28 rfl) ?_
       refine h_take_yes 14 rfl rfl rfl rfl rfl (by kernel_rfl) (by kernel_rfl) (by kernel_rfl) (fun L0 => v_load1 rfl rfl Try.underlying28 rfl (rd_mem 5 rfl rfl)) ?_
       refine h_take_yes 15 rfl rfl rfl rfl rfl (by kernel_rfl) (by kernel_rfl) (by kernel_rfl) (fun L0 => v_load1 rfl rfl Try.underlying3 rfl (rd_mem 2 rfl rfl)) ?_
       refine h_take_yes 16 rfl rfl rfl rfl rfl (by kernel_rfl) (by kernel_rfl) (by kernel_rfl) (fun L0 => v_indexK e_ItR_ok eadm rfl rfl rfl Try.underlying28 (by omega) (by omega)) ?_
       obtain ⟨x91, hx91⟩ : ∃ x, ((ks.map toR))[(((i52 : Int) + (pre.length : Int))).toNat]? = some x := ⟨_, List.getElem?_eq_getElem (by omega)⟩
       have e91 : x91 = toR x := by have h9 := hx91; rw [show (((i52 : Int) + (pre.length : Int))).toNat = i52 + pre.length from by omega, hget] at h9; exact (Option.some.inj h9).symm
       refine h_take_yes 17 rfl rfl rfl rfl rfl (by kernel_rfl) (by kernel_rfl) (by kernel_rfl) (fun L0 => v_fieldAddr rfl rfl Try.underlying40 rfl ti3 (Addr.add_add' _ _ _)) ?_
       refine h_take_yes 18 rfl rfl rfl rfl rfl (by kernel_rfl) (by kernel_rfl) (by kernel_rfl) (fun L0 => v_load1 rfl rfl Try.underlying3 rfl (rd_sl e_ItR_ok eadm (rds_own e_ItR_ok 6 rfl) hx91 rfl)) ?_
       refine h_take_yes 19 rfl rfl rfl rfl rfl (by kernel_rfl) (by kernel_rfl) (by kernel_rfl) (fun L0 => v_move rfl rfl) ?_
       refine h_take_yes 20 rfl rfl rfl rfl rfl (by kernel_rfl) (by kernel_rfl) (by kernel_rfl) (fun L0 => v_bin rfl rfl rfl b_neq) ?_
       refine h_eq (t := 95) (v' := .bool false) rfl (show _ = Value.bool false from by rw [e91]; simp [toR]) ?_
       refine h_take 21 rfl rfl (by kernel_rfl) (by kernel_rfl) (by kernel_rfl) (fun L0 => v_pick_false rfl rfl rfl) ?_
       refine h_done (by kernel_rfl) ?_
       refine q_then ?_
       refine c_false rfl ?_
       refine c_skip ?_
       refine q_then ?_
       refine c_region ?_
       refine o_load1 rfl rfl Try.underlying3 rfl (rd_mem 2 rfl rfl) ?_
       refine o_bin rfl rfl rfl (b_add (wrap_i64 (by omega) (by omega))) ?_
       refine l_f2 ?_
       refine o_store1 rfl rfl rfl ti3 rfl rfl ?_
       refine l_nil ?_
       refine q_block ?_
       refine q_conv (L' := blk b13 (.cells #[.int .i64 ((i52 : Int) + ((pre ++ [x]).length : Int))] 3 (0, 0)) :: _) (fun w S => by rw [show ((i52 : Int) + (pre.length : Int)) + 1 = ((i52 : Int) + ((pre ++ [x]).length : Int)) from by rw [List.length_append]; simp only [List.length_cons, List.length_nil]; omega] at S; exact S) ?_
       refine q_conv (fun w S => S.perm p8) ?_
       refine q_conv (fun w S => S.perm p8) ?_
       refine q_conv (fun w S => S.perm p8) ?_
       refine q_conv (fun w S => S.perm p8) ?_
       refine q_conv (fun w S => S.perm p8) ?_
       refine q_conv (fun w S => S.perm p8) ?_
       refine q_conv (fun w S => S.perm p6) ?_
       refine q_conv (fun w S => S.perm p8) ?_
       refine q_conv (fun w S => S.perm p8) ?_
       exact q_roundOn (.inl ⟨rfl, _, ⟨by (right; rw [List.length_append]; simp only [List.length_cons, List.length_nil]; omega), rfl⟩, rfl⟩) (fun w S => S.perm (rgP Lxg4 [blk b13 (.cells #[.int .i64 ((i52 : Int) + ((pre ++ [x]).length : Int))] 3 (0, 0)), blk b11 (.cells #[.int .i64 (i52 : Int)] 3 (0, 0)), blk b8 (.cells #[.pointer (some ⟨m, 0, none⟩)] 27 (0, 0)), blk m (.cells #[.slice a_1 ((ks.map toR)).length c_1] 30 (0, 0)), row e_ItR.T e_ItR.sz a_1 ((ks.map toR)).length c_1 (flat e_ItR (ks.map toR)), blk b6 (.cells #[.bool false] 4 (0, 0)), blk b5 (.cells #[.int .i64 mo] 3 (0, 0))] F).symm)
    · -- all have come
     rintro dg4 _ ⟨hp0, rfl⟩
     try dsimp only at *
     have hsl : (sel ItA.f_key strlt (some fr) ks).length = ks.length - i52 := by rw [sel_place hsrt hpl52, List.length_drop]
     have hle52 := (hpl52.found hsrt).le
     refine q_block ?_
     refine q_then ?_
     refine c_seq ?_
     refine c_conv (fun w S => S.perm p9) ?_
     refine c_conv (fun w S => S.perm p10) ?_
     refine c_conv (fun w S => S.perm p10) ?_
     refine c_conv (fun w S => S.perm p10) ?_
     refine c_conv (fun w S => S.perm p10) ?_
     refine c_conv (fun w S => S.perm p10) ?_
     refine c_conv (fun w S => S.perm p10) ?_
     refine c_conv (fun w S => S.perm p10) ?_
     refine c_conv (fun w S => S.perm p10) ?_
     refine c_conv (fun w S => S.perm p10) ?_
     refine c_conv (fun w S => S.perm p10) ?_
     refine c_held [blk dg4 (.deferred (some [])), blk kt58 (.cells #[.pointer (some ⟨t25, 0, none⟩)] 25 (0, 0)), blk kk58 (.cells #[.string fr] 9 (0, 0)), treeR e_ItA eN57 61 63 ItA.f_key strlt t25 ks, blk b13 (.cells #[.int .i64 ((i52 : Int) + ((sel ItA.f_key strlt (some fr) ks).length : Int))] 3 (0, 0)), blk b11 (.cells #[.int .i64 (i52 : Int)] 3 (0, 0)), blk b8 (.cells #[.pointer (some ⟨m, 0, none⟩)] 27 (0, 0)), blk m (.cells #[.slice a_1 ((ks.map toR)).length c_1] 30 (0, 0)), row e_ItR.T e_ItR.sz a_1 ((ks.map toR)).length c_1 (flat e_ItR (ks.map toR)), blk b5 (.cells #[.int .i64 mo] 3 (0, 0))] (by kernel_rfl) rfl ?_
     refine h_take 0 rfl rfl (by kernel_rfl) (by kernel_rfl) (by kernel_rfl) (fun L0 => v_load1 rfl rfl Try.underlying3 rfl (rd_mem 4 rfl rfl)) ?_
     refine h_take 1 rfl rfl (by kernel_rfl) (by kernel_rfl) (by kernel_rfl) (fun L0 => v_load1 rfl rfl Try.underlying27 rfl (rd_mem 6 rfl rfl)) ?_
     refine h_take 2 rfl rfl (by kernel_rfl) (by kernel_rfl) (by kernel_rfl) (fun L0 => v_nil rfl rfl) ?_
     refine h_take 3 rfl rfl (by kernel_rfl) (by kernel_rfl) (by kernel_rfl) (fun L0 => v_fieldAddr (q := ⟨m, 0, none⟩) rfl rfl Try.underlying30 rfl ti28 rfl) ?_
     refine h_take 4 rfl rfl (by kernel_rfl) (by kernel_rfl) (by kernel_rfl) (fun L0 => v_load1 rfl rfl Try.underlying28 rfl (rd_mem 7 rfl rfl)) ?_
     refine h_take 5 rfl rfl (by kernel_rfl) (by kernel_rfl) (by kernel_rfl) (fun L0 => v_len rfl rfl Try.underlying28) ?_
     refine h_take 6 rfl rfl (by kernel_rfl) (by kernel_rfl) (by kernel_rfl) (fun L0 => v_bin rfl rfl rfl b_eql) ?_
     refine h_take 7 rfl rfl (by kernel_rfl) (by kernel_rfl) (by kernel_rfl) (fun L0 => v_move rfl rfl) ?_
     refine h_split (t := 106) rfl (fun h7 => ?_) (fun h7 => ?_)
     · -- h7T
      have h7b := h7
      try simp only [decide_eq_true_eq] at h7
      refine h_take_no 8 rfl rfl rfl rfl rfl (by kernel_rfl) (by kernel_rfl) (by kernel_rfl) ?_
      refine h_take_no 9 rfl rfl rfl rfl rfl (by kernel_rfl) (by kernel_rfl) (by kernel_rfl) ?_
      refine h_take 10 rfl rfl (by kernel_rfl) (by kernel_rfl) (by kernel_rfl) (fun L0 => v_pick_true rfl rfl rfl) ?_
      refine h_take 11 rfl rfl (by kernel_rfl) (by kernel_rfl) (by kernel_rfl) (fun L0 => v_move rfl rfl) ?_
      refine h_take_no 12 rfl rfl rfl rfl rfl (by kernel_rfl) (by kernel_rfl) (by kernel_rfl) ?_
      refine h_take_no 13 rfl rfl rfl rfl rfl (by kernel_rfl) (by kernel_rfl) (by kernel_rfl) ?_
      refine h_take_no 14 rfl rfl rfl rfl rfl (by kernel_rfl) (by kernel_rfl) (by kernel_rfl) ?_
      refine h_take_no 15 rfl rfl rfl rfl rfl (by kernel_rfl) (by kernel_rfl) (by kernel_rfl) ?_
      refine h_take_no 16 rfl rfl rfl rfl rfl (by kernel_rfl) (by kernel_rfl) (by kernel_rfl) ?_
      refine h_take 17 rfl rfl (by kernel_rfl) (by kernel_rfl) (by kernel_rfl) (fun L0 => v_pick_true rfl rfl rfl) ?_
      refine h_one 18 rfl (by kernel_rfl) ?_
      refine l_f10 ?_
      refine o_store1 rfl rfl rfl ti4 rfl rfl ?_
      refine l_nil ?_
      refine q_conv (fun w S => S.perm p10) ?_
      refine q_conv (fun w S => S.perm p10) ?_
      refine q_conv (fun w S => S.perm p10) ?_
      refine q_conv (fun w S => S.perm p10) ?_
      refine q_conv (fun w S => S.perm p10) ?_
      refine q_conv (fun w S => S.perm p10) ?_
      refine q_conv (fun w S => S.perm p10) ?_
      refine q_conv (fun w S => S.perm p10) ?_
      refine q_conv (fun w S => S.perm p10) ?_
      refine q_conv (fun w S => S.perm p10) ?_
      refine h_next ?_
      refine h_done (by kernel_rfl) ?_
      refine q_then ?_
      refine c_ret ?_
      refine f_retMq [dg4] (.inl rfl) rfl (fun w S => S) (rs_1 rfl (rs_cell rfl Try.underlying4 rfl (rd_mem 9 rfl rfl))) (fun w S => ?_)
      replace S := S.tail
      replace S := S.tail
      replace S := S.tail
      replace S := S.tail
      replace S := S.tail
      replace S := S.tail
      replace S := S.tail
      replace S := S.tail
      replace S := S.tail
      replace S := S.tail
      exact ⟨_, ⟨by first | rfl | (rw [decide_eq_true (by omega)] <;> rfl), rfl⟩, (fun w S => S) w S⟩
     · -- h7F
      have h7b := h7
      try simp only [decide_eq_false_iff_not, Int.not_lt, Int.not_le] at h7
      refine h_take_yes 8 rfl rfl rfl rfl rfl (by kernel_rfl) (by kernel_rfl) (by kernel_rfl) (fun L0 => v_load1 rfl rfl Try.underlying3 rfl (rd_mem 9 rfl rfl)) ?_
      refine h_take_yes 9 rfl rfl rfl rfl rfl (by kernel_rfl) (by kernel_rfl) (by kernel_rfl) (fun L0 => v_bin rfl rfl rfl b_lss) ?_
      refine h_take 10 rfl rfl (by kernel_rfl) (by kernel_rfl) (by kernel_rfl) (fun L0 => v_pick_false rfl rfl rfl) ?_
      refine h_take 11 rfl rfl (by kernel_rfl) (by kernel_rfl) (by kernel_rfl) (fun L0 => v_move rfl rfl) ?_
      refine h_split (t := 110) rfl (fun h8 => ?_) (fun h8 => ?_)
      · -- h8T
       have h8b := h8
       try simp only [decide_eq_true_eq] at h8
       refine h_take_no 12 rfl rfl rfl rfl rfl (by kernel_rfl) (by kernel_rfl) (by kernel_rfl) ?_
       refine h_take_no 13 rfl rfl rfl rfl rfl (by kernel_rfl) (by kernel_rfl) (by kernel_rfl) ?_
       refine h_take_no 14 rfl rfl rfl rfl rfl (by kernel_rfl) (by kernel_rfl) (by kernel_rfl) ?_
       refine h_take_no 15 rfl rfl rfl rfl rfl (by kernel_rfl) (by kernel_rfl) (by kernel_rfl) ?_
       refine h_take_no 16 rfl rfl rfl rfl rfl (by kernel_rfl) (by kernel_rfl) (by kernel_rfl) ?_
       refine h_take 17 rfl rfl (by kernel_rfl) (by kernel_rfl) (by kernel_rfl) (fun L0 => v_pick_true rfl rfl rfl) ?_
       refine h_one 18 rfl (by kernel_rfl) ?_
       refine l_f10 ?_
       refine o_store1 rfl rfl rfl ti4 rfl rfl ?_
       refine l_nil ?_
       refine q_conv (fun w S => S.perm p10) ?_
       refine q_conv (fun w S => S.perm p10) ?_
       refine q_conv (fun w S => S.perm p10) ?_
       refine q_conv (fun w S => S.perm p10) ?_
       refine q_conv (fun w S => S.perm p10) ?_
       refine q_conv (fun w S => S.perm p10) ?_
       refine q_conv (fun w S => S.perm p10) ?_
       refine q_conv (fun w S => S.perm p10) ?_
       refine q_conv (fun w S => S.perm p10) ?_
       refine q_conv (fun w S => S.perm p10) ?_
       refine h_next ?_
       refine h_done (by kernel_rfl) ?_
       refine q_then ?_
       refine c_ret ?_
       refine f_retMq [dg4] (.inl rfl) rfl (fun w S => S) (rs_1 rfl (rs_cell rfl Try.underlying4 rfl (rd_mem 9 rfl rfl))) (fun w S => ?_)
       replace S := S.tail
       replace S := S.tail
       replace S := S.tail
       replace S := S.tail
       replace S := S.tail
       replace S := S.tail
       replace S := S.tail
       replace S := S.tail
       replace S := S.tail
       replace S := S.tail
       exact ⟨_, ⟨by first | rfl | (rw [decide_eq_true (by omega)] <;> rfl), rfl⟩, (fun w S => S) w S⟩
      · -- h8F
       have h8b := h8
       try simp only [decide_eq_false_iff_not, Int.not_lt, Int.not_le] at h8
       refine h_take_yes 12 rfl rfl rfl rfl rfl (by kernel_rfl) (by kernel_rfl) (by kernel_rfl) (fun L0 => v_load1 rfl rfl Try.underlying3 rfl (rd_mem 4 rfl rfl)) ?_
       refine h_take_yes 13 rfl rfl rfl rfl rfl (by kernel_rfl) (by kernel_rfl) (by kernel_rfl) (fun L0 => v_load1 rfl rfl Try.underlying3 rfl (rd_mem 5 rfl rfl)) ?_
       refine h_take_yes 14 rfl rfl rfl rfl rfl (by kernel_rfl) (by kernel_rfl) (by kernel_rfl) (fun L0 => v_load1 rfl rfl Try.underlying3 rfl (rd_mem 9 rfl rfl)) ?_
       refine h_take_yes 15 rfl rfl rfl rfl rfl (by kernel_rfl) (by kernel_rfl) (by kernel_rfl) (fun L0 => v_bin rfl rfl rfl (b_add (wrap_i64 (by omega) (by omega)))) ?_
       refine h_take_yes 16 rfl rfl rfl rfl rfl (by kernel_rfl) (by kernel_rfl) (by kernel_rfl) (fun L0 => v_bin rfl rfl rfl b_eql) ?_
       refine h_take 17 rfl rfl (by kernel_rfl) (by kernel_rfl) (by kernel_rfl) (fun L0 => v_pick_false rfl rfl rfl) ?_
       refine h_one 18 rfl (by kernel_rfl) ?_
       refine l_f10 ?_
       refine o_store1 rfl rfl rfl ti4 rfl rfl ?_
       refine l_nil ?_
       refine q_conv (fun w S => S.perm p10) ?_
       refine q_conv (fun w S => S.perm p10) ?_
       refine q_conv (fun w S => S.perm p10) ?_
       refine q_conv (fun w S => S.perm p10) ?_
       refine q_conv (fun w S => S.perm p10) ?_
       refine q_conv (fun w S => S.perm p10) ?_
       refine q_conv (fun w S => S.perm p10) ?_
       refine q_conv (fun w S => S.perm p10) ?_
       refine q_conv (fun w S => S.perm p10) ?_
       refine q_conv (fun w S => S.perm p10) ?_
       refine h_next ?_
       refine h_done (by kernel_rfl) ?_
       refine q_then ?_
       refine c_ret ?_
       refine f_retMq [dg4] (.inl rfl) rfl (fun w S => S) (rs_1 rfl (rs_cell rfl Try.underlying4 rfl (rd_mem 9 rfl rfl))) (fun w S => ?_)
       replace S := S.tail
       replace S := S.tail
       replace S := S.tail
       replace S := S.tail
       replace S := S.tail
       replace S := S.tail
       replace S := S.tail
       replace S := S.tail
       replace S := S.tail
       replace S := S.tail
       exact ⟨_, ⟨by first | rfl | (rw [decide_eq_true (by omega)] <;> rfl), rfl⟩, (fun w S => S) w S⟩
    · -- a round has left
     rintro dg4 cg4 _ (⟨rfl, mm, ⟨hj1, hj2, hj3⟩, rfl⟩)
     · -- 2
      try dsimp only at *
      refine c_exit ?_
      refine q_hit ?_
      refine q_then ?_
      refine c_seq ?_
      refine c_conv (fun w S => S.perm p9) ?_
      refine c_conv (fun w S => S.perm p10) ?_
      refine c_conv (fun w S => S.perm p10) ?_
      refine c_conv (fun w S => S.perm p10) ?_
      refine c_conv (fun w S => S.perm p10) ?_
      refine c_conv (fun w S => S.perm p10) ?_
      refine c_conv (fun w S => S.perm p10) ?_
      refine c_conv (fun w S => S.perm p10) ?_
      refine c_conv (fun w S => S.perm p10) ?_
      refine c_conv (fun w S => S.perm p10) ?_
      refine c_conv (fun w S => S.perm p10) ?_
      refine c_held [blk dg4 (.deferred (some [])), blk kt58 (.cells #[.pointer (some ⟨t25, 0, none⟩)] 25 (0, 0)), blk kk58 (.cells #[.string fr] 9 (0, 0)), treeR e_ItA eN57 61 63 ItA.f_key strlt t25 ks, blk b13 (.cells #[.int .i64 ((i52 : Int) + (mm : Int))] 3 (0, 0)), blk b11 (.cells #[.int .i64 (i52 : Int)] 3 (0, 0)), blk b8 (.cells #[.pointer (some ⟨m, 0, none⟩)] 27 (0, 0)), blk m (.cells #[.slice a_1 ((ks.map toR)).length c_1] 30 (0, 0)), row e_ItR.T e_ItR.sz a_1 ((ks.map toR)).length c_1 (flat e_ItR (ks.map toR)), blk b5 (.cells #[.int .i64 mo] 3 (0, 0))] (by kernel_rfl) rfl ?_
      refine h_take 0 rfl rfl (by kernel_rfl) (by kernel_rfl) (by kernel_rfl) (fun L0 => v_load1 rfl rfl Try.underlying3 rfl (rd_mem 4 rfl rfl)) ?_
      refine h_take 1 rfl rfl (by kernel_rfl) (by kernel_rfl) (by kernel_rfl) (fun L0 => v_load1 rfl rfl Try.underlying27 rfl (rd_mem 6 rfl rfl)) ?_
      refine h_take 2 rfl rfl (by kernel_rfl) (by kernel_rfl) (by kernel_rfl) (fun L0 => v_nil rfl rfl) ?_
      refine h_take 3 rfl rfl (by kernel_rfl) (by kernel_rfl) (by kernel_rfl) (fun L0 => v_fieldAddr (q := ⟨m, 0, none⟩) rfl rfl Try.underlying30 rfl ti28 rfl) ?_
      refine h_take 4 rfl rfl (by kernel_rfl) (by kernel_rfl) (by kernel_rfl) (fun L0 => v_load1 rfl rfl Try.underlying28 rfl (rd_mem 7 rfl rfl)) ?_
      refine h_take 5 rfl rfl (by kernel_rfl) (by kernel_rfl) (by kernel_rfl) (fun L0 => v_len rfl rfl Try.underlying28) ?_
      refine h_take 6 rfl rfl (by kernel_rfl) (by kernel_rfl) (by kernel_rfl) (fun L0 => v_bin rfl rfl rfl b_eql) ?_
      refine h_take 7 rfl rfl (by kernel_rfl) (by kernel_rfl) (by kernel_rfl) (fun L0 => v_move rfl rfl) ?_
      refine h_split (t := 106) rfl (fun h9 => ?_) (fun h9 => ?_)
      · -- h9T
       have h9b := h9
       try simp only [decide_eq_true_eq] at h9
       refine h_take_no 8 rfl rfl rfl rfl rfl (by kernel_rfl) (by kernel_rfl) (by kernel_rfl) ?_
       refine h_take_no 9 rfl rfl rfl rfl rfl (by kernel_rfl) (by kernel_rfl) (by kernel_rfl) ?_
       refine h_take 10 rfl rfl (by kernel_rfl) (by kernel_rfl) (by kernel_rfl) (fun L0 => v_pick_true rfl rfl rfl) ?_
       refine h_take 11 rfl rfl (by kernel_rfl) (by kernel_rfl) (by kernel_rfl) (fun L0 => v_move rfl rfl) ?_
       refine h_take_no 12 rfl rfl rfl rfl rfl (by kernel_rfl) (by kernel_rfl) (by kernel_rfl) ?_
       refine h_take_no 13 rfl rfl rfl rfl rfl (by kernel_rfl) (by kernel_rfl) (by kernel_rfl) ?_
       refine h_take_no 14 rfl rfl rfl rfl rfl (by kernel_rfl) (by kernel_rfl) (by kernel_rfl) ?_
       refine h_take_no 15 rfl rfl rfl rfl rfl (by kernel_rfl) (by kernel_rfl) (by kernel_rfl) ?_
       refine h_take_no 16 rfl rfl rfl rfl rfl (by kernel_rfl) (by kernel_rfl) (by kernel_rfl) ?_
       refine h_take 17 rfl rfl (by kernel_rfl) (by kernel_rfl) (by kernel_rfl) (fun L0 => v_pick_true rfl rfl rfl) ?_
       refine h_one 18 rfl (by kernel_rfl) ?_
       refine l_f10 ?_
       refine o_store1 rfl rfl rfl ti4 rfl rfl ?_
       refine l_nil ?_
       refine q_conv (fun w S => S.perm p10) ?_
       refine q_conv (fun w S => S.perm p10) ?_
       refine q_conv (fun w S => S.perm p10) ?_
       refine q_conv (fun w S => S.perm p10) ?_
       refine q_conv (fun w S => S.perm p10) ?_
       refine q_conv (fun w S => S.perm p10) ?_
       refine q_conv (fun w S => S.perm p10) ?_
       refine q_conv (fun w S => S.perm p10) ?_
       refine q_conv (fun w S => S.perm p10) ?_
       refine q_conv (fun w S => S.perm p10) ?_
       refine h_next ?_
       refine h_done (by kernel_rfl) ?_
       refine q_then ?_
       refine c_ret ?_
       refine f_retMq [dg4] (.inl rfl) rfl (fun w S => S) (rs_1 rfl (rs_cell rfl Try.underlying4 rfl (rd_mem 9 rfl rfl))) (fun w S => ?_)
       replace S := S.tail
       replace S := S.tail
       replace S := S.tail
       replace S := S.tail
       replace S := S.tail
       replace S := S.tail
       replace S := S.tail
       replace S := S.tail
       replace S := S.tail
       replace S := S.tail
       exact ⟨_, ⟨by first | rfl | (rw [decide_eq_true (by omega)] <;> rfl), rfl⟩, (fun w S => S) w S⟩
      · -- h9F
       have h9b := h9
       try simp only [decide_eq_false_iff_not, Int.not_lt, Int.not_le] at h9
       refine h_take_yes 8 rfl rfl rfl rfl rfl (by kernel_rfl) (by kernel_rfl) (by kernel_rfl) (fun L0 => v_load1 rfl rfl Try.underlying3 rfl (rd_mem 9 rfl rfl)) ?_
       refine h_take_yes 9 rfl rfl rfl rfl rfl (by kernel_rfl) (by kernel_rfl) (by kernel_rfl) (fun L0 => v_bin rfl rfl rfl b_lss) ?_
       refine h_take 10 rfl rfl (by kernel_rfl) (by kernel_rfl) (by kernel_rfl) (fun L0 => v_pick_false rfl rfl rfl) ?_
       refine h_take 11 rfl rfl (by kernel_rfl) (by kernel_rfl) (by kernel_rfl) (fun L0 => v_move rfl rfl) ?_
       refine h_split (t := 110) rfl (fun h10 => ?_) (fun h10 => ?_)
       · -- h10T
        have h10b := h10
        try simp only [decide_eq_true_eq] at h10
        refine h_take_no 12 rfl rfl rfl rfl rfl (by kernel_rfl) (by kernel_rfl) (by kernel_rfl) ?_
        refine h_take_no 13 rfl rfl rfl rfl rfl (by kernel_rfl) (by kernel_rfl) (by kernel_rfl) ?_
        refine h_take_no 14 rfl rfl rfl rfl rfl (by kernel_rfl) (by kernel_rfl) (by kernel_rfl) ?_
        refine h_take_no 15 rfl rfl rfl rfl rfl (by kernel_rfl) (by kernel_rfl) (by kernel_rfl) ?_
        refine h_take_no 16 rfl rfl rfl rfl rfl (by kernel_rfl) (by kernel_rfl) (by kernel_rfl) ?_
        refine h_take 17 rfl rfl (by kernel_rfl) (by kernel_rfl) (by kernel_rfl) (fun L0 => v_pick_true rfl rfl rfl) ?_
        refine h_one 18 rfl (by kernel_rfl) ?_
        refine l_f10 ?_
        refine o_store1 rfl rfl rfl ti4 rfl rfl ?_
        refine l_nil ?_
        refine q_conv (fun w S => S.perm p10) ?_
        refine q_conv (fun w S => S.perm p10) ?_
        refine q_conv (fun w S => S.perm p10) ?_
        refine q_conv (fun w S => S.perm p10) ?_
        refine q_conv (fun w S => S.perm p10) ?_
        refine q_conv (fun w S => S.perm p10) ?_
        refine q_conv (fun w S => S.perm p10) ?_
        refine q_conv (fun w S => S.perm p10) ?_
        refine q_conv (fun w S => S.perm p10) ?_
        refine q_conv (fun w S => S.perm p10) ?_
        refine h_next ?_
        refine h_done (by kernel_rfl) ?_
        refine q_then ?_
        refine c_ret ?_
        refine f_retMq [dg4] (.inl rfl) rfl (fun w S => S) (rs_1 rfl (rs_cell rfl Try.underlying4 rfl (rd_mem 9 rfl rfl))) (fun w S => ?_)
        replace S := S.tail
        replace S := S.tail
        replace S := S.tail
        replace S := S.tail
        replace S := S.tail
        replace S := S.tail
        replace S := S.tail
        replace S := S.tail
        replace S := S.tail
        replace S := S.tail
        exact ⟨_, ⟨by first | rfl | (rw [decide_eq_true (by omega)] <;> rfl), rfl⟩, (fun w S => S) w S⟩
       · -- h10F
        have h10b := h10
        try simp only [decide_eq_false_iff_not, Int.not_lt, Int.not_le] at h10
        refine h_take_yes 12 rfl rfl rfl rfl rfl (by kernel_rfl) (by kernel_rfl) (by kernel_rfl) (fun L0 => v_load1 rfl rfl Try.underlying3 rfl (rd_mem 4 rfl rfl)) ?_
        refine h_take_yes 13 rfl rfl rfl rfl rfl (by kernel_rfl) (by kernel_rfl) (by kernel_rfl) (fun L0 => v_load1 rfl rfl Try.underlying3 rfl (rd_mem 5 rfl rfl)) ?_
        refine h_take_yes 14 rfl rfl rfl rfl rfl (by kernel_rfl) (by kernel_rfl) (by kernel_rfl) (fun L0 => v_load1 rfl rfl Try.underlying3 rfl (rd_mem 9 rfl rfl)) ?_
        refine h_take_yes 15 rfl rfl rfl rfl rfl (by kernel_rfl) (by kernel_rfl) (by kernel_rfl) (fun L0 => v_bin rfl rfl rfl (b_add (wrap_i64 (by omega) (by omega)))) ?_
        refine h_take_yes 16 rfl rfl rfl rfl rfl (by kernel_rfl) (by kernel_rfl) (by kernel_rfl) (fun L0 => v_bin rfl rfl rfl b_eql) ?_
        refine h_take 17 rfl rfl (by kernel_rfl) (by kernel_rfl) (by kernel_rfl) (fun L0 => v_pick_false rfl rfl rfl) ?_
        refine h_one 18 rfl (by kernel_rfl) ?_
        refine l_f10 ?_
        refine o_store1 rfl rfl rfl ti4 rfl rfl ?_
        refine l_nil ?_
        refine q_conv (fun w S => S.perm p10) ?_
        refine q_conv (fun w S => S.perm p10) ?_
        refine q_conv (fun w S => S.perm p10) ?_
        refine q_conv (fun w S => S.perm p10) ?_
        refine q_conv (fun w S => S.perm p10) ?_
        refine q_conv (fun w S => S.perm p10) ?_
        refine q_conv (fun w S => S.perm p10) ?_
        refine q_conv (fun w S => S.perm p10) ?_
        refine q_conv (fun w S => S.perm p10) ?_
        refine q_conv (fun w S => S.perm p10) ?_
        refine h_next ?_
        refine h_done (by kernel_rfl) ?_
        refine q_then ?_
        refine c_ret ?_
        refine f_retMq [dg4] (.inl rfl) rfl (fun w S => S) (rs_1 rfl (rs_cell rfl Try.underlying4 rfl (rd_mem 9 rfl rfl))) (fun w S => ?_)
        replace S := S.tail
        replace S := S.tail
        replace S := S.tail
        replace S := S.tail
        replace S := S.tail
        replace S := S.tail
        replace S := S.tail
        replace S := S.tail
        replace S := S.tail
        replace S := S.tail
        exact ⟨_, ⟨by first | rfl | (rw [decide_eq_true (by omega)] <;> rfl), rfl⟩, (fun w S => S) w S⟩

end Go.Proofs.Ytlbggbjekpfokaa
