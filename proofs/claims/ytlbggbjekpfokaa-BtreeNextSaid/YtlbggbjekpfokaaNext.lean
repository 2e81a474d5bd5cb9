/- Printed by eng2.py out of 02/spec.py. -/
import Derived.Test.YtlbggbjekpfokaaSpeaks
import Derived.Test.YtlbggbjekpfokaaBits
set_option linter.unusedVariables false
set_option linter.unusedSimpArgs false
set_option maxRecDepth 10000
namespace Go.Proofs.Ytlbggbjekpfokaa
open Go.RowKit Classical
set_option maxHeartbeats 1000000 in
theorem next_ {W : World} {F : List Res} {xs : List Int} {a : Option Addr} {c : Nat} (hs : SlR W e_I a xs) : CS Try.prog 4 #[.slice a xs.length c] W (F) (fun r L' => r = .bool true ∧ F = L') := by
 refine f_door (l0 := [(0, .slice a xs.length c)]) Try.func4 Try.ntmps4 rfl rfl rfl ?_
 refine c_seq ?_
 refine c_region ?_
 refine o_assign rfl rfl ?_
 refine l_nil ?_
 refine q_then ?_
 refine c_seq ?_
 refine c_seq ?_
 refine c_region ?_
 refine o_call rfl cal6 rfl (speaks_) ?_
 rintro _ _ ⟨rfl, rfl⟩
 refine o_not rfl rfl ?_
 refine l_nil ?_
 refine q_then ?_
 refine c_false rfl ?_
 refine c_skip ?_
 refine q_then ?_
 refine c_seq ?_
 refine c_seq ?_
 refine c_region ?_
 refine o_move rfl rfl ?_
 refine o_len rfl rfl Try.underlying42 ?_
 refine o_bin rfl rfl rfl b_gtr ?_
 refine l_nil ?_
 refine q_then ?_
 refine c_cond rfl (fun h1 => ?_) (fun h1 => ?_)
 · -- h1T
  have h1b := h1
  try simp only [decide_eq_true_eq] at h1
  refine c_seq ?_
  refine c_region ?_
  refine o_assign rfl rfl ?_
  refine l_nil ?_
  refine q_then ?_
  refine c_ret ?_
  refine q_pass_ret ?_
  exact f_ret (r_one rfl rfl) (⟨rfl, rfl⟩) (fun w S => S)
 · -- h1F
  have h1b := h1
  try simp only [decide_eq_false_iff_not, Int.not_lt, Int.not_le] at h1
  refine c_skip ?_
  refine q_then ?_
  refine c_seq ?_
  refine c_region ?_
  refine o_call rfl cal13 rfl (new_B) ?_
  rintro _ _ ⟨t18, rfl, rfl⟩
  refine o_assign rfl rfl ?_
  refine l_nil ?_
  refine q_then ?_
  refine c_seq ?_
  refine c_seq ?_
  refine c_region ?_
  refine o_move rfl rfl ?_
  refine o_bin rfl rfl rfl (b_peq Try.underlying43 _) ?_
  refine l_nil ?_
  refine q_then ?_
  refine c_false rfl ?_
  refine c_skip ?_
  refine q_then ?_
  refine c_seq ?_
  refine c_seq ?_
  refine c_region ?_
  refine o_move rfl rfl ?_
  refine o_len rfl rfl Try.underlying42 ?_
  refine o_move rfl rfl ?_
  refine l_nil ?_
  refine q_then ?_
  refine c_block ?_
  refine c_loop (α := Nat × (List ItB)) (fun z => [(3, .pointer (some ⟨t18, 0, none⟩)), (21, .slice a (xs).length c), (22, .int .i64 ((xs).length : Int)), (23, .int .i64 (z.1 : Int))]) (fun z => treeR e_ItB eN72 76 78 ItB.f_key ilt t18 z.2 :: F) (fun z => z.1 ≤ xs.length ∧ z.2.length ≤ z.1 ∧ Srt ItB.f_key ilt z.2 ∧ ∀ y ∈ z.2, 0 ≤ y.f_key ∧ y.f_key ≤ 65535) (fun z => xs.length - z.1) (0, []) (by exact ⟨Nat.zero_le _, Nat.le_refl _, List.Pairwise.nil, fun y hy => (by simp at hy)⟩) ⟨(by first | rfl | exact vint (by omega)), (by first | rfl | exact vint (by omega)), (by first | rfl | exact vint (by omega)), (by first | rfl | exact vint (by omega)), trivial⟩ (fun w S => S) ?_
  rintro ⟨i, ks⟩ ⟨hi, hkl, hsrt, hb⟩
  try dsimp only at *
  refine c_seq ?_
  refine c_region ?_
  refine o_bin rfl rfl rfl b_lss ?_
  refine l_nil ?_
  refine q_then ?_
  refine c_seq ?_
  refine c_cond rfl (fun h2 => ?_) (fun h2 => ?_)
  · -- h2T
   have h2b := h2
   try simp only [decide_eq_true_eq] at h2
   refine c_skip ?_
   refine q_then ?_
   refine c_seq ?_
   refine c_block ?_
   refine c_seq ?_
   refine c_region ?_
   refine o_move rfl rfl ?_
   refine o_index e_I_ok rfl rfl rfl Try.underlying42 (by omega) (by omega) (rds_c (rds_old hs)) fun ad26 ead26 => ?_
   obtain ⟨x26, hx26⟩ : ∃ x, (xs)[((i : Int)).toNat]? = some x := ⟨_, List.getElem?_eq_getElem (by omega)⟩
   refine o_load1 rfl rfl Try.underlying3 rfl (rd_sl0 e_I_ok ead26 (rds_c (rds_old hs)) hx26 rfl) ?_
   refine o_assign rfl rfl ?_
   refine o_assign rfl rfl ?_
   refine l_nil ?_
   refine q_then ?_
   refine c_region ?_
   refine o_move rfl rfl ?_
   refine o_move rfl rfl ?_
   refine o_bin rfl rfl rfl (b_and rfl) ?_
   obtain ⟨q30, hq30, eq30⟩ := band64 x26 65535 (by omega)
   refine l_eq (t := 30) (v' := .int .i64 (q30 : Int)) rfl (by first | exact congrArg _ eq30) ?_
   refine o_move rfl rfl ?_
   refine o_call rfl cal14 rfl (tput_B (k := (q30 : Int)) (v := (i : Int)) (by omega)) ?_
   rintro _ _ ⟨old32, had32, ⟨hol32, hsr32⟩, rfl, rfl⟩
   have hln := ins_len hsr32 hol32 hkl
   refine l_nil ?_
   refine q_block ?_
   refine q_then ?_
   refine c_region ?_
   refine o_bin rfl rfl rfl (b_add (wrap_i64 (by omega) (by omega))) ?_
   refine o_move rfl rfl ?_
   refine l_nil ?_
   exact q_round (i + 1, (ins ItB.f_key ilt (⟨(q30 : Int), (i : Int)⟩ : ItB) ks)) (by exact ⟨by omega, hln, srt_ins ilt_sto hsrt, ins_bd hq30 hb⟩) (by (try dsimp only); omega) ⟨(by first | rfl | exact vint (by omega)), (by first | rfl | exact vint (by omega)), (by first | rfl | exact vint (by omega)), (by first | rfl | exact vint (by omega)), trivial⟩ (fun w S => S)
  · -- h2F
   have h2b := h2
   try simp only [decide_eq_false_iff_not, Int.not_lt, Int.not_le] at h2
   refine c_exit ?_
   refine q_pass_exit ?_
   refine q_pass_exit ?_
   refine q_hit ?_
   refine q_then ?_
   refine c_seq ?_
   refine c_region ?_
   refine o_assign rfl rfl ?_
   refine l_nil ?_
   refine q_then ?_
   refine c_seq ?_
   refine c_seq ?_
   refine c_region ?_
   refine o_move rfl rfl ?_
   refine o_call rfl cal15 rfl (keys_B (by omega)) ?_
   rintro _ _ ⟨a35, c35, rfl, rfl⟩
   have hml : (ks.map ItB.f_key).length = ks.length := List.length_map ..
   refine o_len rfl rfl Try.underlying42 ?_
   refine o_move rfl rfl ?_
   refine l_nil ?_
   refine q_then ?_
   refine c_block ?_
   refine c_loop (α := Nat × Int) (fun z => [(3, .pointer (some ⟨t18, 0, none⟩)), (6, .int .i64 z.2), (35, .slice a35 ((ks.map ItB.f_key)).length c35), (36, .int .i64 (((ks.map ItB.f_key)).length : Int)), (37, .int .i64 (z.1 : Int))]) (fun z => row e_I.T e_I.sz a35 ((ks.map ItB.f_key)).length c35 (flat e_I (ks.map ItB.f_key)) :: treeR e_ItB eN72 76 78 ItB.f_key ilt t18 ks :: F) (fun z => z.1 ≤ ks.length ∧ NextOk ks z.1 z.2) (fun z => ks.length - z.1) (0, 0) (by exact ⟨Nat.zero_le _, NextOk.start hb⟩) ⟨(by first | rfl | exact vint (by omega)), (by first | rfl | exact vint (by omega)), (by first | rfl | exact vint (by omega)), (by first | rfl | exact vint (by omega)), (by first | rfl | exact vint (by omega)), trivial⟩ (fun w S => S) ?_
   rintro ⟨j, at_⟩ ⟨hj, hnx⟩
   try dsimp only at *
   refine c_seq ?_
   refine c_region ?_
   refine o_bin rfl rfl rfl b_lss ?_
   refine l_nil ?_
   refine q_then ?_
   refine c_seq ?_
   refine c_cond rfl (fun h3 => ?_) (fun h3 => ?_)
   · -- h3T
    have h3b := h3
    try simp only [decide_eq_true_eq] at h3
    refine c_skip ?_
    refine q_then ?_
    refine c_seq ?_
    refine c_block ?_
    refine c_seq ?_
    refine c_region ?_
    refine o_index e_I_ok rfl rfl rfl Try.underlying42 (by omega) (by omega) (rds_own e_I_ok 0 rfl) fun ad39 ead39 => ?_
    obtain ⟨x39, hx39⟩ : ∃ x, ((ks.map ItB.f_key))[((j : Int)).toNat]? = some x := ⟨_, List.getElem?_eq_getElem (by omega)⟩
    have hkx : (ks.map ItB.f_key)[j]? = some x39 := hx39
    rw [List.getElem?_map] at hkx
    obtain ⟨yk, hyk, hyx⟩ := Option.map_eq_some_iff.1 hkx
    have hyb := hb yk (List.mem_of_getElem? hyk)
    refine o_load1 rfl rfl Try.underlying3 rfl (rd_sl0 e_I_ok ead39 (rds_own e_I_ok 0 rfl) hx39 rfl) ?_
    refine o_assign rfl rfl ?_
    refine l_nil ?_
    refine q_then ?_
    refine c_seq ?_
    refine c_region ?_
    refine o_move rfl rfl ?_
    refine o_move rfl rfl ?_
    refine l_f1 ?_
    refine o_call rfl cal16 rfl (first_B (k := at_)) ?_
    rintro _ _ ⟨nk44, ok44, hfk44, rfl, rfl⟩
    obtain ⟨hok44, hnk44⟩ := hnx.first hyk hfk44
    refine o_move rfl rfl ?_
    refine o_extract rfl rfl rfl ?_
    refine o_extract rfl rfl rfl ?_
    refine o_assign rfl rfl ?_
    refine o_assign rfl rfl ?_
    refine l_nil ?_
    refine q_then ?_
    refine c_seq ?_
    refine c_seq ?_
    refine c_region ?_
    refine o_move rfl rfl ?_
    refine l_eq (t := 47) (v' := .bool true) rfl (show _ = Value.bool true from by rw [hok44]; first | done | rfl) ?_
    refine o_not rfl rfl ?_
    refine o_move rfl rfl ?_
    refine o_yes rfl rfl rfl ?_
    refine o_move rfl rfl ?_
    refine o_yes rfl rfl rfl ?_
    refine o_move rfl rfl ?_
    refine o_yes rfl rfl rfl ?_
    refine o_bin rfl rfl rfl b_neq ?_
    refine l_eq (t := 52) (v' := .bool false) rfl (show _ = Value.bool false from by rw [hnk44, hyx]; simp) ?_
    refine o_pick_false rfl rfl rfl ?_
    refine l_nil ?_
    refine q_then ?_
    refine c_false rfl ?_
    refine c_skip ?_
    refine q_then ?_
    refine c_region ?_
    refine o_move rfl rfl ?_
    refine o_bin rfl rfl rfl (b_add (wrap_i64 (by omega) (by omega))) ?_
    refine o_assign rfl rfl ?_
    refine l_nil ?_
    refine q_block ?_
    refine q_then ?_
    refine c_region ?_
    refine o_bin rfl rfl rfl (b_add (wrap_i64 (by omega) (by omega))) ?_
    refine o_move rfl rfl ?_
    refine l_nil ?_
    refine q_conv (fun w S => S.perm p1) ?_
    exact q_round (j + 1, x39 + 1) (by exact ⟨by omega, by rw [← hyx]; exact hnx.on hsrt hb hyk⟩) (by (try dsimp only); omega) ⟨(by first | rfl | exact vint (by omega)), (by first | rfl | exact vint (by omega)), (by first | rfl | exact vint (by omega)), (by first | rfl | exact vint (by omega)), (by first | rfl | exact vint (by omega)), trivial⟩ (fun w S => S)
   · -- h3F
    have h3b := h3
    try simp only [decide_eq_false_iff_not, Int.not_lt, Int.not_le] at h3
    refine c_exit ?_
    refine q_pass_exit ?_
    refine q_pass_exit ?_
    refine q_hit ?_
    refine q_then ?_
    refine c_seq ?_
    refine c_region ?_
    refine o_move rfl rfl ?_
    refine o_move rfl rfl ?_
    refine l_f1 ?_
    refine o_call rfl cal16 rfl (first_B (k := at_)) ?_
    rintro _ _ ⟨nk60, ok60, hfk60, rfl, rfl⟩
    have hok60 := hnx.last (by omega) hfk60
    refine o_move rfl rfl ?_
    refine o_extract rfl rfl rfl ?_
    refine o_extract rfl rfl rfl ?_
    refine o_assign rfl rfl ?_
    refine o_assign rfl rfl ?_
    refine l_nil ?_
    refine q_then ?_
    refine c_seq ?_
    refine c_region ?_
    refine o_move rfl rfl ?_
    refine l_eq (t := 63) (v' := .bool false) rfl (show _ = Value.bool false from by rw [hok60]; first | done | rfl) ?_
    refine o_not rfl rfl ?_
    refine o_assign rfl rfl ?_
    refine l_nil ?_
    refine q_then ?_
    refine c_ret ?_
    refine q_conv (fun w S => S.tail) ?_
    refine q_conv (fun w S => S.tail) ?_
    exact f_ret (r_one rfl rfl) (⟨rfl, rfl⟩) (fun w S => S)

end Go.Proofs.Ytlbggbjekpfokaa
