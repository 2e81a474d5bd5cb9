/- Printed by eng2.py out of 11/spec.py. -/
import Derived.Test.YtcdodagebbfjoaaVot
set_option linter.unusedVariables false
set_option linter.unusedSimpArgs false
set_option maxRecDepth 10000
namespace Go.Proofs.Ytcdodagebbfjoaa
open Go.RowKit Classical
theorem speaks_ {W : World} {F : List Res} : CS Try.prog 7 #[] W (F) (fun r L' => r = .bool true ∧ F = L') := by
 refine f_door (l0 := []) Try.func7 Try.ntmps7 rfl rfl rfl ?_
 refine c_seq ?_
 refine c_region ?_
 refine o_assign rfl rfl ?_
 refine l_nil ?_
 refine q_then ?_
 refine c_seq ?_
 refine c_region ?_
 refine o_call rfl cal8 rfl (vnewA) ?_
 rintro _ _ ⟨k8, rfl, rfl⟩
 refine o_assign rfl rfl ?_
 refine l_nil ?_
 refine q_then ?_
 refine c_seq ?_
 refine c_seq ?_
 refine c_region ?_
 refine o_move rfl rfl ?_
 refine o_bin rfl rfl rfl (b_peq Try.underlying27 _) ?_
 refine l_nil ?_
 refine q_then ?_
 refine c_false rfl ?_
 refine c_skip ?_
 refine q_then ?_
 refine c_seq ?_
 refine c_region ?_
 refine o_move rfl rfl ?_
 refine o_call rfl cal10 rfl (vpromA (b := 5) (fr := 0)) ?_
 rintro _ _ ⟨a13, c13, rfl, rfl⟩
 refine l_f1 ?_
 refine l_conv (L' := VtA k8 (⟨5, []⟩ : VSA) :: _) (fun w S => by rw [show (promSA (⟨0, []⟩ : VSA) 5) = (⟨5, []⟩ : VSA) from if_pos (by decide)] at S; exact S) ?_
 refine o_move rfl rfl ?_
 refine o_extract rfl rfl rfl ?_
 refine o_extract rfl rfl rfl ?_
 refine l_eq (t := 15) (v' := .bool true) rfl (show _ = Value.bool true from by rw [decide_eq_true (by decide)] <;> rfl) ?_
 refine o_assign rfl rfl ?_
 refine o_assign rfl rfl ?_
 refine l_nil ?_
 refine q_then ?_
 refine c_seq ?_
 refine c_region ?_
 refine o_move rfl rfl ?_
 refine o_build rfl sp31 ti31 rfl ((fill_cons (cells' := [.int .i64 0, .int .u64 4, .string ByteArray.empty]) rfl rfl rfl rfl (fill_cons (cells' := [.int .i64 0, .int .u64 4, .string ⟨#[119]⟩]) rfl rfl rfl rfl fill_nil))) ?_
 refine o_call rfl cal9 rfl (vaccA (v := (⟨0, 4, ⟨#[119]⟩⟩ : VoS))) ?_
 rintro _ _ ⟨rfl, rfl⟩
 refine l_eq (t := 18) (v' := .bool false) rfl (show _ = Value.bool false from by rw [decide_eq_false (by unfold accOkA; decide)]) ?_
 refine l_conv (L' := VtA k8 (⟨5, []⟩ : VSA) :: _) (fun w S => by rw [show (accSA (⟨5, []⟩ : VSA) (⟨0, 4, ⟨#[119]⟩⟩ : VoS)) = (⟨5, []⟩ : VSA) from if_neg (by unfold accOkA; decide)] at S; exact S) ?_
 refine o_assign rfl rfl ?_
 refine l_nil ?_
 refine q_then ?_
 refine c_seq ?_
 refine c_region ?_
 refine o_move rfl rfl ?_
 refine o_build rfl sp31 ti31 rfl ((fill_cons (cells' := [.int .i64 0, .int .u64 5, .string ByteArray.empty]) rfl rfl rfl rfl (fill_cons (cells' := [.int .i64 0, .int .u64 5, .string ⟨#[120]⟩]) rfl rfl rfl rfl fill_nil))) ?_
 refine o_call rfl cal9 rfl (vaccA (v := (⟨0, 5, ⟨#[120]⟩⟩ : VoS))) ?_
 rintro _ _ ⟨rfl, rfl⟩
 refine l_eq (t := 21) (v' := .bool true) rfl (show _ = Value.bool true from by rw [decide_eq_true (by unfold accOkA; decide)]) ?_
 refine l_conv (L' := VtA k8 (⟨5, [⟨0, ⟨0, 5, ⟨#[120]⟩⟩⟩]⟩ : VSA) :: _) (fun w S => by rw [show (accSA (⟨5, []⟩ : VSA) (⟨0, 5, ⟨#[120]⟩⟩ : VoS)) = (⟨5, [⟨0, ⟨0, 5, ⟨#[120]⟩⟩⟩]⟩ : VSA) from if_pos (by unfold accOkA; decide)] at S; exact S) ?_
 refine o_assign rfl rfl ?_
 refine l_nil ?_
 refine q_then ?_
 refine c_seq ?_
 refine c_region ?_
 refine o_move rfl rfl ?_
 refine o_call rfl cal10 rfl (vpromA (b := 7) (fr := 0)) ?_
 rintro _ _ ⟨a24, c24, rfl, rfl⟩
 have hPL : promLA (⟨5, [⟨0, ⟨0, 5, ⟨#[120]⟩⟩⟩]⟩ : VSA) 7 0 = [⟨0, 5, ⟨#[120]⟩⟩] := by unfold promLA; rw [if_pos (by decide), sel_ge (fun y hy => by simp at hy; subst hy; exact fun h => absurd h (by decide))]; rfl
 have hPn : (promLA (⟨5, [⟨0, ⟨0, 5, ⟨#[120]⟩⟩⟩]⟩ : VSA) 7 0).length = 1 := by rw [hPL]; rfl
 refine o_move rfl rfl ?_
 refine o_extract rfl rfl rfl ?_
 refine o_extract rfl rfl rfl ?_
 refine l_eq (t := 26) (v' := .bool true) rfl (show _ = Value.bool true from by rw [decide_eq_true (by decide)] <;> rfl) ?_
 refine o_assign rfl rfl ?_
 refine o_assign rfl rfl ?_
 refine l_nil ?_
 refine q_then ?_
 refine c_seq ?_
 refine c_region ?_
 refine o_move rfl rfl ?_
 refine o_move rfl rfl ?_
 refine o_yes rfl rfl rfl ?_
 refine o_move rfl rfl ?_
 refine o_yes rfl rfl rfl ?_
 refine o_not rfl rfl ?_
 refine o_pick_true rfl rfl rfl ?_
 refine o_move rfl rfl ?_
 refine o_yes rfl rfl rfl ?_
 refine o_move rfl rfl ?_
 refine o_pick_true rfl rfl rfl ?_
 refine o_move rfl rfl ?_
 refine o_yes rfl rfl rfl ?_
 refine o_move rfl rfl ?_
 refine o_pick_true rfl rfl rfl ?_
 refine o_move rfl rfl ?_
 refine o_yes rfl rfl rfl ?_
 refine o_move rfl rfl ?_
 refine o_yes rfl rfl rfl ?_
 refine o_len rfl rfl Try.underlying32 ?_
 refine o_yes rfl rfl rfl ?_
 refine o_bin rfl rfl rfl b_eql ?_
 refine l_eq (t := 41) (v' := .bool true) rfl (show _ = Value.bool true from by rw [hPL]; simp) ?_
 refine o_pick_true rfl rfl rfl ?_
 refine o_move rfl rfl ?_
 refine o_yes rfl rfl rfl ?_
 refine o_move rfl rfl ?_
 refine o_yes rfl rfl rfl ?_
 refine o_index e_VoS_ok rfl rfl rfl Try.underlying32 (by omega) (by omega) (rds_own e_VoS_ok 0 rfl) fun ad45 ead45 => ?_
 obtain ⟨x45, hx45⟩ : ∃ x, ((promLA (⟨5, [⟨0, ⟨0, 5, ⟨#[120]⟩⟩⟩]⟩ : VSA) 7 0))[((0 : Int)).toNat]? = some x := ⟨_, List.getElem?_eq_getElem (by omega)⟩
 have e45 : x45 = (⟨0, 5, ⟨#[120]⟩⟩ : VoS) := by have h9 := hx45; rw [hPL] at h9; simpa using h9.symm
 refine o_yes rfl rfl rfl ?_
 refine o_fieldAddr rfl rfl Try.underlying31 rfl ti9 (Addr.add_add' _ _ _) ?_
 refine o_yes rfl rfl rfl ?_
 refine o_load1 rfl rfl Try.underlying9 rfl (rd_sl e_VoS_ok ead45 (rds_own e_VoS_ok 0 rfl) hx45 rfl) ?_
 refine o_yes rfl rfl rfl ?_
 refine o_bin rfl rfl rfl b_seql ?_
 refine l_eq (t := 48) (v' := .bool true) rfl (show _ = Value.bool true from by rw [e45]; simp) ?_
 refine o_pick_true rfl rfl rfl ?_
 refine o_move rfl rfl ?_
 refine o_yes rfl rfl rfl ?_
 refine o_move rfl rfl ?_
 refine o_yes rfl rfl rfl ?_
 refine o_indexK e_VoS_ok ead45 rfl rfl rfl Try.underlying32 (by omega) (by omega) ?_
 obtain ⟨x52, hx52⟩ : ∃ x, ((promLA (⟨5, [⟨0, ⟨0, 5, ⟨#[120]⟩⟩⟩]⟩ : VSA) 7 0))[((0 : Int)).toNat]? = some x := ⟨_, List.getElem?_eq_getElem (by omega)⟩
 have e52 : x52 = (⟨0, 5, ⟨#[120]⟩⟩ : VoS) := by have h9 := hx52; rw [hPL] at h9; simpa using h9.symm
 refine o_yes rfl rfl rfl ?_
 refine o_fieldAddr rfl rfl Try.underlying31 rfl ti23 (Addr.add_add' _ _ _) ?_
 refine o_yes rfl rfl rfl ?_
 refine o_load1 rfl rfl Try.underlying23 rfl (rd_sl e_VoS_ok ead45 (rds_own e_VoS_ok 0 rfl) hx52 rfl) ?_
 refine o_yes rfl rfl rfl ?_
 refine o_bin rfl rfl rfl b_eql ?_
 refine l_eq (t := 55) (v' := .bool true) rfl (show _ = Value.bool true from by rw [e52]; simp) ?_
 refine o_pick_true rfl rfl rfl ?_
 refine o_assign rfl rfl ?_
 refine l_nil ?_
 refine q_then ?_
 refine c_ret ?_
 refine q_conv (fun w S => S.tail) ?_
 refine q_conv (fun w S => S.tail) ?_
 refine q_conv (fun w S => S.tail) ?_
 exact f_ret (r_one rfl rfl) (⟨rfl, rfl⟩) (fun w S => S)

end Go.Proofs.Ytcdodagebbfjoaa
