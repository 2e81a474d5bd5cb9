/- Printed by eng2.py out of 09a/spec.py. -/
import Derived.Test.YtlblipkcbmcfkaaHomes
set_option linter.unusedVariables false
set_option linter.unusedSimpArgs false
set_option maxRecDepth 10000
namespace Go.Proofs.Ytlblipkcbmcfkaa
open Go.RowKit Classical
abbrev spO (a : Option Addr) : Order := ⟨0, 0, 0, 0, 1, ⟨none, [], 0⟩, ⟨none, [], 0⟩, ⟨none, [], 0⟩, 0, ⟨a, [⟨ByteArray.empty, 2, 0⟩, ⟨ByteArray.empty, 0, 0⟩, ⟨ByteArray.empty, 2, 0⟩], 3⟩⟩
theorem spO_homes (a : Option Addr) : homes (spO a) = [0, 2] := by
  rw [homes_ne (by simp)]
  show setOf ilt [2, 0, 2] = [0, 2]
  simp [setOf, ins]
theorem spO_single (a : Option Addr) : ¬ single (spO a) := fun h => by have := h.2; rw [spO_homes] at this; simp at this
set_option maxHeartbeats 1000000 in
theorem speaks_ {W : World} {F : List Res} : CS Try.prog 7 #[] W (F) (fun r L' => r = .bool true ∧ F = L') := by
 refine f_door (l0 := []) Try.func7 Try.ntmps7 rfl rfl rfl ?_
 refine c_seq ?_
 refine c_region ?_
 refine o_assign rfl rfl ?_
 refine l_nil ?_
 refine q_then ?_
 refine c_seq ?_
 refine c_region ?_
 refine o_build rfl sp30 ti30 rfl ((fill_cons (cells' := [.int .i64 1, .slice none 0 0, .slice none 0 0, .slice none 0 0, .int .i64 0]) rfl rfl rfl rfl fill_nil)) ?_
 refine o_build rfl sp51 ti51 rfl ((fill_cons (cells' := [.string ByteArray.empty, .int .i64 2, .int .u64 0]) rfl rfl rfl rfl fill_nil)) ?_
 refine o_build rfl sp51 ti51 rfl ((fill_cons (cells' := [.string ByteArray.empty, .int .i64 0, .int .u64 0]) rfl rfl rfl rfl fill_nil)) ?_
 refine o_build rfl sp51 ti51 rfl ((fill_cons (cells' := [.string ByteArray.empty, .int .i64 2, .int .u64 0]) rfl rfl rfl rfl fill_nil)) ?_
 refine o_lit e_Mark_ok rfl Try.underlying31 rfl rfl rfl (lit_ok rfl) [⟨ByteArray.empty, 2, 0⟩, ⟨ByteArray.empty, 0, 0⟩, ⟨ByteArray.empty, 2, 0⟩] rfl rfl fun a7 => ?_
 refine o_build rfl sp33 ti33 rfl ((fill_cons (cells' := [.int .i64 0, .int .u64 0, .int .u64 0, .int .i64 0, .int .i64 1, .slice none 0 0, .slice none 0 0, .slice none 0 0, .int .i64 0, .slice none 0 0]) rfl rfl rfl rfl (fill_cons (cells' := [.int .i64 0, .int .u64 0, .int .u64 0, .int .i64 0, .int .i64 1, .slice none 0 0, .slice none 0 0, .slice none 0 0, .int .i64 0, .slice a7 ([⟨ByteArray.empty, 2, 0⟩, ⟨ByteArray.empty, 0, 0⟩, ⟨ByteArray.empty, 2, 0⟩]).length 3]) rfl rfl rfl rfl fill_nil))) ?_
 refine o_alloc rfl ti33 fun b1 => ?_
 refine o_storen rfl rfl ti33 rfl rfl rfl rfl ?_
 refine l_nil ?_
 refine q_then ?_
 refine c_seq ?_
 refine c_region ?_
 refine o_loadn (vs := [_, _, _, _, _, _, _, _, _, _]) rfl rfl Try.underlying33 rfl ti33 (rdn_lit 0 rfl rfl) ?_
 refine o_call rfl cal10 rfl (homes_ (o := (⟨0, 0, 0, 0, 1, ⟨none, [], 0⟩, ⟨none, [], 0⟩, ⟨none, [], 0⟩, 0, ⟨a7, [⟨ByteArray.empty, 2, 0⟩, ⟨ByteArray.empty, 0, 0⟩, ⟨ByteArray.empty, 2, 0⟩], 3⟩⟩ : Order)) (OrdR.mk (o := (⟨0, 0, 0, 0, 1, ⟨none, [], 0⟩, ⟨none, [], 0⟩, ⟨none, [], 0⟩, 0, ⟨a7, [⟨ByteArray.empty, 2, 0⟩, ⟨ByteArray.empty, 0, 0⟩, ⟨ByteArray.empty, 2, 0⟩], 3⟩⟩ : Order)) (rds_own e_Mark_ok 1 rfl) (rds_nil _ _) (rds_nil _ _) (rds_nil _ _) (fun x hx => by cases hx) (by simp) (by simp) (by simp) (by simp) (fun x hx => by cases hx)) (by simp)) ?_
 rintro _ _ ⟨a10, c10, rfl, rfl⟩
 have hhl10 := homes_len (⟨0, 0, 0, 0, 1, ⟨none, [], 0⟩, ⟨none, [], 0⟩, ⟨none, [], 0⟩, 0, ⟨a7, [⟨ByteArray.empty, 2, 0⟩, ⟨ByteArray.empty, 0, 0⟩, ⟨ByteArray.empty, 2, 0⟩], 3⟩⟩ : Order)
 refine o_assign rfl rfl ?_
 refine l_nil ?_
 refine q_then ?_
 refine c_seq ?_
 have hsp := spO_homes a7
 refine c_region ?_
 refine o_move rfl rfl ?_
 refine o_len rfl rfl Try.underlying37 ?_
 refine o_bin rfl rfl rfl b_eql ?_
 refine l_eq (t := 13) (v' := .bool true) rfl (show _ = Value.bool true from by rw [hsp]; simp) ?_
 refine o_move rfl rfl ?_
 refine o_yes rfl rfl rfl ?_
 refine o_move rfl rfl ?_
 refine o_yes rfl rfl rfl ?_
 refine o_index e_I_ok rfl rfl rfl Try.underlying37 (by omega) (by rw [hsp]; simp) (rds_own e_I_ok 0 rfl) fun ad16 ead16 => ?_
 obtain ⟨x16, hx16⟩ : ∃ x, (homes (⟨0, 0, 0, 0, 1, ⟨none, [], 0⟩, ⟨none, [], 0⟩, ⟨none, [], 0⟩, 0, ⟨a7, [⟨ByteArray.empty, 2, 0⟩, ⟨ByteArray.empty, 0, 0⟩, ⟨ByteArray.empty, 2, 0⟩], 3⟩⟩ : Order))[((0 : Int)).toNat]? = some x := ⟨_, List.getElem?_eq_getElem (by simp [hsp])⟩
 have e16 : x16 = 0 := by rw [hsp] at hx16; simpa using hx16.symm
 refine o_yes rfl rfl rfl ?_
 refine o_load1 rfl rfl Try.underlying3 rfl (rd_sl0 e_I_ok ead16 (rds_own e_I_ok 0 rfl) hx16 rfl) ?_
 refine o_yes rfl rfl rfl ?_
 refine o_bin rfl rfl rfl b_eql ?_
 refine l_eq (t := 18) (v' := .bool true) rfl (show _ = Value.bool true from by rw [e16]; simp) ?_
 refine o_pick_true rfl rfl rfl ?_
 refine o_move rfl rfl ?_
 refine o_yes rfl rfl rfl ?_
 refine o_move rfl rfl ?_
 refine o_yes rfl rfl rfl ?_
 refine o_indexK e_I_ok ead16 rfl rfl rfl Try.underlying37 (by omega) (by rw [hsp]; simp) ?_
 obtain ⟨x22, hx22⟩ : ∃ x, (homes (⟨0, 0, 0, 0, 1, ⟨none, [], 0⟩, ⟨none, [], 0⟩, ⟨none, [], 0⟩, 0, ⟨a7, [⟨ByteArray.empty, 2, 0⟩, ⟨ByteArray.empty, 0, 0⟩, ⟨ByteArray.empty, 2, 0⟩], 3⟩⟩ : Order))[((1 : Int)).toNat]? = some x := ⟨_, List.getElem?_eq_getElem (by simp [hsp])⟩
 have e22 : x22 = 2 := by rw [hsp] at hx22; simpa using hx22.symm
 refine o_yes rfl rfl rfl ?_
 refine o_load1 rfl rfl Try.underlying3 rfl (rd_sl0 e_I_ok ead16 (rds_own e_I_ok 0 rfl) hx22 rfl) ?_
 refine o_yes rfl rfl rfl ?_
 refine o_bin rfl rfl rfl b_eql ?_
 refine l_eq (t := 24) (v' := .bool true) rfl (show _ = Value.bool true from by rw [e22]; simp) ?_
 refine o_pick_true rfl rfl rfl ?_
 refine o_move rfl rfl ?_
 refine o_yes rfl rfl rfl ?_
 refine o_loadn (vs := [_, _, _, _, _, _, _, _, _, _]) rfl rfl Try.underlying33 rfl ti33 (rdn_lit 1 rfl rfl) ?_
 refine o_yes rfl rfl rfl ?_
 refine o_call rfl cal14 rfl (single_ (o := (⟨0, 0, 0, 0, 1, ⟨none, [], 0⟩, ⟨none, [], 0⟩, ⟨none, [], 0⟩, 0, ⟨a7, [⟨ByteArray.empty, 2, 0⟩, ⟨ByteArray.empty, 0, 0⟩, ⟨ByteArray.empty, 2, 0⟩], 3⟩⟩ : Order)) (OrdR.mk (o := (⟨0, 0, 0, 0, 1, ⟨none, [], 0⟩, ⟨none, [], 0⟩, ⟨none, [], 0⟩, 0, ⟨a7, [⟨ByteArray.empty, 2, 0⟩, ⟨ByteArray.empty, 0, 0⟩, ⟨ByteArray.empty, 2, 0⟩], 3⟩⟩ : Order)) (rds_own e_Mark_ok 2 rfl) (rds_nil _ _) (rds_nil _ _) (rds_nil _ _) (fun x hx => by cases hx) (by simp) (by simp) (by simp) (by simp) (fun x hx => by cases hx)) (by simp)) ?_
 rintro _ _ ⟨rfl, rfl⟩
 refine o_yes rfl rfl rfl ?_
 refine o_not rfl rfl ?_
 refine l_eq (t := 29) (v' := .bool true) rfl (show _ = Value.bool true from by exact (congrArg (fun b => Value.bool (!b)) (decide_eq_false (spO_single _)))) ?_
 refine o_pick_true rfl rfl rfl ?_
 refine o_assign rfl rfl ?_
 refine l_nil ?_
 refine q_then ?_
 refine c_ret ?_
 refine q_conv (fun w S => S.tail) ?_
 refine q_conv (fun w S => S.tail) ?_
 refine q_conv (fun w S => S.tail) ?_
 exact f_ret (r_one rfl rfl) (⟨rfl, rfl⟩) (fun w S => S)

end Go.Proofs.Ytlblipkcbmcfkaa
