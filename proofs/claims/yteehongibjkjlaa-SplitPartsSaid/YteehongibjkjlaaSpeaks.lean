/- Printed by eng2.py out of 15/spec.py. -/
import Derived.Test.YteehongibjkjlaaSpkp
import Derived.Test.YteehongibjkjlaaPieces
set_option linter.unusedVariables false
set_option linter.unusedSimpArgs false
set_option maxRecDepth 10000
namespace Go.Proofs.Yteehongibjkjlaa
open Go.RowKit Classical
theorem sp31 : StructP Try.prog 31 #[(0, 1), (1, 1), (2, 1)] := ⟨_, Try.underlying31, fun w => by kernel_rfl⟩
theorem two_ {W : World} {F : List Res} {s x y : Int} : CS Try.prog 24 #[.int .u64 s, .int .i64 x, .int .i64 y] W (F) (fun r L' => ∃ (a : Option Addr) (c : Nat), r = .agg (e_Order.cells (twO s x y a c)).toArray ∧ L' = row e_Mark.T e_Mark.sz a 2 c (flat e_Mark [⟨ByteArray.empty, x, 0⟩, ⟨ByteArray.empty, y, 0⟩]) :: F) := by
 refine f_door (l0 := [(0, .int .u64 s), (1, .int .i64 x), (2, .int .i64 y)]) Try.func24 Try.ntmps24 rfl rfl rfl ?_
 refine c_seq ?_
 refine c_region ?_
 refine o_alloc rfl ti40 fun b6 => ?_
 refine l_nil ?_
 refine q_then ?_
 refine c_seq ?_
 refine c_region ?_
 refine o_move rfl rfl ?_
 refine o_build rfl sp31 ti31 rfl ((fill_cons (cells' := [.int .i64 0, .int .u64 0, .int .u64 s]) rfl rfl rfl rfl fill_nil)) ?_
 refine o_build rfl sp33 ti33 rfl ((fill_cons (cells' := [.int .i64 0, .int .u64 0, .int .u64 s, .int .i64 0]) rfl rfl rfl rfl fill_nil)) ?_
 refine o_build rfl sp37 ti37 rfl ((fill_cons (cells' := [.int .i64 1, .slice none 0 0, .slice none 0 0, .slice none 0 0, .int .i64 0]) rfl rfl rfl rfl fill_nil)) ?_
 refine o_move rfl rfl ?_
 refine o_build rfl sp49 ti49 rfl ((fill_cons (cells' := [.string ByteArray.empty, .int .i64 x, .int .u64 0]) rfl rfl rfl rfl fill_nil)) ?_
 refine o_move rfl rfl ?_
 refine o_build rfl sp49 ti49 rfl ((fill_cons (cells' := [.string ByteArray.empty, .int .i64 y, .int .u64 0]) rfl rfl rfl rfl fill_nil)) ?_
 refine o_lit e_Mark_ok rfl Try.underlying38 rfl rfl rfl (lit_ok rfl) [⟨ByteArray.empty, x, 0⟩, ⟨ByteArray.empty, y, 0⟩] rfl rfl fun a15 => ?_
 refine o_build rfl sp40 ti40 rfl ((fill_cons (cells' := [.int .i64 0, .int .u64 0, .int .u64 s, .int .i64 0, .int .i64 0, .slice none 0 0, .slice none 0 0, .slice none 0 0, .int .i64 0, .slice none 0 0]) rfl rfl rfl rfl (fill_cons (cells' := [.int .i64 0, .int .u64 0, .int .u64 s, .int .i64 0, .int .i64 1, .slice none 0 0, .slice none 0 0, .slice none 0 0, .int .i64 0, .slice none 0 0]) rfl rfl rfl rfl (fill_cons (cells' := [.int .i64 0, .int .u64 0, .int .u64 s, .int .i64 0, .int .i64 1, .slice none 0 0, .slice none 0 0, .slice none 0 0, .int .i64 0, .slice a15 ([⟨ByteArray.empty, x, 0⟩, ⟨ByteArray.empty, y, 0⟩]).length 2]) rfl rfl rfl rfl fill_nil)))) ?_
 refine l_f1 ?_
 refine o_storen rfl rfl ti40 rfl rfl rfl rfl ?_
 refine l_nil ?_
 refine q_then ?_
 refine c_ret ?_
 refine f_retq (.inl rfl) (rs_1 rfl (rs_celln (vs := [.int .i64 0, .int .u64 0, .int .u64 s, .int .i64 0, .int .i64 1, .slice none 0 0, .slice none 0 0, .slice none 0 0, .int .i64 0, .slice a15 ([⟨ByteArray.empty, x, 0⟩, ⟨ByteArray.empty, y, 0⟩]).length 2]) rfl Try.underlying40 rfl ti40 (rdn_lit 0 rfl rfl))) (fun w S => ?_)
 replace S := S.tail
 exact ⟨_, ⟨a15, 2, rfl, rfl⟩, (fun w S => S) w S⟩

set_option maxHeartbeats 1000000 in
theorem speaks_ {W : World} {F : List Res} : CS Try.prog 7 #[] W (F) (fun r L' => r = .bool true ∧ F = L') := by
 refine f_door (l0 := []) Try.func7 Try.ntmps7 rfl rfl rfl ?_
 refine c_seq ?_
 refine c_region ?_
 refine o_assign rfl rfl ?_
 refine l_nil ?_
 refine q_then ?_
 refine c_seq ?_
 refine c_region ?_
 refine o_call rfl cal24 rfl (two_ (s := 1) (x := 0) (y := 1)) ?_
 rintro _ _ ⟨a4, c4, rfl, rfl⟩
 refine o_call rfl cal24 rfl (two_ (s := 2) (x := 1) (y := 2)) ?_
 rintro _ _ ⟨a5, c5, rfl, rfl⟩
 refine o_lit e_Order_ok rfl Try.underlying22 rfl rfl rfl (lit_ok rfl) (twL a4 a5 c4 c5) rfl rfl fun a6 => ?_
 refine o_assign rfl rfl ?_
 refine l_nil ?_
 refine q_then ?_
 refine c_seq ?_
 refine c_region ?_
 refine o_move rfl rfl ?_
 refine o_call rfl cal9 rfl (CS.rebase fun w S => spieces_ (W := w) (F := []) (g := 1) (log := twL a4 a5 c4 c5) (a := a6) (c := 2) ((rds_own e_Order_ok 0 rfl) w S) (twL_R ((rds_own e_Mark_ok 2 rfl) w S) ((rds_own e_Mark_ok 1 rfl) w S)) ⟨Nat.le_refl 2, by decide⟩ (by show 2 ≤ 40; decide) twL_small) ?_
 rintro _ _ ⟨_, ⟨a8, c8, ps8, hdn8, rfl, rfl⟩, rfl⟩
 refine l_conv (L' := row e_Item.T e_Item.sz a8 (ps8).length c8 (flat e_Item ps8) :: itsM ps8 :: row e_Order.T e_Order.sz a6 (twL a4 a5 c4 c5).length 2 (flat e_Order (twL a4 a5 c4 c5)) :: row e_Mark.T e_Mark.sz a5 (([⟨ByteArray.empty, 1, 0⟩, ⟨ByteArray.empty, 2, 0⟩] : List Mark)).length c5 (flat e_Mark ([⟨ByteArray.empty, 1, 0⟩, ⟨ByteArray.empty, 2, 0⟩] : List Mark)) :: row e_Mark.T e_Mark.sz a4 (([⟨ByteArray.empty, 0, 0⟩, ⟨ByteArray.empty, 1, 0⟩] : List Mark)).length c4 (flat e_Mark ([⟨ByteArray.empty, 0, 0⟩, ⟨ByteArray.empty, 1, 0⟩] : List Mark)) :: F) (fun w S => S) ?_
 have hit_ps8 := hdn8.2
 refine o_move rfl rfl ?_
 refine o_call rfl cal9 rfl (CS.rebase fun w S => spieces_ (W := w) (F := []) (g := 2) (log := twL a4 a5 c4 c5) (a := a6) (c := 2) ((rds_own e_Order_ok 2 rfl) w S) (twL_R ((rds_own e_Mark_ok 4 rfl) w S) ((rds_own e_Mark_ok 3 rfl) w S)) ⟨Nat.le_refl 2, by decide⟩ (by show 2 ≤ 40; decide) twL_small) ?_
 rintro _ _ ⟨_, ⟨a10, c10, ps10, hdn10, rfl, rfl⟩, rfl⟩
 refine l_conv (L' := row e_Item.T e_Item.sz a10 (ps10).length c10 (flat e_Item ps10) :: itsM ps10 :: row e_Item.T e_Item.sz a8 (ps8).length c8 (flat e_Item ps8) :: itsM ps8 :: row e_Order.T e_Order.sz a6 (twL a4 a5 c4 c5).length 2 (flat e_Order (twL a4 a5 c4 c5)) :: row e_Mark.T e_Mark.sz a5 (([⟨ByteArray.empty, 1, 0⟩, ⟨ByteArray.empty, 2, 0⟩] : List Mark)).length c5 (flat e_Mark ([⟨ByteArray.empty, 1, 0⟩, ⟨ByteArray.empty, 2, 0⟩] : List Mark)) :: row e_Mark.T e_Mark.sz a4 (([⟨ByteArray.empty, 0, 0⟩, ⟨ByteArray.empty, 1, 0⟩] : List Mark)).length c4 (flat e_Mark ([⟨ByteArray.empty, 0, 0⟩, ⟨ByteArray.empty, 1, 0⟩] : List Mark)) :: F) (fun w S => S) ?_
 have hit_ps10 := hdn10.2
 refine o_assign rfl rfl ?_
 refine o_assign rfl rfl ?_
 refine l_nil ?_
 refine q_then ?_
 refine c_seq ?_
 have h8 := tw_ps1 hdn8
 have h8l := h8.1
 have h10 := tw_ps2 hdn10
 have h10l := h10.1
 refine c_region ?_
 refine o_move rfl rfl ?_
 refine o_len rfl rfl Try.underlying27 ?_
 refine o_bin rfl rfl rfl b_eql ?_
 refine l_eq (t := 13) (v' := .bool true) rfl (show _ = Value.bool true from by rw [h8l]; rfl) ?_
 refine o_move rfl rfl ?_
 refine o_yes rfl rfl rfl ?_
 refine o_move rfl rfl ?_
 refine o_yes rfl rfl rfl ?_
 refine o_index e_Item_ok rfl rfl rfl Try.underlying27 (by omega) (by omega) (rds_own e_Item_ok 2 rfl) fun ad16 ead16 => ?_
 obtain ⟨x16, hx16⟩ : ∃ x, (ps8)[((1 : Int)).toNat]? = some x := ⟨_, List.getElem?_eq_getElem (by omega)⟩
 refine o_yes rfl rfl rfl ?_
 refine o_fieldAddr rfl rfl Try.underlying42 rfl ti3 (Addr.add_add' _ _ _) ?_
 refine o_yes rfl rfl rfl ?_
 refine o_load1 rfl rfl Try.underlying3 rfl (rd_sl e_Item_ok ead16 (rds_own e_Item_ok 2 rfl) hx16 rfl) ?_
 refine o_yes rfl rfl rfl ?_
 refine o_bin rfl rfl rfl b_eql ?_
 refine l_eq (t := 19) (v' := .bool true) rfl (show _ = Value.bool true from by rw [h8.2 _ hx16]; rfl) ?_
 refine o_pick_true rfl rfl rfl ?_
 refine o_move rfl rfl ?_
 refine o_yes rfl rfl rfl ?_
 refine o_move rfl rfl ?_
 refine o_yes rfl rfl rfl ?_
 refine o_len rfl rfl Try.underlying27 ?_
 refine o_yes rfl rfl rfl ?_
 refine o_bin rfl rfl rfl b_eql ?_
 refine l_eq (t := 24) (v' := .bool true) rfl (show _ = Value.bool true from by rw [h10l]; rfl) ?_
 refine o_pick_true rfl rfl rfl ?_
 refine o_move rfl rfl ?_
 refine o_yes rfl rfl rfl ?_
 refine o_move rfl rfl ?_
 refine o_yes rfl rfl rfl ?_
 refine o_index e_Item_ok rfl rfl rfl Try.underlying27 (by omega) (by omega) (rds_own e_Item_ok 0 rfl) fun ad28 ead28 => ?_
 obtain ⟨x28, hx28⟩ : ∃ x, (ps10)[((0 : Int)).toNat]? = some x := ⟨_, List.getElem?_eq_getElem (by omega)⟩
 refine o_yes rfl rfl rfl ?_
 refine o_fieldAddr rfl rfl Try.underlying42 rfl ti3 (Addr.add_add' _ _ _) ?_
 refine o_yes rfl rfl rfl ?_
 refine o_load1 rfl rfl Try.underlying3 rfl (rd_sl e_Item_ok ead28 (rds_own e_Item_ok 0 rfl) hx28 rfl) ?_
 refine o_yes rfl rfl rfl ?_
 refine o_bin rfl rfl rfl b_eql ?_
 refine l_eq (t := 31) (v' := .bool true) rfl (show _ = Value.bool true from by rw [(h10.2 _ hx28).1]; rfl) ?_
 refine o_pick_true rfl rfl rfl ?_
 refine o_move rfl rfl ?_
 refine o_yes rfl rfl rfl ?_
 refine o_move rfl rfl ?_
 refine o_yes rfl rfl rfl ?_
 refine o_indexK e_Item_ok ead28 rfl rfl rfl Try.underlying27 (by omega) (by omega) ?_
 obtain ⟨x35, hx35⟩ : ∃ x, (ps10)[((0 : Int)).toNat]? = some x := ⟨_, List.getElem?_eq_getElem (by omega)⟩
 refine o_yes rfl rfl rfl ?_
 refine o_fieldAddr rfl rfl Try.underlying42 rfl ti3 (Addr.add_add' _ _ _) ?_
 refine o_yes rfl rfl rfl ?_
 refine o_load1 rfl rfl Try.underlying3 rfl (rd_sl e_Item_ok ead28 (rds_own e_Item_ok 0 rfl) hx35 rfl) ?_
 refine o_yes rfl rfl rfl ?_
 refine o_bin rfl rfl rfl b_eql ?_
 refine l_eq (t := 38) (v' := .bool true) rfl (show _ = Value.bool true from by rw [(h10.2 _ hx35).2]; rfl) ?_
 refine o_pick_true rfl rfl rfl ?_
 refine o_assign rfl rfl ?_
 refine l_nil ?_
 refine q_then ?_
 refine c_ret ?_
 refine q_conv (fun w S => S.tail) ?_
 refine q_conv (fun w S => S.tail) ?_
 refine q_conv (fun w S => S.tail) ?_
 refine q_conv (fun w S => S.tail) ?_
 refine q_conv (fun w S => S.tail) ?_
 refine q_conv (fun w S => S.tail) ?_
 refine q_conv (fun w S => S.tail) ?_
 exact f_ret (r_one rfl rfl) (⟨rfl, rfl⟩) (fun w S => S)

end Go.Proofs.Yteehongibjkjlaa
