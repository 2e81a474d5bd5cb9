/- Printed by eng2.py out of 05/spec.py. -/
import Derived.Test.YtllclglbfdncnaaCheck
set_option linter.unusedVariables false
set_option linter.unusedSimpArgs false
set_option maxRecDepth 10000
namespace Go.Proofs.Ytllclglbfdncnaa
open Go.RowKit Classical
theorem keys_one {x : ByteArray} : KeysOk [x] ↔ 1 ≤ x.size ∧ x.size ≤ 16 := by
  constructor
  · intro h; exact h.1 0 x (by simp) rfl
  · intro h
    refine ⟨fun j y hj hy => ?_, fun j a b hj => absurd hj (by simp)⟩
    obtain rfl : j = 0 := by simpa using hj
    cases hy; exact h
theorem speaks_yes {a3 a4 a7 : Option Addr} {c3 c4 c7 : Nat} : chkN ⟨1, ⟨a3, [⟨#[97]⟩], c3⟩, ⟨a4, [⟨#[98]⟩], c4⟩, ⟨a7, [⟨6, ⟨#[98]⟩, ⟨none, [], 0⟩, 5⟩, ⟨1, ⟨#[97]⟩, ⟨none, [], 0⟩, 0⟩], c7⟩, 0⟩ 1 = 0 := by
  refine if_pos ⟨by decide, by decide, ⟨by simp, by simp, keys_one.2 (by decide), keys_one.2 (by decide), by simp⟩, .inl ⟨rfl, rfl, by simp, ?_⟩⟩
  rintro ⟨o, ho, hn⟩
  simp only [List.mem_cons, List.not_mem_nil, or_false] at ho
  rcases ho with rfl | rfl
  · exact hn ⟨by simp, .inr rfl, .inr (.inl ⟨.inr rfl, by simp, rfl⟩)⟩
  · exact hn ⟨by simp, .inl rfl, .inr (.inr (.inr (.inl ⟨.inl rfl, .inr (by simp), rfl⟩)))⟩
theorem speaks_no {a3 a4 a7 : Option Addr} {c3 c4 c7 : Nat} {o2 : Op} : chkN ⟨1, ⟨a3, [⟨#[97]⟩], c3⟩, ⟨a4, [⟨#[98]⟩], c4⟩, ⟨a7, [⟨2, ⟨#[97]⟩, ⟨none, [], 0⟩, 0⟩, o2], c7⟩, 0⟩ 1 = 1 := by
  refine if_neg ?_
  rintro ⟨_, _, _, h⟩
  rcases h with ⟨_, _, _, h⟩ | ⟨h, _⟩
  · refine h ⟨⟨2, ⟨#[97]⟩, ⟨none, [], 0⟩, 0⟩, by simp, ?_⟩
    rintro ⟨_, _, h | h | h | h | h⟩
    · simp at h
    · simp at h
    · simp at h
    · simp at h
    · simp at h
  · cases h
theorem speaks_ {W : World} {F : List Res} : CS Try.prog 10 #[] W (F) (fun r L' => r = .bool true ∧ F = L') := by
  refine f_door (l0 := []) Try.func10 Try.ntmps10 rfl rfl rfl ?_
  refine c_seq ?_
  refine c_region ?_
  refine o_assign rfl rfl ?_
  refine l_nil ?_
  refine q_then ?_
  refine c_seq ?_
  refine c_region ?_
  refine o_lit e_S_ok rfl Try.underlying23 rfl rfl rfl (lit_ok rfl) ([⟨#[97]⟩] : List ByteArray) rfl rfl fun a3 => ?_
  refine o_lit e_S_ok rfl Try.underlying23 rfl rfl rfl (lit_ok rfl) ([⟨#[98]⟩] : List ByteArray) rfl rfl fun a4 => ?_
  refine o_build rfl sp35 ti35 rfl ((fill_cons (cells' := [.int .i64 6, .string ByteArray.empty, .slice none 0 0, .int .i64 0]) rfl rfl rfl rfl (fill_cons (cells' := [.int .i64 6, .string ⟨#[98]⟩, .slice none 0 0, .int .i64 0]) rfl rfl rfl rfl (fill_cons (cells' := [.int .i64 6, .string ⟨#[98]⟩, .slice none 0 0, .int .i64 5]) rfl rfl rfl rfl fill_nil)))) ?_
  refine o_build rfl sp35 ti35 rfl ((fill_cons (cells' := [.int .i64 1, .string ByteArray.empty, .slice none 0 0, .int .i64 0]) rfl rfl rfl rfl (fill_cons (cells' := [.int .i64 1, .string ⟨#[97]⟩, .slice none 0 0, .int .i64 0]) rfl rfl rfl rfl fill_nil))) ?_
  refine o_lit e_Op_ok rfl Try.underlying24 rfl rfl rfl (lit_ok rfl) ([⟨6, ⟨#[98]⟩, ⟨none, [], 0⟩, 5⟩, ⟨1, ⟨#[97]⟩, ⟨none, [], 0⟩, 0⟩] : List Op) rfl rfl fun a7 => ?_
  refine o_build rfl sp26 ti26 rfl ((fill_cons (cells' := [.int .i64 1, .slice none 0 0, .slice none 0 0, .slice none 0 0, .int .i64 0]) rfl rfl rfl rfl (fill_cons (cells' := [.int .i64 1, .slice a3 (([⟨#[97]⟩] : List ByteArray)).length 1, .slice none 0 0, .slice none 0 0, .int .i64 0]) rfl rfl rfl rfl (fill_cons (cells' := [.int .i64 1, .slice a3 (([⟨#[97]⟩] : List ByteArray)).length 1, .slice a4 (([⟨#[98]⟩] : List ByteArray)).length 1, .slice none 0 0, .int .i64 0]) rfl rfl rfl rfl (fill_cons (cells' := [.int .i64 1, .slice a3 (([⟨#[97]⟩] : List ByteArray)).length 1, .slice a4 (([⟨#[98]⟩] : List ByteArray)).length 1, .slice a7 (([⟨6, ⟨#[98]⟩, ⟨none, [], 0⟩, 5⟩, ⟨1, ⟨#[97]⟩, ⟨none, [], 0⟩, 0⟩] : List Op)).length 2, .int .i64 0]) rfl rfl rfl rfl fill_nil))))) ?_
  refine o_alloc rfl ti26 fun b1 => ?_
  refine o_storen rfl rfl ti26 rfl rfl rfl rfl ?_
  refine l_nil ?_
  refine q_then ?_
  refine c_seq ?_
  refine c_region ?_
  refine o_loadn (vs := [_, _, _, _, _]) rfl rfl Try.underlying26 rfl ti26 (rdn_lit 0 rfl rfl) ?_
  refine o_call rfl cal13 rfl (check_ (t := (⟨1, ⟨a3, ([⟨#[97]⟩] : List ByteArray), 1⟩, ⟨a4, ([⟨#[98]⟩] : List ByteArray), 1⟩, ⟨a7, ([⟨6, ⟨#[98]⟩, ⟨none, [], 0⟩, 5⟩, ⟨1, ⟨#[97]⟩, ⟨none, [], 0⟩, 0⟩] : List Op), 2⟩, 0⟩ : Txn)) (g := 1) (TxR.mk (t := (⟨1, ⟨a3, ([⟨#[97]⟩] : List ByteArray), 1⟩, ⟨a4, ([⟨#[98]⟩] : List ByteArray), 1⟩, ⟨a7, ([⟨6, ⟨#[98]⟩, ⟨none, [], 0⟩, 5⟩, ⟨1, ⟨#[97]⟩, ⟨none, [], 0⟩, 0⟩] : List Op), 2⟩, 0⟩ : Txn)) (rds_own e_S_ok 3 rfl) (rds_own e_S_ok 2 rfl) (rds_own e_Op_ok 1 rfl) (fun o ho => by simp at ho; rcases ho with rfl | rfl <;> exact rds_nil _ _) ⟨by simp, by simp, by simp, fun o ho => by simp at ho; rcases ho with rfl | rfl <;> simp⟩)) ?_
  rintro _ _ ⟨rfl, rfl⟩
  refine o_assign rfl rfl ?_
  refine l_nil ?_
  refine q_then ?_
  refine c_seq ?_
  refine c_region ?_
  refine o_fieldAddr (q := ⟨b1, 3, none⟩) rfl rfl Try.underlying26 rfl ti24 rfl ?_
  refine o_load1 rfl rfl Try.underlying24 rfl (rd_mem 0 rfl rfl) ?_
  refine o_build rfl sp35 ti35 rfl ((fill_cons (cells' := [.int .i64 2, .string ByteArray.empty, .slice none 0 0, .int .i64 0]) rfl rfl rfl rfl (fill_cons (cells' := [.int .i64 2, .string ⟨#[97]⟩, .slice none 0 0, .int .i64 0]) rfl rfl rfl rfl fill_nil))) ?_
  refine o_index e_Op_ok rfl rfl rfl Try.underlying24 (by decide) (by simp) (rds_own e_Op_ok 1 rfl) fun ad14 ead14 => ?_
  obtain ⟨x14, hx14⟩ : ∃ x, (([⟨6, ⟨#[98]⟩, ⟨none, [], 0⟩, 5⟩, ⟨1, ⟨#[97]⟩, ⟨none, [], 0⟩, 0⟩] : List Op))[((0 : Int)).toNat]? = some x := ⟨_, List.getElem?_eq_getElem (by simp)⟩
  refine l_f1 ?_
  refine o_storeRowAll e_Op_ok ead14 rfl rfl ti35 ⟨2, ⟨#[97]⟩, ⟨none, [], 0⟩, 0⟩ rfl (by have := List.getElem?_eq_some_iff.1 hx14; exact this.1) ?_
  refine l_f1 ?_
  refine l_conv (L' := blk b1 (.cells #[.int .i64 1, .slice a3 (([⟨#[97]⟩] : List ByteArray)).length 1, .slice a4 (([⟨#[98]⟩] : List ByteArray)).length 1, .slice a7 (([⟨6, ⟨#[98]⟩, ⟨none, [], 0⟩, 5⟩, ⟨1, ⟨#[97]⟩, ⟨none, [], 0⟩, 0⟩] : List Op)).length 2, .int .i64 0] 26 (0, 0)) :: _) (fun w S => S) ?_
  refine l_conv (L' := blk b1 (.cells #[.int .i64 1, .slice a3 (([⟨#[97]⟩] : List ByteArray)).length 1, .slice a4 (([⟨#[98]⟩] : List ByteArray)).length 1, .slice a7 ((([⟨6, ⟨#[98]⟩, ⟨none, [], 0⟩, 5⟩, ⟨1, ⟨#[97]⟩, ⟨none, [], 0⟩, 0⟩] : List Op)).set ((0 : Int)).toNat ⟨2, ⟨#[97]⟩, ⟨none, [], 0⟩, 0⟩).length 2, .int .i64 0] 26 (0, 0)) :: row e_Op.T e_Op.sz a7 ((([⟨6, ⟨#[98]⟩, ⟨none, [], 0⟩, 5⟩, ⟨1, ⟨#[97]⟩, ⟨none, [], 0⟩, 0⟩] : List Op)).set ((0 : Int)).toNat ⟨2, ⟨#[97]⟩, ⟨none, [], 0⟩, 0⟩).length 2 (flat e_Op ((([⟨6, ⟨#[98]⟩, ⟨none, [], 0⟩, 5⟩, ⟨1, ⟨#[97]⟩, ⟨none, [], 0⟩, 0⟩] : List Op)).set ((0 : Int)).toNat ⟨2, ⟨#[97]⟩, ⟨none, [], 0⟩, 0⟩)) :: row e_S.T e_S.sz a4 (([⟨#[98]⟩] : List ByteArray)).length 1 (flat e_S ([⟨#[98]⟩] : List ByteArray)) :: row e_S.T e_S.sz a3 (([⟨#[97]⟩] : List ByteArray)).length 1 (flat e_S ([⟨#[97]⟩] : List ByteArray)) :: F) (fun w S => by first | exact S | simpa only [List.length_set] using S) ?_
  refine l_nil ?_
  refine q_then ?_
  refine c_seq ?_
  refine c_region ?_
  refine o_move rfl rfl ?_
  refine o_bin rfl rfl rfl b_eql ?_
  refine l_eq (t := 16) (v' := .bool true) rfl (show _ = Value.bool true from by rw [speaks_yes]; rfl) ?_
  refine o_move rfl rfl ?_
  refine o_yes rfl rfl rfl ?_
  refine o_loadn (vs := [_, _, _, _, _]) rfl rfl Try.underlying26 rfl ti26 (rdn_lit 0 rfl rfl) ?_
  refine o_yes rfl rfl rfl ?_
  refine o_call rfl cal13 rfl (check_ (t := (⟨1, ⟨a3, ([⟨#[97]⟩] : List ByteArray), 1⟩, ⟨a4, ([⟨#[98]⟩] : List ByteArray), 1⟩, ⟨a7, (([⟨6, ⟨#[98]⟩, ⟨none, [], 0⟩, 5⟩, ⟨1, ⟨#[97]⟩, ⟨none, [], 0⟩, 0⟩] : List Op)).set ((0 : Int)).toNat ⟨2, ⟨#[97]⟩, ⟨none, [], 0⟩, 0⟩, 2⟩, 0⟩ : Txn)) (g := 1) (TxR.mk (t := (⟨1, ⟨a3, ([⟨#[97]⟩] : List ByteArray), 1⟩, ⟨a4, ([⟨#[98]⟩] : List ByteArray), 1⟩, ⟨a7, (([⟨6, ⟨#[98]⟩, ⟨none, [], 0⟩, 5⟩, ⟨1, ⟨#[97]⟩, ⟨none, [], 0⟩, 0⟩] : List Op)).set ((0 : Int)).toNat ⟨2, ⟨#[97]⟩, ⟨none, [], 0⟩, 0⟩, 2⟩, 0⟩ : Txn)) (rds_own e_S_ok 3 rfl) (rds_own e_S_ok 2 rfl) (rds_own e_Op_ok 1 rfl) (fun o ho => by simp at ho; rcases ho with rfl | rfl <;> exact rds_nil _ _) ⟨by simp, by simp, by simp, fun o ho => by simp at ho; rcases ho with rfl | rfl <;> simp⟩)) ?_
  rintro _ _ ⟨rfl, rfl⟩
  refine o_yes rfl rfl rfl ?_
  refine o_bin rfl rfl rfl b_eql ?_
  refine l_eq (t := 20) (v' := .bool true) rfl (show _ = Value.bool true from by (show Value.bool (decide (chkN ⟨1, ⟨a3, [⟨#[97]⟩], 1⟩, ⟨a4, [⟨#[98]⟩], 1⟩, ⟨a7, [⟨2, ⟨#[97]⟩, ⟨none, [], 0⟩, 0⟩, ⟨1, ⟨#[97]⟩, ⟨none, [], 0⟩, 0⟩], 2⟩, 0⟩ 1 = 1)) = _); rw [speaks_no]; rfl) ?_
  refine o_pick_true rfl rfl rfl ?_
  refine o_assign rfl rfl ?_
  refine l_nil ?_
  refine q_then ?_
  refine c_ret ?_
  refine q_conv (fun w S => S.tail) ?_
  refine q_conv (fun w S => S.tail) ?_
  refine q_conv (fun w S => S.tail) ?_
  refine q_conv (fun w S => S.tail) ?_
  exact f_ret (r_one rfl rfl) (⟨rfl, rfl⟩) (fun w S => S)

theorem names_ {W : World} {F : List Res} : CS Try.prog 3 #[] W (F) (fun r L' => r = .bool true ∧ F = L') := by
  refine f_door (l0 := []) Try.func3 Try.ntmps3 rfl rfl rfl ?_
  refine c_seq ?_
  refine c_region ?_
  refine o_assign rfl rfl ?_
  refine l_nil ?_
  refine q_then ?_
  refine c_seq ?_
  refine c_seq ?_
  refine c_region ?_
  refine o_call rfl cal10 rfl (speaks_) ?_
  rintro _ _ ⟨rfl, rfl⟩
  refine o_not rfl rfl ?_
  refine l_nil ?_
  refine q_then ?_
  refine c_false rfl ?_
  refine c_skip ?_
  refine q_then ?_
  refine c_seq ?_
  refine c_region ?_
  refine o_assign rfl rfl ?_
  refine l_nil ?_
  refine q_then ?_
  refine c_ret ?_
  exact f_ret (r_one rfl rfl) (⟨rfl, rfl⟩) (fun w S => S)

end Go.Proofs.Ytllclglbfdncnaa
