/- Printed by eng2.py out of 15/spec.py. -/
import Derived.Test.YteehongibjkjlaaPcsp
import Derived.Test.YteehongibjkjlaaPieces
set_option linter.unusedVariables false
set_option linter.unusedSimpArgs false
set_option maxRecDepth 10000
namespace Go.Proofs.Yteehongibjkjlaa
open Go.RowKit Classical

abbrev twO (s x y : Int) (a : Option Addr) (c : Nat) : Order := ⟨0, 0, s, 0, 1, ⟨none, [], 0⟩, ⟨none, [], 0⟩, ⟨none, [], 0⟩, 0, ⟨a, [⟨ByteArray.empty, x, 0⟩, ⟨ByteArray.empty, y, 0⟩], c⟩⟩
theorem twO_R {W : World} {s x y : Int} {a : Option Addr} {c : Nat} (h : SlR W e_Mark a [⟨ByteArray.empty, x, 0⟩, ⟨ByteArray.empty, y, 0⟩]) (L : List Res) : OrdR W L (twO s x y a c) := ⟨rds_old h, rds_nil _ _, rds_nil _ _, rds_nil _ _, fun x hx => by (simp at hx), by simp, by simp, by simp, by simp, fun x hx => by (simp at hx)⟩
theorem twO_small {s x y : Int} {a : Option Addr} {c : Nat} : OSmall (twO s x y a c) := ⟨by simp, by simp, by simp, by simp, by simp, by simp, by simp [show ByteArray.empty.size = 0 from rfl], by simp⟩
theorem twO_homes {s x y : Int} {a : Option Addr} {c : Nat} (h : x < y) : homes (twO s x y a c) = [x, y] := by
  rw [homes_ne (by simp)]
  show setOf ilt [x, y] = [x, y]
  have h1 : ¬ ilt y x := by show ¬ y < x; omega
  have h2 : ilt x y := h
  simp [setOf, ins, h1, h2]
theorem twO_single {s x y : Int} {a : Option Addr} {c : Nat} (h : x < y) : ¬ single (twO s x y a c) := fun h9 => by have := h9.2; rw [twO_homes h] at this; simp at this
section
variable {a b : Option Addr} {c d : Nat}
abbrev twL (a b : Option Addr) (c d : Nat) : List Order := [twO 1 0 1 a c, twO 2 1 2 b d]
theorem tw_f0 : FirstG (twL a b c d) 0 := ⟨_, rfl, twO_single (by decide), fun j y h => absurd h (by omega)⟩
theorem tw_f1 : FirstG (twL a b c d) 1 := ⟨_, rfl, twO_single (by decide), fun j y h hy ht => by
  obtain rfl : j = 0 := by omega
  have e : twO 1 0 1 a c = y := by simpa using hy
  subst e
  have := congrArg Tag.f_Id_Seq ht
  simp at this⟩
theorem tw_idx1 : idx 1 (twL a b c d) (twL a b c d).length = [0, 1] := by
  show idx 1 (twL a b c d) 2 = [0, 1]
  have q1 : PcOk 1 (twL a b c d) 1 := ⟨tw_f1, _, rfl, by rw [twO_homes (by decide)]; simp⟩
  have q0 : PcOk 1 (twL a b c d) 0 := ⟨tw_f0, _, rfl, by rw [twO_homes (by decide)]; simp⟩
  rw [idx_succ, if_pos q1, idx_succ, if_pos q0]
  rfl
theorem tw_idx2 : idx 2 (twL a b c d) (twL a b c d).length = [1] := by
  show idx 2 (twL a b c d) 2 = [1]
  have q1 : PcOk 2 (twL a b c d) 1 := ⟨tw_f1, _, rfl, by rw [twO_homes (by decide)]; simp⟩
  have q0 : ¬ PcOk 2 (twL a b c d) 0 := fun h => by
    obtain ⟨_, o, ho, hm⟩ := h
    have e : twO 1 0 1 a c = o := by simpa using ho
    subst e
    rw [twO_homes (by decide)] at hm; simp at hm
  rw [idx_succ, if_pos q1, idx_succ, if_neg q0]
  rfl
theorem tw_ps1 {ps : List Item} (h : DnP 1 (twL a b c d) ps) : ps.length = 2 ∧ ∀ x, ps[(1 : Int).toNat]? = some x → x.f_Index = 1 := by
  refine ⟨by rw [h.1.len, tw_idx1]; rfl, fun x hx => ?_⟩
  exact (h.1.pl 1 x 1 hx (by rw [tw_idx1]; rfl)).2.1
theorem tw_ps2 {ps : List Item} (h : DnP 2 (twL a b c d) ps) : ps.length = 1 ∧ ∀ x, ps[(0 : Int).toNat]? = some x → x.f_Index = 1 ∧ x.f_Kind = 2 := by
  refine ⟨by rw [h.1.len, tw_idx2]; rfl, fun x hx => ?_⟩
  have := h.1.pl 0 x 1 hx (by rw [tw_idx2]; rfl)
  exact ⟨this.2.1, this.1⟩
theorem twL_R {W : World} (h1 : SlR W e_Mark a [⟨ByteArray.empty, 0, 0⟩, ⟨ByteArray.empty, 1, 0⟩]) (h2 : SlR W e_Mark b [⟨ByteArray.empty, 1, 0⟩, ⟨ByteArray.empty, 2, 0⟩]) : ∀ x ∈ twL a b c d, ∀ L, OrdR W L x := fun x hx => by
  simp only [List.mem_cons, List.not_mem_nil, or_false] at hx
  rcases hx with rfl | rfl
  · exact twO_R h1
  · exact twO_R h2
theorem twL_small : ∀ x ∈ twL a b c d, OSmall x := fun x hx => by
  simp only [List.mem_cons, List.not_mem_nil, or_false] at hx
  rcases hx with rfl | rfl <;> exact twO_small
end

theorem sp31 : StructP Try.prog 31 #[(0, 1), (1, 1), (2, 1)] := ⟨_, Try.underlying31, fun w => by kernel_rfl⟩
theorem two_ {W : World} {F : List Res} {s x y : Int} : CS Try.prog 24 #[.int .u64 s, .int .i64 x, .int .i64 y] W (F) (fun r L' => ∃ (a : Option Addr) (c : Nat), r = .agg (e_Order.cells (twO s x y a c)).toArray ∧ L' = row e_Mark.T e_Mark.sz a 2 c (flat e_Mark [⟨ByteArray.empty, x, 0⟩, ⟨ByteArray.empty, y, 0⟩]) :: F) := by
 refine f_door (l0 := [(0, .int .u64 s), (1, .int .i64 x), (2, .int .i64 y)]) Try.func24 Try.ntmps24 rfl rfl rfl ?_
 refine c_seq ?_
 refine c_region ?_
 refine o_alloc rfl ti40 fun b6 => ?_
 refine l_nil ?_
 refine q_then ?_
 refine c_seq ?_
 refine c_region ?_
 refine o_move rfl rfl ?_
 refine o_build rfl sp31 ti31 rfl ((fill_cons (cells' := [.int .i64 0, .int .u64 0, .int .u64 s]) rfl rfl rfl rfl fill_nil)) ?_
 refine o_build rfl sp33 ti33 rfl ((fill_cons (cells' := [.int .i64 0, .int .u64 0, .int .u64 s, .int .i64 0]) rfl rfl rfl rfl fill_nil)) ?_
 refine o_build rfl sp37 ti37 rfl ((fill_cons (cells' := [.int .i64 1, .slice none 0 0, .slice none 0 0, .slice none 0 0, .int .i64 0]) rfl rfl rfl rfl fill_nil)) ?_
 refine o_move rfl rfl ?_
 refine o_build rfl sp49 ti49 rfl ((fill_cons (cells' := [.string ByteArray.empty, .int .i64 x, .int .u64 0]) rfl rfl rfl rfl fill_nil)) ?_
 refine o_move rfl rfl ?_
 refine o_build rfl sp49 ti49 rfl ((fill_cons (cells' := [.string ByteArray.empty, .int .i64 y, .int .u64 0]) rfl rfl rfl rfl fill_nil)) ?_
 refine o_lit e_Mark_ok rfl Try.underlying38 rfl rfl rfl (lit_ok rfl) [⟨ByteArray.empty, x, 0⟩, ⟨ByteArray.empty, y, 0⟩] rfl rfl fun a15 => ?_
 refine o_build rfl sp40 ti40 rfl ((fill_cons (cells' := [.int .i64 0, .int .u64 0, .int .u64 s, .int .i64 0, .int .i64 0, .slice none 0 0, .slice none 0 0, .slice none 0 0, .int .i64 0, .slice none 0 0]) rfl rfl rfl rfl (fill_cons (cells' := [.int .i64 0, .int .u64 0, .int .u64 s, .int .i64 0, .int .i64 1, .slice none 0 0, .slice none 0 0, .slice none 0 0, .int .i64 0, .slice none 0 0]) rfl rfl rfl rfl (fill_cons (cells' := [.int .i64 0, .int .u64 0, .int .u64 s, .int .i64 0, .int .i64 1, .slice none 0 0, .slice none 0 0, .slice none 0 0, .int .i64 0, .slice a15 ([⟨ByteArray.empty, x, 0⟩, ⟨ByteArray.empty, y, 0⟩]).length 2]) rfl rfl rfl rfl fill_nil)))) ?_
 refine l_f1 ?_
 refine o_storen rfl rfl ti40 rfl rfl rfl rfl ?_
 refine l_nil ?_
 refine q_then ?_
 refine c_ret ?_
 refine f_retq (.inl rfl) (rs_1 rfl (rs_celln (vs := [.int .i64 0, .int .u64 0, .int .u64 s, .int .i64 0, .int .i64 1, .slice none 0 0, .slice none 0 0, .slice none 0 0, .int .i64 0, .slice a15 ([⟨ByteArray.empty, x, 0⟩, ⟨ByteArray.empty, y, 0⟩]).length 2]) rfl Try.underlying40 rfl ti40 (rdn_lit 0 rfl rfl))) (fun w S => ?_)
 replace S := S.tail
 exact ⟨_, ⟨a15, 2, rfl, rfl⟩, (fun w S => S) w S⟩

set_option maxHeartbeats 1000000 in
theorem speaks_ {W : World} {F : List Res} : CS Try.prog 7 #[] W (F) (fun r L' => r = .bool true ∧ F = L') := by
 refine f_door (l0 := []) Try.func7 Try.ntmps7 rfl rfl rfl ?_
 refine c_seq ?_
 refine c_region ?_
 refine o_assign rfl rfl ?_
 refine l_nil ?_
 refine q_then ?_
 refine c_seq ?_
 refine c_region ?_
 refine o_call rfl cal24 rfl (two_ (s := 1) (x := 0) (y := 1)) ?_
 rintro _ _ ⟨a4, c4, rfl, rfl⟩
 refine o_call rfl cal24 rfl (two_ (s := 2) (x := 1) (y := 2)) ?_
 rintro _ _ ⟨a5, c5, rfl, rfl⟩
 refine o_lit e_Order_ok rfl Try.underlying22 rfl rfl rfl (lit_ok rfl) (twL a4 a5 c4 c5) rfl rfl fun a6 => ?_
 refine o_assign rfl rfl ?_
 refine l_nil ?_
 refine q_then ?_
 refine c_seq ?_
 refine c_region ?_
 refine o_move rfl rfl ?_
 refine o_call rfl cal9 rfl (CS.rebase fun w S => spieces_ (W := w) (F := []) (g := 1) (log := twL a4 a5 c4 c5) (a := a6) (c := 2) ((rds_own e_Order_ok 0 rfl) w S) (twL_R ((rds_own e_Mark_ok 2 rfl) w S) ((rds_own e_Mark_ok 1 rfl) w S)) ⟨Nat.le_refl 2, by decide⟩ (by show 2 ≤ 40; decide) twL_small) ?_
 rintro _ _ ⟨_, ⟨a8, c8, ps8, hdn8, rfl, rfl⟩, rfl⟩
 refine l_conv (L' := row e_Item.T e_Item.sz a8 (ps8).length c8 (flat e_Item ps8) :: itsM ps8 :: row e_Order.T e_Order.sz a6 (twL a4 a5 c4 c5).length 2 (flat e_Order (twL a4 a5 c4 c5)) :: row e_Mark.T e_Mark.sz a5 (([⟨ByteArray.empty, 1, 0⟩, ⟨ByteArray.empty, 2, 0⟩] : List Mark)).length c5 (flat e_Mark ([⟨ByteArray.empty, 1, 0⟩, ⟨ByteArray.empty, 2, 0⟩] : List Mark)) :: row e_Mark.T e_Mark.sz a4 (([⟨ByteArray.empty, 0, 0⟩, ⟨ByteArray.empty, 1, 0⟩] : List Mark)).length c4 (flat e_Mark ([⟨ByteArray.empty, 0, 0⟩, ⟨ByteArray.empty, 1, 0⟩] : List Mark)) :: F) (fun w S => S) ?_
 have hit_ps8 := hdn8.2
 refine o_move rfl rfl ?_
 refine o_call rfl cal9 rfl (CS.rebase fun w S => spieces_ (W := w) (F := []) (g := 2) (log := twL a4 a5 c4 c5) (a := a6) (c := 2) ((rds_own e_Order_ok 2 rfl) w S) (twL_R ((rds_own e_Mark_ok 4 rfl) w S) ((rds_own e_Mark_ok 3 rfl) w S)) ⟨Nat.le_refl 2, by decide⟩ (by show 2 ≤ 40; decide) twL_small) ?_
 rintro _ _ ⟨_, ⟨a10, c10, ps10, hdn10, rfl, rfl⟩, rfl⟩
 refine l_conv (L' := row e_Item.T e_Item.sz a10 (ps10).length c10 (flat e_Item ps10) :: itsM ps10 :: row e_Item.T e_Item.sz a8 (ps8).length c8 (flat e_Item ps8) :: itsM ps8 :: row e_Order.T e_Order.sz a6 (twL a4 a5 c4 c5).length 2 (flat e_Order (twL a4 a5 c4 c5)) :: row e_Mark.T e_Mark.sz a5 (([⟨ByteArray.empty, 1, 0⟩, ⟨ByteArray.empty, 2, 0⟩] : List Mark)).length c5 (flat e_Mark ([⟨ByteArray.empty, 1, 0⟩, ⟨ByteArray.empty, 2, 0⟩] : List Mark)) :: row e_Mark.T e_Mark.sz a4 (([⟨ByteArray.empty, 0, 0⟩, ⟨ByteArray.empty, 1, 0⟩] : List Mark)).length c4 (flat e_Mark ([⟨ByteArray.empty, 0, 0⟩, ⟨ByteArray.empty, 1, 0⟩] : List Mark)) :: F) (fun w S => S) ?_
 have hit_ps10 := hdn10.2
 refine o_assign rfl rfl ?_
 refine o_assign rfl rfl ?_
 refine l_nil ?_
 refine q_then ?_
 refine c_seq ?_
 have h8 := tw_ps1 hdn8
 have h8l := h8.1
 have h10 := tw_ps2 hdn10
 have h10l := h10.1
 refine c_region ?_
 refine o_move rfl rfl ?_
 refine o_len rfl rfl Try.underlying27 ?_
 refine o_bin rfl rfl rfl b_eql ?_
 refine l_eq (t := 13) (v' := .bool true) rfl (show _ = Value.bool true from by rw [h8l]; rfl) ?_
 refine o_move rfl rfl ?_
 refine o_yes rfl rfl rfl ?_
 refine o_move rfl rfl ?_
 refine o_yes rfl rfl rfl ?_
 refine o_index e_Item_ok rfl rfl rfl Try.underlying27 (by omega) (by omega) (rds_own e_Item_ok 2 rfl) fun ad16 ead16 => ?_
 obtain ⟨x16, hx16⟩ : ∃ x, (ps8)[((1 : Int)).toNat]? = some x := ⟨_, List.getElem?_eq_getElem (by omega)⟩
 refine o_yes rfl rfl rfl ?_
 refine o_fieldAddr rfl rfl Try.underlying42 rfl ti3 (Addr.add_add' _ _ _) ?_
 refine o_yes rfl rfl rfl ?_
 refine o_load1 rfl rfl Try.underlying3 rfl (rd_sl e_Item_ok ead16 (rds_own e_Item_ok 2 rfl) hx16 rfl) ?_
 refine o_yes rfl rfl rfl ?_
 refine o_bin rfl rfl rfl b_eql ?_
 refine l_eq (t := 19) (v' := .bool true) rfl (show _ = Value.bool true from by rw [h8.2 _ hx16]; rfl) ?_
 refine o_pick_true rfl rfl rfl ?_
 refine o_move rfl rfl ?_
 refine o_yes rfl rfl rfl ?_
 refine o_move rfl rfl ?_
 refine o_yes rfl rfl rfl ?_
 refine o_len rfl rfl Try.underlying27 ?_
 refine o_yes rfl rfl rfl ?_
 refine o_bin rfl rfl rfl b_eql ?_
 refine l_eq (t := 24) (v' := .bool true) rfl (show _ = Value.bool true from by rw [h10l]; rfl) ?_
 refine o_pick_true rfl rfl rfl ?_
 refine o_move rfl rfl ?_
 refine o_yes rfl rfl rfl ?_
 refine o_move rfl rfl ?_
 refine o_yes rfl rfl rfl ?_
 refine o_index e_Item_ok rfl rfl rfl Try.underlying27 (by omega) (by omega) (rds_own e_Item_ok 0 rfl) fun ad28 ead28 => ?_
 obtain ⟨x28, hx28⟩ : ∃ x, (ps10)[((0 : Int)).toNat]? = some x := ⟨_, List.getElem?_eq_getElem (by omega)⟩
 refine o_yes rfl rfl rfl ?_
 refine o_fieldAddr rfl rfl Try.underlying42 rfl ti3 (Addr.add_add' _ _ _) ?_
 refine o_yes rfl rfl rfl ?_
 refine o_load1 rfl rfl Try.underlying3 rfl (rd_sl e_Item_ok ead28 (rds_own e_Item_ok 0 rfl) hx28 rfl) ?_
 refine o_yes rfl rfl rfl ?_
 refine o_bin rfl rfl rfl b_eql ?_
 refine l_eq (t := 31) (v' := .bool true) rfl (show _ = Value.bool true from by rw [(h10.2 _ hx28).1]; rfl) ?_
 refine o_pick_true rfl rfl rfl ?_
 refine o_move rfl rfl ?_
 refine o_yes rfl rfl rfl ?_
 refine o_move rfl rfl ?_
 refine o_yes rfl rfl rfl ?_
 refine o_indexK e_Item_ok ead28 rfl rfl rfl Try.underlying27 (by omega) (by omega) ?_
 obtain ⟨x35, hx35⟩ : ∃ x, (ps10)[((0 : Int)).toNat]? = some x := ⟨_, List.getElem?_eq_getElem (by omega)⟩
 refine o_yes rfl rfl rfl ?_
 refine o_fieldAddr rfl rfl Try.underlying42 rfl ti3 (Addr.add_add' _ _ _) ?_
 refine o_yes rfl rfl rfl ?_
 refine o_load1 rfl rfl Try.underlying3 rfl (rd_sl e_Item_ok ead28 (rds_own e_Item_ok 0 rfl) hx35 rfl) ?_
 refine o_yes rfl rfl rfl ?_
 refine o_bin rfl rfl rfl b_eql ?_
 refine l_eq (t := 38) (v' := .bool true) rfl (show _ = Value.bool true from by rw [(h10.2 _ hx35).2]; rfl) ?_
 refine o_pick_true rfl rfl rfl ?_
 refine o_assign rfl rfl ?_
 refine l_nil ?_
 refine q_then ?_
 refine c_ret ?_
 refine q_conv (fun w S => S.tail) ?_
 refine q_conv (fun w S => S.tail) ?_
 refine q_conv (fun w S => S.tail) ?_
 refine q_conv (fun w S => S.tail) ?_
 refine q_conv (fun w S => S.tail) ?_
 refine q_conv (fun w S => S.tail) ?_
 refine q_conv (fun w S => S.tail) ?_
 exact f_ret (r_one rfl rfl) (⟨rfl, rfl⟩) (fun w S => S)

end Go.Proofs.Yteehongibjkjlaa
