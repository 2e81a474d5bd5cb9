/- Printed by eng2.py out of 15/spec.py. -/
import Derived.Test.YteehongibjkjlaaPcsp
import Derived.Test.YteehongibjkjlaaRFirst
set_option linter.unusedVariables false
set_option linter.unusedSimpArgs false
set_option maxRecDepth 10000
namespace Go.Proofs.Yteehongibjkjlaa
open Go.RowKit Classical
theorem sub_mem'' {α : Type} {xs : List α} {l h : Nat} {x : α} (hx : x ∈ sub xs l h) : x ∈ xs := by
  unfold sub at hx
  exact List.mem_of_mem_take (List.mem_of_mem_drop hx)
theorem sub_take {α : Type} {xs : List α} {h : Nat} : sub xs 0 h = xs.take h := by unfold sub; rw [List.drop_zero]
set_option maxHeartbeats 1000000 in
theorem rpieces_ {W : World} {F : List Res} {g : Int} {log : List Order} {a : Option Addr} {c : Nat} (hs : SlR W e_Order a log) (ho : ∀ x ∈ log, ∀ L, OrdR W L x) (hc : log.length ≤ c ∧ c ≤ 9223372036854775807) (hl : log.length ≤ 40) (hsm : ∀ x ∈ log, OSmall x) : CS Try.prog 18 #[.slice a log.length c, .int .i64 g] W (F) (fun r L' => ∃ (a' : Option Addr) (c' : Nat) (ps : List Item), PcsOf g log log.length ps ∧ (∀ x ∈ ps, x.ord ∈ log) ∧ r = .slice a' ps.length c' ∧ L' = row e_Item.T e_Item.sz a' ps.length c' (flat e_Item ps) :: F) := by
 refine f_door (l0 := [(0, .slice a log.length c), (1, .int .i64 g)]) Try.func18 Try.ntmps18 rfl rfl rfl ?_
 refine c_seq ?_
 refine c_region ?_
 refine o_assign rfl rfl ?_
 refine l_nil ?_
 refine q_then ?_
 refine c_seq ?_
 refine c_region ?_
 refine o_lit e_Item_ok rfl Try.underlying27 rfl rfl rfl (lit_ok rfl) ([] : List Item) rfl rfl fun a7 => ?_
 refine o_assign rfl rfl ?_
 refine l_nil ?_
 refine q_then ?_
 refine c_seq ?_
 refine c_seq ?_
 refine c_region ?_
 refine o_assign rfl rfl ?_
 refine l_nil ?_
 refine q_then ?_
 refine c_block ?_
 refine c_loop (α := Nat × (List Item) × (Option Addr) × Nat) (fun z => [(0, .slice a (log).length c), (1, .int .i64 g), (5, .slice z.2.2.1 (z.2.1).length z.2.2.2), (6, .int .i64 (z.1 : Int))]) (fun z => row e_Item.T e_Item.sz z.2.2.1 (z.2.1).length z.2.2.2 (flat e_Item z.2.1) :: F) (fun z => z.1 ≤ log.length ∧ PcsOf g log z.1 z.2.1 ∧ ∀ x ∈ z.2.1, x.ord ∈ log) (fun z => log.length - z.1) (0, [], a7, 0) (by exact ⟨Nat.zero_le _, pcs_0 _ _, fun x hx => by cases hx⟩) ⟨(by first | rfl | exact vint (by omega)), (by first | rfl | exact vint (by omega)), (by first | rfl | exact vint (by omega)), (by first | rfl | exact vint (by omega)), trivial⟩ (fun w S => S) ?_
 rintro ⟨i, ps, a5, c5⟩ ⟨hi, hpcs, hin⟩
 try dsimp only at *
 have hpl : ps.length ≤ i := by rw [hpcs.len]; exact idx_le _ _ _
 refine c_seq ?_
 refine c_seq ?_
 refine c_region ?_
 refine o_move rfl rfl ?_
 refine o_move rfl rfl ?_
 refine o_len rfl rfl Try.underlying22 ?_
 refine o_bin rfl rfl rfl b_lss ?_
 refine l_nil ?_
 refine q_then ?_
 refine c_cond rfl (fun h1 => ?_) (fun h1 => ?_)
 · -- h1T
  have h1b := h1
  try simp only [decide_eq_true_eq] at h1
  refine c_skip ?_
  refine q_then ?_
  refine c_seq ?_
  refine c_block ?_
  refine c_seq ?_
  refine c_region ?_
  refine o_move rfl rfl ?_
  refine o_move rfl rfl ?_
  refine o_call rfl cal31 rfl (rfirst_ (i := i) (rds_old hs) (fun x hx => ho x hx _) (by omega) (by omega) (fun j x _ hx => by have := (hsm x (List.mem_of_getElem? hx)).m; omega)) ?_
  rintro _ _ ⟨rfl, rfl⟩
  refine o_move rfl rfl ?_
  refine l_split (t := 17) rfl (fun h2 => ?_) (fun h2 => ?_)
  · -- h2T
   have h2b := h2
   try simp only [decide_eq_true_eq] at h2
   refine o_yes rfl rfl rfl ?_
   refine o_move rfl rfl ?_
   refine o_yes rfl rfl rfl ?_
   refine o_move rfl rfl ?_
   refine o_yes rfl rfl rfl ?_
   refine o_index e_Order_ok rfl rfl rfl Try.underlying22 (by omega) (by omega) (rds_old hs) fun ad20 ead20 => ?_
   obtain ⟨x20, hx20⟩ : ∃ x, (log)[((i : Int)).toNat]? = some x := ⟨_, List.getElem?_eq_getElem (by omega)⟩
   refine o_yes rfl rfl rfl ?_
   refine o_loadn (vs := e_Order.cells x20) rfl rfl Try.underlying40 rfl ti40 (rdn_sl e_Order_ok ead20 (rds_old hs) hx20) ?_
   refine o_yes rfl rfl rfl ?_
   refine o_move rfl rfl ?_
   refine o_yes rfl rfl rfl ?_
   refine o_call rfl cal11 rfl (homeIn_ (o := x20) (key := g) (ho x20 (List.mem_of_getElem? hx20) _) (by have := (hsm x20 (List.mem_of_getElem? hx20)).m; omega)) ?_
   rintro _ _ ⟨rfl, rfl⟩
   refine o_pick_true rfl rfl rfl ?_
   refine l_nil ?_
   refine q_then ?_
   refine c_cond rfl (fun h3 => ?_) (fun h3 => ?_)
   · -- h3T
    have h3b := h3
    try simp only [decide_eq_true_eq] at h3
    refine c_region ?_
    refine o_move rfl rfl ?_
    refine o_move rfl rfl ?_
    refine o_move rfl rfl ?_
    refine o_move rfl rfl ?_
    refine o_indexK e_Order_ok ead20 rfl rfl rfl Try.underlying22 (by omega) (by omega) ?_
    obtain ⟨x29, hx29⟩ : ∃ x, (log)[((i : Int)).toNat]? = some x := ⟨_, List.getElem?_eq_getElem (by omega)⟩
    have hx29' : log[i]? = some x29 := hx29
    refine o_loadn (vs := e_Order.cells x29) rfl rfl Try.underlying40 rfl ti40 (rdn_sl e_Order_ok ead20 (rds_old hs) hx29) ?_
    refine o_build rfl sp42 ti42 rfl ((fill_cons (cells' := [.int .i64 2, .int .i64 0, .int .i64 0, .int .u64 0, .int .u64 0, .int .i64 0, .int .i64 0, .slice none 0 0, .slice none 0 0, .slice none 0 0, .int .i64 0, .slice none 0 0]) rfl rfl rfl rfl (fill_cons (cells' := [.int .i64 2, .int .i64 (i : Int), .int .i64 0, .int .u64 0, .int .u64 0, .int .i64 0, .int .i64 0, .slice none 0 0, .slice none 0 0, .slice none 0 0, .int .i64 0, .slice none 0 0]) rfl rfl rfl rfl (fill_cons (cells' := [.int .i64 2, .int .i64 (i : Int), .int .i64 x29.f_Tag_Id_Node, .int .u64 x29.f_Tag_Id_Epoch, .int .u64 x29.f_Tag_Id_Seq, .int .i64 x29.f_Tag_Try, .int .i64 x29.f_Txn_Kind, .slice x29.f_Txn_Reads.a (x29.f_Txn_Reads.xs).length x29.f_Txn_Reads.c, .slice x29.f_Txn_Writes.a (x29.f_Txn_Writes.xs).length x29.f_Txn_Writes.c, .slice x29.f_Txn_Ops.a (x29.f_Txn_Ops.xs).length x29.f_Txn_Ops.c, .int .i64 x29.f_Txn_To, .slice x29.f_Marks.a (x29.f_Marks.xs).length x29.f_Marks.c]) rfl rfl rfl rfl fill_nil)))) ?_
    refine o_lit e_Item_ok rfl Try.underlying27 rfl rfl rfl (lit_ok rfl) [(⟨2, (i : Int), x29.f_Tag_Id_Node, x29.f_Tag_Id_Epoch, x29.f_Tag_Id_Seq, x29.f_Tag_Try, x29.f_Txn_Kind, x29.f_Txn_Reads, x29.f_Txn_Writes, x29.f_Txn_Ops, x29.f_Txn_To, x29.f_Marks⟩ : Item)] rfl rfl fun a32 => ?_
    refine l_f1 ?_
    refine o_append e_Item_ok rfl rfl rfl Try.underlying27 (rds_own e_Item_ok 1 rfl) (by show (_ + _) * _ ≤ _; simp only [List.length_cons, List.length_nil]; omega) (by simp only [List.length_cons, List.length_nil]; omega) fun a33 c33 => ?_
    refine l_f1 ?_
    refine l_drop ?_
    refine o_assign rfl rfl ?_
    refine l_nil ?_
    refine q_block ?_
    refine q_then ?_
    refine c_region ?_
    refine o_move rfl rfl ?_
    refine o_bin rfl rfl rfl (b_add (wrap_i64 (by omega) (by omega))) ?_
    refine o_assign rfl rfl ?_
    refine l_nil ?_
    exact q_round (i + 1, ps ++ [(⟨2, (i : Int), x29.f_Tag_Id_Node, x29.f_Tag_Id_Epoch, x29.f_Tag_Id_Seq, x29.f_Tag_Try, x29.f_Txn_Kind, x29.f_Txn_Reads, x29.f_Txn_Writes, x29.f_Txn_Ops, x29.f_Txn_To, x29.f_Marks⟩ : Item)], a33, c33) (by exact ⟨by omega, pcs_on hpcs (pc_yes hx20 (by assumption) (by assumption)) ⟨rfl, rfl, x29, hx29', sameO_refl _⟩, fun x hx => by rcases List.mem_append.1 hx with q | q; exact hin x q; rw [List.mem_singleton.1 q]; exact List.mem_of_getElem? hx29'⟩) (by (try dsimp only); omega) ⟨(by first | rfl | exact vint (by omega)), (by first | rfl | exact vint (by omega)), (by first | rfl | exact vint (by omega)), (by first | rfl | exact vint (by omega)), trivial⟩ (fun w S => S)
   · -- h3F
    have h3b := h3
    try simp only [decide_eq_false_iff_not, Int.not_lt, Int.not_le] at h3
    refine c_skip ?_
    refine q_block ?_
    refine q_then ?_
    refine c_region ?_
    refine o_move rfl rfl ?_
    refine o_bin rfl rfl rfl (b_add (wrap_i64 (by omega) (by omega))) ?_
    refine o_assign rfl rfl ?_
    refine l_nil ?_
    exact q_round (i + 1, ps, a5, c5) (by exact ⟨by omega, pcs_no hpcs (by first | exact pc_not1 (by assumption) | exact pc_not2 hx20 (by assumption)), hin⟩) (by (try dsimp only); omega) ⟨(by first | rfl | exact vint (by omega)), (by first | rfl | exact vint (by omega)), (by first | rfl | exact vint (by omega)), (by first | rfl | exact vint (by omega)), trivial⟩ (fun w S => S)
  · -- h2F
   have h2b := h2
   try simp only [decide_eq_false_iff_not, Int.not_lt, Int.not_le] at h2
   refine o_no rfl rfl rfl rfl ?_
   refine o_no rfl rfl rfl rfl ?_
   refine o_no rfl rfl rfl rfl ?_
   refine o_no rfl rfl rfl rfl ?_
   refine o_no rfl rfl rfl rfl ?_
   refine o_no rfl rfl rfl rfl ?_
   refine o_pick_false rfl rfl rfl ?_
   refine l_nil ?_
   refine q_then ?_
   refine c_false rfl ?_
   refine c_skip ?_
   refine q_block ?_
   refine q_then ?_
   refine c_region ?_
   refine o_move rfl rfl ?_
   refine o_bin rfl rfl rfl (b_add (wrap_i64 (by omega) (by omega))) ?_
   refine o_assign rfl rfl ?_
   refine l_nil ?_
   exact q_round (i + 1, ps, a5, c5) (by exact ⟨by omega, pcs_no hpcs (by first | exact pc_not1 (by assumption) | exact pc_not2 hx20 (by assumption)), hin⟩) (by (try dsimp only); omega) ⟨(by first | rfl | exact vint (by omega)), (by first | rfl | exact vint (by omega)), (by first | rfl | exact vint (by omega)), (by first | rfl | exact vint (by omega)), trivial⟩ (fun w S => S)
 · -- h1F
  have h1b := h1
  try simp only [decide_eq_false_iff_not, Int.not_lt, Int.not_le] at h1
  refine c_exit ?_
  refine q_pass_exit ?_
  refine q_pass_exit ?_
  refine q_hit ?_
  refine q_then ?_
  refine c_seq ?_
  refine c_region ?_
  refine o_move rfl rfl ?_
  refine o_assign rfl rfl ?_
  refine l_nil ?_
  refine q_then ?_
  refine c_ret ?_
  exact f_ret (r_one rfl rfl) (⟨a5, c5, ps, by rw [← show i = log.length by omega]; exact hpcs, hin, rfl, rfl⟩) (fun w S => S)

end Go.Proofs.Yteehongibjkjlaa
