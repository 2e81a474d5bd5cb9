/- Printed by eng2.py out of 15/spec.py. -/
import Derived.Test.YteehongibjkjlaaSpeaks
import Derived.Test.YteehongibjkjlaaGLog
import Derived.Test.YteehongibjkjlaaOSame
import Derived.Test.YteehongibjkjlaaRHomes
import Derived.Test.YteehongibjkjlaaSordp
import Derived.Test.YteehongibjkjlaaMake
set_option linter.unusedVariables false
set_option linter.unusedSimpArgs false
set_option maxRecDepth 10000
namespace Go.Proofs.Yteehongibjkjlaa
open Go.RowKit Classical
set_option maxHeartbeats 4000000 in
theorem ordersL_ {W : World} {F : List Res} {log : List Order} {a : Option Addr} {c : Nat} (hs : SlR W e_Order a log) (ho : ∀ x ∈ log, ∀ L, OrdR W L x) (hc : log.length ≤ c ∧ c ≤ 9223372036854775807) : CS Try.prog 3 #[.slice a log.length c] W (F) (fun r L' => r = .bool true ∧ F = L') := by
 refine f_door (l0 := [(0, .slice a log.length c)]) Try.func3 Try.ntmps3 rfl rfl rfl ?_
 refine c_seq ?_
 refine c_region ?_
 refine o_assign rfl rfl ?_
 refine l_nil ?_
 refine q_then ?_
 refine c_seq ?_
 refine c_seq ?_
 refine c_region ?_
 refine o_call rfl cal7 rfl (speaks_) ?_
 rintro _ _ ⟨rfl, rfl⟩
 refine o_not rfl rfl ?_
 refine l_nil ?_
 refine q_then ?_
 refine c_false rfl ?_
 refine c_skip ?_
 refine q_then ?_
 refine c_seq ?_
 refine c_seq ?_
 refine c_region ?_
 refine o_move rfl rfl ?_
 refine o_call rfl cal8 rfl (glog_ (rds_old hs) (fun x hx => ho x hx _) (by omega)) ?_
 rintro _ _ ⟨g16, hg16, rfl, rfl⟩
 refine l_nil ?_
 refine q_then ?_
 refine c_cond rfl (fun h1 => ?_) (fun h1 => ?_)
 · -- h1T
  have h1b := h1
  try simp only [decide_eq_true_eq, decide_eq_false_iff_not, Bool.not_eq_eq_eq_not, Bool.not_true, Bool.not_false, Bool.not_eq_true', Bool.not_eq_false', Int.not_lt, Int.not_le, Bool.or_eq_true, Bool.and_eq_true] at h1
  refine c_seq ?_
  refine c_region ?_
  refine o_assign rfl rfl ?_
  refine l_nil ?_
  refine q_then ?_
  refine c_ret ?_
  refine q_pass_ret ?_
  exact f_ret (r_one rfl rfl) (⟨rfl, rfl⟩) (fun w S => S)
 · -- h1F
  have h1b := h1
  try simp only [decide_eq_true_eq, decide_eq_false_iff_not, Bool.not_eq_eq_eq_not, Bool.not_true, Bool.not_false, Bool.not_eq_true', Bool.not_eq_false', Int.not_lt, Int.not_le, Bool.or_eq_true, Bool.and_eq_true] at h1
  refine c_skip ?_
  refine q_then ?_
  refine c_seq ?_
  have hgr := hg16 (by assumption)
  have hsm := hgr.2
  have hl : log.length ≤ 40 := by have := hgr.1; omega
  refine c_region ?_
  refine o_move rfl rfl ?_
  refine o_len rfl rfl Try.underlying22 ?_
  refine o_make (n := log.length) e_I_ok (0 : Int) rfl rfl rfl rfl rfl Try.underlying25 (by show 8 * _ ≤ _; omega) (by omega) fun a19 => ?_
  refine o_makeMap kvTag vvBool rfl fun m20 => ?_
  refine o_assign rfl rfl ?_
  refine o_assign rfl rfl ?_
  refine l_nil ?_
  refine q_then ?_
  refine c_seq ?_
  refine c_seq ?_
  refine c_region ?_
  refine o_assign rfl rfl ?_
  refine l_nil ?_
  refine q_then ?_
  refine c_block ?_
  refine c_loop (α := Nat × (List Int)) (fun z => [(0, .slice a (log).length c), (3, .slice a19 (z.2).length log.length), (4, .map (some m20)), (5, .int .i64 (z.1 : Int))]) (fun z => mapR kvTag vvBool m20 ([] : List (Tag × Bool)) :: row e_I.T e_I.sz a19 (z.2).length log.length (flat e_I z.2) :: F) (fun z => z.1 ≤ 3 ∧ CntK log z.1 0 z.2) (fun z => 3 - z.1) (0, List.replicate log.length 0) (by exact ⟨by omega, cnt_0 rfl⟩) ⟨(by first | rfl | exact vint (by omega)), (by first | rfl | exact vint (by omega)), (by first | rfl | exact vint (by omega)), (by first | rfl | exact vint (by omega)), trivial⟩ (fun w S => S) ?_
  rintro ⟨r, cs⟩ ⟨hr, hC⟩
  try dsimp only at *
  refine c_seq ?_
  refine c_seq ?_
  refine c_region ?_
  refine o_move rfl rfl ?_
  refine o_bin rfl rfl rfl b_lss ?_
  refine l_nil ?_
  refine q_then ?_
  refine c_cond rfl (fun h2 => ?_) (fun h2 => ?_)
  · -- h2T
   have h2b := h2
   try simp only [decide_eq_true_eq] at h2
   refine c_skip ?_
   refine q_then ?_
   refine c_seq ?_
   refine c_block ?_
   refine c_seq ?_
   refine c_region ?_
   refine o_assign rfl rfl ?_
   refine l_nil ?_
   refine q_then ?_
   refine c_seq ?_
   refine c_region ?_
   refine o_move rfl rfl ?_
   refine o_move rfl rfl ?_
   refine o_call rfl cal9 rfl (spieces_ (g := (r : Int)) hs ho hc hl hsm) ?_
   rintro _ _ ⟨a27, c27, ps27, hdn27, rfl, rfl⟩
   have hit_ps27 := hdn27.2
   refine o_len rfl rfl Try.underlying27 ?_
   refine o_move rfl rfl ?_
   refine l_nil ?_
   refine q_then ?_
   refine c_block ?_
   refine c_loop (α := Nat × (List Int) × Int) (fun z => [(0, .slice a (log).length c), (3, .slice a19 (z.2.1).length log.length), (4, .map (some m20)), (5, .int .i64 (r : Int)), (6, .int .i64 z.2.2), (27, .slice a27 (ps27).length c27), (28, .int .i64 ((ps27).length : Int)), (29, .int .i64 (z.1 : Int))]) (fun z => row e_Item.T e_Item.sz a27 (ps27).length c27 (flat e_Item ps27) :: itsM ps27 :: mapR kvTag vvBool m20 ([] : List (Tag × Bool)) :: row e_I.T e_I.sz a19 (z.2.1).length log.length (flat e_I z.2.1) :: F) (fun z => z.1 ≤ ps27.length ∧ CntK log r z.1 z.2.1 ∧ LastK (r : Int) log z.1 z.2.2) (fun z => ps27.length - z.1) (0, cs, -1) (by exact ⟨Nat.zero_le _, hC, last_0 _ _⟩) ⟨(by first | rfl | exact vint (by omega)), (by first | rfl | exact vint (by omega)), (by first | rfl | exact vint (by omega)), (by first | rfl | exact vint (by omega)), (by first | rfl | exact vint (by omega)), (by first | rfl | exact vint (by omega)), (by first | rfl | exact vint (by omega)), (by first | rfl | exact vint (by omega)), trivial⟩ (fun w S => S) ?_
   rintro ⟨k, ds, l⟩ ⟨hk, hC2, hL2⟩
   try dsimp only at *
   have hpl : ps27.length ≤ 40 := by rw [hdn27.1.len]; have := idx_le (r : Int) log log.length; omega
   refine c_seq ?_
   refine c_region ?_
   refine o_bin rfl rfl rfl b_lss ?_
   refine l_nil ?_
   refine q_then ?_
   refine c_seq ?_
   refine c_cond rfl (fun h3 => ?_) (fun h3 => ?_)
   · -- h3T
    have h3b := h3
    try simp only [decide_eq_true_eq] at h3
    refine c_skip ?_
    refine q_then ?_
    refine c_seq ?_
    refine c_block ?_
    refine c_seq ?_
    refine c_region ?_
    refine o_index e_Item_ok rfl rfl rfl Try.underlying27 (by omega) (by omega) (rds_own e_Item_ok 0 rfl) fun ad31 ead31 => ?_
    obtain ⟨x31, hx31⟩ : ∃ x, (ps27)[((k : Int)).toNat]? = some x := ⟨_, List.getElem?_eq_getElem (by omega)⟩
    refine o_loadn (vs := e_Item.cells x31) rfl rfl Try.underlying42 rfl ti42 (rdn_sl e_Item_ok ead31 (rds_own e_Item_ok 0 rfl) hx31) ?_
    refine o_alloc rfl ti42 fun b8 => ?_
    refine o_storen rfl rfl ti42 rfl rfl rfl rfl ?_
    refine l_nil ?_
    refine q_then ?_
    refine c_seq ?_
    refine c_seq ?_
    obtain ⟨j, o, hj, hjl, hji, hjo, hso, hhg⟩ := pc_k hdn27.1 hx31
    have hmx : x31.ord.f_Marks.xs.length ≤ 1000000 := by rw [hso.2.2]; have := (hsm o (List.mem_of_getElem? hjo)).m; omega
    have hlk := hL2 k j (Nat.le_refl _) hj
    have hdl := hC2.len
    have hjt : (x31.f_Index).toNat = j := by rw [hji]; rfl
    refine c_fact (p := ∃ ad, a = some ad) (rds_some (e := e_Order) (xs := log) (rds_old hs) (by intro h0; have h00 := congrArg List.length h0; simp only [List.length_nil] at h00; omega)) ?_
    rintro ⟨adl, eadl⟩
    refine c_held [blk b8 (.cells #[.int .i64 x31.f_Kind, .int .i64 x31.f_Index, .int .i64 x31.ord.f_Tag_Id_Node, .int .u64 x31.ord.f_Tag_Id_Epoch, .int .u64 x31.ord.f_Tag_Id_Seq, .int .i64 x31.ord.f_Tag_Try, .int .i64 x31.ord.f_Txn_Kind, .slice x31.ord.f_Txn_Reads.a (x31.ord.f_Txn_Reads.xs).length x31.ord.f_Txn_Reads.c, .slice x31.ord.f_Txn_Writes.a (x31.ord.f_Txn_Writes.xs).length x31.ord.f_Txn_Writes.c, .slice x31.ord.f_Txn_Ops.a (x31.ord.f_Txn_Ops.xs).length x31.ord.f_Txn_Ops.c, .int .i64 x31.ord.f_Txn_To, .slice x31.ord.f_Marks.a (x31.ord.f_Marks.xs).length x31.ord.f_Marks.c] 42 (0, 0)), row e_Item.T e_Item.sz a27 (ps27).length c27 (flat e_Item ps27), itsM ps27, mapR kvTag vvBool m20 ([] : List (Tag × Bool)), row e_I.T e_I.sz a19 (ds).length log.length (flat e_I ds)] (by kernel_rfl) rfl ?_
    refine h_take 0 rfl rfl (by kernel_rfl) (by kernel_rfl) (by kernel_rfl) (fun L0 => v_fieldAddr (q := ⟨b8, 1, none⟩) rfl rfl Try.underlying42 rfl ti3 rfl) ?_
    refine h_take 1 rfl rfl (by kernel_rfl) (by kernel_rfl) (by kernel_rfl) (fun L0 => v_load1 rfl rfl Try.underlying3 rfl (rd_mem 0 rfl rfl)) ?_
    refine h_take 2 rfl rfl (by kernel_rfl) (by kernel_rfl) (by kernel_rfl) (fun L0 => v_move rfl rfl) ?_
    refine h_take 3 rfl rfl (by kernel_rfl) (by kernel_rfl) (by kernel_rfl) (fun L0 => v_bin rfl rfl rfl b_leq) ?_
    refine h_eq (t := 36) (v' := .bool false) rfl (show _ = Value.bool false from by rw [decide_eq_false (by omega)]) ?_
    refine h_take 4 rfl rfl (by kernel_rfl) (by kernel_rfl) (by kernel_rfl) (fun L0 => v_move rfl rfl) ?_
    refine h_take_yes 5 rfl rfl rfl rfl rfl (by kernel_rfl) (by kernel_rfl) (by kernel_rfl) (fun L0 => v_fieldAddr (q := ⟨b8, 1, none⟩) rfl rfl Try.underlying42 rfl ti3 rfl) ?_
    refine h_take_yes 6 rfl rfl rfl rfl rfl (by kernel_rfl) (by kernel_rfl) (by kernel_rfl) (fun L0 => v_load1 rfl rfl Try.underlying3 rfl (rd_mem 0 rfl rfl)) ?_
    refine h_take_yes 7 rfl rfl rfl rfl rfl (by kernel_rfl) (by kernel_rfl) (by kernel_rfl) (fun L0 => v_move rfl rfl) ?_
    refine h_take_yes 8 rfl rfl rfl rfl rfl (by kernel_rfl) (by kernel_rfl) (by kernel_rfl) (fun L0 => v_len rfl rfl Try.underlying22) ?_
    refine h_take_yes 9 rfl rfl rfl rfl rfl (by kernel_rfl) (by kernel_rfl) (by kernel_rfl) (fun L0 => v_bin rfl rfl rfl b_geq) ?_
    refine h_eq (t := 42) (v' := .bool false) rfl (show _ = Value.bool false from by rw [decide_eq_false (by omega)]) ?_
    refine h_take 10 rfl rfl (by kernel_rfl) (by kernel_rfl) (by kernel_rfl) (fun L0 => v_pick_false rfl rfl rfl) ?_
    refine h_take 11 rfl rfl (by kernel_rfl) (by kernel_rfl) (by kernel_rfl) (fun L0 => v_move rfl rfl) ?_
    refine h_take_yes 12 rfl rfl rfl rfl rfl (by kernel_rfl) (by kernel_rfl) (by kernel_rfl) (fun L0 => v_fieldAddr (q := ⟨b8, 2, none⟩) rfl rfl Try.underlying42 rfl ti40 rfl) ?_
    refine h_take_yes 13 rfl rfl rfl rfl rfl (by kernel_rfl) (by kernel_rfl) (by kernel_rfl) (fun L0 => v_loadn (vs := [_, _, _, _, _, _, _, _, _, _]) rfl rfl Try.underlying40 rfl ti40 (rdn_lit 0 rfl rfl)) ?_
    refine h_take_yes 14 rfl rfl rfl rfl rfl (by kernel_rfl) (by kernel_rfl) (by kernel_rfl) (fun L0 => v_move rfl rfl) ?_
    refine h_take_yes 15 rfl rfl rfl rfl rfl (by kernel_rfl) (by kernel_rfl) (by kernel_rfl) (fun L0 => v_fieldAddr (q := ⟨b8, 1, none⟩) rfl rfl Try.underlying42 rfl ti3 rfl) ?_
    refine h_take_yes 16 rfl rfl rfl rfl rfl (by kernel_rfl) (by kernel_rfl) (by kernel_rfl) (fun L0 => v_load1 rfl rfl Try.underlying3 rfl (rd_mem 0 rfl rfl)) ?_
    refine h_take_yes 17 rfl rfl rfl rfl rfl (by kernel_rfl) (by kernel_rfl) (by kernel_rfl) (fun L0 => v_indexK e_Order_ok eadl rfl rfl rfl Try.underlying22 (by omega) (by omega)) ?_
    obtain ⟨x50, hx50⟩ : ∃ x, (log)[(x31.f_Index).toNat]? = some x := ⟨_, List.getElem?_eq_getElem (by omega)⟩
    have e50 : x50 = o := by rw [hjt, hjo] at hx50; exact (Option.some.inj hx50).symm
    refine h_take_yes 18 rfl rfl rfl rfl rfl (by kernel_rfl) (by kernel_rfl) (by kernel_rfl) (fun L0 => v_loadn (vs := e_Order.cells x50) rfl rfl Try.underlying40 rfl ti40 (rdn_sl e_Order_ok eadl (rds_old hs) hx50)) ?_
    refine h_one 19 rfl (by kernel_rfl) ?_
    refine o_yes rfl rfl rfl ?_
    refine o_call rfl cal10 rfl (same9_ (a := x31.ord) (b := x50) (itsM_R hit_ps27 2 rfl x31 (List.mem_of_getElem? hx31)) (ho x50 (List.mem_of_getElem? hx50) _)) ?_
    rintro _ _ ⟨rfl, rfl⟩
    refine l_nil ?_
    refine h_next ?_
    refine h_eq (t := 52) (v' := .bool true) rfl (show _ = Value.bool true from by rw [decide_eq_true (by rw [e50]; exact hso)]) ?_
    refine h_take_yes 20 rfl rfl rfl rfl rfl (by kernel_rfl) (by kernel_rfl) (by kernel_rfl) (fun L0 => v_not rfl rfl) ?_
    refine h_take 21 rfl rfl (by kernel_rfl) (by kernel_rfl) (by kernel_rfl) (fun L0 => v_pick_false rfl rfl rfl) ?_
    refine h_take 22 rfl rfl (by kernel_rfl) (by kernel_rfl) (by kernel_rfl) (fun L0 => v_move rfl rfl) ?_
    refine h_take_yes 23 rfl rfl rfl rfl rfl (by kernel_rfl) (by kernel_rfl) (by kernel_rfl) (fun L0 => v_fieldAddr (q := ⟨b8, 2, none⟩) rfl rfl Try.underlying42 rfl ti40 rfl) ?_
    refine h_take_yes 24 rfl rfl rfl rfl rfl (by kernel_rfl) (by kernel_rfl) (by kernel_rfl) (fun L0 => v_loadn (vs := [_, _, _, _, _, _, _, _, _, _]) rfl rfl Try.underlying40 rfl ti40 (rdn_lit 0 rfl rfl)) ?_
    refine h_take_yes 25 rfl rfl rfl rfl rfl (by kernel_rfl) (by kernel_rfl) (by kernel_rfl) (fun L0 => v_move rfl rfl) ?_
    refine h_one 26 rfl (by kernel_rfl) ?_
    refine o_yes rfl rfl rfl ?_
    refine o_call rfl cal11 rfl (homeIn_ (o := x31.ord) (key := (r : Int)) (itsM_R hit_ps27 2 rfl x31 (List.mem_of_getElem? hx31)) hmx) ?_
    rintro _ _ ⟨rfl, rfl⟩
    refine l_nil ?_
    refine h_next ?_
    refine h_eq (t := 59) (v' := .bool true) rfl (show _ = Value.bool true from by rw [decide_eq_true (by rw [homes_same hso]; exact hhg)]) ?_
    refine h_take_yes 27 rfl rfl rfl rfl rfl (by kernel_rfl) (by kernel_rfl) (by kernel_rfl) (fun L0 => v_not rfl rfl) ?_
    refine h_take 28 rfl rfl (by kernel_rfl) (by kernel_rfl) (by kernel_rfl) (fun L0 => v_pick_false rfl rfl rfl) ?_
    refine h_done (by kernel_rfl) ?_
    refine q_then ?_
    refine c_false rfl ?_
    refine c_skip ?_
    refine q_then ?_
    refine c_seq ?_
    refine c_region ?_
    refine o_move rfl rfl ?_
    refine o_fieldAddr (q := ⟨b8, 1, none⟩) rfl rfl Try.underlying42 rfl ti3 rfl ?_
    refine o_load1 rfl rfl Try.underlying3 rfl (rd_mem 0 rfl rfl) ?_
    refine o_index e_I_ok rfl rfl rfl Try.underlying25 (by omega) (by omega) (rds_own e_I_ok 4 rfl) fun ad65 ead65 => ?_
    obtain ⟨x65, hx65⟩ : ∃ x, (ds)[(x31.f_Index).toNat]? = some x := ⟨_, List.getElem?_eq_getElem (by omega)⟩
    have hb66 := cnt_le hC2 hx65
    refine o_load1 rfl rfl Try.underlying3 rfl (rd_sl0 e_I_ok ead65 (rds_own e_I_ok 4 rfl) hx65 rfl) ?_
    refine o_bin rfl rfl rfl (b_add (wrap_i64 (by omega) (by omega))) ?_
    refine o_indexK e_I_ok ead65 rfl rfl rfl Try.underlying25 (by omega) (by omega) ?_
    obtain ⟨x68, hx68⟩ : ∃ x, (ds)[(x31.f_Index).toNat]? = some x := ⟨_, List.getElem?_eq_getElem (by omega)⟩
    refine l_f4 ?_
    refine o_storeRow0 (x1 := x65 + 1) e_I_ok ead65 rfl rfl rfl ti3 hx68 rfl ?_
    refine l_nil ?_
    refine q_then ?_
    refine c_region ?_
    refine o_fieldAddr (q := ⟨b8, 1, none⟩) rfl rfl Try.underlying42 rfl ti3 rfl ?_
    refine o_load1 rfl rfl Try.underlying3 rfl (rd_mem 1 rfl rfl) ?_
    refine o_assign rfl rfl ?_
    refine l_nil ?_
    refine q_block ?_
    refine q_then ?_
    refine c_region ?_
    refine o_bin rfl rfl rfl (b_add (wrap_i64 (by omega) (by omega))) ?_
    refine o_move rfl rfl ?_
    refine l_nil ?_
    refine q_conv (fun w S => (S.perm p1).tail) ?_
    refine q_conv (fun w S => S.perm p3) ?_
    refine q_conv (fun w S => S.perm p3) ?_
    refine q_conv (fun w S => S.perm p3) ?_
    exact q_round (k + 1, (ds).set (x31.f_Index).toNat (x65 + 1), x31.f_Index) (by exact ⟨by omega, by rw [hjt]; exact cnt_on hC2 hj (by rw [hjt] at hx65; exact hx65), by rw [hji]; exact last_on hj⟩) (by (try dsimp only); omega) ⟨(by first | rfl | exact vint (by omega)), (by (try dsimp only); rw [List.length_set]; rfl), (by first | rfl | exact vint (by omega)), (by first | rfl | exact vint (by omega)), (by first | rfl | exact vint (by omega)), (by first | rfl | exact vint (by omega)), (by first | rfl | exact vint (by omega)), (by first | rfl | exact vint (by omega)), trivial⟩ (fun w S => S)
   · -- h3F
    have h3b := h3
    try simp only [decide_eq_false_iff_not, Int.not_lt, Int.not_le] at h3
    refine c_exit ?_
    refine q_pass_exit ?_
    refine q_pass_exit ?_
    refine q_hit ?_
    refine q_block ?_
    refine q_then ?_
    refine c_region ?_
    refine o_move rfl rfl ?_
    refine o_bin rfl rfl rfl (b_add (wrap_i64 (by omega) (by omega))) ?_
    refine o_assign rfl rfl ?_
    refine l_nil ?_
    refine q_conv (fun w S => S.tail) ?_
    refine q_conv (fun w S => S.tail) ?_
    exact q_round (r + 1, ds) (by exact ⟨by omega, cnt_next hC2 (by rw [← hdn27.1.len]; omega)⟩) (by (try dsimp only); omega) ⟨(by first | rfl | exact vint (by omega)), (by first | rfl | exact vint (by omega)), (by first | rfl | exact vint (by omega)), (by first | rfl | exact vint (by omega)), trivial⟩ (fun w S => S)
  · -- h2F
   have h2b := h2
   try simp only [decide_eq_false_iff_not, Int.not_lt, Int.not_le] at h2
   refine c_exit ?_
   refine q_pass_exit ?_
   refine q_pass_exit ?_
   refine q_hit ?_
   refine q_then ?_
   refine c_seq ?_
   refine c_seq ?_
   refine c_region ?_
   refine o_move rfl rfl ?_
   refine o_len rfl rfl Try.underlying22 ?_
   refine o_move rfl rfl ?_
   refine l_nil ?_
   refine q_then ?_
   refine c_block ?_
   refine c_loop (α := Nat × (List (Tag × Bool))) (fun z => [(3, .slice a19 (cs).length log.length), (4, .map (some m20)), (72, .slice a (log).length c), (73, .int .i64 ((log).length : Int)), (74, .int .i64 (z.1 : Int))]) (fun z => mapR kvTag vvBool m20 z.2 :: row e_I.T e_I.sz a19 (cs).length log.length (flat e_I cs) :: F) (fun z => z.1 ≤ log.length ∧ SeenT (log.take z.1) z.2) (fun z => log.length - z.1) (0, []) (by exact ⟨Nat.zero_le _, seenT_0⟩) ⟨(by first | rfl | exact vint (by omega)), (by first | rfl | exact vint (by omega)), (by first | rfl | exact vint (by omega)), (by first | rfl | exact vint (by omega)), (by first | rfl | exact vint (by omega)), trivial⟩ (fun w S => S) ?_
   rintro ⟨i, D⟩ ⟨hi, hD⟩
   try dsimp only at *
   refine c_seq ?_
   refine c_region ?_
   refine o_bin rfl rfl rfl b_lss ?_
   refine l_nil ?_
   refine q_then ?_
   refine c_seq ?_
   refine c_cond rfl (fun h4 => ?_) (fun h4 => ?_)
   · -- h4T
    have h4b := h4
    try simp only [decide_eq_true_eq] at h4
    refine c_skip ?_
    refine q_then ?_
    refine c_seq ?_
    refine c_block ?_
    refine c_seq ?_
    refine c_region ?_
    refine o_move rfl rfl ?_
    refine o_index e_Order_ok rfl rfl rfl Try.underlying22 (by omega) (by omega) (rds_old hs) fun ad77 ead77 => ?_
    obtain ⟨x77, hx77⟩ : ∃ x, (log)[((i : Int)).toNat]? = some x := ⟨_, List.getElem?_eq_getElem (by omega)⟩
    refine o_loadn (vs := e_Order.cells x77) rfl rfl Try.underlying40 rfl ti40 (rdn_sl e_Order_ok ead77 (rds_old hs) hx77) ?_
    refine o_alloc rfl ti40 fun b10 => ?_
    refine o_assign rfl rfl ?_
    refine o_storen rfl rfl ti40 rfl rfl rfl rfl ?_
    refine l_nil ?_
    refine q_then ?_
    refine c_seq ?_
    refine c_region ?_
    refine o_assign rfl rfl ?_
    refine l_nil ?_
    refine q_then ?_
    refine c_seq ?_
    refine c_seq ?_
    refine c_region ?_
    refine o_assign rfl rfl ?_
    refine l_nil ?_
    refine q_then ?_
    refine c_block ?_
    refine c_loop (α := Nat) (fun z => [(3, .slice a19 (cs).length log.length), (4, .map (some m20)), (9, .int .i64 (i : Int)), (10, .pointer (some ⟨b10, 0, none⟩)), (11, .int .i64 (hmN x77 z : Int)), (12, .int .i64 (z : Int)), (72, .slice a (log).length c), (73, .int .i64 ((log).length : Int)), (74, .int .i64 (i : Int))]) (fun z => blk b10 (.cells #[.int .i64 x77.f_Tag_Id_Node, .int .u64 x77.f_Tag_Id_Epoch, .int .u64 x77.f_Tag_Id_Seq, .int .i64 x77.f_Tag_Try, .int .i64 x77.f_Txn_Kind, .slice x77.f_Txn_Reads.a (x77.f_Txn_Reads.xs).length x77.f_Txn_Reads.c, .slice x77.f_Txn_Writes.a (x77.f_Txn_Writes.xs).length x77.f_Txn_Writes.c, .slice x77.f_Txn_Ops.a (x77.f_Txn_Ops.xs).length x77.f_Txn_Ops.c, .int .i64 x77.f_Txn_To, .slice x77.f_Marks.a (x77.f_Marks.xs).length x77.f_Marks.c] 40 (0, 0)) :: mapR kvTag vvBool m20 D :: row e_I.T e_I.sz a19 (cs).length log.length (flat e_I cs) :: F) (fun z => z ≤ 3) (fun z => 3 - z) (0) (by omega) ⟨(by first | rfl | exact vint (by omega)), (by first | rfl | exact vint (by omega)), (by first | rfl | exact vint (by omega)), (by first | rfl | exact vint (by omega)), (by first | rfl | exact vint (by simp [hmN])), (by first | rfl | exact vint (by omega)), (by first | rfl | exact vint (by omega)), (by first | rfl | exact vint (by omega)), (by first | rfl | exact vint (by omega)), trivial⟩ (fun w S => S) ?_
    rintro q hq
    try dsimp only at *
    have hhl := hmN_le x77 q
    refine c_seq ?_
    refine c_seq ?_
    refine c_region ?_
    refine o_move rfl rfl ?_
    refine o_bin rfl rfl rfl b_lss ?_
    refine l_nil ?_
    refine q_then ?_
    refine c_cond rfl (fun h5 => ?_) (fun h5 => ?_)
    · -- h5T
     have h5b := h5
     try simp only [decide_eq_true_eq] at h5
     refine c_skip ?_
     refine q_then ?_
     refine c_seq ?_
     refine c_block ?_
     refine c_seq ?_
     refine c_region ?_
     refine o_loadn (vs := [_, _, _, _, _, _, _, _, _, _]) rfl rfl Try.underlying40 rfl ti40 (rdn_lit 0 rfl rfl) ?_
     refine o_move rfl rfl ?_
     refine o_call rfl cal11 rfl (homeIn_ (o := x77) (key := (q : Int)) (ho x77 (List.mem_of_getElem? hx77) _) (by have := (hsm x77 (List.mem_of_getElem? hx77)).m; omega)) ?_
     rintro _ _ ⟨rfl, rfl⟩
     refine l_nil ?_
     refine q_then ?_
     refine c_cond rfl (fun h6 => ?_) (fun h6 => ?_)
     · -- h6T
      have h6b := h6
      try simp only [decide_eq_true_eq] at h6
      refine c_region ?_
      refine o_move rfl rfl ?_
      refine o_bin rfl rfl rfl (b_add (wrap_i64 (by omega) (by omega))) ?_
      refine o_assign rfl rfl ?_
      refine l_nil ?_
      refine q_block ?_
      refine q_then ?_
      refine c_region ?_
      refine o_move rfl rfl ?_
      refine o_bin rfl rfl rfl (b_add (wrap_i64 (by omega) (by omega))) ?_
      refine o_assign rfl rfl ?_
      refine l_nil ?_
      exact q_round (q + 1) (by omega) (by (try dsimp only); omega) ⟨(by first | rfl | exact vint (by omega)), (by first | rfl | exact vint (by omega)), (by first | rfl | exact vint (by omega)), (by first | rfl | exact vint (by omega)), (by (try dsimp only); simp only [hmN]; first | (rw [if_pos (by assumption)]; exact vint (by omega)) | (rw [if_neg (by assumption)]; exact vint (by omega))), (by first | rfl | exact vint (by omega)), (by first | rfl | exact vint (by omega)), (by first | rfl | exact vint (by omega)), (by first | rfl | exact vint (by omega)), trivial⟩ (fun w S => S)
     · -- h6F
      have h6b := h6
      try simp only [decide_eq_false_iff_not, Int.not_lt, Int.not_le] at h6
      refine c_skip ?_
      refine q_block ?_
      refine q_then ?_
      refine c_region ?_
      refine o_move rfl rfl ?_
      refine o_bin rfl rfl rfl (b_add (wrap_i64 (by omega) (by omega))) ?_
      refine o_assign rfl rfl ?_
      refine l_nil ?_
      exact q_round (q + 1) (by omega) (by (try dsimp only); omega) ⟨(by first | rfl | exact vint (by omega)), (by first | rfl | exact vint (by omega)), (by first | rfl | exact vint (by omega)), (by first | rfl | exact vint (by omega)), (by (try dsimp only); simp only [hmN]; first | (rw [if_pos (by assumption)]; exact vint (by omega)) | (rw [if_neg (by assumption)]; exact vint (by omega))), (by first | rfl | exact vint (by omega)), (by first | rfl | exact vint (by omega)), (by first | rfl | exact vint (by omega)), (by first | rfl | exact vint (by omega)), trivial⟩ (fun w S => S)
    · -- h5F
     have h5b := h5
     try simp only [decide_eq_false_iff_not, Int.not_lt, Int.not_le] at h5
     refine c_exit ?_
     refine q_pass_exit ?_
     refine q_pass_exit ?_
     refine q_hit ?_
     refine q_then ?_
     refine c_seq ?_
     refine c_seq ?_
     refine c_region ?_
     refine o_move rfl rfl ?_
     refine o_fieldAddr (q := ⟨b10, 0, none⟩) rfl rfl Try.underlying40 rfl ti33 rfl ?_
     refine o_loadn (vs := [_, _, _, _]) rfl rfl Try.underlying33 rfl ti33 (rdn_lit 0 rfl rfl) ?_
     refine o_lookupD (kv := kvTag) (vv := vvBool) (b0 := false) (q := x77.tag) 1 rfl koTag rfl rfl rfl Try.underlying26 ti4 ?_
     refine o_move rfl rfl ?_
     refine l_split (t := 92) rfl (fun h7 => ?_) (fun h7 => ?_)
     · -- h7T
      have h7b := h7
      try simp only [decide_eq_true_eq, decide_eq_false_iff_not, Bool.not_eq_eq_eq_not, Bool.not_true, Bool.not_false, Bool.not_eq_true', Bool.not_eq_false', Int.not_lt, Int.not_le, Bool.or_eq_true, Bool.and_eq_true] at h7
      have hfg : ¬ FirstG log i := seen_not hD hx77 (.inl (by simpa using h7b))
      refine o_no rfl rfl rfl rfl ?_
      refine o_no rfl rfl rfl rfl ?_
      refine o_pick_true rfl rfl rfl ?_
      refine l_nil ?_
      refine q_then ?_
      refine c_true rfl ?_
      refine c_region ?_
      refine o_assign rfl rfl ?_
      refine l_nil ?_
      refine q_then ?_
      refine c_seq ?_
      have hcl := hC.len
      refine c_region ?_
      refine o_move rfl rfl ?_
      refine o_move rfl rfl ?_
      refine o_index e_I_ok rfl rfl rfl Try.underlying25 (by omega) (by omega) (rds_own e_I_ok 2 rfl) fun ad101 ead101 => ?_
      obtain ⟨x101, hx101⟩ : ∃ x, (cs)[((i : Int)).toNat]? = some x := ⟨_, List.getElem?_eq_getElem (by omega)⟩
      have hcnt : x101 = 0 := cnt_no (by rw [show r = 3 by omega] at hC; exact hC) hx77 hx101 hfg
      refine o_load1 rfl rfl Try.underlying3 rfl (rd_sl0 e_I_ok ead101 (rds_own e_I_ok 2 rfl) hx101 rfl) ?_
      refine o_move rfl rfl ?_
      refine o_bin rfl rfl rfl b_neq ?_
      refine l_eq (t := 104) (v' := .bool false) rfl (show _ = Value.bool false from by rw [hcnt]; simp) ?_
      refine l_nil ?_
      refine q_then ?_
      refine c_false rfl ?_
      refine c_skip ?_
      refine q_block ?_
      refine q_then ?_
      refine c_region ?_
      refine o_bin rfl rfl rfl (b_add (wrap_i64 (by omega) (by omega))) ?_
      refine o_move rfl rfl ?_
      refine l_nil ?_
      refine q_conv (fun w S => S.tail) ?_
      exact q_round (i + 1, D) (by exact ⟨by omega, seenT_no hD hx77 hfg⟩) (by (try dsimp only); omega) ⟨(by first | rfl | exact vint (by omega)), (by first | rfl | exact vint (by omega)), (by first | rfl | exact vint (by omega)), (by first | rfl | exact vint (by omega)), (by first | rfl | exact vint (by omega)), trivial⟩ (fun w S => S)
     · -- h7F
      have h7b := h7
      try simp only [decide_eq_true_eq, decide_eq_false_iff_not, Bool.not_eq_eq_eq_not, Bool.not_true, Bool.not_false, Bool.not_eq_true', Bool.not_eq_false', Int.not_lt, Int.not_le, Bool.or_eq_true, Bool.and_eq_true] at h7
      refine o_yes rfl rfl rfl ?_
      refine o_loadn (vs := [_, _, _, _, _, _, _, _, _, _]) rfl rfl Try.underlying40 rfl ti40 (rdn_lit 0 rfl rfl) ?_
      refine o_yes rfl rfl rfl ?_
      refine o_call rfl cal12 rfl (rsingle_ (o := x77) (ho x77 (List.mem_of_getElem? hx77) _) (by have := (hsm x77 (List.mem_of_getElem? hx77)).m; omega)) ?_
      rintro _ _ ⟨rfl, rfl⟩
      refine o_pick_false rfl rfl rfl ?_
      refine l_nil ?_
      refine q_then ?_
      refine c_cond rfl (fun h8 => ?_) (fun h8 => ?_)
      · -- h8T
       have h8b := h8
       try simp only [decide_eq_true_eq] at h8
       have hfg : ¬ FirstG log i := seen_not hD hx77 (.inr (by simpa using h8b))
       refine c_region ?_
       refine o_assign rfl rfl ?_
       refine l_nil ?_
       refine q_then ?_
       refine c_seq ?_
       have hcl := hC.len
       refine c_region ?_
       refine o_move rfl rfl ?_
       refine o_move rfl rfl ?_
       refine o_index e_I_ok rfl rfl rfl Try.underlying25 (by omega) (by omega) (rds_own e_I_ok 2 rfl) fun ad101 ead101 => ?_
       obtain ⟨x101, hx101⟩ : ∃ x, (cs)[((i : Int)).toNat]? = some x := ⟨_, List.getElem?_eq_getElem (by omega)⟩
       have hcnt : x101 = 0 := cnt_no (by rw [show r = 3 by omega] at hC; exact hC) hx77 hx101 hfg
       refine o_load1 rfl rfl Try.underlying3 rfl (rd_sl0 e_I_ok ead101 (rds_own e_I_ok 2 rfl) hx101 rfl) ?_
       refine o_move rfl rfl ?_
       refine o_bin rfl rfl rfl b_neq ?_
       refine l_eq (t := 104) (v' := .bool false) rfl (show _ = Value.bool false from by rw [hcnt]; simp) ?_
       refine l_nil ?_
       refine q_then ?_
       refine c_false rfl ?_
       refine c_skip ?_
       refine q_block ?_
       refine q_then ?_
       refine c_region ?_
       refine o_bin rfl rfl rfl (b_add (wrap_i64 (by omega) (by omega))) ?_
       refine o_move rfl rfl ?_
       refine l_nil ?_
       refine q_conv (fun w S => S.tail) ?_
       exact q_round (i + 1, D) (by exact ⟨by omega, seenT_no hD hx77 hfg⟩) (by (try dsimp only); omega) ⟨(by first | rfl | exact vint (by omega)), (by first | rfl | exact vint (by omega)), (by first | rfl | exact vint (by omega)), (by first | rfl | exact vint (by omega)), (by first | rfl | exact vint (by omega)), trivial⟩ (fun w S => S)
      · -- h8F
       have h8b := h8
       try simp only [decide_eq_false_iff_not, Int.not_lt, Int.not_le] at h8
       have hfg : FirstG log i := seen_yes hD hx77 (by simpa using h7b) (by simpa using h8b)
       refine c_region ?_
       refine o_move rfl rfl ?_
       refine o_fieldAddr (q := ⟨b10, 0, none⟩) rfl rfl Try.underlying40 rfl ti33 rfl ?_
       refine o_loadn (vs := [_, _, _, _]) rfl rfl Try.underlying33 rfl ti33 (rdn_lit 0 rfl rfl) ?_
       refine l_f1 ?_
       refine o_mapUpdate (q := x77.tag) (b := true) koTag rfl rfl rfl Try.underlying26 ?_
       refine l_nil ?_
       refine q_then ?_
       refine c_seq ?_
       have hcl := hC.len
       refine c_region ?_
       refine o_move rfl rfl ?_
       refine o_move rfl rfl ?_
       refine o_index e_I_ok rfl rfl rfl Try.underlying25 (by omega) (by omega) (rds_own e_I_ok 2 rfl) fun ad101 ead101 => ?_
       obtain ⟨x101, hx101⟩ : ∃ x, (cs)[((i : Int)).toNat]? = some x := ⟨_, List.getElem?_eq_getElem (by omega)⟩
       have hcnt : x101 = (hmN x77 q : Int) := by rw [show q = 3 by omega]; exact cnt_yes (by rw [show r = 3 by omega] at hC; exact hC) hx77 hx101 hfg
       refine o_load1 rfl rfl Try.underlying3 rfl (rd_sl0 e_I_ok ead101 (rds_own e_I_ok 2 rfl) hx101 rfl) ?_
       refine o_move rfl rfl ?_
       refine o_bin rfl rfl rfl b_neq ?_
       refine l_eq (t := 104) (v' := .bool false) rfl (show _ = Value.bool false from by rw [hcnt]; simp) ?_
       refine l_nil ?_
       refine q_then ?_
       refine c_false rfl ?_
       refine c_skip ?_
       refine q_block ?_
       refine q_then ?_
       refine c_region ?_
       refine o_bin rfl rfl rfl (b_add (wrap_i64 (by omega) (by omega))) ?_
       refine o_move rfl rfl ?_
       refine l_nil ?_
       refine q_conv (fun w S => (S.perm p1).tail) ?_
       exact q_round (i + 1, mset D x77.tag true) (by exact ⟨by omega, seenT_on hD hx77 hfg⟩) (by (try dsimp only); omega) ⟨(by first | rfl | exact vint (by omega)), (by first | rfl | exact vint (by omega)), (by first | rfl | exact vint (by omega)), (by first | rfl | exact vint (by omega)), (by first | rfl | exact vint (by omega)), trivial⟩ (fun w S => S)
   · -- h4F
    have h4b := h4
    try simp only [decide_eq_false_iff_not, Int.not_lt, Int.not_le] at h4
    refine c_exit ?_
    refine q_pass_exit ?_
    refine q_pass_exit ?_
    refine q_hit ?_
    refine q_then ?_
    refine c_seq ?_
    refine c_region ?_
    refine o_assign rfl rfl ?_
    refine l_nil ?_
    refine q_then ?_
    refine c_ret ?_
    refine q_conv (fun w S => S.tail) ?_
    refine q_conv (fun w S => S.tail) ?_
    exact f_ret (r_one rfl rfl) (⟨rfl, rfl⟩) (fun w S => S)

end Go.Proofs.Yteehongibjkjlaa
