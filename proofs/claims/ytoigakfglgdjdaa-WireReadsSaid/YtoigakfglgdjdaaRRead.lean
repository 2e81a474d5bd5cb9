/- Printed by eng2.py out of 18/spec.py. -/
import Derived.Test.YtoigakfglgdjdaaRRead1
set_option linter.unusedVariables false
set_option linter.unusedSimpArgs false
set_option maxRecDepth 10000
namespace Go.Proofs.Ytoigakfglgdjdaa
open Go.RowKit Classical
theorem endR_0 {t : List UInt8} (h : ((endR t : Nat) : Int) = 0) : t.length = 0 := by
  unfold endR at h
  split at h
  · simp at h
  · omega
set_option maxHeartbeats 4000000 in
theorem rread_ {W : World} {F : List Res} {bs : List UInt8} {a : Option Addr} {c : Nat} (hs : SlR W e8 a bs) (hsm : bs.length ≤ 1000000) (hcc : bs.length ≤ c) : CS Try.prog 16 #[.slice a bs.length c] W (F) (fun r L' => ∃ (q : RMsg) (n : Int), RdRes bs (toM q) n ∧ r = .tuple #[.agg (e_RMsg.cells q).toArray, .int .i64 n] ∧ L' = row e_RVote.T e_RVote.sz q.f_Votes.a (q.f_Votes.xs).length q.f_Votes.c (flat e_RVote q.f_Votes.xs) :: F) := by
 refine f_door (l0 := [(0, .slice a bs.length c)]) Try.func16 Try.ntmps16 rfl rfl rfl ?_
 refine c_seq ?_
 refine c_region ?_
 refine o_alloc rfl ti35 fun b2 => ?_
 refine o_assign rfl rfl ?_
 refine l_nil ?_
 refine q_then ?_
 refine c_seq ?_
 refine c_region ?_
 refine o_move rfl rfl ?_
 refine o_build rfl sp76 ti76 rfl ((fill_cons (cells' := [.slice a (bs).length c, .int .i64 0]) rfl rfl rfl rfl fill_nil)) ?_
 refine o_box rfl rfl fun b25 => ?_
 refine o_assign rfl rfl ?_
 refine o_assign rfl rfl ?_
 refine l_nil ?_
 refine q_then ?_
 refine c_seq ?_
 refine c_region ?_
 refine o_buildArr0 rfl Try.underlying60 ti60 ti23 ?_
 refine o_alloc rfl ti60 fun b6 => ?_
 refine l_conv (L' := blk b6 (.cells (flat e_U64 (List.replicate 6 (0 : Int))).toArray 60 (0, 0)) :: _) (fun w S => S) ?_
 refine o_storeSeg (vs := flat e_U64 (List.replicate 6 0)) rfl rfl ti60 (sg_len (s := 1) e_U64_ok rfl List.length_replicate rfl) (sg_len (s := 1) e_U64_ok rfl List.length_replicate rfl) (by decide) (flat_one e_U64_ok _) (pn_all (by first | rw [(sg_len (s := 1) e_U64_ok rfl List.length_replicate rfl), (sg_len (s := 1) e_U64_ok rfl List.length_replicate rfl)] | rw [(sg_len (s := 1) e_U64_ok rfl List.length_replicate rfl)])) ?_
 refine l_nil ?_
 refine q_then ?_
 refine c_seq ?_
 refine c_seq ?_
 have at25 : At bs 0 bs := ⟨rfl, Nat.zero_le _⟩
 refine c_region ?_
 refine o_assign rfl rfl ?_
 refine l_nil ?_
 refine q_then ?_
 refine c_block ?_
 refine c_loop (α := Nat × Nat × Nat × (List UInt8) × (List Int)) (fun z => [(0, .slice a (bs).length c), (2, .pointer (some ⟨b2, 0, none⟩)), (4, .pointer (some ⟨b25, 0, none⟩)), (5, .int .i64 (z.2.1 : Int)), (6, .pointer (some ⟨b6, 0, none⟩)), (7, .int .i64 (z.1 : Int))]) (fun z => blk b6 (.cells (flat e_U64 z.2.2.2.2).toArray 60 (0, 0)) :: blk b25 (.cells #[.slice a (bs).length c, .int .i64 (z.2.2.1 : Int)] 76 (0, 0)) :: blk b2 (.cells #[.int .i64 0, .int .i64 0, .int .i64 0, .int .i64 0, .int .i64 0, .int .u64 0, .string ByteArray.empty, .slice none 0 0] 35 (0, 0)) :: F) (fun z => z.1 ≤ 6 ∧ HInv bs z.1 z.2.1 z.2.2.1 z.2.2.2.2 z.2.2.2.1) (fun z => 6 - z.1) (0, 0, 0, bs, (List.replicate 6 (0 : Int))) (by exact ⟨Nat.zero_le _, HInv.start⟩) ⟨(by first | rfl | exact vint (by omega)), (by first | rfl | exact vint (by omega)), (by first | rfl | exact vint (by omega)), (by first | rfl | exact vint (by omega)), (by first | rfl | exact vint (by omega)), (by first | rfl | exact vint (by omega)), trivial⟩ (fun w S => S) ?_
 rintro ⟨i, bad, e, ys, ls⟩ ⟨hi, hH⟩
 try dsimp only at *
 refine c_seq ?_
 refine c_seq ?_
 refine c_region ?_
 refine o_move rfl rfl ?_
 refine o_bin rfl rfl rfl b_lss ?_
 refine l_nil ?_
 refine q_then ?_
 refine c_cond rfl (fun h1 => ?_) (fun h1 => ?_)
 · -- h1T
  have h1b := h1
  try simp only [decide_eq_true_eq] at h1
  refine c_skip ?_
  refine q_then ?_
  refine c_seq ?_
  refine c_block ?_
  refine c_seq ?_
  refine c_region ?_
  refine o_move rfl rfl ?_
  refine l_f1 ?_
  refine o_call rfl cal33 rfl (rnum_ hs hH.at_ hsm hcc) ?_
  rintro _ _ ⟨j33, ys33, hj33, rfl, rfl⟩
  have at33 : At bs j33 ys33 := by rw [hj33.1, hj33.2]; exact hH.at_.num
  have hbn := hH.bnd
  have hu33 := numR_used ys 0 0
  refine o_move rfl rfl ?_
  refine o_extract rfl rfl rfl ?_
  refine o_extract rfl rfl rfl ?_
  refine o_assign rfl rfl ?_
  refine o_assign rfl rfl ?_
  refine l_nil ?_
  refine q_then ?_
  refine c_seq ?_
  refine c_region ?_
  refine o_move rfl rfl ?_
  refine o_move rfl rfl ?_
  refine o_indexArr rfl rfl rfl Try.underlying60 ti23 (by omega) (by omega) (Addr.add_mk _ _ _) ?_
  obtain ⟨x38, hx38⟩ : ∃ x, (ls)[((i : Int)).toNat]? = some x := ⟨_, List.getElem?_eq_getElem (by have := hH.len; omega)⟩
  refine l_f1 ?_
  refine o_storeArr rfl rfl rfl ti23 (sz_arr (sg_len (s := 1) e_U64_ok rfl hH.len rfl) (by omega)) (st_arr (st_flat (s := 1) (o := 0) (y := ((numR 0 0 ys).1 : Int)) e_U64_ok rfl hx38 (by decide) rfl (by omega))) ?_
  refine l_nil ?_
  refine q_then ?_
  refine c_region ?_
  refine o_move rfl rfl ?_
  refine o_move rfl rfl ?_
  refine o_bin rfl rfl rfl (b_add (wrap_i64 (by omega) (by omega))) ?_
  refine o_assign rfl rfl ?_
  refine l_nil ?_
  refine q_block ?_
  refine q_then ?_
  refine c_region ?_
  refine o_move rfl rfl ?_
  refine o_bin rfl rfl rfl (b_add (wrap_i64 (by omega) (by omega))) ?_
  refine o_assign rfl rfl ?_
  refine l_nil ?_
  exact q_round (i + 1, (bad + (numR 0 0 ys).2.1), j33, ys33, (ls.set ((i : Int)).toNat ((numR 0 0 ys).1 : Int))) (by exact ⟨by omega, by rw [hj33.1, hj33.2]; exact hH.on (by omega)⟩) (by (try dsimp only); omega) ⟨(by first | rfl | exact vint (by omega)), (by first | rfl | exact vint (by omega)), (by first | rfl | exact vint (by omega)), (by first | rfl | exact vint (by omega)), (by first | rfl | exact vint (by omega)), (by first | rfl | exact vint (by omega)), trivial⟩ (fun w S => S)
 · -- h1F
  have h1b := h1
  try simp only [decide_eq_false_iff_not, Int.not_lt, Int.not_le] at h1
  have hH6 : HInv bs 6 bad e ls ys := by have h9 := hH; rw [show i = 6 by omega] at h9; exact h9
  refine c_exit ?_
  refine q_pass_exit ?_
  refine q_pass_exit ?_
  refine q_hit ?_
  refine q_then ?_
  refine c_seq ?_
  refine c_mid (α := Nat × Int × Int × Int × Int × Int × Int) (fun z => [(0, .slice a (bs).length c), (2, .pointer (some ⟨b2, 0, none⟩)), (4, .pointer (some ⟨b25, 0, none⟩)), (5, .int .i64 (bad : Int)), (6, .pointer (some ⟨b6, 0, none⟩)), (7, .int .i64 (i : Int)), (10, .pointer (some ⟨z.1, 0, none⟩)), (27, .int .i64 (i : Int)), (28, .bool (decide ((i : Int) < 6))), (43, .int .u64 (z.2.1.toNat : Int)), (44, .int .i64 (fewN z.2.1.toNat 9 : Int)), (46, .int .u64 (z.2.2.1.toNat : Int)), (47, .int .i64 (fewN z.2.2.1.toNat 8 : Int)), (49, .int .u64 (z.2.2.2.1.toNat : Int)), (50, .int .i64 (fewN z.2.2.2.1.toNat 8 : Int)), (52, .int .u64 (z.2.2.2.2.1.toNat : Int)), (53, .int .i64 (fewN z.2.2.2.2.1.toNat 3 : Int)), (55, .int .u64 (z.2.2.2.2.2.1.toNat : Int)), (56, .int .i64 (fewN z.2.2.2.2.2.1.toNat 64 : Int)), (58, .int .u64 z.2.2.2.2.2.2), (59, .agg #[.int .i64 (fewN z.2.1.toNat 9 : Int), .int .i64 (fewN z.2.2.1.toNat 8 : Int), .int .i64 (fewN z.2.2.2.1.toNat 8 : Int), .int .i64 (fewN z.2.2.2.2.1.toNat 3 : Int), .int .i64 (fewN z.2.2.2.2.2.1.toNat 64 : Int), .int .u64 z.2.2.2.2.2.2, .string ByteArray.empty, .slice none 0 0])]) (fun z => blk z.1 (.cells #[.int .i64 (fewN z.2.1.toNat 9 : Int), .int .i64 (fewN z.2.2.1.toNat 8 : Int), .int .i64 (fewN z.2.2.2.1.toNat 8 : Int), .int .i64 (fewN z.2.2.2.2.1.toNat 3 : Int), .int .i64 (fewN z.2.2.2.2.2.1.toNat 64 : Int), .int .u64 z.2.2.2.2.2.2, .string ByteArray.empty, .slice none 0 0] 35 (0, 0)) :: blk b6 (.cells (flat e_U64 ls).toArray 60 (0, 0)) :: blk b25 (.cells #[.slice a (bs).length c, .int .i64 (e : Int)] 76 (0, 0)) :: blk b2 (.cells #[.int .i64 0, .int .i64 0, .int .i64 0, .int .i64 0, .int .i64 0, .int .u64 0, .string ByteArray.empty, .slice none 0 0] 35 (0, 0)) :: F) (fun z => ls = [z.2.1, z.2.2.1, z.2.2.2.1, z.2.2.2.2.1, z.2.2.2.2.2.1, z.2.2.2.2.2.2]) ?_ ?_
  · -- cut
   refine c_held [blk b6 (.cells (flat e_U64 ls).toArray 60 (0, 0)), blk b25 (.cells #[.slice a (bs).length c, .int .i64 (e : Int)] 76 (0, 0)), blk b2 (.cells #[.int .i64 0, .int .i64 0, .int .i64 0, .int .i64 0, .int .i64 0, .int .u64 0, .string ByteArray.empty, .slice none 0 0] 35 (0, 0))] (by kernel_rfl) rfl ?_
   refine h_take 0 rfl rfl (by kernel_rfl) (by kernel_rfl) (by kernel_rfl) (fun L0 => v_indexArr rfl rfl rfl Try.underlying60 ti23 (by omega) (by omega) (Addr.add_mk _ _ _)) ?_
   obtain ⟨x42, hx42⟩ : ∃ x, (ls)[((0 : Int)).toNat]? = some x := ⟨_, List.getElem?_eq_getElem (by have := hH.len; omega)⟩
   refine h_take 1 rfl rfl (by kernel_rfl) (by kernel_rfl) (by kernel_rfl) (fun L0 => v_load1 rfl rfl Try.underlying23 rfl (rd_mem 0 rfl (sg_arr (sg_flat (s := 1) (o := 0) e_U64_ok rfl hx42 rfl (by omega))))) ?_
   refine h_eq (t := 43) (v' := .int .u64 (x42.toNat : Int)) rfl (by exact congrArg (Value.int .u64) (Int.toNat_of_nonneg (hH.rng x42 (List.mem_of_getElem? hx42)).1).symm) ?_
   refine h_take 3 rfl rfl (by kernel_rfl) (by kernel_rfl) (by kernel_rfl) (fun L0 => v_indexArr rfl rfl rfl Try.underlying60 ti23 (by omega) (by omega) (Addr.add_mk _ _ _)) ?_
   obtain ⟨x45, hx45⟩ : ∃ x, (ls)[((1 : Int)).toNat]? = some x := ⟨_, List.getElem?_eq_getElem (by have := hH.len; omega)⟩
   refine h_take 4 rfl rfl (by kernel_rfl) (by kernel_rfl) (by kernel_rfl) (fun L0 => v_load1 rfl rfl Try.underlying23 rfl (rd_mem 0 rfl (sg_arr (sg_flat (s := 1) (o := 0) e_U64_ok rfl hx45 rfl (by omega))))) ?_
   refine h_eq (t := 46) (v' := .int .u64 (x45.toNat : Int)) rfl (by exact congrArg (Value.int .u64) (Int.toNat_of_nonneg (hH.rng x45 (List.mem_of_getElem? hx45)).1).symm) ?_
   refine h_take 6 rfl rfl (by kernel_rfl) (by kernel_rfl) (by kernel_rfl) (fun L0 => v_indexArr rfl rfl rfl Try.underlying60 ti23 (by omega) (by omega) (Addr.add_mk _ _ _)) ?_
   obtain ⟨x48, hx48⟩ : ∃ x, (ls)[((2 : Int)).toNat]? = some x := ⟨_, List.getElem?_eq_getElem (by have := hH.len; omega)⟩
   refine h_take 7 rfl rfl (by kernel_rfl) (by kernel_rfl) (by kernel_rfl) (fun L0 => v_load1 rfl rfl Try.underlying23 rfl (rd_mem 0 rfl (sg_arr (sg_flat (s := 1) (o := 0) e_U64_ok rfl hx48 rfl (by omega))))) ?_
   refine h_eq (t := 49) (v' := .int .u64 (x48.toNat : Int)) rfl (by exact congrArg (Value.int .u64) (Int.toNat_of_nonneg (hH.rng x48 (List.mem_of_getElem? hx48)).1).symm) ?_
   refine h_take 9 rfl rfl (by kernel_rfl) (by kernel_rfl) (by kernel_rfl) (fun L0 => v_indexArr rfl rfl rfl Try.underlying60 ti23 (by omega) (by omega) (Addr.add_mk _ _ _)) ?_
   obtain ⟨x51, hx51⟩ : ∃ x, (ls)[((3 : Int)).toNat]? = some x := ⟨_, List.getElem?_eq_getElem (by have := hH.len; omega)⟩
   refine h_take 10 rfl rfl (by kernel_rfl) (by kernel_rfl) (by kernel_rfl) (fun L0 => v_load1 rfl rfl Try.underlying23 rfl (rd_mem 0 rfl (sg_arr (sg_flat (s := 1) (o := 0) e_U64_ok rfl hx51 rfl (by omega))))) ?_
   refine h_eq (t := 52) (v' := .int .u64 (x51.toNat : Int)) rfl (by exact congrArg (Value.int .u64) (Int.toNat_of_nonneg (hH.rng x51 (List.mem_of_getElem? hx51)).1).symm) ?_
   refine h_take 12 rfl rfl (by kernel_rfl) (by kernel_rfl) (by kernel_rfl) (fun L0 => v_indexArr rfl rfl rfl Try.underlying60 ti23 (by omega) (by omega) (Addr.add_mk _ _ _)) ?_
   obtain ⟨x54, hx54⟩ : ∃ x, (ls)[((4 : Int)).toNat]? = some x := ⟨_, List.getElem?_eq_getElem (by have := hH.len; omega)⟩
   refine h_take 13 rfl rfl (by kernel_rfl) (by kernel_rfl) (by kernel_rfl) (fun L0 => v_load1 rfl rfl Try.underlying23 rfl (rd_mem 0 rfl (sg_arr (sg_flat (s := 1) (o := 0) e_U64_ok rfl hx54 rfl (by omega))))) ?_
   refine h_eq (t := 55) (v' := .int .u64 (x54.toNat : Int)) rfl (by exact congrArg (Value.int .u64) (Int.toNat_of_nonneg (hH.rng x54 (List.mem_of_getElem? hx54)).1).symm) ?_
   refine h_take 15 rfl rfl (by kernel_rfl) (by kernel_rfl) (by kernel_rfl) (fun L0 => v_indexArr rfl rfl rfl Try.underlying60 ti23 (by omega) (by omega) (Addr.add_mk _ _ _)) ?_
   obtain ⟨x57, hx57⟩ : ∃ x, (ls)[((5 : Int)).toNat]? = some x := ⟨_, List.getElem?_eq_getElem (by have := hH.len; omega)⟩
   refine h_take 16 rfl rfl (by kernel_rfl) (by kernel_rfl) (by kernel_rfl) (fun L0 => v_load1 rfl rfl Try.underlying23 rfl (rd_mem 0 rfl (sg_arr (sg_flat (s := 1) (o := 0) e_U64_ok rfl hx57 rfl (by omega))))) ?_
   refine h_many (is := [2, 18]) (by kernel_rfl) (by decide) (forall_cons ⟨_, rfl, ?_⟩ (forall_cons ⟨_, rfl, ?_⟩ forall_nil))
   · -- 2 comes first
    refine o_call rfl cal34 rfl (few_ (n := x42.toNat) (k := 9) (by have := (hH.rng x42 (List.mem_of_getElem? hx42)).2; omega) (by omega)) ?_
    rintro _ _ ⟨rfl, rfl⟩
    refine l_nil ?_
    refine h_next ?_
    refine h_many (is := [5, 18]) (by kernel_rfl) (by decide) (forall_cons ⟨_, rfl, ?_⟩ (forall_cons ⟨_, rfl, ?_⟩ forall_nil))
    · -- 5 comes first
     refine o_call rfl cal34 rfl (few_ (n := x45.toNat) (k := 8) (by have := (hH.rng x45 (List.mem_of_getElem? hx45)).2; omega) (by omega)) ?_
     rintro _ _ ⟨rfl, rfl⟩
     refine l_nil ?_
     refine h_next ?_
     refine h_many (is := [8, 18]) (by kernel_rfl) (by decide) (forall_cons ⟨_, rfl, ?_⟩ (forall_cons ⟨_, rfl, ?_⟩ forall_nil))
     · -- 8 comes first
      refine o_call rfl cal34 rfl (few_ (n := x48.toNat) (k := 8) (by have := (hH.rng x48 (List.mem_of_getElem? hx48)).2; omega) (by omega)) ?_
      rintro _ _ ⟨rfl, rfl⟩
      refine l_nil ?_
      refine h_next ?_
      refine h_many (is := [11, 18]) (by kernel_rfl) (by decide) (forall_cons ⟨_, rfl, ?_⟩ (forall_cons ⟨_, rfl, ?_⟩ forall_nil))
      · -- 11 comes first
       refine o_call rfl cal34 rfl (few_ (n := x51.toNat) (k := 3) (by have := (hH.rng x51 (List.mem_of_getElem? hx51)).2; omega) (by omega)) ?_
       rintro _ _ ⟨rfl, rfl⟩
       refine l_nil ?_
       refine h_next ?_
       refine h_many (is := [14, 18]) (by kernel_rfl) (by decide) (forall_cons ⟨_, rfl, ?_⟩ (forall_cons ⟨_, rfl, ?_⟩ forall_nil))
       · -- 14 comes first
        refine o_call rfl cal34 rfl (few_ (n := x54.toNat) (k := 64) (by have := (hH.rng x54 (List.mem_of_getElem? hx54)).2; omega) (by omega)) ?_
        rintro _ _ ⟨rfl, rfl⟩
        refine l_nil ?_
        refine h_next ?_
        refine h_take 17 rfl rfl (by kernel_rfl) (by kernel_rfl) (by kernel_rfl) (fun L0 => v_build rfl sp35 ti35 rfl ((fill_cons (cells' := [.int .i64 (fewN x42.toNat 9 : Int), .int .i64 0, .int .i64 0, .int .i64 0, .int .i64 0, .int .u64 0, .string ByteArray.empty, .slice none 0 0]) rfl rfl rfl rfl (fill_cons (cells' := [.int .i64 (fewN x42.toNat 9 : Int), .int .i64 (fewN x45.toNat 8 : Int), .int .i64 0, .int .i64 0, .int .i64 0, .int .u64 0, .string ByteArray.empty, .slice none 0 0]) rfl rfl rfl rfl (fill_cons (cells' := [.int .i64 (fewN x42.toNat 9 : Int), .int .i64 (fewN x45.toNat 8 : Int), .int .i64 (fewN x48.toNat 8 : Int), .int .i64 0, .int .i64 0, .int .u64 0, .string ByteArray.empty, .slice none 0 0]) rfl rfl rfl rfl (fill_cons (cells' := [.int .i64 (fewN x42.toNat 9 : Int), .int .i64 (fewN x45.toNat 8 : Int), .int .i64 (fewN x48.toNat 8 : Int), .int .i64 (fewN x51.toNat 3 : Int), .int .i64 0, .int .u64 0, .string ByteArray.empty, .slice none 0 0]) rfl rfl rfl rfl (fill_cons (cells' := [.int .i64 (fewN x42.toNat 9 : Int), .int .i64 (fewN x45.toNat 8 : Int), .int .i64 (fewN x48.toNat 8 : Int), .int .i64 (fewN x51.toNat 3 : Int), .int .i64 (fewN x54.toNat 64 : Int), .int .u64 0, .string ByteArray.empty, .slice none 0 0]) rfl rfl rfl rfl (fill_cons (cells' := [.int .i64 (fewN x42.toNat 9 : Int), .int .i64 (fewN x45.toNat 8 : Int), .int .i64 (fewN x48.toNat 8 : Int), .int .i64 (fewN x51.toNat 3 : Int), .int .i64 (fewN x54.toNat 64 : Int), .int .u64 x57, .string ByteArray.empty, .slice none 0 0]) rfl rfl rfl rfl fill_nil)))))))) ?_
        refine h_one 18 rfl (by kernel_rfl) ?_
        refine o_alloc rfl ti35 fun b10 => ?_
        refine l_nil ?_
        refine q_conv (fun w S => S.perm p3) ?_
        refine q_conv (fun w S => S.perm p3) ?_
        refine q_conv (fun w S => S.perm p3) ?_
        refine h_next ?_
        refine h_one 19 rfl (by kernel_rfl) ?_
        refine l_f3 ?_
        refine o_storen rfl rfl ti35 rfl rfl rfl rfl ?_
        refine l_nil ?_
        refine q_conv (fun w S => S.perm p3) ?_
        refine q_conv (fun w S => S.perm p3) ?_
        refine q_conv (fun w S => S.perm p3) ?_
        refine h_next ?_
        refine h_done (by kernel_rfl) ?_
        refine q_conv (fun w S => S.perm p2) ?_
        refine q_conv (fun w S => S.perm p2) ?_
        refine q_conv (fun w S => S.perm p2) ?_
        refine q_conv (fun w S => S.perm p3) ?_
        exact q_mid (b10, x42, x45, x48, x51, x54, x57) (by exact six hH.len hx42 hx45 hx48 hx51 hx54 hx57) ⟨(by first | rfl | exact vint (by omega)), (by first | rfl | exact vint (by omega)), (by first | rfl | exact vint (by omega)), (by first | rfl | exact vint (by omega)), (by first | rfl | exact vint (by omega)), (by first | rfl | exact vint (by omega)), (by first | rfl | exact vint (by omega)), (by first | rfl | exact vint (by omega)), (by first | rfl | exact vint (by omega)), (by first | rfl | exact vint (by omega)), (by first | rfl | exact vint (by omega)), (by first | rfl | exact vint (by omega)), (by first | rfl | exact vint (by omega)), (by first | rfl | exact vint (by omega)), (by first | rfl | exact vint (by omega)), (by first | rfl | exact vint (by omega)), (by first | rfl | exact vint (by omega)), (by first | rfl | exact vint (by omega)), (by first | rfl | exact vint (by omega)), (by first | rfl | exact vint (by omega)), (by first | rfl | exact vint (by omega)), trivial⟩ (fun w S => S)
       · -- 18 comes first
        refine o_alloc rfl ti35 fun b10 => ?_
        refine l_nil ?_
        refine q_conv (fun w S => S.perm p3) ?_
        refine q_conv (fun w S => S.perm p3) ?_
        refine q_conv (fun w S => S.perm p3) ?_
        refine h_next ?_
        refine h_one 14 rfl (by kernel_rfl) ?_
        refine o_call rfl cal34 rfl (few_ (n := x54.toNat) (k := 64) (by have := (hH.rng x54 (List.mem_of_getElem? hx54)).2; omega) (by omega)) ?_
        rintro _ _ ⟨rfl, rfl⟩
        refine l_nil ?_
        refine h_next ?_
        refine h_take 17 rfl rfl (by kernel_rfl) (by kernel_rfl) (by kernel_rfl) (fun L0 => v_build rfl sp35 ti35 rfl ((fill_cons (cells' := [.int .i64 (fewN x42.toNat 9 : Int), .int .i64 0, .int .i64 0, .int .i64 0, .int .i64 0, .int .u64 0, .string ByteArray.empty, .slice none 0 0]) rfl rfl rfl rfl (fill_cons (cells' := [.int .i64 (fewN x42.toNat 9 : Int), .int .i64 (fewN x45.toNat 8 : Int), .int .i64 0, .int .i64 0, .int .i64 0, .int .u64 0, .string ByteArray.empty, .slice none 0 0]) rfl rfl rfl rfl (fill_cons (cells' := [.int .i64 (fewN x42.toNat 9 : Int), .int .i64 (fewN x45.toNat 8 : Int), .int .i64 (fewN x48.toNat 8 : Int), .int .i64 0, .int .i64 0, .int .u64 0, .string ByteArray.empty, .slice none 0 0]) rfl rfl rfl rfl (fill_cons (cells' := [.int .i64 (fewN x42.toNat 9 : Int), .int .i64 (fewN x45.toNat 8 : Int), .int .i64 (fewN x48.toNat 8 : Int), .int .i64 (fewN x51.toNat 3 : Int), .int .i64 0, .int .u64 0, .string ByteArray.empty, .slice none 0 0]) rfl rfl rfl rfl (fill_cons (cells' := [.int .i64 (fewN x42.toNat 9 : Int), .int .i64 (fewN x45.toNat 8 : Int), .int .i64 (fewN x48.toNat 8 : Int), .int .i64 (fewN x51.toNat 3 : Int), .int .i64 (fewN x54.toNat 64 : Int), .int .u64 0, .string ByteArray.empty, .slice none 0 0]) rfl rfl rfl rfl (fill_cons (cells' := [.int .i64 (fewN x42.toNat 9 : Int), .int .i64 (fewN x45.toNat 8 : Int), .int .i64 (fewN x48.toNat 8 : Int), .int .i64 (fewN x51.toNat 3 : Int), .int .i64 (fewN x54.toNat 64 : Int), .int .u64 x57, .string ByteArray.empty, .slice none 0 0]) rfl rfl rfl rfl fill_nil)))))))) ?_
        refine h_one 19 rfl (by kernel_rfl) ?_
        refine l_f3 ?_
        refine o_storen rfl rfl ti35 rfl rfl rfl rfl ?_
        refine l_nil ?_
        refine q_conv (fun w S => S.perm p3) ?_
        refine q_conv (fun w S => S.perm p3) ?_
        refine q_conv (fun w S => S.perm p3) ?_
        refine h_next ?_
        refine h_done (by kernel_rfl) ?_
        refine q_conv (fun w S => S.perm p2) ?_
        refine q_conv (fun w S => S.perm p2) ?_
        refine q_conv (fun w S => S.perm p2) ?_
        refine q_conv (fun w S => S.perm p3) ?_
        exact q_mid (b10, x42, x45, x48, x51, x54, x57) (by exact six hH.len hx42 hx45 hx48 hx51 hx54 hx57) ⟨(by first | rfl | exact vint (by omega)), (by first | rfl | exact vint (by omega)), (by first | rfl | exact vint (by omega)), (by first | rfl | exact vint (by omega)), (by first | rfl | exact vint (by omega)), (by first | rfl | exact vint (by omega)), (by first | rfl | exact vint (by omega)), (by first | rfl | exact vint (by omega)), (by first | rfl | exact vint (by omega)), (by first | rfl | exact vint (by omega)), (by first | rfl | exact vint (by omega)), (by first | rfl | exact vint (by omega)), (by first | rfl | exact vint (by omega)), (by first | rfl | exact vint (by omega)), (by first | rfl | exact vint (by omega)), (by first | rfl | exact vint (by omega)), (by first | rfl | exact vint (by omega)), (by first | rfl | exact vint (by omega)), (by first | rfl | exact vint (by omega)), (by first | rfl | exact vint (by omega)), (by first | rfl | exact vint (by omega)), trivial⟩ (fun w S => S)
      · -- 18 comes first
       refine o_alloc rfl ti35 fun b10 => ?_
       refine l_nil ?_
       refine q_conv (fun w S => S.perm p3) ?_
       refine q_conv (fun w S => S.perm p3) ?_
       refine q_conv (fun w S => S.perm p3) ?_
       refine h_next ?_
       refine h_one 11 rfl (by kernel_rfl) ?_
       refine o_call rfl cal34 rfl (few_ (n := x51.toNat) (k := 3) (by have := (hH.rng x51 (List.mem_of_getElem? hx51)).2; omega) (by omega)) ?_
       rintro _ _ ⟨rfl, rfl⟩
       refine l_nil ?_
       refine h_next ?_
       refine h_one 14 rfl (by kernel_rfl) ?_
       refine o_call rfl cal34 rfl (few_ (n := x54.toNat) (k := 64) (by have := (hH.rng x54 (List.mem_of_getElem? hx54)).2; omega) (by omega)) ?_
       rintro _ _ ⟨rfl, rfl⟩
       refine l_nil ?_
       refine h_next ?_
       refine h_take 17 rfl rfl (by kernel_rfl) (by kernel_rfl) (by kernel_rfl) (fun L0 => v_build rfl sp35 ti35 rfl ((fill_cons (cells' := [.int .i64 (fewN x42.toNat 9 : Int), .int .i64 0, .int .i64 0, .int .i64 0, .int .i64 0, .int .u64 0, .string ByteArray.empty, .slice none 0 0]) rfl rfl rfl rfl (fill_cons (cells' := [.int .i64 (fewN x42.toNat 9 : Int), .int .i64 (fewN x45.toNat 8 : Int), .int .i64 0, .int .i64 0, .int .i64 0, .int .u64 0, .string ByteArray.empty, .slice none 0 0]) rfl rfl rfl rfl (fill_cons (cells' := [.int .i64 (fewN x42.toNat 9 : Int), .int .i64 (fewN x45.toNat 8 : Int), .int .i64 (fewN x48.toNat 8 : Int), .int .i64 0, .int .i64 0, .int .u64 0, .string ByteArray.empty, .slice none 0 0]) rfl rfl rfl rfl (fill_cons (cells' := [.int .i64 (fewN x42.toNat 9 : Int), .int .i64 (fewN x45.toNat 8 : Int), .int .i64 (fewN x48.toNat 8 : Int), .int .i64 (fewN x51.toNat 3 : Int), .int .i64 0, .int .u64 0, .string ByteArray.empty, .slice none 0 0]) rfl rfl rfl rfl (fill_cons (cells' := [.int .i64 (fewN x42.toNat 9 : Int), .int .i64 (fewN x45.toNat 8 : Int), .int .i64 (fewN x48.toNat 8 : Int), .int .i64 (fewN x51.toNat 3 : Int), .int .i64 (fewN x54.toNat 64 : Int), .int .u64 0, .string ByteArray.empty, .slice none 0 0]) rfl rfl rfl rfl (fill_cons (cells' := [.int .i64 (fewN x42.toNat 9 : Int), .int .i64 (fewN x45.toNat 8 : Int), .int .i64 (fewN x48.toNat 8 : Int), .int .i64 (fewN x51.toNat 3 : Int), .int .i64 (fewN x54.toNat 64 : Int), .int .u64 x57, .string ByteArray.empty, .slice none 0 0]) rfl rfl rfl rfl fill_nil)))))))) ?_
       refine h_one 19 rfl (by kernel_rfl) ?_
       refine l_f3 ?_
       refine o_storen rfl rfl ti35 rfl rfl rfl rfl ?_
       refine l_nil ?_
       refine q_conv (fun w S => S.perm p3) ?_
       refine q_conv (fun w S => S.perm p3) ?_
       refine q_conv (fun w S => S.perm p3) ?_
       refine h_next ?_
       refine h_done (by kernel_rfl) ?_
       refine q_conv (fun w S => S.perm p2) ?_
       refine q_conv (fun w S => S.perm p2) ?_
       refine q_conv (fun w S => S.perm p2) ?_
       refine q_conv (fun w S => S.perm p3) ?_
       exact q_mid (b10, x42, x45, x48, x51, x54, x57) (by exact six hH.len hx42 hx45 hx48 hx51 hx54 hx57) ⟨(by first | rfl | exact vint (by omega)), (by first | rfl | exact vint (by omega)), (by first | rfl | exact vint (by omega)), (by first | rfl | exact vint (by omega)), (by first | rfl | exact vint (by omega)), (by first | rfl | exact vint (by omega)), (by first | rfl | exact vint (by omega)), (by first | rfl | exact vint (by omega)), (by first | rfl | exact vint (by omega)), (by first | rfl | exact vint (by omega)), (by first | rfl | exact vint (by omega)), (by first | rfl | exact vint (by omega)), (by first | rfl | exact vint (by omega)), (by first | rfl | exact vint (by omega)), (by first | rfl | exact vint (by omega)), (by first | rfl | exact vint (by omega)), (by first | rfl | exact vint (by omega)), (by first | rfl | exact vint (by omega)), (by first | rfl | exact vint (by omega)), (by first | rfl | exact vint (by omega)), (by first | rfl | exact vint (by omega)), trivial⟩ (fun w S => S)
     · -- 18 comes first
      refine o_alloc rfl ti35 fun b10 => ?_
      refine l_nil ?_
      refine q_conv (fun w S => S.perm p3) ?_
      refine q_conv (fun w S => S.perm p3) ?_
      refine q_conv (fun w S => S.perm p3) ?_
      refine h_next ?_
      refine h_one 8 rfl (by kernel_rfl) ?_
      refine o_call rfl cal34 rfl (few_ (n := x48.toNat) (k := 8) (by have := (hH.rng x48 (List.mem_of_getElem? hx48)).2; omega) (by omega)) ?_
      rintro _ _ ⟨rfl, rfl⟩
      refine l_nil ?_
      refine h_next ?_
      refine h_one 11 rfl (by kernel_rfl) ?_
      refine o_call rfl cal34 rfl (few_ (n := x51.toNat) (k := 3) (by have := (hH.rng x51 (List.mem_of_getElem? hx51)).2; omega) (by omega)) ?_
      rintro _ _ ⟨rfl, rfl⟩
      refine l_nil ?_
      refine h_next ?_
      refine h_one 14 rfl (by kernel_rfl) ?_
      refine o_call rfl cal34 rfl (few_ (n := x54.toNat) (k := 64) (by have := (hH.rng x54 (List.mem_of_getElem? hx54)).2; omega) (by omega)) ?_
      rintro _ _ ⟨rfl, rfl⟩
      refine l_nil ?_
      refine h_next ?_
      refine h_take 17 rfl rfl (by kernel_rfl) (by kernel_rfl) (by kernel_rfl) (fun L0 => v_build rfl sp35 ti35 rfl ((fill_cons (cells' := [.int .i64 (fewN x42.toNat 9 : Int), .int .i64 0, .int .i64 0, .int .i64 0, .int .i64 0, .int .u64 0, .string ByteArray.empty, .slice none 0 0]) rfl rfl rfl rfl (fill_cons (cells' := [.int .i64 (fewN x42.toNat 9 : Int), .int .i64 (fewN x45.toNat 8 : Int), .int .i64 0, .int .i64 0, .int .i64 0, .int .u64 0, .string ByteArray.empty, .slice none 0 0]) rfl rfl rfl rfl (fill_cons (cells' := [.int .i64 (fewN x42.toNat 9 : Int), .int .i64 (fewN x45.toNat 8 : Int), .int .i64 (fewN x48.toNat 8 : Int), .int .i64 0, .int .i64 0, .int .u64 0, .string ByteArray.empty, .slice none 0 0]) rfl rfl rfl rfl (fill_cons (cells' := [.int .i64 (fewN x42.toNat 9 : Int), .int .i64 (fewN x45.toNat 8 : Int), .int .i64 (fewN x48.toNat 8 : Int), .int .i64 (fewN x51.toNat 3 : Int), .int .i64 0, .int .u64 0, .string ByteArray.empty, .slice none 0 0]) rfl rfl rfl rfl (fill_cons (cells' := [.int .i64 (fewN x42.toNat 9 : Int), .int .i64 (fewN x45.toNat 8 : Int), .int .i64 (fewN x48.toNat 8 : Int), .int .i64 (fewN x51.toNat 3 : Int), .int .i64 (fewN x54.toNat 64 : Int), .int .u64 0, .string ByteArray.empty, .slice none 0 0]) rfl rfl rfl rfl (fill_cons (cells' := [.int .i64 (fewN x42.toNat 9 : Int), .int .i64 (fewN x45.toNat 8 : Int), .int .i64 (fewN x48.toNat 8 : Int), .int .i64 (fewN x51.toNat 3 : Int), .int .i64 (fewN x54.toNat 64 : Int), .int .u64 x57, .string ByteArray.empty, .slice none 0 0]) rfl rfl rfl rfl fill_nil)))))))) ?_
      refine h_one 19 rfl (by kernel_rfl) ?_
      refine l_f3 ?_
      refine o_storen rfl rfl ti35 rfl rfl rfl rfl ?_
      refine l_nil ?_
      refine q_conv (fun w S => S.perm p3) ?_
      refine q_conv (fun w S => S.perm p3) ?_
      refine q_conv (fun w S => S.perm p3) ?_
      refine h_next ?_
      refine h_done (by kernel_rfl) ?_
      refine q_conv (fun w S => S.perm p2) ?_
      refine q_conv (fun w S => S.perm p2) ?_
      refine q_conv (fun w S => S.perm p2) ?_
      refine q_conv (fun w S => S.perm p3) ?_
      exact q_mid (b10, x42, x45, x48, x51, x54, x57) (by exact six hH.len hx42 hx45 hx48 hx51 hx54 hx57) ⟨(by first | rfl | exact vint (by omega)), (by first | rfl | exact vint (by omega)), (by first | rfl | exact vint (by omega)), (by first | rfl | exact vint (by omega)), (by first | rfl | exact vint (by omega)), (by first | rfl | exact vint (by omega)), (by first | rfl | exact vint (by omega)), (by first | rfl | exact vint (by omega)), (by first | rfl | exact vint (by omega)), (by first | rfl | exact vint (by omega)), (by first | rfl | exact vint (by omega)), (by first | rfl | exact vint (by omega)), (by first | rfl | exact vint (by omega)), (by first | rfl | exact vint (by omega)), (by first | rfl | exact vint (by omega)), (by first | rfl | exact vint (by omega)), (by first | rfl | exact vint (by omega)), (by first | rfl | exact vint (by omega)), (by first | rfl | exact vint (by omega)), (by first | rfl | exact vint (by omega)), (by first | rfl | exact vint (by omega)), trivial⟩ (fun w S => S)
    · -- 18 comes first
     refine o_alloc rfl ti35 fun b10 => ?_
     refine l_nil ?_
     refine q_conv (fun w S => S.perm p3) ?_
     refine q_conv (fun w S => S.perm p3) ?_
     refine q_conv (fun w S => S.perm p3) ?_
     refine h_next ?_
     refine h_one 5 rfl (by kernel_rfl) ?_
     refine o_call rfl cal34 rfl (few_ (n := x45.toNat) (k := 8) (by have := (hH.rng x45 (List.mem_of_getElem? hx45)).2; omega) (by omega)) ?_
     rintro _ _ ⟨rfl, rfl⟩
     refine l_nil ?_
     refine h_next ?_
     refine h_one 8 rfl (by kernel_rfl) ?_
     refine o_call rfl cal34 rfl (few_ (n := x48.toNat) (k := 8) (by have := (hH.rng x48 (List.mem_of_getElem? hx48)).2; omega) (by omega)) ?_
     rintro _ _ ⟨rfl, rfl⟩
     refine l_nil ?_
     refine h_next ?_
     refine h_one 11 rfl (by kernel_rfl) ?_
     refine o_call rfl cal34 rfl (few_ (n := x51.toNat) (k := 3) (by have := (hH.rng x51 (List.mem_of_getElem? hx51)).2; omega) (by omega)) ?_
     rintro _ _ ⟨rfl, rfl⟩
     refine l_nil ?_
     refine h_next ?_
     refine h_one 14 rfl (by kernel_rfl) ?_
     refine o_call rfl cal34 rfl (few_ (n := x54.toNat) (k := 64) (by have := (hH.rng x54 (List.mem_of_getElem? hx54)).2; omega) (by omega)) ?_
     rintro _ _ ⟨rfl, rfl⟩
     refine l_nil ?_
     refine h_next ?_
     refine h_take 17 rfl rfl (by kernel_rfl) (by kernel_rfl) (by kernel_rfl) (fun L0 => v_build rfl sp35 ti35 rfl ((fill_cons (cells' := [.int .i64 (fewN x42.toNat 9 : Int), .int .i64 0, .int .i64 0, .int .i64 0, .int .i64 0, .int .u64 0, .string ByteArray.empty, .slice none 0 0]) rfl rfl rfl rfl (fill_cons (cells' := [.int .i64 (fewN x42.toNat 9 : Int), .int .i64 (fewN x45.toNat 8 : Int), .int .i64 0, .int .i64 0, .int .i64 0, .int .u64 0, .string ByteArray.empty, .slice none 0 0]) rfl rfl rfl rfl (fill_cons (cells' := [.int .i64 (fewN x42.toNat 9 : Int), .int .i64 (fewN x45.toNat 8 : Int), .int .i64 (fewN x48.toNat 8 : Int), .int .i64 0, .int .i64 0, .int .u64 0, .string ByteArray.empty, .slice none 0 0]) rfl rfl rfl rfl (fill_cons (cells' := [.int .i64 (fewN x42.toNat 9 : Int), .int .i64 (fewN x45.toNat 8 : Int), .int .i64 (fewN x48.toNat 8 : Int), .int .i64 (fewN x51.toNat 3 : Int), .int .i64 0, .int .u64 0, .string ByteArray.empty, .slice none 0 0]) rfl rfl rfl rfl (fill_cons (cells' := [.int .i64 (fewN x42.toNat 9 : Int), .int .i64 (fewN x45.toNat 8 : Int), .int .i64 (fewN x48.toNat 8 : Int), .int .i64 (fewN x51.toNat 3 : Int), .int .i64 (fewN x54.toNat 64 : Int), .int .u64 0, .string ByteArray.empty, .slice none 0 0]) rfl rfl rfl rfl (fill_cons (cells' := [.int .i64 (fewN x42.toNat 9 : Int), .int .i64 (fewN x45.toNat 8 : Int), .int .i64 (fewN x48.toNat 8 : Int), .int .i64 (fewN x51.toNat 3 : Int), .int .i64 (fewN x54.toNat 64 : Int), .int .u64 x57, .string ByteArray.empty, .slice none 0 0]) rfl rfl rfl rfl fill_nil)))))))) ?_
     refine h_one 19 rfl (by kernel_rfl) ?_
     refine l_f3 ?_
     refine o_storen rfl rfl ti35 rfl rfl rfl rfl ?_
     refine l_nil ?_
     refine q_conv (fun w S => S.perm p3) ?_
     refine q_conv (fun w S => S.perm p3) ?_
     refine q_conv (fun w S => S.perm p3) ?_
     refine h_next ?_
     refine h_done (by kernel_rfl) ?_
     refine q_conv (fun w S => S.perm p2) ?_
     refine q_conv (fun w S => S.perm p2) ?_
     refine q_conv (fun w S => S.perm p2) ?_
     refine q_conv (fun w S => S.perm p3) ?_
     exact q_mid (b10, x42, x45, x48, x51, x54, x57) (by exact six hH.len hx42 hx45 hx48 hx51 hx54 hx57) ⟨(by first | rfl | exact vint (by omega)), (by first | rfl | exact vint (by omega)), (by first | rfl | exact vint (by omega)), (by first | rfl | exact vint (by omega)), (by first | rfl | exact vint (by omega)), (by first | rfl | exact vint (by omega)), (by first | rfl | exact vint (by omega)), (by first | rfl | exact vint (by omega)), (by first | rfl | exact vint (by omega)), (by first | rfl | exact vint (by omega)), (by first | rfl | exact vint (by omega)), (by first | rfl | exact vint (by omega)), (by first | rfl | exact vint (by omega)), (by first | rfl | exact vint (by omega)), (by first | rfl | exact vint (by omega)), (by first | rfl | exact vint (by omega)), (by first | rfl | exact vint (by omega)), (by first | rfl | exact vint (by omega)), (by first | rfl | exact vint (by omega)), (by first | rfl | exact vint (by omega)), (by first | rfl | exact vint (by omega)), trivial⟩ (fun w S => S)
   · -- 18 comes first
    refine o_alloc rfl ti35 fun b10 => ?_
    refine l_nil ?_
    refine q_conv (fun w S => S.perm p3) ?_
    refine q_conv (fun w S => S.perm p3) ?_
    refine q_conv (fun w S => S.perm p3) ?_
    refine h_next ?_
    refine h_one 2 rfl (by kernel_rfl) ?_
    refine o_call rfl cal34 rfl (few_ (n := x42.toNat) (k := 9) (by have := (hH.rng x42 (List.mem_of_getElem? hx42)).2; omega) (by omega)) ?_
    rintro _ _ ⟨rfl, rfl⟩
    refine l_nil ?_
    refine h_next ?_
    refine h_one 5 rfl (by kernel_rfl) ?_
    refine o_call rfl cal34 rfl (few_ (n := x45.toNat) (k := 8) (by have := (hH.rng x45 (List.mem_of_getElem? hx45)).2; omega) (by omega)) ?_
    rintro _ _ ⟨rfl, rfl⟩
    refine l_nil ?_
    refine h_next ?_
    refine h_one 8 rfl (by kernel_rfl) ?_
    refine o_call rfl cal34 rfl (few_ (n := x48.toNat) (k := 8) (by have := (hH.rng x48 (List.mem_of_getElem? hx48)).2; omega) (by omega)) ?_
    rintro _ _ ⟨rfl, rfl⟩
    refine l_nil ?_
    refine h_next ?_
    refine h_one 11 rfl (by kernel_rfl) ?_
    refine o_call rfl cal34 rfl (few_ (n := x51.toNat) (k := 3) (by have := (hH.rng x51 (List.mem_of_getElem? hx51)).2; omega) (by omega)) ?_
    rintro _ _ ⟨rfl, rfl⟩
    refine l_nil ?_
    refine h_next ?_
    refine h_one 14 rfl (by kernel_rfl) ?_
    refine o_call rfl cal34 rfl (few_ (n := x54.toNat) (k := 64) (by have := (hH.rng x54 (List.mem_of_getElem? hx54)).2; omega) (by omega)) ?_
    rintro _ _ ⟨rfl, rfl⟩
    refine l_nil ?_
    refine h_next ?_
    refine h_take 17 rfl rfl (by kernel_rfl) (by kernel_rfl) (by kernel_rfl) (fun L0 => v_build rfl sp35 ti35 rfl ((fill_cons (cells' := [.int .i64 (fewN x42.toNat 9 : Int), .int .i64 0, .int .i64 0, .int .i64 0, .int .i64 0, .int .u64 0, .string ByteArray.empty, .slice none 0 0]) rfl rfl rfl rfl (fill_cons (cells' := [.int .i64 (fewN x42.toNat 9 : Int), .int .i64 (fewN x45.toNat 8 : Int), .int .i64 0, .int .i64 0, .int .i64 0, .int .u64 0, .string ByteArray.empty, .slice none 0 0]) rfl rfl rfl rfl (fill_cons (cells' := [.int .i64 (fewN x42.toNat 9 : Int), .int .i64 (fewN x45.toNat 8 : Int), .int .i64 (fewN x48.toNat 8 : Int), .int .i64 0, .int .i64 0, .int .u64 0, .string ByteArray.empty, .slice none 0 0]) rfl rfl rfl rfl (fill_cons (cells' := [.int .i64 (fewN x42.toNat 9 : Int), .int .i64 (fewN x45.toNat 8 : Int), .int .i64 (fewN x48.toNat 8 : Int), .int .i64 (fewN x51.toNat 3 : Int), .int .i64 0, .int .u64 0, .string ByteArray.empty, .slice none 0 0]) rfl rfl rfl rfl (fill_cons (cells' := [.int .i64 (fewN x42.toNat 9 : Int), .int .i64 (fewN x45.toNat 8 : Int), .int .i64 (fewN x48.toNat 8 : Int), .int .i64 (fewN x51.toNat 3 : Int), .int .i64 (fewN x54.toNat 64 : Int), .int .u64 0, .string ByteArray.empty, .slice none 0 0]) rfl rfl rfl rfl (fill_cons (cells' := [.int .i64 (fewN x42.toNat 9 : Int), .int .i64 (fewN x45.toNat 8 : Int), .int .i64 (fewN x48.toNat 8 : Int), .int .i64 (fewN x51.toNat 3 : Int), .int .i64 (fewN x54.toNat 64 : Int), .int .u64 x57, .string ByteArray.empty, .slice none 0 0]) rfl rfl rfl rfl fill_nil)))))))) ?_
    refine h_one 19 rfl (by kernel_rfl) ?_
    refine l_f3 ?_
    refine o_storen rfl rfl ti35 rfl rfl rfl rfl ?_
    refine l_nil ?_
    refine q_conv (fun w S => S.perm p3) ?_
    refine q_conv (fun w S => S.perm p3) ?_
    refine q_conv (fun w S => S.perm p3) ?_
    refine h_next ?_
    refine h_done (by kernel_rfl) ?_
    refine q_conv (fun w S => S.perm p2) ?_
    refine q_conv (fun w S => S.perm p2) ?_
    refine q_conv (fun w S => S.perm p2) ?_
    refine q_conv (fun w S => S.perm p3) ?_
    exact q_mid (b10, x42, x45, x48, x51, x54, x57) (by exact six hH.len hx42 hx45 hx48 hx51 hx54 hx57) ⟨(by first | rfl | exact vint (by omega)), (by first | rfl | exact vint (by omega)), (by first | rfl | exact vint (by omega)), (by first | rfl | exact vint (by omega)), (by first | rfl | exact vint (by omega)), (by first | rfl | exact vint (by omega)), (by first | rfl | exact vint (by omega)), (by first | rfl | exact vint (by omega)), (by first | rfl | exact vint (by omega)), (by first | rfl | exact vint (by omega)), (by first | rfl | exact vint (by omega)), (by first | rfl | exact vint (by omega)), (by first | rfl | exact vint (by omega)), (by first | rfl | exact vint (by omega)), (by first | rfl | exact vint (by omega)), (by first | rfl | exact vint (by omega)), (by first | rfl | exact vint (by omega)), (by first | rfl | exact vint (by omega)), (by first | rfl | exact vint (by omega)), (by first | rfl | exact vint (by omega)), (by first | rfl | exact vint (by omega)), trivial⟩ (fun w S => S)
  · -- behind the cut
   rintro ⟨b10, x42, x45, x48, x51, x54, x57⟩ hls
   try dsimp only at *
   refine c_seq ?_
   refine c_region ?_
   refine o_move rfl rfl ?_
   refine l_f2 ?_
   refine o_call rfl cal35 rfl (rtext_ hs hH.at_ hsm hcc) ?_
   rintro _ _ ⟨out62, a62, c62, j62, ys62, hout62, hj62, rfl, rfl⟩
   have at62 : At bs j62 ys62 := by rw [hj62.1, hj62.2]; exact hH.at_.text
   refine o_move rfl rfl ?_
   refine o_extract rfl rfl rfl ?_
   refine o_extract rfl rfl rfl ?_
   refine o_assign rfl rfl ?_
   refine o_assign rfl rfl ?_
   refine l_nil ?_
   refine q_then ?_
   refine c_seq ?_
   refine c_region ?_
   refine o_move rfl rfl ?_
   refine l_f1 ?_
   refine o_call rfl cal33 rfl (rnum_ hs at62 hsm hcc) ?_
   rintro _ _ ⟨j67, ys67, hj67, rfl, rfl⟩
   have at67 : At bs j67 ys67 := by rw [hj67.1, hj67.2]; exact at62.num
   have hbn := hH.bnd
   have hu67 := numR_used ys62 0 0
   have hu62 := textR_err31 ys
   refine o_move rfl rfl ?_
   refine o_extract rfl rfl rfl ?_
   refine o_extract rfl rfl rfl ?_
   refine o_assign rfl rfl ?_
   refine o_assign rfl rfl ?_
   refine l_nil ?_
   refine q_then ?_
   refine c_seq ?_
   refine c_region ?_
   refine o_move rfl rfl ?_
   refine o_move rfl rfl ?_
   refine o_move rfl rfl ?_
   refine o_bin rfl rfl rfl (b_add (wrap_i64 (by omega) (by omega))) ?_
   refine o_bin rfl rfl rfl (b_add (wrap_i64 (by omega) (by omega))) ?_
   refine o_assign rfl rfl ?_
   refine l_nil ?_
   refine q_then ?_
   refine c_seq ?_
   refine c_nilrow e_RVote ?_
   refine c_region ?_
   refine o_move rfl rfl ?_
   refine o_bytesStr (e := e8) rfl rfl rfl Try.underlying28 Try.underlying5 Try.underlying9 (rds_own e8_ok 2 rfl) ?_
   refine l_eq (t := 76) (v' := .string (bts (textR ys).1)) rfl (by rw [hout62]) ?_
   refine o_fieldAddr (q := ⟨b10, 6, none⟩) rfl rfl Try.underlying35 rfl ti9 rfl ?_
   refine l_f3 ?_
   refine o_store1 rfl rfl rfl ti9 rfl rfl ?_
   refine l_nil ?_
   refine q_then ?_
   refine c_seq ?_
   refine c_block ?_
   refine c_loop (α := Nat × Nat × Nat × (List UInt8) × (List RVote) × (Option Addr) × Nat) (fun z => [(0, .slice a (bs).length c), (2, .pointer (some ⟨b2, 0, none⟩)), (4, .pointer (some ⟨b25, 0, none⟩)), (5, .int .i64 (z.2.1 : Int)), (10, .pointer (some ⟨b10, 0, none⟩)), (13, .int .u64 (z.1 : Int))]) (fun z => blk b10 (.cells #[.int .i64 (fewN x42.toNat 9 : Int), .int .i64 (fewN x45.toNat 8 : Int), .int .i64 (fewN x48.toNat 8 : Int), .int .i64 (fewN x51.toNat 3 : Int), .int .i64 (fewN x54.toNat 64 : Int), .int .u64 x57, .string (bts (textR ys).1), .slice z.2.2.2.2.2.1 (z.2.2.2.2.1).length z.2.2.2.2.2.2] 35 (0, 0)) :: row e_RVote.T e_RVote.sz z.2.2.2.2.2.1 (z.2.2.2.2.1).length z.2.2.2.2.2.2 (flat e_RVote z.2.2.2.2.1) :: blk b25 (.cells #[.slice a (bs).length c, .int .i64 (z.2.2.1 : Int)] 76 (0, 0)) :: row e8.T e8.sz a62 (out62).length c62 (flat e8 out62) :: blk b6 (.cells (flat e_U64 ls).toArray 60 (0, 0)) :: blk b2 (.cells #[.int .i64 0, .int .i64 0, .int .i64 0, .int .i64 0, .int .i64 0, .int .u64 0, .string ByteArray.empty, .slice none 0 0] 35 (0, 0)) :: F) (fun z => RInv bs ([x42, x45, x48, x51, x54, x57].flatMap nB ++ textB (bts (textR ys).1) ++ numB (numR 0 0 ys62).1) (numR 0 0 ys62).1 z.1 z.2.1 z.2.2.1 z.2.2.2.2.1 z.2.2.2.1) (fun z => z.1) ((numR 0 0 ys62).1, (bad + ((textR ys).2.1 + (numR 0 0 ys62).2.1)), j67, ys67, [], none, 0) (by exact (by rw [hj67.1, hj62.1]; exact head_start hH6 hls hj62.2 hj67.2)) ⟨(by first | rfl | exact vint (by omega)), (by first | rfl | exact vint (by omega)), (by first | rfl | exact vint (by omega)), (by first | rfl | exact vint (by (try dsimp only); omega)), (by first | rfl | exact vint (by omega)), (by first | rfl | exact vint (by omega)), trivial⟩ (fun w S => S) ?_
   rintro ⟨n, bad2, e2, ys2, vs, av, cv⟩ hR
   try dsimp only at *
   have hn64 := hR.n64
   have hcn := hR.cnt
   have hb2 := hR.bnd
   refine c_seq ?_
   refine c_seq ?_
   refine c_region ?_
   refine o_move rfl rfl ?_
   refine o_bin rfl rfl rfl b_gtr ?_
   refine o_move rfl rfl ?_
   refine l_split (t := 80) rfl (fun h2 => ?_) (fun h2 => ?_)
   · -- h2T
    have h2b := h2
    try simp only [decide_eq_true_eq] at h2
    refine o_yes rfl rfl rfl ?_
    refine o_move rfl rfl ?_
    refine o_yes rfl rfl rfl ?_
    refine o_bin rfl rfl rfl b_eql ?_
    refine o_pick_true rfl rfl rfl ?_
    refine l_nil ?_
    refine q_then ?_
    refine c_cond rfl (fun h3 => ?_) (fun h3 => ?_)
    · -- h3T
     have h3b := h3
     try simp only [decide_eq_true_eq] at h3
     refine c_skip ?_
     refine q_then ?_
     refine c_seq ?_
     refine c_block ?_
     refine c_seq ?_
     refine c_region ?_
     refine o_move rfl rfl ?_
     refine l_f2 ?_
     refine o_call rfl cal33 rfl (rnum_ hs hR.at_ hsm hcc) ?_
     rintro _ _ ⟨j88, ys88, hj88, rfl, rfl⟩
     have at88 : At bs j88 ys88 := by rw [hj88.1, hj88.2]; exact hR.at_.num
     refine o_move rfl rfl ?_
     refine o_extract rfl rfl rfl ?_
     refine o_extract rfl rfl rfl ?_
     refine o_assign rfl rfl ?_
     refine o_assign rfl rfl ?_
     refine l_nil ?_
     refine q_then ?_
     refine c_seq ?_
     refine c_region ?_
     refine o_move rfl rfl ?_
     refine o_call rfl cal33 rfl (rnum_ hs at88 hsm hcc) ?_
     rintro _ _ ⟨j93, ys93, hj93, rfl, rfl⟩
     have at93 : At bs j93 ys93 := by rw [hj93.1, hj93.2]; exact at88.num
     refine o_move rfl rfl ?_
     refine o_extract rfl rfl rfl ?_
     refine o_extract rfl rfl rfl ?_
     refine o_assign rfl rfl ?_
     refine o_assign rfl rfl ?_
     refine l_nil ?_
     refine q_then ?_
     refine c_seq ?_
     refine c_region ?_
     refine o_move rfl rfl ?_
     refine o_call rfl cal35 rfl (rtext_ hs at93 hsm hcc) ?_
     rintro _ _ ⟨out98, a98, c98, j98, ys98, hout98, hj98, rfl, rfl⟩
     have at98 : At bs j98 ys98 := by rw [hj98.1, hj98.2]; exact at93.text
     have hu88 := numR_used ys2 0 0
     have hu93 := numR_used ys88 0 0
     have hu98 := textR_err31 ys93
     refine o_move rfl rfl ?_
     refine o_extract rfl rfl rfl ?_
     refine o_extract rfl rfl rfl ?_
     refine o_assign rfl rfl ?_
     refine o_assign rfl rfl ?_
     refine l_nil ?_
     refine q_then ?_
     refine c_seq ?_
     refine c_region ?_
     refine o_move rfl rfl ?_
     refine o_move rfl rfl ?_
     refine o_move rfl rfl ?_
     refine o_bin rfl rfl rfl (b_add (wrap_i64 (by omega) (by omega))) ?_
     refine o_move rfl rfl ?_
     refine o_bin rfl rfl rfl (b_add (wrap_i64 (by omega) (by omega))) ?_
     refine o_bin rfl rfl rfl (b_add (wrap_i64 (by omega) (by omega))) ?_
     refine o_assign rfl rfl ?_
     refine l_nil ?_
     refine q_then ?_
     refine c_conv (fun w S => S.perm p3) ?_
     refine c_conv (fun w S => S.perm p3) ?_
     refine c_conv (fun w S => S.perm p6) ?_
     refine c_conv (fun w S => S.perm p6) ?_
     refine c_conv (fun w S => S.perm p6) ?_
     refine c_conv (fun w S => S.perm p6) ?_
     refine c_conv (fun w S => S.perm p6) ?_
     refine c_held [row e8.T e8.sz a98 (out98).length c98 (flat e8 out98), blk b25 (.cells #[.slice a (bs).length c, .int .i64 (j98 : Int)] 76 (0, 0)), row e8.T e8.sz a62 (out62).length c62 (flat e8 out62), blk b6 (.cells (flat e_U64 ls).toArray 60 (0, 0)), blk b2 (.cells #[.int .i64 0, .int .i64 0, .int .i64 0, .int .i64 0, .int .i64 0, .int .u64 0, .string ByteArray.empty, .slice none 0 0] 35 (0, 0))] (by kernel_rfl) rfl ?_
     refine h_take 0 rfl rfl (by kernel_rfl) (by kernel_rfl) (by kernel_rfl) (fun L0 => v_fieldAddr (q := ⟨b10, 7, none⟩) rfl rfl Try.underlying35 rfl ti33 rfl) ?_
     refine h_take 2 rfl rfl (by kernel_rfl) (by kernel_rfl) (by kernel_rfl) (fun L0 => v_move rfl rfl) ?_
     refine h_take 4 rfl rfl (by kernel_rfl) (by kernel_rfl) (by kernel_rfl) (fun L0 => v_move rfl rfl) ?_
     refine h_take 5 rfl rfl (by kernel_rfl) (by kernel_rfl) (by kernel_rfl) (fun L0 => v_move rfl rfl) ?_
     refine h_take 6 rfl rfl (by kernel_rfl) (by kernel_rfl) (by kernel_rfl) (fun L0 => v_bytesStr (e := e8) rfl rfl rfl Try.underlying28 Try.underlying5 Try.underlying9 (rds_own e8_ok 0 rfl)) ?_
     refine h_eq (t := 114) (v' := .string (bts (textR ys93).1)) rfl (by rw [hout98]) ?_
     refine h_many (is := [1, 3]) (by kernel_rfl) (by decide) (forall_cons ⟨_, rfl, ?_⟩ (forall_cons ⟨_, rfl, ?_⟩ forall_nil))
     · -- 1 comes first
      refine o_load1 rfl rfl Try.underlying33 rfl (rd_mem 5 rfl rfl) ?_
      refine l_nil ?_
      refine h_next ?_
      refine h_one 3 rfl (by kernel_rfl) ?_
      refine o_call rfl cal34 rfl (few_ (n := (numR 0 0 ys2).1) (k := 63) (numR_lt ys2 0 0 (by omega) (by omega)) (by omega)) ?_
      rintro _ _ ⟨rfl, rfl⟩
      refine l_nil ?_
      refine h_next ?_
      refine h_take 7 rfl rfl (by kernel_rfl) (by kernel_rfl) (by kernel_rfl) (fun L0 => v_build rfl sp58 ti58 rfl ((fill_cons (cells' := [.int .i64 (fewN ((numR 0 0 ys2).1) 63 : Int), .int .u64 0, .string ByteArray.empty]) rfl rfl rfl rfl (fill_cons (cells' := [.int .i64 (fewN ((numR 0 0 ys2).1) 63 : Int), .int .u64 ((numR 0 0 ys88).1 : Int), .string ByteArray.empty]) rfl rfl rfl rfl (fill_cons (cells' := [.int .i64 (fewN ((numR 0 0 ys2).1) 63 : Int), .int .u64 ((numR 0 0 ys88).1 : Int), .string (bts (textR ys93).1)]) rfl rfl rfl rfl fill_nil))))) ?_
      refine h_one 8 rfl (by kernel_rfl) ?_
      refine o_lit e_RVote_ok rfl Try.underlying33 rfl rfl rfl (lit_ok rfl) [⟨(fewN ((numR 0 0 ys2).1) 63 : Int), ((numR 0 0 ys88).1 : Int), bts (textR ys93).1⟩] rfl rfl fun a116 => ?_
      refine l_nil ?_
      refine q_conv (fun w S => S.perm p7) ?_
      refine q_conv (fun w S => S.perm p7) ?_
      refine q_conv (fun w S => S.perm p2) ?_
      refine q_conv (fun w S => S.perm p7) ?_
      refine q_conv (fun w S => S.perm p7) ?_
      refine q_conv (fun w S => S.perm p7) ?_
      refine q_conv (fun w S => S.perm p7) ?_
      refine q_conv (fun w S => S.perm p7) ?_
      refine h_next ?_
      refine h_one 9 rfl (by kernel_rfl) ?_
      refine l_f7 ?_
      refine o_append e_RVote_ok rfl rfl rfl Try.underlying33 (rds_own e_RVote_ok 6 rfl) (by have := hR.len; show (_ + _) * _ ≤ _; simp only [List.length_cons, List.length_nil]; omega) (by have := hR.len; simp only [List.length_cons, List.length_nil]; omega) fun a117 c117 => ?_
      refine l_f6 ?_
      refine l_drop ?_
      refine l_nil ?_
      refine q_conv (fun w S => S.perm p6) ?_
      refine q_conv (fun w S => S.perm p1) ?_
      refine q_conv (fun w S => S.perm p6) ?_
      refine q_conv (fun w S => S.perm p6) ?_
      refine q_conv (fun w S => S.perm p6) ?_
      refine q_conv (fun w S => S.perm p6) ?_
      refine q_conv (fun w S => S.perm p6) ?_
      refine h_next ?_
      refine h_take 10 rfl rfl (by kernel_rfl) (by kernel_rfl) (by kernel_rfl) (fun L0 => v_fieldAddr (q := ⟨b10, 7, none⟩) rfl rfl Try.underlying35 rfl ti33 rfl) ?_
      refine h_one 11 rfl (by kernel_rfl) ?_
      refine l_f6 ?_
      refine o_store1 rfl rfl rfl ti33 rfl rfl ?_
      refine l_nil ?_
      refine q_conv (fun w S => S.perm p6) ?_
      refine q_conv (fun w S => S.perm p1) ?_
      refine q_conv (fun w S => S.perm p6) ?_
      refine q_conv (fun w S => S.perm p6) ?_
      refine q_conv (fun w S => S.perm p6) ?_
      refine q_conv (fun w S => S.perm p6) ?_
      refine q_conv (fun w S => S.perm p6) ?_
      refine h_next ?_
      refine h_done (by kernel_rfl) ?_
      refine q_block ?_
      refine q_then ?_
      refine c_region ?_
      refine o_move rfl rfl ?_
      refine o_bin rfl rfl rfl (b_sub (show IntKind.u64.wrap ((n : Int) - 1) = ((n - 1 : Nat) : Int) from by rw [wrap_u64 (by omega) (by omega)]; omega)) ?_
      refine o_assign rfl rfl ?_
      refine l_nil ?_
      refine q_conv (fun w S => S.tail) ?_
      refine q_conv (fun w S => S.perm p3) ?_
      refine q_conv (fun w S => S.perm p3) ?_
      refine q_conv (fun w S => S.perm p3) ?_
      refine q_conv (fun w S => S.perm p3) ?_
      refine q_conv (fun w S => S.perm p5) ?_
      refine q_conv (fun w S => S.perm p5) ?_
      exact q_round (n - 1, ((numR 0 0 ys2).2.1 + (numR 0 0 ys88).2.1 + (textR ys93).2.1), j98, ys98, vs ++ [(⟨(fewN ((numR 0 0 ys2).1) 63 : Int), ((numR 0 0 ys88).1 : Int), bts (textR ys93).1⟩ : RVote)], a117, c117) (by exact (by have hR0 := hR; rw [show bad2 = 0 by omega] at hR0; rw [hj98.1, hj93.1, hj88.1, hj98.2]; exact hR0.on (by omega) hj88.2 hj93.2)) (by (try dsimp only); omega) ⟨(by first | rfl | exact vint (by omega)), (by first | rfl | exact vint (by omega)), (by first | rfl | exact vint (by omega)), (vint (by (try dsimp only); omega)), (by first | rfl | exact vint (by omega)), (by first | rfl | exact vint (by omega)), trivial⟩ (fun w S => S)
     · -- 3 comes first
      refine o_call rfl cal34 rfl (few_ (n := (numR 0 0 ys2).1) (k := 63) (numR_lt ys2 0 0 (by omega) (by omega)) (by omega)) ?_
      rintro _ _ ⟨rfl, rfl⟩
      refine l_nil ?_
      refine h_next ?_
      refine h_take 7 rfl rfl (by kernel_rfl) (by kernel_rfl) (by kernel_rfl) (fun L0 => v_build rfl sp58 ti58 rfl ((fill_cons (cells' := [.int .i64 (fewN ((numR 0 0 ys2).1) 63 : Int), .int .u64 0, .string ByteArray.empty]) rfl rfl rfl rfl (fill_cons (cells' := [.int .i64 (fewN ((numR 0 0 ys2).1) 63 : Int), .int .u64 ((numR 0 0 ys88).1 : Int), .string ByteArray.empty]) rfl rfl rfl rfl (fill_cons (cells' := [.int .i64 (fewN ((numR 0 0 ys2).1) 63 : Int), .int .u64 ((numR 0 0 ys88).1 : Int), .string (bts (textR ys93).1)]) rfl rfl rfl rfl fill_nil))))) ?_
      refine h_many (is := [1, 8]) (by kernel_rfl) (by decide) (forall_cons ⟨_, rfl, ?_⟩ (forall_cons ⟨_, rfl, ?_⟩ forall_nil))
      · -- 1 comes first
       refine o_load1 rfl rfl Try.underlying33 rfl (rd_mem 5 rfl rfl) ?_
       refine l_nil ?_
       refine h_next ?_
       refine h_one 8 rfl (by kernel_rfl) ?_
       refine o_lit e_RVote_ok rfl Try.underlying33 rfl rfl rfl (lit_ok rfl) [⟨(fewN ((numR 0 0 ys2).1) 63 : Int), ((numR 0 0 ys88).1 : Int), bts (textR ys93).1⟩] rfl rfl fun a116 => ?_
       refine l_nil ?_
       refine q_conv (fun w S => S.perm p7) ?_
       refine q_conv (fun w S => S.perm p7) ?_
       refine q_conv (fun w S => S.perm p2) ?_
       refine q_conv (fun w S => S.perm p7) ?_
       refine q_conv (fun w S => S.perm p7) ?_
       refine q_conv (fun w S => S.perm p7) ?_
       refine q_conv (fun w S => S.perm p7) ?_
       refine q_conv (fun w S => S.perm p7) ?_
       refine h_next ?_
       refine h_one 9 rfl (by kernel_rfl) ?_
       refine l_f7 ?_
       refine o_append e_RVote_ok rfl rfl rfl Try.underlying33 (rds_own e_RVote_ok 6 rfl) (by have := hR.len; show (_ + _) * _ ≤ _; simp only [List.length_cons, List.length_nil]; omega) (by have := hR.len; simp only [List.length_cons, List.length_nil]; omega) fun a117 c117 => ?_
       refine l_f6 ?_
       refine l_drop ?_
       refine l_nil ?_
       refine q_conv (fun w S => S.perm p6) ?_
       refine q_conv (fun w S => S.perm p1) ?_
       refine q_conv (fun w S => S.perm p6) ?_
       refine q_conv (fun w S => S.perm p6) ?_
       refine q_conv (fun w S => S.perm p6) ?_
       refine q_conv (fun w S => S.perm p6) ?_
       refine q_conv (fun w S => S.perm p6) ?_
       refine h_next ?_
       refine h_take 10 rfl rfl (by kernel_rfl) (by kernel_rfl) (by kernel_rfl) (fun L0 => v_fieldAddr (q := ⟨b10, 7, none⟩) rfl rfl Try.underlying35 rfl ti33 rfl) ?_
       refine h_one 11 rfl (by kernel_rfl) ?_
       refine l_f6 ?_
       refine o_store1 rfl rfl rfl ti33 rfl rfl ?_
       refine l_nil ?_
       refine q_conv (fun w S => S.perm p6) ?_
       refine q_conv (fun w S => S.perm p1) ?_
       refine q_conv (fun w S => S.perm p6) ?_
       refine q_conv (fun w S => S.perm p6) ?_
       refine q_conv (fun w S => S.perm p6) ?_
       refine q_conv (fun w S => S.perm p6) ?_
       refine q_conv (fun w S => S.perm p6) ?_
       refine h_next ?_
       refine h_done (by kernel_rfl) ?_
       refine q_block ?_
       refine q_then ?_
       refine c_region ?_
       refine o_move rfl rfl ?_
       refine o_bin rfl rfl rfl (b_sub (show IntKind.u64.wrap ((n : Int) - 1) = ((n - 1 : Nat) : Int) from by rw [wrap_u64 (by omega) (by omega)]; omega)) ?_
       refine o_assign rfl rfl ?_
       refine l_nil ?_
       refine q_conv (fun w S => S.tail) ?_
       refine q_conv (fun w S => S.perm p3) ?_
       refine q_conv (fun w S => S.perm p3) ?_
       refine q_conv (fun w S => S.perm p3) ?_
       refine q_conv (fun w S => S.perm p3) ?_
       refine q_conv (fun w S => S.perm p5) ?_
       refine q_conv (fun w S => S.perm p5) ?_
       exact q_round (n - 1, ((numR 0 0 ys2).2.1 + (numR 0 0 ys88).2.1 + (textR ys93).2.1), j98, ys98, vs ++ [(⟨(fewN ((numR 0 0 ys2).1) 63 : Int), ((numR 0 0 ys88).1 : Int), bts (textR ys93).1⟩ : RVote)], a117, c117) (by exact (by have hR0 := hR; rw [show bad2 = 0 by omega] at hR0; rw [hj98.1, hj93.1, hj88.1, hj98.2]; exact hR0.on (by omega) hj88.2 hj93.2)) (by (try dsimp only); omega) ⟨(by first | rfl | exact vint (by omega)), (by first | rfl | exact vint (by omega)), (by first | rfl | exact vint (by omega)), (vint (by (try dsimp only); omega)), (by first | rfl | exact vint (by omega)), (by first | rfl | exact vint (by omega)), trivial⟩ (fun w S => S)
      · -- 8 comes first
       refine o_lit e_RVote_ok rfl Try.underlying33 rfl rfl rfl (lit_ok rfl) [⟨(fewN ((numR 0 0 ys2).1) 63 : Int), ((numR 0 0 ys88).1 : Int), bts (textR ys93).1⟩] rfl rfl fun a116 => ?_
       refine l_nil ?_
       refine q_conv (fun w S => S.perm p7) ?_
       refine q_conv (fun w S => S.perm p7) ?_
       refine q_conv (fun w S => S.perm p2) ?_
       refine q_conv (fun w S => S.perm p7) ?_
       refine q_conv (fun w S => S.perm p7) ?_
       refine q_conv (fun w S => S.perm p7) ?_
       refine q_conv (fun w S => S.perm p7) ?_
       refine q_conv (fun w S => S.perm p7) ?_
       refine h_next ?_
       refine h_one 1 rfl (by kernel_rfl) ?_
       refine o_load1 rfl rfl Try.underlying33 rfl (rd_mem 6 rfl rfl) ?_
       refine l_nil ?_
       refine h_next ?_
       refine h_one 9 rfl (by kernel_rfl) ?_
       refine l_f7 ?_
       refine o_append e_RVote_ok rfl rfl rfl Try.underlying33 (rds_own e_RVote_ok 6 rfl) (by have := hR.len; show (_ + _) * _ ≤ _; simp only [List.length_cons, List.length_nil]; omega) (by have := hR.len; simp only [List.length_cons, List.length_nil]; omega) fun a117 c117 => ?_
       refine l_f6 ?_
       refine l_drop ?_
       refine l_nil ?_
       refine q_conv (fun w S => S.perm p6) ?_
       refine q_conv (fun w S => S.perm p1) ?_
       refine q_conv (fun w S => S.perm p6) ?_
       refine q_conv (fun w S => S.perm p6) ?_
       refine q_conv (fun w S => S.perm p6) ?_
       refine q_conv (fun w S => S.perm p6) ?_
       refine q_conv (fun w S => S.perm p6) ?_
       refine h_next ?_
       refine h_take 10 rfl rfl (by kernel_rfl) (by kernel_rfl) (by kernel_rfl) (fun L0 => v_fieldAddr (q := ⟨b10, 7, none⟩) rfl rfl Try.underlying35 rfl ti33 rfl) ?_
       refine h_one 11 rfl (by kernel_rfl) ?_
       refine l_f6 ?_
       refine o_store1 rfl rfl rfl ti33 rfl rfl ?_
       refine l_nil ?_
       refine q_conv (fun w S => S.perm p6) ?_
       refine q_conv (fun w S => S.perm p1) ?_
       refine q_conv (fun w S => S.perm p6) ?_
       refine q_conv (fun w S => S.perm p6) ?_
       refine q_conv (fun w S => S.perm p6) ?_
       refine q_conv (fun w S => S.perm p6) ?_
       refine q_conv (fun w S => S.perm p6) ?_
       refine h_next ?_
       refine h_done (by kernel_rfl) ?_
       refine q_block ?_
       refine q_then ?_
       refine c_region ?_
       refine o_move rfl rfl ?_
       refine o_bin rfl rfl rfl (b_sub (show IntKind.u64.wrap ((n : Int) - 1) = ((n - 1 : Nat) : Int) from by rw [wrap_u64 (by omega) (by omega)]; omega)) ?_
       refine o_assign rfl rfl ?_
       refine l_nil ?_
       refine q_conv (fun w S => S.tail) ?_
       refine q_conv (fun w S => S.perm p3) ?_
       refine q_conv (fun w S => S.perm p3) ?_
       refine q_conv (fun w S => S.perm p3) ?_
       refine q_conv (fun w S => S.perm p3) ?_
       refine q_conv (fun w S => S.perm p5) ?_
       refine q_conv (fun w S => S.perm p5) ?_
       exact q_round (n - 1, ((numR 0 0 ys2).2.1 + (numR 0 0 ys88).2.1 + (textR ys93).2.1), j98, ys98, vs ++ [(⟨(fewN ((numR 0 0 ys2).1) 63 : Int), ((numR 0 0 ys88).1 : Int), bts (textR ys93).1⟩ : RVote)], a117, c117) (by exact (by have hR0 := hR; rw [show bad2 = 0 by omega] at hR0; rw [hj98.1, hj93.1, hj88.1, hj98.2]; exact hR0.on (by omega) hj88.2 hj93.2)) (by (try dsimp only); omega) ⟨(by first | rfl | exact vint (by omega)), (by first | rfl | exact vint (by omega)), (by first | rfl | exact vint (by omega)), (vint (by (try dsimp only); omega)), (by first | rfl | exact vint (by omega)), (by first | rfl | exact vint (by omega)), trivial⟩ (fun w S => S)
    · -- h3F
     have h3b := h3
     try simp only [decide_eq_false_iff_not, Int.not_lt, Int.not_le] at h3
     refine c_exit ?_
     refine q_pass_exit ?_
     refine q_pass_exit ?_
     refine q_hit ?_
     refine q_then ?_
     refine c_seq ?_
     obtain ⟨hr6, hk6⟩ := hyp6 hH6 hls
     have hnb : n = 0 ∨ bad2 ≠ 0 := by omega
     have hfh := final_hyp hk6 hR hnb (a := av) (c := cv)
     have hle2 := hR.at_.le
     have hb2 := hR.bnd
     refine c_region ?_
     refine o_move rfl rfl ?_
     refine o_nil rfl rfl ?_
     refine o_fieldAddr (q := ⟨b25, 1, none⟩) rfl rfl Try.underlying76 rfl ti3 rfl ?_
     refine o_load1 rfl rfl Try.underlying3 rfl (rd_mem 2 rfl rfl) ?_
     refine o_assign rfl rfl ?_
     refine l_nil ?_
     refine q_then ?_
     refine c_seq ?_
     refine c_region ?_
     refine o_move rfl rfl ?_
     refine l_f2 ?_
     refine o_call rfl cal33 rfl (rnum_ hs hR.at_ hsm hcc) ?_
     rintro _ _ ⟨j125, ys125, hj125, rfl, rfl⟩
     have at125 : At bs j125 ys125 := by rw [hj125.1, hj125.2]; exact hR.at_.num
     have hu125 := numR_used ys2 0 0
     refine o_move rfl rfl ?_
     refine o_extract rfl rfl rfl ?_
     refine o_extract rfl rfl rfl ?_
     refine o_assign rfl rfl ?_
     refine o_assign rfl rfl ?_
     refine l_nil ?_
     refine q_then ?_
     refine c_seq ?_
     refine c_seq ?_
     refine c_region ?_
     refine o_move rfl rfl ?_
     refine o_move rfl rfl ?_
     refine o_bin rfl rfl rfl (b_add (wrap_i64 (by omega) (by omega))) ?_
     refine o_bin rfl rfl rfl b_neq ?_
     refine o_move rfl rfl ?_
     refine l_split (t := 132) rfl (fun h4 => ?_) (fun h4 => ?_)
     · -- h4T
      have h4b := h4
      try simp only [Bool.not_eq_true', decide_eq_false_iff_not, Int.not_lt, Int.not_le] at h4
      refine o_no rfl rfl rfl rfl ?_
      refine o_no rfl rfl rfl rfl ?_
      refine o_no rfl rfl rfl rfl ?_
      refine o_pick_true rfl rfl rfl ?_
      refine o_move rfl rfl ?_
      refine o_no rfl rfl rfl rfl ?_
      refine o_no rfl rfl rfl rfl ?_
      refine o_no rfl rfl rfl rfl ?_
      refine o_no rfl rfl rfl rfl ?_
      refine o_no rfl rfl rfl rfl ?_
      refine o_no rfl rfl rfl rfl ?_
      refine o_no rfl rfl rfl rfl ?_
      refine o_pick_true rfl rfl rfl ?_
      refine o_move rfl rfl ?_
      refine o_no rfl rfl rfl rfl ?_
      refine o_no rfl rfl rfl rfl ?_
      refine o_no rfl rfl rfl rfl ?_
      refine o_pick_true rfl rfl rfl ?_
      refine l_nil ?_
      refine q_then ?_
      refine c_true rfl ?_
      refine c_seq ?_
      refine c_nilrow e_RVote ?_
      refine c_region ?_
      refine o_build rfl sp35 ti35 rfl rfl ?_
      refine l_f6 ?_
      refine o_storen rfl rfl ti35 rfl rfl rfl rfl ?_
      refine o_assign rfl rfl ?_
      refine l_nil ?_
      refine q_then ?_
      refine c_ret ?_
      refine q_pass_ret ?_
      refine f_retq (.inl rfl) (rs_2 rfl (rs_celln (vs := [.int .i64 0, .int .i64 0, .int .i64 0, .int .i64 0, .int .i64 0, .int .u64 0, .string ByteArray.empty, .slice none 0 0]) rfl Try.underlying35 rfl ti35 (rdn_lit 0 rfl rfl)) (rs_tmp rfl)) (fun w S => ?_)
      replace S := S.tail
      replace S := (S.perm p1).tail
      replace S := (S.perm p1).tail
      replace S := (S.perm p1).tail
      replace S := (S.perm p1).tail
      replace S := (S.perm p1).tail
      exact ⟨_, ⟨⟨0, 0, 0, 0, 0, 0, ByteArray.empty, ⟨none, [], 0⟩⟩, 31, .inr ⟨rfl, ⟨rfl, rfl, rfl, rfl, rfl, rfl, rfl, rfl⟩, fun m g => by obtain ⟨g1, g2, g3, g4, g5, g6⟩ := hfh m g; rw [← hj125.2] at g3; first | omega | (exact absurd (show ((endR ys125 : Nat) : Int) = 0 by rw [g3]; rfl) (by assumption)) | (rw [← hct] at g4; omega) | (exact absurd g5 (by assumption))⟩, rfl, rfl⟩, (fun w S => S) w S⟩
     · -- h4F
      have h4b := h4
      try simp only [Bool.not_eq_false', decide_eq_true_eq] at h4
      refine o_yes rfl rfl rfl ?_
      refine o_move rfl rfl ?_
      refine o_yes rfl rfl rfl ?_
      refine o_call rfl cal36 rfl (rEyeEnd hs at125.is at125.le (by omega) hcc) ?_
      rintro _ _ ⟨rfl, rfl⟩
      refine o_yes rfl rfl rfl ?_
      refine o_bin rfl rfl rfl b_neq ?_
      refine o_pick_false rfl rfl rfl ?_
      refine o_move rfl rfl ?_
      refine l_split (t := 137) rfl (fun h5 => ?_) (fun h5 => ?_)
      · -- h5T
       have h5b := h5
       try simp only [Bool.not_eq_true', decide_eq_false_iff_not, Int.not_lt, Int.not_le] at h5
       refine o_no rfl rfl rfl rfl ?_
       refine o_no rfl rfl rfl rfl ?_
       refine o_no rfl rfl rfl rfl ?_
       refine o_no rfl rfl rfl rfl ?_
       refine o_no rfl rfl rfl rfl ?_
       refine o_no rfl rfl rfl rfl ?_
       refine o_no rfl rfl rfl rfl ?_
       refine o_pick_true rfl rfl rfl ?_
       refine o_move rfl rfl ?_
       refine o_no rfl rfl rfl rfl ?_
       refine o_no rfl rfl rfl rfl ?_
       refine o_no rfl rfl rfl rfl ?_
       refine o_pick_true rfl rfl rfl ?_
       refine l_nil ?_
       refine q_then ?_
       refine c_true rfl ?_
       refine c_seq ?_
       refine c_nilrow e_RVote ?_
       refine c_region ?_
       refine o_build rfl sp35 ti35 rfl rfl ?_
       refine l_f6 ?_
       refine o_storen rfl rfl ti35 rfl rfl rfl rfl ?_
       refine o_assign rfl rfl ?_
       refine l_nil ?_
       refine q_then ?_
       refine c_ret ?_
       refine q_pass_ret ?_
       refine f_retq (.inl rfl) (rs_2 rfl (rs_celln (vs := [.int .i64 0, .int .i64 0, .int .i64 0, .int .i64 0, .int .i64 0, .int .u64 0, .string ByteArray.empty, .slice none 0 0]) rfl Try.underlying35 rfl ti35 (rdn_lit 0 rfl rfl)) (rs_tmp rfl)) (fun w S => ?_)
       replace S := S.tail
       replace S := (S.perm p1).tail
       replace S := (S.perm p1).tail
       replace S := (S.perm p1).tail
       replace S := (S.perm p1).tail
       replace S := (S.perm p1).tail
       exact ⟨_, ⟨⟨0, 0, 0, 0, 0, 0, ByteArray.empty, ⟨none, [], 0⟩⟩, 31, .inr ⟨rfl, ⟨rfl, rfl, rfl, rfl, rfl, rfl, rfl, rfl⟩, fun m g => by obtain ⟨g1, g2, g3, g4, g5, g6⟩ := hfh m g; rw [← hj125.2] at g3; first | omega | (exact absurd (show ((endR ys125 : Nat) : Int) = 0 by rw [g3]; rfl) (by assumption)) | (rw [← hct] at g4; omega) | (exact absurd g5 (by assumption))⟩, rfl, rfl⟩, (fun w S => S) w S⟩
      · -- h5F
       have h5b := h5
       try simp only [Bool.not_eq_false', decide_eq_true_eq] at h5
       refine o_yes rfl rfl rfl ?_
       refine o_move rfl rfl ?_
       refine o_yes rfl rfl rfl ?_
       refine o_move rfl rfl ?_
       refine o_yes rfl rfl rfl ?_
       refine o_move rfl rfl ?_
       refine o_yes rfl rfl rfl ?_
       refine o_cut (l' := 0) (h' := e2) (m := c) rfl rfl Try.underlying28 ti5 (.inl ⟨rfl, rfl⟩) (.inr ⟨_, _, rfl, icast rfl (by omega), (by omega)⟩) (.inl ⟨rfl, rfl⟩) ?_
       obtain ⟨ys141, ay141, cut141, hys141, hlys141, eay141⟩ : ∃ ys_ ay_, (∀ {L : List Res}, RdS W L e8 a bs → RdS W L e8 ay_ ys_) ∧ ys_ = sub bs 0 e2 ∧ ys_.length = e2 - 0 ∧ cutA a c 0 1 = ay_ := ⟨_, _, fun h => rds_cut e8_ok h _ _ _ (by omega), rfl, sub_len (by omega), rfl⟩
       refine l_eq (t := 141) (v' := .slice ay141 ys141.length (c - 0)) rfl (by rw [eay141, hlys141]) ?_
       have hct : ys141 = bs.take e2 := by rw [hys141, sub_take]
       refine o_yes rfl rfl rfl ?_
       refine o_call rfl cal24 rfl (rsum (cut141 (rds_c (rds_c (rds_c (rds_c (rds_c (rds_c (rds_old hs)))))))) (by rw [hlys141]; omega)) ?_
       rintro _ _ ⟨rfl, rfl⟩
       refine o_yes rfl rfl rfl ?_
       refine o_int rfl rfl Try.underlying55 Try.underlying23 (v32_u64 _) ?_
       refine o_yes rfl rfl rfl ?_
       refine o_bin rfl rfl rfl b_neq ?_
       refine o_pick_false rfl rfl rfl ?_
       refine o_move rfl rfl ?_
       refine l_split (t := 146) rfl (fun h6 => ?_) (fun h6 => ?_)
       · -- h6T
        have h6b := h6
        try simp only [Bool.not_eq_true', decide_eq_false_iff_not, Int.not_lt, Int.not_le] at h6
        refine o_no rfl rfl rfl rfl ?_
        refine o_no rfl rfl rfl rfl ?_
        refine o_no rfl rfl rfl rfl ?_
        refine o_pick_true rfl rfl rfl ?_
        refine l_nil ?_
        refine q_then ?_
        refine c_true rfl ?_
        refine c_seq ?_
        refine c_nilrow e_RVote ?_
        refine c_region ?_
        refine o_build rfl sp35 ti35 rfl rfl ?_
        refine l_f6 ?_
        refine o_storen rfl rfl ti35 rfl rfl rfl rfl ?_
        refine o_assign rfl rfl ?_
        refine l_nil ?_
        refine q_then ?_
        refine c_ret ?_
        refine q_pass_ret ?_
        refine f_retq (.inl rfl) (rs_2 rfl (rs_celln (vs := [.int .i64 0, .int .i64 0, .int .i64 0, .int .i64 0, .int .i64 0, .int .u64 0, .string ByteArray.empty, .slice none 0 0]) rfl Try.underlying35 rfl ti35 (rdn_lit 0 rfl rfl)) (rs_tmp rfl)) (fun w S => ?_)
        replace S := S.tail
        replace S := (S.perm p1).tail
        replace S := (S.perm p1).tail
        replace S := (S.perm p1).tail
        replace S := (S.perm p1).tail
        replace S := (S.perm p1).tail
        exact ⟨_, ⟨⟨0, 0, 0, 0, 0, 0, ByteArray.empty, ⟨none, [], 0⟩⟩, 31, .inr ⟨rfl, ⟨rfl, rfl, rfl, rfl, rfl, rfl, rfl, rfl⟩, fun m g => by obtain ⟨g1, g2, g3, g4, g5, g6⟩ := hfh m g; rw [← hj125.2] at g3; first | omega | (exact absurd (show ((endR ys125 : Nat) : Int) = 0 by rw [g3]; rfl) (by assumption)) | (rw [← hct] at g4; omega) | (exact absurd g5 (by assumption))⟩, rfl, rfl⟩, (fun w S => S) w S⟩
       · -- h6F
        have h6b := h6
        try simp only [Bool.not_eq_false', decide_eq_true_eq] at h6
        refine o_yes rfl rfl rfl ?_
        refine o_loadn (vs := [_, _, _, _, _, _, _, _]) rfl rfl Try.underlying35 rfl ti35 (rdn_lit 1 rfl rfl) ?_
        refine o_yes rfl rfl rfl ?_
        refine o_call rfl cal21 rfl (right_ (p := (⟨(fewN x42.toNat 9 : Int), (fewN x45.toNat 8 : Int), (fewN x48.toNat 8 : Int), (fewN x51.toNat 3 : Int), (fewN x54.toNat 64 : Int), x57, bts (textR ys).1, ⟨av, vs, cv⟩⟩ : RMsg)) (rds_own e_RVote_ok 2 rfl) (by have := hR.len; show vs.length ≤ _; omega)) ?_
        rintro _ _ ⟨rfl, rfl⟩
        refine o_yes rfl rfl rfl ?_
        refine o_not rfl rfl ?_
        refine o_pick_false rfl rfl rfl ?_
        refine l_nil ?_
        refine q_then ?_
        refine c_cond rfl (fun h7 => ?_) (fun h7 => ?_)
        · -- h7T
         have h7b := h7
         try simp only [Bool.not_eq_true', decide_eq_false_iff_not, Int.not_lt, Int.not_le] at h7
         refine c_seq ?_
         refine c_nilrow e_RVote ?_
         refine c_region ?_
         refine o_build rfl sp35 ti35 rfl rfl ?_
         refine l_f6 ?_
         refine o_storen rfl rfl ti35 rfl rfl rfl rfl ?_
         refine o_assign rfl rfl ?_
         refine l_nil ?_
         refine q_then ?_
         refine c_ret ?_
         refine q_pass_ret ?_
         refine f_retq (.inl rfl) (rs_2 rfl (rs_celln (vs := [.int .i64 0, .int .i64 0, .int .i64 0, .int .i64 0, .int .i64 0, .int .u64 0, .string ByteArray.empty, .slice none 0 0]) rfl Try.underlying35 rfl ti35 (rdn_lit 0 rfl rfl)) (rs_tmp rfl)) (fun w S => ?_)
         replace S := S.tail
         replace S := (S.perm p1).tail
         replace S := (S.perm p1).tail
         replace S := (S.perm p1).tail
         replace S := (S.perm p1).tail
         replace S := (S.perm p1).tail
         exact ⟨_, ⟨⟨0, 0, 0, 0, 0, 0, ByteArray.empty, ⟨none, [], 0⟩⟩, 31, .inr ⟨rfl, ⟨rfl, rfl, rfl, rfl, rfl, rfl, rfl, rfl⟩, fun m g => by obtain ⟨g1, g2, g3, g4, g5, g6⟩ := hfh m g; rw [← hj125.2] at g3; first | omega | (exact absurd (show ((endR ys125 : Nat) : Int) = 0 by rw [g3]; rfl) (by assumption)) | (rw [← hct] at g4; omega) | (exact absurd g5 (by assumption))⟩, rfl, rfl⟩, (fun w S => S) w S⟩
        · -- h7F
         have h7b := h7
         try simp only [Bool.not_eq_false', decide_eq_true_eq] at h7
         refine c_skip ?_
         refine q_then ?_
         refine c_seq ?_
         refine c_region ?_
         refine o_loadn (vs := [_, _, _, _, _, _, _, _]) rfl rfl Try.underlying35 rfl ti35 (rdn_lit 1 rfl rfl) ?_
         refine l_f5 ?_
         refine o_storen rfl rfl ti35 rfl rfl rfl rfl ?_
         refine o_assign rfl rfl ?_
         refine l_nil ?_
         refine q_then ?_
         refine c_ret ?_
         refine f_retq (.inl rfl) (rs_2 rfl (rs_celln (vs := [.int .i64 (fewN x42.toNat 9 : Int), .int .i64 (fewN x45.toNat 8 : Int), .int .i64 (fewN x48.toNat 8 : Int), .int .i64 (fewN x51.toNat 3 : Int), .int .i64 (fewN x54.toNat 64 : Int), .int .u64 x57, .string (bts (textR ys).1), .slice av (vs).length cv]) rfl Try.underlying35 rfl ti35 (rdn_lit 0 rfl rfl)) (rs_tmp rfl)) (fun w S => ?_)
         replace S := S.tail
         replace S := S.tail
         replace S := S.tail
         replace S := (S.perm p1).tail
         replace S := (S.perm p1).tail
         exact ⟨_, ⟨(⟨(fewN x42.toNat 9 : Int), (fewN x45.toNat 8 : Int), (fewN x48.toNat 8 : Int), (fewN x51.toNat 3 : Int), (fewN x54.toNat 64 : Int), x57, bts (textR ys).1, ⟨av, vs, cv⟩⟩ : RMsg), 0, .inl ⟨rfl, final_ok hr6 hR hnb (by omega) (by omega) (by rw [← hj125.2]; exact endR_0 (by assumption)) (by rw [← hct]; omega) (by assumption)⟩, rfl, rfl⟩, (fun w S => S) w S⟩
   · -- h2F
    have h2b := h2
    try simp only [decide_eq_false_iff_not, Int.not_lt, Int.not_le] at h2
    refine o_no rfl rfl rfl rfl ?_
    refine o_no rfl rfl rfl rfl ?_
    refine o_pick_false rfl rfl rfl ?_
    refine l_nil ?_
    refine q_then ?_
    refine c_false rfl ?_
    refine c_exit ?_
    refine q_pass_exit ?_
    refine q_pass_exit ?_
    refine q_hit ?_
    refine q_then ?_
    refine c_seq ?_
    obtain ⟨hr6, hk6⟩ := hyp6 hH6 hls
    have hnb : n = 0 ∨ bad2 ≠ 0 := by omega
    have hfh := final_hyp hk6 hR hnb (a := av) (c := cv)
    have hle2 := hR.at_.le
    have hb2 := hR.bnd
    refine c_region ?_
    refine o_move rfl rfl ?_
    refine o_nil rfl rfl ?_
    refine o_fieldAddr (q := ⟨b25, 1, none⟩) rfl rfl Try.underlying76 rfl ti3 rfl ?_
    refine o_load1 rfl rfl Try.underlying3 rfl (rd_mem 2 rfl rfl) ?_
    refine o_assign rfl rfl ?_
    refine l_nil ?_
    refine q_then ?_
    refine c_seq ?_
    refine c_region ?_
    refine o_move rfl rfl ?_
    refine l_f2 ?_
    refine o_call rfl cal33 rfl (rnum_ hs hR.at_ hsm hcc) ?_
    rintro _ _ ⟨j125, ys125, hj125, rfl, rfl⟩
    have at125 : At bs j125 ys125 := by rw [hj125.1, hj125.2]; exact hR.at_.num
    have hu125 := numR_used ys2 0 0
    refine o_move rfl rfl ?_
    refine o_extract rfl rfl rfl ?_
    refine o_extract rfl rfl rfl ?_
    refine o_assign rfl rfl ?_
    refine o_assign rfl rfl ?_
    refine l_nil ?_
    refine q_then ?_
    refine c_seq ?_
    refine c_seq ?_
    refine c_region ?_
    refine o_move rfl rfl ?_
    refine o_move rfl rfl ?_
    refine o_bin rfl rfl rfl (b_add (wrap_i64 (by omega) (by omega))) ?_
    refine o_bin rfl rfl rfl b_neq ?_
    refine o_move rfl rfl ?_
    refine l_split (t := 132) rfl (fun h8 => ?_) (fun h8 => ?_)
    · -- h8T
     have h8b := h8
     try simp only [Bool.not_eq_true', decide_eq_false_iff_not, Int.not_lt, Int.not_le] at h8
     refine o_no rfl rfl rfl rfl ?_
     refine o_no rfl rfl rfl rfl ?_
     refine o_no rfl rfl rfl rfl ?_
     refine o_pick_true rfl rfl rfl ?_
     refine o_move rfl rfl ?_
     refine o_no rfl rfl rfl rfl ?_
     refine o_no rfl rfl rfl rfl ?_
     refine o_no rfl rfl rfl rfl ?_
     refine o_no rfl rfl rfl rfl ?_
     refine o_no rfl rfl rfl rfl ?_
     refine o_no rfl rfl rfl rfl ?_
     refine o_no rfl rfl rfl rfl ?_
     refine o_pick_true rfl rfl rfl ?_
     refine o_move rfl rfl ?_
     refine o_no rfl rfl rfl rfl ?_
     refine o_no rfl rfl rfl rfl ?_
     refine o_no rfl rfl rfl rfl ?_
     refine o_pick_true rfl rfl rfl ?_
     refine l_nil ?_
     refine q_then ?_
     refine c_true rfl ?_
     refine c_seq ?_
     refine c_nilrow e_RVote ?_
     refine c_region ?_
     refine o_build rfl sp35 ti35 rfl rfl ?_
     refine l_f6 ?_
     refine o_storen rfl rfl ti35 rfl rfl rfl rfl ?_
     refine o_assign rfl rfl ?_
     refine l_nil ?_
     refine q_then ?_
     refine c_ret ?_
     refine q_pass_ret ?_
     refine f_retq (.inl rfl) (rs_2 rfl (rs_celln (vs := [.int .i64 0, .int .i64 0, .int .i64 0, .int .i64 0, .int .i64 0, .int .u64 0, .string ByteArray.empty, .slice none 0 0]) rfl Try.underlying35 rfl ti35 (rdn_lit 0 rfl rfl)) (rs_tmp rfl)) (fun w S => ?_)
     replace S := S.tail
     replace S := (S.perm p1).tail
     replace S := (S.perm p1).tail
     replace S := (S.perm p1).tail
     replace S := (S.perm p1).tail
     replace S := (S.perm p1).tail
     exact ⟨_, ⟨⟨0, 0, 0, 0, 0, 0, ByteArray.empty, ⟨none, [], 0⟩⟩, 31, .inr ⟨rfl, ⟨rfl, rfl, rfl, rfl, rfl, rfl, rfl, rfl⟩, fun m g => by obtain ⟨g1, g2, g3, g4, g5, g6⟩ := hfh m g; rw [← hj125.2] at g3; first | omega | (exact absurd (show ((endR ys125 : Nat) : Int) = 0 by rw [g3]; rfl) (by assumption)) | (rw [← hct] at g4; omega) | (exact absurd g5 (by assumption))⟩, rfl, rfl⟩, (fun w S => S) w S⟩
    · -- h8F
     have h8b := h8
     try simp only [Bool.not_eq_false', decide_eq_true_eq] at h8
     refine o_yes rfl rfl rfl ?_
     refine o_move rfl rfl ?_
     refine o_yes rfl rfl rfl ?_
     refine o_call rfl cal36 rfl (rEyeEnd hs at125.is at125.le (by omega) hcc) ?_
     rintro _ _ ⟨rfl, rfl⟩
     refine o_yes rfl rfl rfl ?_
     refine o_bin rfl rfl rfl b_neq ?_
     refine o_pick_false rfl rfl rfl ?_
     refine o_move rfl rfl ?_
     refine l_split (t := 137) rfl (fun h9 => ?_) (fun h9 => ?_)
     · -- h9T
      have h9b := h9
      try simp only [Bool.not_eq_true', decide_eq_false_iff_not, Int.not_lt, Int.not_le] at h9
      refine o_no rfl rfl rfl rfl ?_
      refine o_no rfl rfl rfl rfl ?_
      refine o_no rfl rfl rfl rfl ?_
      refine o_no rfl rfl rfl rfl ?_
      refine o_no rfl rfl rfl rfl ?_
      refine o_no rfl rfl rfl rfl ?_
      refine o_no rfl rfl rfl rfl ?_
      refine o_pick_true rfl rfl rfl ?_
      refine o_move rfl rfl ?_
      refine o_no rfl rfl rfl rfl ?_
      refine o_no rfl rfl rfl rfl ?_
      refine o_no rfl rfl rfl rfl ?_
      refine o_pick_true rfl rfl rfl ?_
      refine l_nil ?_
      refine q_then ?_
      refine c_true rfl ?_
      refine c_seq ?_
      refine c_nilrow e_RVote ?_
      refine c_region ?_
      refine o_build rfl sp35 ti35 rfl rfl ?_
      refine l_f6 ?_
      refine o_storen rfl rfl ti35 rfl rfl rfl rfl ?_
      refine o_assign rfl rfl ?_
      refine l_nil ?_
      refine q_then ?_
      refine c_ret ?_
      refine q_pass_ret ?_
      refine f_retq (.inl rfl) (rs_2 rfl (rs_celln (vs := [.int .i64 0, .int .i64 0, .int .i64 0, .int .i64 0, .int .i64 0, .int .u64 0, .string ByteArray.empty, .slice none 0 0]) rfl Try.underlying35 rfl ti35 (rdn_lit 0 rfl rfl)) (rs_tmp rfl)) (fun w S => ?_)
      replace S := S.tail
      replace S := (S.perm p1).tail
      replace S := (S.perm p1).tail
      replace S := (S.perm p1).tail
      replace S := (S.perm p1).tail
      replace S := (S.perm p1).tail
      exact ⟨_, ⟨⟨0, 0, 0, 0, 0, 0, ByteArray.empty, ⟨none, [], 0⟩⟩, 31, .inr ⟨rfl, ⟨rfl, rfl, rfl, rfl, rfl, rfl, rfl, rfl⟩, fun m g => by obtain ⟨g1, g2, g3, g4, g5, g6⟩ := hfh m g; rw [← hj125.2] at g3; first | omega | (exact absurd (show ((endR ys125 : Nat) : Int) = 0 by rw [g3]; rfl) (by assumption)) | (rw [← hct] at g4; omega) | (exact absurd g5 (by assumption))⟩, rfl, rfl⟩, (fun w S => S) w S⟩
     · -- h9F
      have h9b := h9
      try simp only [Bool.not_eq_false', decide_eq_true_eq] at h9
      refine o_yes rfl rfl rfl ?_
      refine o_move rfl rfl ?_
      refine o_yes rfl rfl rfl ?_
      refine o_move rfl rfl ?_
      refine o_yes rfl rfl rfl ?_
      refine o_move rfl rfl ?_
      refine o_yes rfl rfl rfl ?_
      refine o_cut (l' := 0) (h' := e2) (m := c) rfl rfl Try.underlying28 ti5 (.inl ⟨rfl, rfl⟩) (.inr ⟨_, _, rfl, icast rfl (by omega), (by omega)⟩) (.inl ⟨rfl, rfl⟩) ?_
      obtain ⟨ys141, ay141, cut141, hys141, hlys141, eay141⟩ : ∃ ys_ ay_, (∀ {L : List Res}, RdS W L e8 a bs → RdS W L e8 ay_ ys_) ∧ ys_ = sub bs 0 e2 ∧ ys_.length = e2 - 0 ∧ cutA a c 0 1 = ay_ := ⟨_, _, fun h => rds_cut e8_ok h _ _ _ (by omega), rfl, sub_len (by omega), rfl⟩
      refine l_eq (t := 141) (v' := .slice ay141 ys141.length (c - 0)) rfl (by rw [eay141, hlys141]) ?_
      have hct : ys141 = bs.take e2 := by rw [hys141, sub_take]
      refine o_yes rfl rfl rfl ?_
      refine o_call rfl cal24 rfl (rsum (cut141 (rds_c (rds_c (rds_c (rds_c (rds_c (rds_c (rds_old hs)))))))) (by rw [hlys141]; omega)) ?_
      rintro _ _ ⟨rfl, rfl⟩
      refine o_yes rfl rfl rfl ?_
      refine o_int rfl rfl Try.underlying55 Try.underlying23 (v32_u64 _) ?_
      refine o_yes rfl rfl rfl ?_
      refine o_bin rfl rfl rfl b_neq ?_
      refine o_pick_false rfl rfl rfl ?_
      refine o_move rfl rfl ?_
      refine l_split (t := 146) rfl (fun h10 => ?_) (fun h10 => ?_)
      · -- h10T
       have h10b := h10
       try simp only [Bool.not_eq_true', decide_eq_false_iff_not, Int.not_lt, Int.not_le] at h10
       refine o_no rfl rfl rfl rfl ?_
       refine o_no rfl rfl rfl rfl ?_
       refine o_no rfl rfl rfl rfl ?_
       refine o_pick_true rfl rfl rfl ?_
       refine l_nil ?_
       refine q_then ?_
       refine c_true rfl ?_
       refine c_seq ?_
       refine c_nilrow e_RVote ?_
       refine c_region ?_
       refine o_build rfl sp35 ti35 rfl rfl ?_
       refine l_f6 ?_
       refine o_storen rfl rfl ti35 rfl rfl rfl rfl ?_
       refine o_assign rfl rfl ?_
       refine l_nil ?_
       refine q_then ?_
       refine c_ret ?_
       refine q_pass_ret ?_
       refine f_retq (.inl rfl) (rs_2 rfl (rs_celln (vs := [.int .i64 0, .int .i64 0, .int .i64 0, .int .i64 0, .int .i64 0, .int .u64 0, .string ByteArray.empty, .slice none 0 0]) rfl Try.underlying35 rfl ti35 (rdn_lit 0 rfl rfl)) (rs_tmp rfl)) (fun w S => ?_)
       replace S := S.tail
       replace S := (S.perm p1).tail
       replace S := (S.perm p1).tail
       replace S := (S.perm p1).tail
       replace S := (S.perm p1).tail
       replace S := (S.perm p1).tail
       exact ⟨_, ⟨⟨0, 0, 0, 0, 0, 0, ByteArray.empty, ⟨none, [], 0⟩⟩, 31, .inr ⟨rfl, ⟨rfl, rfl, rfl, rfl, rfl, rfl, rfl, rfl⟩, fun m g => by obtain ⟨g1, g2, g3, g4, g5, g6⟩ := hfh m g; rw [← hj125.2] at g3; first | omega | (exact absurd (show ((endR ys125 : Nat) : Int) = 0 by rw [g3]; rfl) (by assumption)) | (rw [← hct] at g4; omega) | (exact absurd g5 (by assumption))⟩, rfl, rfl⟩, (fun w S => S) w S⟩
      · -- h10F
       have h10b := h10
       try simp only [Bool.not_eq_false', decide_eq_true_eq] at h10
       refine o_yes rfl rfl rfl ?_
       refine o_loadn (vs := [_, _, _, _, _, _, _, _]) rfl rfl Try.underlying35 rfl ti35 (rdn_lit 1 rfl rfl) ?_
       refine o_yes rfl rfl rfl ?_
       refine o_call rfl cal21 rfl (right_ (p := (⟨(fewN x42.toNat 9 : Int), (fewN x45.toNat 8 : Int), (fewN x48.toNat 8 : Int), (fewN x51.toNat 3 : Int), (fewN x54.toNat 64 : Int), x57, bts (textR ys).1, ⟨av, vs, cv⟩⟩ : RMsg)) (rds_own e_RVote_ok 2 rfl) (by have := hR.len; show vs.length ≤ _; omega)) ?_
       rintro _ _ ⟨rfl, rfl⟩
       refine o_yes rfl rfl rfl ?_
       refine o_not rfl rfl ?_
       refine o_pick_false rfl rfl rfl ?_
       refine l_nil ?_
       refine q_then ?_
       refine c_cond rfl (fun h11 => ?_) (fun h11 => ?_)
       · -- h11T
        have h11b := h11
        try simp only [Bool.not_eq_true', decide_eq_false_iff_not, Int.not_lt, Int.not_le] at h11
        refine c_seq ?_
        refine c_nilrow e_RVote ?_
        refine c_region ?_
        refine o_build rfl sp35 ti35 rfl rfl ?_
        refine l_f6 ?_
        refine o_storen rfl rfl ti35 rfl rfl rfl rfl ?_
        refine o_assign rfl rfl ?_
        refine l_nil ?_
        refine q_then ?_
        refine c_ret ?_
        refine q_pass_ret ?_
        refine f_retq (.inl rfl) (rs_2 rfl (rs_celln (vs := [.int .i64 0, .int .i64 0, .int .i64 0, .int .i64 0, .int .i64 0, .int .u64 0, .string ByteArray.empty, .slice none 0 0]) rfl Try.underlying35 rfl ti35 (rdn_lit 0 rfl rfl)) (rs_tmp rfl)) (fun w S => ?_)
        replace S := S.tail
        replace S := (S.perm p1).tail
        replace S := (S.perm p1).tail
        replace S := (S.perm p1).tail
        replace S := (S.perm p1).tail
        replace S := (S.perm p1).tail
        exact ⟨_, ⟨⟨0, 0, 0, 0, 0, 0, ByteArray.empty, ⟨none, [], 0⟩⟩, 31, .inr ⟨rfl, ⟨rfl, rfl, rfl, rfl, rfl, rfl, rfl, rfl⟩, fun m g => by obtain ⟨g1, g2, g3, g4, g5, g6⟩ := hfh m g; rw [← hj125.2] at g3; first | omega | (exact absurd (show ((endR ys125 : Nat) : Int) = 0 by rw [g3]; rfl) (by assumption)) | (rw [← hct] at g4; omega) | (exact absurd g5 (by assumption))⟩, rfl, rfl⟩, (fun w S => S) w S⟩
       · -- h11F
        have h11b := h11
        try simp only [Bool.not_eq_false', decide_eq_true_eq] at h11
        refine c_skip ?_
        refine q_then ?_
        refine c_seq ?_
        refine c_region ?_
        refine o_loadn (vs := [_, _, _, _, _, _, _, _]) rfl rfl Try.underlying35 rfl ti35 (rdn_lit 1 rfl rfl) ?_
        refine l_f5 ?_
        refine o_storen rfl rfl ti35 rfl rfl rfl rfl ?_
        refine o_assign rfl rfl ?_
        refine l_nil ?_
        refine q_then ?_
        refine c_ret ?_
        refine f_retq (.inl rfl) (rs_2 rfl (rs_celln (vs := [.int .i64 (fewN x42.toNat 9 : Int), .int .i64 (fewN x45.toNat 8 : Int), .int .i64 (fewN x48.toNat 8 : Int), .int .i64 (fewN x51.toNat 3 : Int), .int .i64 (fewN x54.toNat 64 : Int), .int .u64 x57, .string (bts (textR ys).1), .slice av (vs).length cv]) rfl Try.underlying35 rfl ti35 (rdn_lit 0 rfl rfl)) (rs_tmp rfl)) (fun w S => ?_)
        replace S := S.tail
        replace S := S.tail
        replace S := S.tail
        replace S := (S.perm p1).tail
        replace S := (S.perm p1).tail
        exact ⟨_, ⟨(⟨(fewN x42.toNat 9 : Int), (fewN x45.toNat 8 : Int), (fewN x48.toNat 8 : Int), (fewN x51.toNat 3 : Int), (fewN x54.toNat 64 : Int), x57, bts (textR ys).1, ⟨av, vs, cv⟩⟩ : RMsg), 0, .inl ⟨rfl, final_ok hr6 hR hnb (by omega) (by omega) (by rw [← hj125.2]; exact endR_0 (by assumption)) (by rw [← hct]; omega) (by assumption)⟩, rfl, rfl⟩, (fun w S => S) w S⟩

end Go.Proofs.Ytoigakfglgdjdaa
