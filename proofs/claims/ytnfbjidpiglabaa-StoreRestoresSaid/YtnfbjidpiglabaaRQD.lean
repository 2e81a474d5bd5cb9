/- Texts of the proof: LastA, TakeA, PutA, WalkA, TreA, TDelA, GetA, Storep. -/
import Derived.Test.YtnfbjidpiglabaaRQC
namespace Go.Proofs.Ytnfbjidpiglabaa
section
set_option linter.unusedVariables false
set_option linter.unusedSimpArgs false
set_option maxRecDepth 10000
open Go.RowKit Classical
def LastSpec_A (d : Nat) : Prop := ∀ {W : World} {F : List Res} {mn b : Nat} {ys : List ItA} {x : ItA}, CS Try.prog 72 #[.pointer (some ⟨b, 0, none⟩)] W (nodeR e_ItA eN99 103 d mn b (ys ++ [x]) :: F) (fun r L' => r = .agg #[.string x.f_key, .bool x.f_value.f_Has, .slice x.f_value.f_Value.a (x.f_value.f_Value.xs).length x.f_value.f_Value.c, .int .i64 x.f_value.f_Home, .int .u64 x.f_value.f_Count] ∧ L' = nodeO e_ItA eN99 103 d (mn - 1) b ys :: F)
set_option maxHeartbeats 4000000 in
theorem last_step_A {d : Nat} (ih : ∀ d', d = d' + 1 → LastSpec_A d') : LastSpec_A d := by
 unfold LastSpec_A
 intro W F mn b ys x
 refine f_door (l0 := [(0, .pointer (some ⟨b, 0, none⟩))]) Try.func72 Try.ntmps72 rfl rfl rfl ?_
 refine c_seq (c_region ?_)
 refine o_alloc rfl ti110 fun b2 => ?_
 refine l_nil (q_then (c_seq (c_seq (cP p1 ?_))))
 refine c_node ?_
 rintro q hq
 have hle := hq.le
 have hsh := hq.sh
 have hmn := hq.mn
 have hkm6 : (q.kids.map Prod.fst).length ≤ 6 := by rw [List.length_map]; rcases hsh with ⟨_, h9⟩ | ⟨_, h9, _⟩ <;> rw [h9]; simp; omega
 refine c_conv (L' := blk b (.cells #[.slice q.a (q.items).length q.c, .slice q.ak ((q.kids.map Prod.fst)).length q.ck] 103 (0, 0)) :: row e_ItA.T e_ItA.sz q.a (q.items).length q.c (flat e_ItA q.items) :: row eN99.T eN99.sz q.ak ((q.kids.map Prod.fst)).length q.ck (flat eN99 (q.kids.map Prod.fst)) :: kidsR e_ItA eN99 103 d q.kids :: blk b2 (.cells #[.string ByteArray.empty, .bool false, .slice none 0 0, .int .i64 0, .int .u64 0] 110 (0, 0)) :: F) (fun w S => S) ?_
 refine c_region (o_move rfl rfl (o_nil rfl rfl ?_))
 refine o_fieldAddr (q := ⟨b, 1, none⟩) rfl rfl Try.underlying103 rfl ti101 rfl ?_
 refine o_load1 rfl rfl Try.underlying101 rfl (rd_mem 0 rfl rfl) ?_
 refine o_len rfl rfl Try.underlying101 ?_
 refine o_bin rfl rfl rfl (b_sub (wrap_i64 (by omega) (by omega))) ?_
 refine o_assign rfl rfl (l_nil (q_then (c_seq (c_region (o_move rfl rfl ?_)))))
 refine o_bin rfl rfl rfl b_geq ?_
 refine l_nil (q_then ?_)
 refine c_cond rfl (fun h1 => ?_) (fun h1 => ?_)
 · -- h1T
  have h1b := h1
  try simp only [decide_eq_true_eq] at h1
  refine c_seq ?_
  have hkl : q.kids.length = q.items.length + 1 := by rcases hsh with ⟨_, h9⟩ | ⟨_, h9, _⟩; exact absurd (show (q.kids.map Prod.fst).length = 0 by rw [h9]; rfl) (by omega); exact h9
  have hd0 : d ≠ 0 := by rcases hsh with ⟨_, h9⟩ | ⟨h9, _, _⟩; exact absurd (show (q.kids.map Prod.fst).length = 0 by rw [h9]; rfl) (by omega); exact h9
  have h1i : 1 ≤ q.items.length := by rcases hsh with ⟨_, h9⟩ | ⟨_, _, h9⟩; exact absurd (show (q.kids.map Prod.fst).length = 0 by rw [h9]; rfl) (by omega); exact h9
  have hkm : (q.kids.map Prod.fst).length = q.items.length + 1 := by rw [List.length_map]; exact hkl
  obtain ⟨⟨kb, zs⟩, hkid⟩ : ∃ z, q.kids[q.items.length]? = some z := ⟨_, List.getElem?_eq_getElem (by omega)⟩
  have hkf : (q.kids.map Prod.fst)[q.items.length]? = some kb := by rw [List.getElem?_map, hkid]; rfl
  obtain ⟨d', rfl⟩ : ∃ d', d = d' + 1 := ⟨d - 1, by omega⟩
  refine cP p3 ?_
  refine c_conv (L' := nodeR e_ItA eN99 103 d' 2 kb zs :: kidsR e_ItA eN99 103 (d' + 1) (q.kids.eraseIdx q.items.length) :: _) (fun w S => Sat.kid_take hkid S) ?_
  refine c_fact (p := zs ≠ []) (fun w S => node_ne (by decide) S) fun hzs => ?_
  obtain ⟨ws, rfl, hys⟩ := last_kid hq hkl hkid rfl hzs
  refine c_eq (t := 3) (v' := .int .i64 (q.items.length : Int)) rfl (by rw [show ((q.kids.map Prod.fst).length : Int) - 1 = (q.items.length : Int) from by omega]) ?_
  refine c_region (o_move rfl rfl (o_nil rfl rfl ?_))
  refine o_fieldAddr (q := ⟨b, 1, none⟩) rfl rfl Try.underlying103 rfl ti101 rfl ?_
  refine o_load1 rfl rfl Try.underlying101 rfl (rd_mem 2 rfl rfl) ?_
  refine o_move rfl rfl ?_
  refine o_index eN99_ok rfl rfl rfl Try.underlying101 (by omega) (by omega) (rds_own eN99_ok 4 rfl) fun ad19 ead19 => ?_
  obtain ⟨x19, hx19⟩ : ∃ x, ((q.kids.map Prod.fst))[((q.items.length : Int)).toNat]? = some x := ⟨_, List.getElem?_eq_getElem (by omega)⟩
  have hxk19 : x19 = kb := by have h9 := hx19; rw [show ((q.items.length : Int)).toNat = q.items.length from by omega, hkf] at h9; exact (Option.some.inj h9).symm
  refine o_load1 rfl rfl Try.underlying99 rfl (rd_sl0 eN99_ok ead19 (rds_own eN99_ok 4 rfl) hx19 rfl) ?_
  refine l_eq (t := 20) (v' := .pointer (some ⟨kb, 0, none⟩)) rfl (by rw [hxk19]) ?_
  refine o_call rfl cal72 rfl (ih d' rfl) ?_
  rintro _ _ ⟨rfl, rfl⟩
  refine o_alloc rfl ti110 fun b4 => ?_
  refine o_storen rfl rfl ti110 rfl rfl rfl rfl ?_
  refine l_nil (q_then (c_seq (c_region (o_move rfl rfl (o_move rfl rfl (l_f2 (l_f2 (l_f5 (l_f5 ?_)))))))))
  refine l_f5 ?_
  refine o_call rfl cal73 rfl (mendok2_A (ks := q.kids.set q.items.length (kb, ws)) (i := q.items.length) hle h1i (by rw [List.length_set]; exact hkl) (List.getElem?_set_self (List.getElem?_eq_some_iff.1 hkid).1) (kids_fst_set hkid) erase_set.symm) ?_
  rintro _ _ rfl
  refine l_nil (q_then (c_seq (c_region ?_)))
  refine o_loadn (vs := [_, _, _, _, _]) rfl rfl Try.underlying110 rfl ti110 (rdn_lit 1 rfl rfl) ?_
  refine l_f2 ?_
  refine o_storen rfl rfl ti110 rfl rfl rfl rfl ?_
  refine l_nil (q_then (c_ret (q_pass_ret ?_)))
  refine f_retq (.inl rfl) (rs_1 rfl (rs_celln (vs := [.string x.f_key, .bool x.f_value.f_Has, .slice x.f_value.f_Value.a (x.f_value.f_Value.xs).length x.f_value.f_Value.c, .int .i64 x.f_value.f_Home, .int .u64 x.f_value.f_Count]) rfl Try.underlying110 rfl ti110 (rdn_lit 0 rfl rfl))) (fun w S => ?_)
  replace S := S.tail
  replace S := (S.perm p1).tail
  exact ⟨_, ⟨rfl, rfl⟩, (fun w S => nodeO_mono (mn := q.items.length - 1) (by omega) (by rw [hys]; exact S)) w S⟩
 · -- h1F
  have h1b := h1
  try simp only [decide_eq_false_iff_not, Int.not_lt, Int.not_le] at h1
  refine c_skip (q_then (c_seq ?_))
  have h0 : (q.kids.map Prod.fst).length = 0 := by omega
  obtain ⟨hit, _, _⟩ := last_leaf hq h0
  have hil : q.items.length = ys.length + 1 := by rw [hit, List.length_append]; rfl
  refine c_fact (p := q.items.length ≤ q.c ∧ q.c ≤ maxLen) (fun w S => row_capL (S.perm p1)) fun hrc => ?_
  simp only [maxLen] at hrc
  refine c_fact (p := ∃ ad, q.a = some ad) (rds_some (e := e_ItA) (xs := q.items) (rds_own e_ItA_ok 1 rfl) (by intro h0; rw [h0] at hil; simp at hil)) ?_
  rintro ⟨adi, eadi⟩
  refine c_held [blk b (.cells #[.slice q.a (q.items).length q.c, .slice q.ak ((q.kids.map Prod.fst)).length q.ck] 103 (0, 0)), row e_ItA.T e_ItA.sz q.a (q.items).length q.c (flat e_ItA q.items), row eN99.T eN99.sz q.ak ((q.kids.map Prod.fst)).length q.ck (flat eN99 (q.kids.map Prod.fst)), kidsR e_ItA eN99 103 d q.kids, blk b2 (.cells #[.string ByteArray.empty, .bool false, .slice none 0 0, .int .i64 0, .int .u64 0] 110 (0, 0))] (by kernel_rfl) rfl ?_
  refine h_take 0 rfl rfl (by kernel_rfl) (by kernel_rfl) (by kernel_rfl) (fun L0 => v_move rfl rfl) ?_
  refine h_take 1 rfl rfl (by kernel_rfl) (by kernel_rfl) (by kernel_rfl) (fun L0 => v_nil rfl rfl) ?_
  refine h_take 2 rfl rfl (by kernel_rfl) (by kernel_rfl) (by kernel_rfl) (fun L0 => v_fieldAddr (q := ⟨b, 0, none⟩) rfl rfl Try.underlying103 rfl ti100 rfl) ?_
  refine h_take 3 rfl rfl (by kernel_rfl) (by kernel_rfl) (by kernel_rfl) (fun L0 => v_load1 rfl rfl Try.underlying100 rfl (rd_mem 0 rfl rfl)) ?_
  refine h_take 4 rfl rfl (by kernel_rfl) (by kernel_rfl) (by kernel_rfl) (fun L0 => v_move rfl rfl) ?_
  refine h_take 5 rfl rfl (by kernel_rfl) (by kernel_rfl) (by kernel_rfl) (fun L0 => v_nil rfl rfl) ?_
  refine h_take 6 rfl rfl (by kernel_rfl) (by kernel_rfl) (by kernel_rfl) (fun L0 => v_fieldAddr (q := ⟨b, 0, none⟩) rfl rfl Try.underlying103 rfl ti100 rfl) ?_
  refine h_take 7 rfl rfl (by kernel_rfl) (by kernel_rfl) (by kernel_rfl) (fun L0 => v_load1 rfl rfl Try.underlying100 rfl (rd_mem 0 rfl rfl)) ?_
  refine h_take 8 rfl rfl (by kernel_rfl) (by kernel_rfl) (by kernel_rfl) (fun L0 => v_len rfl rfl Try.underlying100) ?_
  refine h_take 9 rfl rfl (by kernel_rfl) (by kernel_rfl) (by kernel_rfl) (fun L0 => v_bin rfl rfl rfl (b_sub (show IntKind.i64.wrap ((q.items.length : Int) - 1) = ((q.items.length - 1 : Nat) : Int) from by rw [wrap_i64 (by omega) (by omega)]; omega))) ?_
  refine h_take 10 rfl rfl (by kernel_rfl) (by kernel_rfl) (by kernel_rfl) (fun L0 => v_indexK e_ItA_ok eadi rfl rfl rfl Try.underlying100 (by omega) (by omega)) ?_
  obtain ⟨x36, hx36⟩ : ∃ x, (q.items)[(((q.items.length - 1 : Nat) : Int)).toNat]? = some x := ⟨_, List.getElem?_eq_getElem (by omega)⟩
  have e36 : x36 = x := by have h9 := hx36; rw [show (((q.items.length - 1 : Nat) : Int)).toNat = ys.length from by omega, hit, List.getElem?_append_right (Nat.le_refl _), Nat.sub_self] at h9; exact (Option.some.inj h9).symm
  refine h_take 11 rfl rfl (by kernel_rfl) (by kernel_rfl) (by kernel_rfl) (fun L0 => v_loadn (vs := e_ItA.cells x36) rfl rfl Try.underlying110 rfl ti110 (rdn_sl e_ItA_ok eadi (rds_own e_ItA_ok 1 rfl) hx36)) ?_
  refine h_eq (t := 37) (v' := .agg #[.string x.f_key, .bool x.f_value.f_Has, .slice x.f_value.f_Value.a (x.f_value.f_Value.xs).length x.f_value.f_Value.c, .int .i64 x.f_value.f_Home, .int .u64 x.f_value.f_Count]) rfl (by rw [e36] <;> rfl) ?_
  refine h_one 12 rfl (by kernel_rfl) ?_
  refine o_alloc rfl ti110 fun b5 => ?_
  refine l_nil (qP p5 (qP p5 (qP p5 (qP p5 (qP p5 (h_next ?_))))))
  refine h_one 13 rfl (by kernel_rfl) ?_
  refine l_f5 ?_
  refine o_storen rfl rfl ti110 rfl rfl rfl rfl ?_
  refine l_nil (qP p5 (qP p5 (qP p5 (qP p5 (qP p5 (h_next ?_))))))
  refine h_done (by kernel_rfl) ?_
  refine q_then (c_seq ?_)
  refine c_mid (α := Unit) (fun z => [(0, .pointer (some ⟨b, 0, none⟩)), (2, .pointer (some ⟨b2, 0, none⟩)), (3, .int .i64 ((((q.kids.map Prod.fst)).length : Int) - 1)), (5, .pointer (some ⟨b5, 0, none⟩)), (6, .pointer (some ⟨b, 0, none⟩)), (7, .pointer (some ⟨b, 0, none⟩)), (8, .pointer (some ⟨b, 1, none⟩)), (9, .slice q.ak ((q.kids.map Prod.fst)).length q.ck), (10, .int .i64 (((q.kids.map Prod.fst)).length : Int)), (11, .int .i64 ((((q.kids.map Prod.fst)).length : Int) - 1)), (12, .int .i64 ((((q.kids.map Prod.fst)).length : Int) - 1)), (13, .bool (decide (0 ≤ ((((q.kids.map Prod.fst)).length : Int) - 1)))), (26, .pointer (some ⟨b, 0, none⟩)), (27, .pointer (some ⟨b, 0, none⟩)), (28, .pointer (some ⟨b, 0, none⟩)), (29, .slice q.a (q.items).length q.c), (30, .pointer (some ⟨b, 0, none⟩)), (31, .pointer (some ⟨b, 0, none⟩)), (32, .pointer (some ⟨b, 0, none⟩)), (33, .slice q.a (q.items).length q.c), (34, .int .i64 ((q.items).length : Int)), (35, .int .i64 ((q.items.length - 1 : Nat) : Int)), (37, .agg #[.string x.f_key, .bool x.f_value.f_Has, .slice x.f_value.f_Value.a (x.f_value.f_Value.xs).length x.f_value.f_Value.c, .int .i64 x.f_value.f_Home, .int .u64 x.f_value.f_Count]), (38, .pointer (some ⟨b, 0, none⟩)), (39, .pointer (some ⟨b, 0, none⟩)), (40, .pointer (some ⟨b, 0, none⟩)), (41, .pointer (some ⟨b, 0, none⟩)), (42, .slice q.a (q.items).length q.c), (43, .pointer (some ⟨b, 0, none⟩)), (44, .pointer (some ⟨b, 0, none⟩)), (45, .pointer (some ⟨b, 0, none⟩)), (46, .slice q.a (q.items).length q.c), (47, .int .i64 ((q.items).length : Int)), (48, .int .i64 ((q.items.length - 1 : Nat) : Int)), (49, .slice q.a (q.items.length - 1) q.c), (50, .pointer (some ⟨b, 0, none⟩)), (51, .pointer (some ⟨b, 0, none⟩))]) (fun z => blk b (.cells #[.slice q.a (q.items.length - 1) q.c, .slice q.ak ((q.kids.map Prod.fst)).length q.ck] 103 (0, 0)) :: row e_ItA.T e_ItA.sz q.a (q.items).length q.c (flat e_ItA q.items) :: row eN99.T eN99.sz q.ak ((q.kids.map Prod.fst)).length q.ck (flat eN99 (q.kids.map Prod.fst)) :: kidsR e_ItA eN99 103 d q.kids :: blk b2 (.cells #[.string ByteArray.empty, .bool false, .slice none 0 0, .int .i64 0, .int .u64 0] 110 (0, 0)) :: blk b5 (.cells #[.string x.f_key, .bool x.f_value.f_Has, .slice x.f_value.f_Value.a (x.f_value.f_Value.xs).length x.f_value.f_Value.c, .int .i64 x.f_value.f_Home, .int .u64 x.f_value.f_Count] 110 (0, 0)) :: F) (fun z => True) ?_ ?_
  · -- cut
   refine cP p5 (cP p5 (cP p5 (cP p5 (cP p5 ?_))))
   refine c_held [row e_ItA.T e_ItA.sz q.a (q.items).length q.c (flat e_ItA q.items), row eN99.T eN99.sz q.ak ((q.kids.map Prod.fst)).length q.ck (flat eN99 (q.kids.map Prod.fst)), kidsR e_ItA eN99 103 d q.kids, blk b2 (.cells #[.string ByteArray.empty, .bool false, .slice none 0 0, .int .i64 0, .int .u64 0] 110 (0, 0)), blk b5 (.cells #[.string x.f_key, .bool x.f_value.f_Has, .slice x.f_value.f_Value.a (x.f_value.f_Value.xs).length x.f_value.f_Value.c, .int .i64 x.f_value.f_Home, .int .u64 x.f_value.f_Count] 110 (0, 0))] (by kernel_rfl) rfl ?_
   refine h_take 0 rfl rfl (by kernel_rfl) (by kernel_rfl) (by kernel_rfl) (fun L0 => v_move rfl rfl) ?_
   refine h_take 1 rfl rfl (by kernel_rfl) (by kernel_rfl) (by kernel_rfl) (fun L0 => v_move rfl rfl) ?_
   refine h_take 2 rfl rfl (by kernel_rfl) (by kernel_rfl) (by kernel_rfl) (fun L0 => v_nil rfl rfl) ?_
   refine h_take 3 rfl rfl (by kernel_rfl) (by kernel_rfl) (by kernel_rfl) (fun L0 => v_fieldAddr (q := ⟨b, 0, none⟩) rfl rfl Try.underlying103 rfl ti100 rfl) ?_
   refine h_take 5 rfl rfl (by kernel_rfl) (by kernel_rfl) (by kernel_rfl) (fun L0 => v_move rfl rfl) ?_
   refine h_take 6 rfl rfl (by kernel_rfl) (by kernel_rfl) (by kernel_rfl) (fun L0 => v_nil rfl rfl) ?_
   refine h_take 7 rfl rfl (by kernel_rfl) (by kernel_rfl) (by kernel_rfl) (fun L0 => v_fieldAddr (q := ⟨b, 0, none⟩) rfl rfl Try.underlying103 rfl ti100 rfl) ?_
   refine h_many (is := [4, 8]) (by kernel_rfl) (by decide) (forall_cons ⟨_, rfl, ?_⟩ (forall_cons ⟨_, rfl, ?_⟩ forall_nil))
   · -- 4 comes first
    refine o_load1 rfl rfl Try.underlying100 rfl (rd_mem 5 rfl rfl) ?_
    refine l_nil (h_next ?_)
    refine h_one 8 rfl (by kernel_rfl) ?_
    refine o_load1 rfl rfl Try.underlying100 rfl (rd_mem 5 rfl rfl) ?_
    refine l_nil (h_next ?_)
    refine h_take 9 rfl rfl (by kernel_rfl) (by kernel_rfl) (by kernel_rfl) (fun L0 => v_len rfl rfl Try.underlying100) ?_
    refine h_take 10 rfl rfl (by kernel_rfl) (by kernel_rfl) (by kernel_rfl) (fun L0 => v_bin rfl rfl rfl (b_sub (show IntKind.i64.wrap ((q.items.length : Int) - 1) = ((q.items.length - 1 : Nat) : Int) from by rw [wrap_i64 (by omega) (by omega)]; omega))) ?_
    refine h_take 11 rfl rfl (by kernel_rfl) (by kernel_rfl) (by kernel_rfl) (fun L0 => v_cut (l' := 0) (h' := (q.items.length - 1)) (m := q.c) rfl rfl Try.underlying100 ti110 (.inl ⟨rfl, rfl⟩) (.inr ⟨_, _, rfl, icast rfl (by omega), (by omega)⟩) (.inl ⟨rfl, rfl⟩)) ?_
    obtain ⟨ys49, ay49, cut49, hys49, hlys49, eay49⟩ : ∃ ys_ ay_, (∀ {L : List Res}, RdS W L e_ItA q.a q.items → RdS W L e_ItA ay_ ys_) ∧ ys_ = sub q.items 0 (q.items.length - 1) ∧ ys_.length = (q.items.length - 1) - 0 ∧ cutA q.a q.c 0 5 = ay_ := ⟨_, _, fun h => rds_cut e_ItA_ok h _ _ _ (by omega), rfl, sub_len (by omega), rfl⟩
    refine h_eq (t := 49) (v' := .slice ay49 ys49.length (q.c - 0)) rfl (by rw [eay49, hlys49]) ?_
    refine h_eq (t := 49) (v' := .slice q.a (q.items.length - 1) q.c) rfl (by rw [hlys49, ← eay49, cutA_0, Nat.sub_zero, Nat.sub_zero]) ?_
    refine h_take 12 rfl rfl (by kernel_rfl) (by kernel_rfl) (by kernel_rfl) (fun L0 => v_nil rfl rfl) ?_
    refine h_take 13 rfl rfl (by kernel_rfl) (by kernel_rfl) (by kernel_rfl) (fun L0 => v_fieldAddr (q := ⟨b, 0, none⟩) rfl rfl Try.underlying103 rfl ti100 rfl) ?_
    refine h_one 14 rfl (by kernel_rfl) ?_
    refine l_f5 ?_
    refine o_store1 rfl rfl rfl ti100 rfl rfl ?_
    refine l_nil (qP p5 (qP p5 (qP p5 (qP p5 (qP p5 (h_next ?_))))))
    refine h_done (by kernel_rfl) ?_
    refine qP p4 (qP p4 (qP p4 (qP p4 (qP p4 (qP p5 ?_)))))
    exact q_mid (()) (by trivial) ⟨vr, vr, vr, vr, vr, vr, vr, vr, vr, vr, vr, vr, vr, vr, vr, vr, vr, vr, vr, vr, vr, vr, vr, vr, vr, vr, vr, vr, vr, vr, vr, vr, vr, vr, vr, vr, vr, trivial⟩ (fun w S => S)
   · -- 8 comes first
    refine o_load1 rfl rfl Try.underlying100 rfl (rd_mem 5 rfl rfl) ?_
    refine l_nil (h_next ?_)
    refine h_take 9 rfl rfl (by kernel_rfl) (by kernel_rfl) (by kernel_rfl) (fun L0 => v_len rfl rfl Try.underlying100) ?_
    refine h_take 10 rfl rfl (by kernel_rfl) (by kernel_rfl) (by kernel_rfl) (fun L0 => v_bin rfl rfl rfl (b_sub (show IntKind.i64.wrap ((q.items.length : Int) - 1) = ((q.items.length - 1 : Nat) : Int) from by rw [wrap_i64 (by omega) (by omega)]; omega))) ?_
    refine h_one 4 rfl (by kernel_rfl) ?_
    refine o_load1 rfl rfl Try.underlying100 rfl (rd_mem 5 rfl rfl) ?_
    refine l_nil (h_next ?_)
    refine h_take 11 rfl rfl (by kernel_rfl) (by kernel_rfl) (by kernel_rfl) (fun L0 => v_cut (l' := 0) (h' := (q.items.length - 1)) (m := q.c) rfl rfl Try.underlying100 ti110 (.inl ⟨rfl, rfl⟩) (.inr ⟨_, _, rfl, icast rfl (by omega), (by omega)⟩) (.inl ⟨rfl, rfl⟩)) ?_
    obtain ⟨ys49, ay49, cut49, hys49, hlys49, eay49⟩ : ∃ ys_ ay_, (∀ {L : List Res}, RdS W L e_ItA q.a q.items → RdS W L e_ItA ay_ ys_) ∧ ys_ = sub q.items 0 (q.items.length - 1) ∧ ys_.length = (q.items.length - 1) - 0 ∧ cutA q.a q.c 0 5 = ay_ := ⟨_, _, fun h => rds_cut e_ItA_ok h _ _ _ (by omega), rfl, sub_len (by omega), rfl⟩
    refine h_eq (t := 49) (v' := .slice ay49 ys49.length (q.c - 0)) rfl (by rw [eay49, hlys49]) ?_
    refine h_eq (t := 49) (v' := .slice q.a (q.items.length - 1) q.c) rfl (by rw [hlys49, ← eay49, cutA_0, Nat.sub_zero, Nat.sub_zero]) ?_
    refine h_take 12 rfl rfl (by kernel_rfl) (by kernel_rfl) (by kernel_rfl) (fun L0 => v_nil rfl rfl) ?_
    refine h_take 13 rfl rfl (by kernel_rfl) (by kernel_rfl) (by kernel_rfl) (fun L0 => v_fieldAddr (q := ⟨b, 0, none⟩) rfl rfl Try.underlying103 rfl ti100 rfl) ?_
    refine h_one 14 rfl (by kernel_rfl) ?_
    refine l_f5 ?_
    refine o_store1 rfl rfl rfl ti100 rfl rfl ?_
    refine l_nil (qP p5 (qP p5 (qP p5 (qP p5 (qP p5 (h_next ?_))))))
    refine h_done (by kernel_rfl) ?_
    refine qP p4 (qP p4 (qP p4 (qP p4 (qP p4 (qP p5 ?_)))))
    exact q_mid (()) (by trivial) ⟨vr, vr, vr, vr, vr, vr, vr, vr, vr, vr, vr, vr, vr, vr, vr, vr, vr, vr, vr, vr, vr, vr, vr, vr, vr, vr, vr, vr, vr, vr, vr, vr, vr, vr, vr, vr, vr, trivial⟩ (fun w S => S)
  · -- behind the cut
   rintro _ _hp
   try dsimp only at *
   refine c_seq (c_region ?_)
   refine o_loadn (vs := [_, _, _, _, _]) rfl rfl Try.underlying110 rfl ti110 (rdn_lit 5 rfl rfl) ?_
   refine l_f4 ?_
   refine o_storen rfl rfl ti110 rfl rfl rfl rfl ?_
   refine l_nil (q_then (c_ret ?_))
   refine f_retq (.inl rfl) (rs_1 rfl (rs_celln (vs := [.string x.f_key, .bool x.f_value.f_Has, .slice x.f_value.f_Value.a (x.f_value.f_Value.xs).length x.f_value.f_Value.c, .int .i64 x.f_value.f_Home, .int .u64 x.f_value.f_Count]) rfl Try.underlying110 rfl ti110 (rdn_lit 0 rfl rfl))) (fun w S => ?_)
   replace S := S.tail
   replace S := (S.perm p4).tail
   exact ⟨_, ⟨rfl, rfl⟩, (fun w S => last_end e_ItA_ok hq h0 S) w S⟩
theorem last_A : ∀ d, LastSpec_A d
  | 0 => last_step_A fun d' h => by omega
  | d + 1 => last_step_A fun d' h => by obtain rfl : d = d' := (by omega); exact last_A d
end
section
set_option linter.unusedVariables false
set_option linter.unusedSimpArgs false
set_option maxRecDepth 10000
open Go.RowKit Classical
def TakeSpec_A (d : Nat) : Prop := ∀ {W : World} {F : List Res} {mn b : Nat} {xs : List ItA} {k : ByteArray}, Srt ItA.f_key strlt xs → CS Try.prog 65 #[.pointer (some ⟨b, 0, none⟩), .string k] W (nodeR e_ItA eN99 103 d mn b xs :: F) (fun r L' => ∃ (v : Rec) (ok : Bool), GetG ItA.f_key ItA.f_value xs k v ok ∧ r = .tuple #[.agg #[.bool v.f_Has, .slice v.f_Value.a (v.f_Value.xs).length v.f_Value.c, .int .i64 v.f_Home, .int .u64 v.f_Count], .bool ok] ∧ L' = nodeO e_ItA eN99 103 d (mn - 1) b (del ItA.f_key k xs) :: F)
set_option maxHeartbeats 4000000 in
theorem take_step_A {d : Nat} (ih : ∀ d', d = d' + 1 → TakeSpec_A d') : TakeSpec_A d := by
 unfold TakeSpec_A
 intro W F mn b xs k srt
 refine f_door (l0 := [(0, .pointer (some ⟨b, 0, none⟩)), (1, .string k)]) Try.func65 Try.ntmps65 rfl rfl rfl ?_
 refine c_seq (c_region ?_)
 refine o_alloc rfl ti36 fun b4 => ?_
 refine o_assign rfl rfl (l_nil (q_then (c_seq (cP p1 ?_))))
 refine c_node ?_
 rintro q hq
 have hle := hq.le
 have hsh := hq.sh
 have hmn := hq.mn
 have hsi := hq.srt strlt_sto srt
 have hkm6 : (q.kids.map Prod.fst).length ≤ 6 := by rw [List.length_map]; rcases hsh with ⟨_, h9⟩ | ⟨_, h9, _⟩ <;> rw [h9]; simp; omega
 refine c_conv (L' := blk b (.cells #[.slice q.a (q.items).length q.c, .slice q.ak ((q.kids.map Prod.fst)).length q.ck] 103 (0, 0)) :: row e_ItA.T e_ItA.sz q.a (q.items).length q.c (flat e_ItA q.items) :: row eN99.T eN99.sz q.ak ((q.kids.map Prod.fst)).length q.ck (flat eN99 (q.kids.map Prod.fst)) :: kidsR e_ItA eN99 103 d q.kids :: blk b4 (.cells #[.bool false, .slice none 0 0, .int .i64 0, .int .u64 0] 36 (0, 0)) :: F) (fun w S => S) ?_
 refine c_region (o_move rfl rfl (o_move rfl rfl (l_f1 (l_f1 ?_))))
 refine o_call rfl cal56 rfl (search_A (k := k) (by omega) hsi) ?_
 rintro _ _ ⟨i11, fd11, ⟨hF11, hfd11⟩, rfl, rfl⟩
 refine o_move rfl rfl (o_extract rfl rfl rfl (o_extract rfl rfl rfl (o_assign rfl rfl (o_assign rfl rfl (l_nil (q_then (c_seq (c_block (c_seq ?_)))))))))
 have hfl := hF11.le
 refine c_region (o_move rfl rfl (o_move rfl rfl ?_))
 refine l_split (t := 16) rfl (fun h1 => ?_) (fun h1 => ?_)
 · -- h1T
  have h1b := h1
  try simp only [decide_eq_true_eq, decide_eq_false_iff_not, Bool.not_eq_eq_eq_not, Bool.not_true, Bool.not_false, Bool.not_eq_true', Bool.not_eq_false', Int.not_lt, Int.not_le, Bool.or_eq_true, Bool.and_eq_true] at h1
  refine o_yes rfl rfl rfl (o_move rfl rfl (o_yes rfl rfl rfl (o_nil rfl rfl (o_yes rfl rfl rfl ?_))))
  refine o_fieldAddr (q := ⟨b, 1, none⟩) rfl rfl Try.underlying103 rfl ti101 rfl ?_
  refine o_yes rfl rfl rfl ?_
  refine o_load1 rfl rfl Try.underlying101 rfl (rd_mem 0 rfl rfl) ?_
  refine o_yes rfl rfl rfl ?_
  refine o_len rfl rfl Try.underlying101 ?_
  refine o_yes rfl rfl rfl ?_
  refine o_bin rfl rfl rfl b_eql ?_
  refine o_pick_true rfl rfl rfl (o_assign rfl rfl (l_nil (q_then ?_)))
  refine c_cond rfl (fun h2 => ?_) (fun h2 => ?_)
  · -- h2T
   have h2b := h2
   try simp only [decide_eq_true_eq] at h2
   refine c_seq ?_
   obtain ⟨yf, hyf, hky⟩ := hfd11.1 h1b
   have hil := (List.getElem?_eq_some_iff.1 hyf).1
   have h0 : (q.kids.map Prod.fst).length = 0 := by omega
   refine c_fact (p := ∃ ad, q.a = some ad) (rds_some (e := e_ItA) (xs := q.items) (rds_own e_ItA_ok 1 rfl) (by intro h0; rw [h0] at hyf; simp at hyf)) ?_
   rintro ⟨ad3, ead3⟩
   refine c_region (o_move rfl rfl (o_nil rfl rfl ?_))
   refine o_fieldAddr (q := ⟨b, 0, none⟩) rfl rfl Try.underlying103 rfl ti100 rfl ?_
   refine o_load1 rfl rfl Try.underlying100 rfl (rd_mem 0 rfl rfl) ?_
   refine o_move rfl rfl ?_
   refine o_indexK e_ItA_ok ead3 rfl rfl rfl Try.underlying100 (by omega) (by omega) ?_
   obtain ⟨x29, hx29⟩ : ∃ x, (q.items)[((i11 : Int)).toNat]? = some x := ⟨_, List.getElem?_eq_getElem (by omega)⟩
   have e29 : x29 = yf := by rw [show q.items[i11]? = some x29 from hx29] at hyf; exact Option.some.inj hyf
   refine o_fieldAddr rfl rfl Try.underlying110 rfl ti36 (Addr.add_add' _ _ _) ?_
   refine o_loadn (vs := [.bool x29.f_value.f_Has, .slice x29.f_value.f_Value.a (x29.f_value.f_Value.xs).length x29.f_value.f_Value.c, .int .i64 x29.f_value.f_Home, .int .u64 x29.f_value.f_Count]) rfl rfl Try.underlying36 rfl ti36 (rdn_slo (n := 4) e_ItA_ok ead3 (rds_own e_ItA_ok 1 rfl) hx29 rfl) ?_
   refine l_eq (t := 31) (v' := .agg #[.bool yf.f_value.f_Has, .slice yf.f_value.f_Value.a (yf.f_value.f_Value.xs).length yf.f_value.f_Value.c, .int .i64 yf.f_value.f_Home, .int .u64 yf.f_value.f_Count]) rfl (by rw [e29] <;> rfl) ?_
   refine l_f4 ?_
   refine o_storen rfl rfl ti36 rfl rfl rfl rfl ?_
   refine l_nil (q_then (c_seq (c_region (o_move rfl rfl (o_move rfl rfl (o_nil rfl rfl ?_))))))
   refine o_fieldAddr (q := ⟨b, 0, none⟩) rfl rfl Try.underlying103 rfl ti100 rfl ?_
   refine o_load1 rfl rfl Try.underlying100 rfl (rd_mem 1 rfl rfl) ?_
   refine o_move rfl rfl (o_move rfl rfl ?_)
   refine o_bin rfl rfl rfl (b_add (show IntKind.i64.wrap ((i11 : Int) + 1) = ((i11 + 1 : Nat) : Int) from by rw [wrap_i64 (by omega) (by omega)]; omega)) ?_
   refine l_f2 ?_
   refine o_call rfl cal71 rfl (delI_A (xs := q.items) (i := i11) (j := (i11 + 1 : Nat)) (by omega) (by omega) (by omega)) ?_
   rintro _ _ ⟨rfl, rfl⟩
   refine o_nil rfl rfl ?_
   refine o_fieldAddr (q := ⟨b, 0, none⟩) rfl rfl Try.underlying103 rfl ti100 rfl ?_
   refine l_f2 ?_
   refine o_store1 rfl rfl rfl ti100 rfl rfl ?_
   refine l_nil (q_then (c_seq (c_region ?_)))
   refine o_loadn (vs := [_, _, _, _]) rfl rfl Try.underlying36 rfl ti36 (rdn_lit 2 rfl rfl) ?_
   refine l_f2 ?_
   refine o_storen rfl rfl ti36 rfl rfl rfl rfl ?_
   refine o_assign rfl rfl (l_nil (q_then (c_ret ?_)))
   refine q_block_ret ?_
   refine q_pass_ret ?_
   refine f_retq (.inl rfl) (rs_2 rfl (rs_celln (vs := [.bool yf.f_value.f_Has, .slice yf.f_value.f_Value.a (yf.f_value.f_Value.xs).length yf.f_value.f_Value.c, .int .i64 yf.f_value.f_Home, .int .u64 yf.f_value.f_Count]) rfl Try.underlying36 rfl ti36 (rdn_lit 0 rfl rfl)) (rs_tmp rfl)) (fun w S => ?_)
   replace S := S.tail
   exact ⟨_, ⟨ItA.f_value yf, true, (take_leaf (val := ItA.f_value) strlt_sto hq srt h0 hyf hky).2 _ rfl, rfl, rfl⟩, (fun w S => nodeO_mk _ (take_leaf (val := ItA.f_value) strlt_sto hq srt h0 hyf hky).1 S) w S⟩
  · -- h2F
   have h2b := h2
   try simp only [decide_eq_false_iff_not, Int.not_lt, Int.not_le] at h2
   refine c_seq (c_region (o_move rfl rfl ?_))
   refine l_eq (t := 45) (v' := .bool true) rfl (by first | (rw [h1b]; done) | (rw [h1b]; rfl)) ?_
   refine o_assign rfl rfl (l_nil (q_then (c_true rfl (c_seq ?_))))
   obtain ⟨yf, hyf, hky⟩ := hfd11.1 h1b
   have hil := (List.getElem?_eq_some_iff.1 hyf).1
   have hkl : q.kids.length = q.items.length + 1 := by rcases hsh with ⟨_, h9⟩ | ⟨_, h9, _⟩; exact absurd (show (q.kids.map Prod.fst).length = 0 by rw [h9]; rfl) (by omega); exact h9
   have hd0 : d ≠ 0 := by rcases hsh with ⟨_, h9⟩ | ⟨h9, _, _⟩; exact absurd (show (q.kids.map Prod.fst).length = 0 by rw [h9]; rfl) (by omega); exact h9
   have h1i : 1 ≤ q.items.length := by rcases hsh with ⟨_, h9⟩ | ⟨_, _, h9⟩; exact absurd (show (q.kids.map Prod.fst).length = 0 by rw [h9]; rfl) (by omega); exact h9
   have hkm : (q.kids.map Prod.fst).length = q.items.length + 1 := by rw [List.length_map]; exact hkl
   obtain ⟨⟨kb, zs⟩, hkid⟩ : ∃ z, q.kids[i11]? = some z := ⟨_, List.getElem?_eq_getElem (by omega)⟩
   have hkf : (q.kids.map Prod.fst)[i11]? = some kb := by rw [List.getElem?_map, hkid]; rfl
   obtain ⟨d', rfl⟩ : ∃ d', d = d' + 1 := ⟨d - 1, by omega⟩
   refine cP p3 ?_
   refine c_conv (L' := nodeR e_ItA eN99 103 d' 2 kb zs :: kidsR e_ItA eN99 103 (d' + 1) (q.kids.eraseIdx i11) :: _) (fun w S => Sat.kid_take hkid S) ?_
   refine c_fact (p := zs ≠ []) (fun w S => node_ne (by decide) S) fun hzs => ?_
   obtain ⟨ys, xw, rfl⟩ : ∃ ys x, zs = ys ++ [x] := ⟨_, _, (List.dropLast_concat_getLast hzs).symm⟩
   have hth := take_here (val := ItA.f_value) strlt_sto hq srt hkl hkid hyf hky
   refine c_fact (p := ∃ ad, q.a = some ad) (rds_some (e := e_ItA) (xs := q.items) (rds_own e_ItA_ok 3 rfl) (by intro h0; rw [h0] at hyf; simp at hyf)) ?_
   rintro ⟨ada, eada⟩
   refine c_fact (p := ∃ ad, q.ak = some ad) (rds_some (e := eN99) (xs := (q.kids.map Prod.fst)) (rds_own eN99_ok 4 rfl) (by intro h0; rw [h0] at hkm; simp at hkm)) ?_
   rintro ⟨adk, eadk⟩
   refine c_region (o_move rfl rfl (o_nil rfl rfl ?_))
   refine o_fieldAddr (q := ⟨b, 0, none⟩) rfl rfl Try.underlying103 rfl ti100 rfl ?_
   refine o_load1 rfl rfl Try.underlying100 rfl (rd_mem 2 rfl rfl) ?_
   refine o_move rfl rfl ?_
   refine o_indexK e_ItA_ok eada rfl rfl rfl Try.underlying100 (by omega) (by omega) ?_
   obtain ⟨x51, hx51⟩ : ∃ x, (q.items)[((i11 : Int)).toNat]? = some x := ⟨_, List.getElem?_eq_getElem (by omega)⟩
   have e51 : x51 = yf := by rw [show q.items[i11]? = some x51 from hx51] at hyf; exact Option.some.inj hyf
   refine o_fieldAddr rfl rfl Try.underlying110 rfl ti36 (Addr.add_add' _ _ _) ?_
   refine o_loadn (vs := [.bool x51.f_value.f_Has, .slice x51.f_value.f_Value.a (x51.f_value.f_Value.xs).length x51.f_value.f_Value.c, .int .i64 x51.f_value.f_Home, .int .u64 x51.f_value.f_Count]) rfl rfl Try.underlying36 rfl ti36 (rdn_slo (n := 4) e_ItA_ok eada (rds_own e_ItA_ok 3 rfl) hx51 rfl) ?_
   refine l_eq (t := 53) (v' := .agg #[.bool yf.f_value.f_Has, .slice yf.f_value.f_Value.a (yf.f_value.f_Value.xs).length yf.f_value.f_Value.c, .int .i64 yf.f_value.f_Home, .int .u64 yf.f_value.f_Count]) rfl (by rw [e51] <;> rfl) ?_
   refine l_f5 ?_
   refine o_storen rfl rfl ti36 rfl rfl rfl rfl ?_
   refine l_nil (q_then (c_seq ?_))
   refine c_mid (α := Unit) (fun z => [(0, .pointer (some ⟨b, 0, none⟩)), (1, .string k), (4, .pointer (some ⟨b4, 0, none⟩)), (5, .bool false), (6, .int .i64 (i11 : Int)), (7, .bool fd11), (8, .tuple #[.int .i64 (i11 : Int), .bool fd11]), (9, .pointer (some ⟨b, 0, none⟩)), (10, .string k), (11, .tuple #[.int .i64 (i11 : Int), .bool fd11]), (12, .int .i64 (i11 : Int)), (13, .bool fd11), (14, .bool (decide ((((q.kids.map Prod.fst)).length : Int) = 0))), (15, .bool fd11), (16, .bool true), (17, .pointer (some ⟨b, 0, none⟩)), (18, .pointer (some ⟨b, 0, none⟩)), (19, .pointer (some ⟨b, 1, none⟩)), (20, .slice q.ak ((q.kids.map Prod.fst)).length q.ck), (21, .int .i64 (((q.kids.map Prod.fst)).length : Int)), (22, .bool (decide ((((q.kids.map Prod.fst)).length : Int) = 0))), (23, .bool (decide ((((q.kids.map Prod.fst)).length : Int) = 0))), (44, .bool true), (45, .bool true), (46, .pointer (some ⟨b, 0, none⟩)), (47, .pointer (some ⟨b, 0, none⟩)), (48, .pointer (some ⟨b, 0, none⟩)), (49, .slice q.a ((q.items).set ((i11 : Int)).toNat xw).length q.c), (50, .int .i64 (i11 : Int)), (53, .agg #[.bool yf.f_value.f_Has, .slice yf.f_value.f_Value.a (yf.f_value.f_Value.xs).length yf.f_value.f_Value.c, .int .i64 yf.f_value.f_Home, .int .u64 yf.f_value.f_Count]), (54, .pointer (some ⟨b, 0, none⟩)), (55, .pointer (some ⟨b, 0, none⟩)), (56, .pointer (some ⟨b, 0, none⟩)), (57, .slice q.a ((q.items).set ((i11 : Int)).toNat xw).length q.c), (58, .int .i64 (i11 : Int)), (59, .pointer (some ⟨b, 0, none⟩)), (60, .pointer (some ⟨b, 0, none⟩)), (61, .pointer (some ⟨b, 1, none⟩)), (62, .slice q.ak ((q.kids.map Prod.fst)).length q.ck), (63, .int .i64 (i11 : Int)), (65, .pointer (some ⟨kb, 0, none⟩)), (66, .agg #[.string xw.f_key, .bool xw.f_value.f_Has, .slice xw.f_value.f_Value.a (xw.f_value.f_Value.xs).length xw.f_value.f_Value.c, .int .i64 xw.f_value.f_Home, .int .u64 xw.f_value.f_Count])]) (fun z => blk b (.cells #[.slice q.a ((q.items).set ((i11 : Int)).toNat xw).length q.c, .slice q.ak ((q.kids.map Prod.fst)).length q.ck] 103 (0, 0)) :: row e_ItA.T e_ItA.sz q.a ((q.items).set ((i11 : Int)).toNat xw).length q.c (flat e_ItA ((q.items).set ((i11 : Int)).toNat xw)) :: nodeO e_ItA eN99 103 d' 1 kb ys :: blk b4 (.cells #[.bool yf.f_value.f_Has, .slice yf.f_value.f_Value.a (yf.f_value.f_Value.xs).length yf.f_value.f_Value.c, .int .i64 yf.f_value.f_Home, .int .u64 yf.f_value.f_Count] 36 (0, 0)) :: kidsR e_ItA eN99 103 (d' + 1) (q.kids.eraseIdx i11) :: row eN99.T eN99.sz q.ak ((q.kids.map Prod.fst)).length q.ck (flat eN99 (q.kids.map Prod.fst)) :: F) (fun z => True) ?_ ?_
   · -- cut
    refine cP p4 (cP p4 (cP p3 (cP p5 (cP p5 (cP p5 ?_)))))
    refine c_held [blk b4 (.cells #[.bool yf.f_value.f_Has, .slice yf.f_value.f_Value.a (yf.f_value.f_Value.xs).length yf.f_value.f_Value.c, .int .i64 yf.f_value.f_Home, .int .u64 yf.f_value.f_Count] 36 (0, 0)), kidsR e_ItA eN99 103 (d' + 1) (q.kids.eraseIdx i11), row eN99.T eN99.sz q.ak ((q.kids.map Prod.fst)).length q.ck (flat eN99 (q.kids.map Prod.fst))] (by kernel_rfl) rfl ?_
    refine h_take 0 rfl rfl (by kernel_rfl) (by kernel_rfl) (by kernel_rfl) (fun L0 => v_move rfl rfl) ?_
    refine h_take 1 rfl rfl (by kernel_rfl) (by kernel_rfl) (by kernel_rfl) (fun L0 => v_nil rfl rfl) ?_
    refine h_take 2 rfl rfl (by kernel_rfl) (by kernel_rfl) (by kernel_rfl) (fun L0 => v_fieldAddr (q := ⟨b, 0, none⟩) rfl rfl Try.underlying103 rfl ti100 rfl) ?_
    refine h_take 4 rfl rfl (by kernel_rfl) (by kernel_rfl) (by kernel_rfl) (fun L0 => v_move rfl rfl) ?_
    refine h_take 5 rfl rfl (by kernel_rfl) (by kernel_rfl) (by kernel_rfl) (fun L0 => v_move rfl rfl) ?_
    refine h_take 6 rfl rfl (by kernel_rfl) (by kernel_rfl) (by kernel_rfl) (fun L0 => v_nil rfl rfl) ?_
    refine h_take 7 rfl rfl (by kernel_rfl) (by kernel_rfl) (by kernel_rfl) (fun L0 => v_fieldAddr (q := ⟨b, 1, none⟩) rfl rfl Try.underlying103 rfl ti101 rfl) ?_
    refine h_take 9 rfl rfl (by kernel_rfl) (by kernel_rfl) (by kernel_rfl) (fun L0 => v_move rfl rfl) ?_
    refine h_many (is := [3, 8]) (by kernel_rfl) (by decide) (forall_cons ⟨_, rfl, ?_⟩ (forall_cons ⟨_, rfl, ?_⟩ forall_nil))
    · -- 3 comes first
     refine o_load1 rfl rfl Try.underlying100 rfl (rd_mem 4 rfl rfl) ?_
     refine l_nil (h_next ?_)
     refine h_one 8 rfl (by kernel_rfl) ?_
     refine o_load1 rfl rfl Try.underlying101 rfl (rd_mem 4 rfl rfl) ?_
     refine l_nil (h_next ?_)
     refine h_take 10 rfl rfl (by kernel_rfl) (by kernel_rfl) (by kernel_rfl) (fun L0 => v_indexK eN99_ok eadk rfl rfl rfl Try.underlying101 (by omega) (by omega)) ?_
     obtain ⟨x64, hx64⟩ : ∃ x, ((q.kids.map Prod.fst))[((i11 : Int)).toNat]? = some x := ⟨_, List.getElem?_eq_getElem (by omega)⟩
     have hxk64 : x64 = kb := by have h9 := hx64; rw [show ((i11 : Int)).toNat = i11 from by omega, hkf] at h9; exact (Option.some.inj h9).symm
     refine h_take 11 rfl rfl (by kernel_rfl) (by kernel_rfl) (by kernel_rfl) (fun L0 => v_load1 rfl rfl Try.underlying99 rfl (rd_sl0 eN99_ok eadk (rds_own eN99_ok 2 rfl) hx64 rfl)) ?_
     refine h_eq (t := 65) (v' := .pointer (some ⟨kb, 0, none⟩)) rfl (by rw [hxk64]) ?_
     refine h_one 12 rfl (by kernel_rfl) ?_
     refine l_f3 ?_
     refine o_call rfl cal72 rfl (last_A d') ?_
     rintro _ _ ⟨rfl, rfl⟩
     refine l_nil (qP p5 (qP p5 (qP p2 (qP p5 (qP p5 (qP p5 (h_next ?_)))))))
     refine h_take 13 rfl rfl (by kernel_rfl) (by kernel_rfl) (by kernel_rfl) (fun L0 => v_indexK e_ItA_ok eada rfl rfl rfl Try.underlying100 (by omega) (by omega)) ?_
     obtain ⟨x67, hx67⟩ : ∃ x, (q.items)[((i11 : Int)).toNat]? = some x := ⟨_, List.getElem?_eq_getElem (by omega)⟩
     refine h_one 14 rfl (by kernel_rfl) ?_
     refine l_f5 ?_
     refine o_storeRowAll e_ItA_ok eada rfl rfl ti110 xw rfl (by have := List.getElem?_eq_some_iff.1 hx67; exact this.1) ?_
     refine l_f5 ?_
     refine l_conv (L' := blk b (.cells #[.slice q.a (q.items).length q.c, .slice q.ak ((q.kids.map Prod.fst)).length q.ck] 103 (0, 0)) :: _) (fun w S => S) ?_
     refine l_conv (L' := blk b (.cells #[.slice q.a ((q.items).set ((i11 : Int)).toNat xw).length q.c, .slice q.ak ((q.kids.map Prod.fst)).length q.ck] 103 (0, 0)) :: row e_ItA.T e_ItA.sz q.a ((q.items).set ((i11 : Int)).toNat xw).length q.c (flat e_ItA ((q.items).set ((i11 : Int)).toNat xw)) :: blk b4 (.cells #[.bool yf.f_value.f_Has, .slice yf.f_value.f_Value.a (yf.f_value.f_Value.xs).length yf.f_value.f_Value.c, .int .i64 yf.f_value.f_Home, .int .u64 yf.f_value.f_Count] 36 (0, 0)) :: kidsR e_ItA eN99 103 (d' + 1) (q.kids.eraseIdx i11) :: row eN99.T eN99.sz q.ak ((q.kids.map Prod.fst)).length q.ck (flat eN99 (q.kids.map Prod.fst)) :: nodeO e_ItA eN99 103 d' 1 kb ys :: F) (fun w S => by first | exact S | simpa only [List.length_set] using S | (simp only [List.length_set] at S ⊢; exact S)) ?_
     refine l_nil (qP p5 (qP p2 (qP p2 (qP p5 (qP p5 (qP p5 (h_next ?_)))))))
     refine h_done (by kernel_rfl) ?_
     refine qP p2 (qP p2 (qP p2 (qP p5 (qP p5 (qP p5 ?_)))))
     exact q_mid (()) (by trivial) ⟨vr, vr, vr, vr, vr, vr, vr, vr, vr, vr, vr, vr, vr, vr, vr, vr, vr, vr, vr, vr, vr, vr, vr, vr, vr, vr, vr, (by first | rfl | (rw [List.length_set]; rfl)), vr, vr, vr, vr, vr, (by first | rfl | (rw [List.length_set]; rfl)), vr, vr, vr, vr, vr, vr, vr, vr, trivial⟩ (fun w S => S)
    · -- 8 comes first
     refine o_load1 rfl rfl Try.underlying101 rfl (rd_mem 4 rfl rfl) ?_
     refine l_nil (h_next ?_)
     refine h_take 10 rfl rfl (by kernel_rfl) (by kernel_rfl) (by kernel_rfl) (fun L0 => v_indexK eN99_ok eadk rfl rfl rfl Try.underlying101 (by omega) (by omega)) ?_
     obtain ⟨x64, hx64⟩ : ∃ x, ((q.kids.map Prod.fst))[((i11 : Int)).toNat]? = some x := ⟨_, List.getElem?_eq_getElem (by omega)⟩
     have hxk64 : x64 = kb := by have h9 := hx64; rw [show ((i11 : Int)).toNat = i11 from by omega, hkf] at h9; exact (Option.some.inj h9).symm
     refine h_take 11 rfl rfl (by kernel_rfl) (by kernel_rfl) (by kernel_rfl) (fun L0 => v_load1 rfl rfl Try.underlying99 rfl (rd_sl0 eN99_ok eadk (rds_own eN99_ok 2 rfl) hx64 rfl)) ?_
     refine h_eq (t := 65) (v' := .pointer (some ⟨kb, 0, none⟩)) rfl (by rw [hxk64]) ?_
     refine h_many (is := [3, 12]) (by kernel_rfl) (by decide) (forall_cons ⟨_, rfl, ?_⟩ (forall_cons ⟨_, rfl, ?_⟩ forall_nil))
     · -- 3 comes first
      refine o_load1 rfl rfl Try.underlying100 rfl (rd_mem 4 rfl rfl) ?_
      refine l_nil (h_next ?_)
      refine h_one 12 rfl (by kernel_rfl) ?_
      refine l_f3 ?_
      refine o_call rfl cal72 rfl (last_A d') ?_
      rintro _ _ ⟨rfl, rfl⟩
      refine l_nil (qP p5 (qP p5 (qP p2 (qP p5 (qP p5 (qP p5 (h_next ?_)))))))
      refine h_take 13 rfl rfl (by kernel_rfl) (by kernel_rfl) (by kernel_rfl) (fun L0 => v_indexK e_ItA_ok eada rfl rfl rfl Try.underlying100 (by omega) (by omega)) ?_
      obtain ⟨x67, hx67⟩ : ∃ x, (q.items)[((i11 : Int)).toNat]? = some x := ⟨_, List.getElem?_eq_getElem (by omega)⟩
      refine h_one 14 rfl (by kernel_rfl) ?_
      refine l_f5 ?_
      refine o_storeRowAll e_ItA_ok eada rfl rfl ti110 xw rfl (by have := List.getElem?_eq_some_iff.1 hx67; exact this.1) ?_
      refine l_f5 ?_
      refine l_conv (L' := blk b (.cells #[.slice q.a (q.items).length q.c, .slice q.ak ((q.kids.map Prod.fst)).length q.ck] 103 (0, 0)) :: _) (fun w S => S) ?_
      refine l_conv (L' := blk b (.cells #[.slice q.a ((q.items).set ((i11 : Int)).toNat xw).length q.c, .slice q.ak ((q.kids.map Prod.fst)).length q.ck] 103 (0, 0)) :: row e_ItA.T e_ItA.sz q.a ((q.items).set ((i11 : Int)).toNat xw).length q.c (flat e_ItA ((q.items).set ((i11 : Int)).toNat xw)) :: blk b4 (.cells #[.bool yf.f_value.f_Has, .slice yf.f_value.f_Value.a (yf.f_value.f_Value.xs).length yf.f_value.f_Value.c, .int .i64 yf.f_value.f_Home, .int .u64 yf.f_value.f_Count] 36 (0, 0)) :: kidsR e_ItA eN99 103 (d' + 1) (q.kids.eraseIdx i11) :: row eN99.T eN99.sz q.ak ((q.kids.map Prod.fst)).length q.ck (flat eN99 (q.kids.map Prod.fst)) :: nodeO e_ItA eN99 103 d' 1 kb ys :: F) (fun w S => by first | exact S | simpa only [List.length_set] using S | (simp only [List.length_set] at S ⊢; exact S)) ?_
      refine l_nil (qP p5 (qP p2 (qP p2 (qP p5 (qP p5 (qP p5 (h_next ?_)))))))
      refine h_done (by kernel_rfl) ?_
      refine qP p2 (qP p2 (qP p2 (qP p5 (qP p5 (qP p5 ?_)))))
      exact q_mid (()) (by trivial) ⟨vr, vr, vr, vr, vr, vr, vr, vr, vr, vr, vr, vr, vr, vr, vr, vr, vr, vr, vr, vr, vr, vr, vr, vr, vr, vr, vr, (by first | rfl | (rw [List.length_set]; rfl)), vr, vr, vr, vr, vr, (by first | rfl | (rw [List.length_set]; rfl)), vr, vr, vr, vr, vr, vr, vr, vr, trivial⟩ (fun w S => S)
     · -- 12 comes first
      refine l_f3 ?_
      refine o_call rfl cal72 rfl (last_A d') ?_
      rintro _ _ ⟨rfl, rfl⟩
      refine l_nil (qP p5 (qP p5 (qP p2 (qP p5 (qP p5 (qP p5 (h_next ?_)))))))
      refine h_one 3 rfl (by kernel_rfl) ?_
      refine o_load1 rfl rfl Try.underlying100 rfl (rd_mem 4 rfl rfl) ?_
      refine l_nil (h_next ?_)
      refine h_take 13 rfl rfl (by kernel_rfl) (by kernel_rfl) (by kernel_rfl) (fun L0 => v_indexK e_ItA_ok eada rfl rfl rfl Try.underlying100 (by omega) (by omega)) ?_
      obtain ⟨x67, hx67⟩ : ∃ x, (q.items)[((i11 : Int)).toNat]? = some x := ⟨_, List.getElem?_eq_getElem (by omega)⟩
      refine h_one 14 rfl (by kernel_rfl) ?_
      refine l_f5 ?_
      refine o_storeRowAll e_ItA_ok eada rfl rfl ti110 xw rfl (by have := List.getElem?_eq_some_iff.1 hx67; exact this.1) ?_
      refine l_f5 ?_
      refine l_conv (L' := blk b (.cells #[.slice q.a (q.items).length q.c, .slice q.ak ((q.kids.map Prod.fst)).length q.ck] 103 (0, 0)) :: _) (fun w S => S) ?_
      refine l_conv (L' := blk b (.cells #[.slice q.a ((q.items).set ((i11 : Int)).toNat xw).length q.c, .slice q.ak ((q.kids.map Prod.fst)).length q.ck] 103 (0, 0)) :: row e_ItA.T e_ItA.sz q.a ((q.items).set ((i11 : Int)).toNat xw).length q.c (flat e_ItA ((q.items).set ((i11 : Int)).toNat xw)) :: blk b4 (.cells #[.bool yf.f_value.f_Has, .slice yf.f_value.f_Value.a (yf.f_value.f_Value.xs).length yf.f_value.f_Value.c, .int .i64 yf.f_value.f_Home, .int .u64 yf.f_value.f_Count] 36 (0, 0)) :: kidsR e_ItA eN99 103 (d' + 1) (q.kids.eraseIdx i11) :: row eN99.T eN99.sz q.ak ((q.kids.map Prod.fst)).length q.ck (flat eN99 (q.kids.map Prod.fst)) :: nodeO e_ItA eN99 103 d' 1 kb ys :: F) (fun w S => by first | exact S | simpa only [List.length_set] using S | (simp only [List.length_set] at S ⊢; exact S)) ?_
      refine l_nil (qP p5 (qP p2 (qP p2 (qP p5 (qP p5 (qP p5 (h_next ?_)))))))
      refine h_done (by kernel_rfl) ?_
      refine qP p2 (qP p2 (qP p2 (qP p5 (qP p5 (qP p5 ?_)))))
      exact q_mid (()) (by trivial) ⟨vr, vr, vr, vr, vr, vr, vr, vr, vr, vr, vr, vr, vr, vr, vr, vr, vr, vr, vr, vr, vr, vr, vr, vr, vr, vr, vr, (by first | rfl | (rw [List.length_set]; rfl)), vr, vr, vr, vr, vr, (by first | rfl | (rw [List.length_set]; rfl)), vr, vr, vr, vr, vr, vr, vr, vr, trivial⟩ (fun w S => S)
   · -- behind the cut
    rintro _ _hp
    try dsimp only at *
    refine c_seq (c_region (o_move rfl rfl (o_move rfl rfl (l_f4 (l_f3 (l_f5 (l_f4 (l_f4 ?_))))))))
    refine o_call rfl cal73 rfl (mendok2_A (ks := q.kids.set i11 (kb, ys)) (i := i11) (by rw [List.length_set]; exact hle) (by rw [List.length_set]; exact h1i) (by rw [List.length_set, List.length_set]; exact hkl) (List.getElem?_set_self (List.getElem?_eq_some_iff.1 hkid).1) (kids_fst_set hkid) erase_set.symm) ?_
    rintro _ _ rfl
    refine l_nil (q_then (c_seq (c_region ?_)))
    refine o_loadn (vs := [_, _, _, _]) rfl rfl Try.underlying36 rfl ti36 (rdn_lit 1 rfl rfl) ?_
    refine l_f1 ?_
    refine o_storen rfl rfl ti36 rfl rfl rfl rfl ?_
    refine o_assign rfl rfl (l_nil (q_then (c_ret ?_)))
    refine q_block_ret ?_
    refine q_pass_ret ?_
    refine f_retq (.inl rfl) (rs_2 rfl (rs_celln (vs := [.bool yf.f_value.f_Has, .slice yf.f_value.f_Value.a (yf.f_value.f_Value.xs).length yf.f_value.f_Value.c, .int .i64 yf.f_value.f_Home, .int .u64 yf.f_value.f_Count]) rfl Try.underlying36 rfl ti36 (rdn_lit 0 rfl rfl)) (rs_tmp rfl)) (fun w S => ?_)
    replace S := S.tail
    exact ⟨_, ⟨ItA.f_value yf, true, hth.2 _ rfl, rfl, rfl⟩, (fun w S => nodeO_mono (mn := ((q.items).set ((i11 : Int)).toNat xw).length - 1) (by rw [List.length_set]; omega) (by rw [hth.1]; exact S)) w S⟩
 · -- h1F
  have h1b := h1
  try simp only [decide_eq_true_eq, decide_eq_false_iff_not, Bool.not_eq_eq_eq_not, Bool.not_true, Bool.not_false, Bool.not_eq_true', Bool.not_eq_false', Int.not_lt, Int.not_le, Bool.or_eq_true, Bool.and_eq_true] at h1
  refine o_no rfl rfl rfl rfl (o_no rfl rfl rfl rfl (o_no rfl rfl rfl rfl (o_no rfl rfl rfl rfl (o_no rfl rfl rfl rfl (o_no rfl rfl rfl rfl (o_pick_false rfl rfl rfl (o_assign rfl rfl (l_nil (q_then ?_)))))))))
  refine c_false rfl (c_seq (c_region (o_move rfl rfl ?_)))
  refine l_eq (t := 45) (v' := .bool false) rfl (by first | (rw [h1b]; done) | (rw [h1b]; rfl)) ?_
  refine o_assign rfl rfl (l_nil (q_then (c_false rfl (c_seq ?_))))
  have hnf : ¬ ∃ y, q.items[i11]? = some y ∧ y.f_key = k := fun h9 => by rw [hfd11.2 h9] at h1b; cases h1b
  refine c_region (o_move rfl rfl (o_nil rfl rfl ?_))
  refine o_fieldAddr (q := ⟨b, 1, none⟩) rfl rfl Try.underlying103 rfl ti101 rfl ?_
  refine o_load1 rfl rfl Try.underlying101 rfl (rd_mem 0 rfl rfl) ?_
  refine o_len rfl rfl Try.underlying101 ?_
  refine o_bin rfl rfl rfl b_gtr ?_
  refine o_assign rfl rfl (l_nil (q_then ?_))
  refine c_cond rfl (fun h3 => ?_) (fun h3 => ?_)
  · -- h3T
   have h3b := h3
   try simp only [decide_eq_true_eq] at h3
   refine c_seq ?_
   have hkl : q.kids.length = q.items.length + 1 := by rcases hsh with ⟨_, h9⟩ | ⟨_, h9, _⟩; exact absurd (show (q.kids.map Prod.fst).length = 0 by rw [h9]; rfl) (by omega); exact h9
   have hd0 : d ≠ 0 := by rcases hsh with ⟨_, h9⟩ | ⟨h9, _, _⟩; exact absurd (show (q.kids.map Prod.fst).length = 0 by rw [h9]; rfl) (by omega); exact h9
   have h1i : 1 ≤ q.items.length := by rcases hsh with ⟨_, h9⟩ | ⟨_, _, h9⟩; exact absurd (show (q.kids.map Prod.fst).length = 0 by rw [h9]; rfl) (by omega); exact h9
   have hkm : (q.kids.map Prod.fst).length = q.items.length + 1 := by rw [List.length_map]; exact hkl
   obtain ⟨⟨kb, ys⟩, hkid⟩ : ∃ z, q.kids[i11]? = some z := ⟨_, List.getElem?_eq_getElem (by omega)⟩
   have hkf : (q.kids.map Prod.fst)[i11]? = some kb := by rw [List.getElem?_map, hkid]; rfl
   obtain ⟨d', rfl⟩ : ∃ d', d = d' + 1 := ⟨d - 1, by omega⟩
   refine cP p3 ?_
   refine c_conv (L' := nodeR e_ItA eN99 103 d' 2 kb ys :: kidsR e_ItA eN99 103 (d' + 1) (q.kids.eraseIdx i11) :: _) (fun w S => Sat.kid_take hkid S) ?_
   obtain ⟨hdl, hsy, hgk⟩ := take_down (val := ItA.f_value) strlt_sto (x := (⟨k, (⟨false, ⟨none, [], 0⟩, 0, 0⟩ : Rec)⟩ : ItA)) rfl hq srt hkid hF11 hnf
   refine c_fact (p := ∃ ad, q.ak = some ad) (rds_some (e := eN99) (xs := (q.kids.map Prod.fst)) (rds_own eN99_ok 4 rfl) (by intro h0; rw [h0] at hkm; simp at hkm)) ?_
   rintro ⟨adk, eadk⟩
   refine c_region (o_move rfl rfl (o_nil rfl rfl ?_))
   refine o_fieldAddr (q := ⟨b, 1, none⟩) rfl rfl Try.underlying103 rfl ti101 rfl ?_
   refine o_load1 rfl rfl Try.underlying101 rfl (rd_mem 2 rfl rfl) ?_
   refine o_move rfl rfl ?_
   refine o_indexK eN99_ok eadk rfl rfl rfl Try.underlying101 (by omega) (by omega) ?_
   obtain ⟨x85, hx85⟩ : ∃ x, ((q.kids.map Prod.fst))[((i11 : Int)).toNat]? = some x := ⟨_, List.getElem?_eq_getElem (by omega)⟩
   have hxk85 : x85 = kb := by have h9 := hx85; rw [show ((i11 : Int)).toNat = i11 from by omega, hkf] at h9; exact (Option.some.inj h9).symm
   refine o_load1 rfl rfl Try.underlying99 rfl (rd_sl0 eN99_ok eadk (rds_own eN99_ok 4 rfl) hx85 rfl) ?_
   refine l_eq (t := 86) (v' := .pointer (some ⟨kb, 0, none⟩)) rfl (by rw [hxk85]) ?_
   refine o_move rfl rfl ?_
   refine o_call rfl cal65 rfl (ih d' rfl hsy) ?_
   rintro _ _ ⟨v88, ok88, hg88, rfl, rfl⟩
   refine o_move rfl rfl (o_extract rfl rfl rfl (o_extract rfl rfl rfl (l_f5 ?_)))
   refine o_storen rfl rfl ti36 rfl rfl rfl rfl ?_
   refine o_assign rfl rfl (l_nil (q_then (c_region (o_move rfl rfl (o_move rfl rfl (l_f2 (l_f2 (l_f5 (l_f5 ?_)))))))))
   refine l_f5 ?_
   refine o_call rfl cal73 rfl (mendok2_A (ks := q.kids.set i11 (kb, del ItA.f_key k ys)) (i := i11) hle h1i (by rw [List.length_set]; exact hkl) (List.getElem?_set_self (List.getElem?_eq_some_iff.1 hkid).1) (kids_fst_set hkid) erase_set.symm) ?_
   rintro _ _ rfl
   refine l_nil (q_block (q_then (c_seq (c_region ?_))))
   refine o_loadn (vs := [_, _, _, _]) rfl rfl Try.underlying36 rfl ti36 (rdn_lit 1 rfl rfl) ?_
   refine o_move rfl rfl (l_f1 ?_)
   refine o_storen rfl rfl ti36 rfl rfl rfl rfl ?_
   refine o_assign rfl rfl (l_nil (q_then (c_ret ?_)))
   refine f_retq (.inl rfl) (rs_2 rfl (rs_celln (vs := [.bool v88.f_Has, .slice v88.f_Value.a (v88.f_Value.xs).length v88.f_Value.c, .int .i64 v88.f_Home, .int .u64 v88.f_Count]) rfl Try.underlying36 rfl ti36 (rdn_lit 0 rfl rfl)) (rs_tmp rfl)) (fun w S => ?_)
   replace S := S.tail
   exact ⟨_, ⟨v88, ok88, hgk _ _ hg88, rfl, rfl⟩, (fun w S => nodeO_mono (mn := q.items.length - 1) (by omega) (by rw [hdl]; exact S)) w S⟩
  · -- h3F
   have h3b := h3
   try simp only [decide_eq_false_iff_not, Int.not_lt, Int.not_le] at h3
   refine c_skip (q_block (q_then (c_seq ?_)))
   have h0 : (q.kids.map Prod.fst).length = 0 := by omega
   refine c_region ?_
   refine o_loadn (vs := [.bool false, .slice none 0 0, .int .i64 0, .int .u64 0]) rfl rfl Try.underlying36 rfl ti36 (rdn_lit 4 rfl rfl) ?_
   refine o_move rfl rfl (l_f4 ?_)
   refine o_storen rfl rfl ti36 rfl rfl rfl rfl ?_
   refine o_assign rfl rfl (l_nil (q_then (c_ret ?_)))
   refine f_retq (.inl rfl) (rs_2 rfl (rs_celln (vs := [.bool false, .slice none 0 0, .int .i64 0, .int .u64 0]) rfl Try.underlying36 rfl ti36 (rdn_lit 0 rfl rfl)) (rs_tmp rfl)) (fun w S => ?_)
   replace S := S.tail
   exact ⟨_, ⟨(⟨false, ⟨none, [], 0⟩, 0, 0⟩ : Rec), false, (take_none (val := ItA.f_value) strlt_sto hq srt hF11 hnf h0).2, rfl, rfl⟩, (fun w S => node_lax (mn := mn) (by omega) (by rw [(take_none (val := ItA.f_value) (v := (⟨false, ⟨none, [], 0⟩, 0, 0⟩ : Rec)) strlt_sto hq srt hF11 hnf h0).1]; exact nodeMk q hq S)) w S⟩
theorem take_A : ∀ d, TakeSpec_A d
  | 0 => take_step_A fun d' h => by omega
  | d + 1 => take_step_A fun d' h => by obtain rfl : d = d' := (by omega); exact take_A d
end
section
set_option linter.unusedVariables false
set_option linter.unusedSimpArgs false
set_option maxRecDepth 10000
open Go.RowKit Classical
def PutSpec_A (d : Nat) : Prop := ∀ {W : World} {F : List Res} {mn b : Nat} {xs : List ItA} {x : ItA}, mn ≤ 2 → Srt ItA.f_key strlt xs → CS Try.prog 66 #[.pointer (some ⟨b, 0, none⟩), .agg (e_ItA.cells x).toArray] W (nodeR e_ItA eN99 103 d mn b xs :: F) (fun r L' => ∃ (old : Rec) (had : Bool) (ls : List ItA) (s : Option (Nat × ItA × Nat × List ItA)), (ins ItA.f_key strlt x xs = insS ls s ∧ Old ItA.f_key ItA.f_value (⟨false, ⟨none, [], 0⟩, 0, 0⟩ : Rec) x xs old had) ∧ r = .tuple #[.agg #[.bool old.f_Has, .slice old.f_Value.a (old.f_Value.xs).length old.f_Value.c, .int .i64 old.f_Home, .int .u64 old.f_Count], .bool had, .pointer (s.map fun z => (⟨z.1, 0, none⟩ : Addr)), .pointer (s.map fun z => (⟨z.2.2.1, 0, none⟩ : Addr))] ∧ L' = nodeR e_ItA eN99 103 d (mnO mn s) b ls :: midR e_ItA eN99 103 d s :: F)
set_option maxHeartbeats 4000000 in
theorem put_step_A {d : Nat} (ih : ∀ d', d = d' + 1 → PutSpec_A d') : PutSpec_A d := by
 unfold PutSpec_A
 intro W F mn b xs x hmn srt
 refine f_door (l0 := [(0, .pointer (some ⟨b, 0, none⟩)), (1, .agg (e_ItA.cells x).toArray)]) Try.func66 Try.ntmps66 rfl rfl rfl ?_
 refine c_seq (c_region ?_)
 refine o_box rfl rfl fun b3 => ?_
 refine o_alloc rfl ti36 fun b4 => ?_
 refine o_assign rfl rfl (o_assign rfl rfl (o_assign rfl rfl (l_nil (q_then (c_seq (cP p2 ?_))))))
 refine c_node ?_
 rintro q hq
 have hsi := hq.srt strlt_sto srt
 have hle := hq.le
 have hsh := hq.sh
 refine c_conv (L' := blk b (.cells #[.slice q.a (q.items).length q.c, .slice q.ak ((q.kids.map Prod.fst)).length q.ck] 103 (0, 0)) :: row e_ItA.T e_ItA.sz q.a (q.items).length q.c (flat e_ItA q.items) :: row eN99.T eN99.sz q.ak ((q.kids.map Prod.fst)).length q.ck (flat eN99 (q.kids.map Prod.fst)) :: kidsR e_ItA eN99 103 d q.kids :: blk b4 (.cells #[.bool false, .slice none 0 0, .int .i64 0, .int .u64 0] 36 (0, 0)) :: blk b3 (.cells #[.string x.f_key, .bool x.f_value.f_Has, .slice x.f_value.f_Value.a (x.f_value.f_Value.xs).length x.f_value.f_Value.c, .int .i64 x.f_value.f_Home, .int .u64 x.f_value.f_Count] 110 (0, 0)) :: F) (fun w S => S) ?_
 refine c_region (o_move rfl rfl ?_)
 refine o_fieldAddr (q := ⟨b3, 0, none⟩) rfl rfl Try.underlying110 rfl ti9 rfl ?_
 refine o_load1 rfl rfl Try.underlying9 rfl (rd_mem 5 rfl rfl) ?_
 refine l_f1 (l_f1 ?_)
 refine o_call rfl cal56 rfl (search_A (k := x.f_key) (by omega) hsi) ?_
 rintro _ _ ⟨i17, fd17, ⟨hF17, hfd17⟩, rfl, rfl⟩
 refine o_move rfl rfl (o_extract rfl rfl rfl (o_extract rfl rfl rfl (o_assign rfl rfl (o_assign rfl rfl (l_nil (q_then (c_seq ?_)))))))
 refine c_mid (α := (NodeW ItA) × Rec × Bool) (fun z => [(0, .pointer (some ⟨b, 0, none⟩)), (4, .pointer (some ⟨b4, 0, none⟩)), (5, .bool z.2.2)]) (fun z => blk b (.cells #[.slice z.1.a (z.1.items).length z.1.c, .slice z.1.ak ((z.1.kids.map Prod.fst)).length z.1.ck] 103 (0, 0)) :: row e_ItA.T e_ItA.sz z.1.a (z.1.items).length z.1.c (flat e_ItA z.1.items) :: row eN99.T eN99.sz z.1.ak ((z.1.kids.map Prod.fst)).length z.1.ck (flat eN99 (z.1.kids.map Prod.fst)) :: kidsR e_ItA eN99 103 d z.1.kids :: blk b4 (.cells #[.bool z.2.1.f_Has, .slice z.2.1.f_Value.a (z.2.1.f_Value.xs).length z.2.1.f_Value.c, .int .i64 z.2.1.f_Home, .int .u64 z.2.1.f_Count] 36 (0, 0)) :: F) (fun z => PutMid ItA.f_key strlt ItA.f_value (⟨false, ⟨none, [], 0⟩, 0, 0⟩ : Rec) d mn x xs z.1.items z.1.kids z.2.1 z.2.2) ?_ ?_
 · -- cut
  refine c_block (c_seq (c_region (o_move rfl rfl (o_assign rfl rfl (l_nil (q_then ?_))))))
  refine c_cond rfl (fun h1 => ?_) (fun h1 => ?_)
  · -- h1T
   have h1b := h1
   try simp only [decide_eq_true_eq, decide_eq_false_iff_not, Bool.not_eq_eq_eq_not, Bool.not_true, Bool.not_false, Bool.not_eq_true', Bool.not_eq_false', Int.not_lt, Int.not_le, Bool.or_eq_true, Bool.and_eq_true] at h1
   obtain ⟨yf, hyf, hkf⟩ := hfd17.1 (by simpa using h1b)
   have hil := (List.getElem?_eq_some_iff.1 hyf).1
   refine c_seq ?_
   refine c_fact (p := ∃ ad, q.a = some ad) (rds_some (e := e_ItA) (xs := q.items) (rds_own e_ItA_ok 1 rfl) (by intro h0; rw [h0] at hyf; simp at hyf)) ?_
   rintro ⟨adx, eadx⟩
   refine c_region (o_move rfl rfl (o_nil rfl rfl ?_))
   refine o_fieldAddr (q := ⟨b, 0, none⟩) rfl rfl Try.underlying103 rfl ti100 rfl ?_
   refine o_load1 rfl rfl Try.underlying100 rfl (rd_mem 0 rfl rfl) ?_
   refine o_move rfl rfl ?_
   refine o_indexK e_ItA_ok eadx rfl rfl rfl Try.underlying100 (by omega) (by omega) ?_
   obtain ⟨x68, hx68⟩ : ∃ x, (q.items)[((i17 : Int)).toNat]? = some x := ⟨_, List.getElem?_eq_getElem (by omega)⟩
   have e68 : x68 = yf := by rw [show q.items[i17]? = some x68 from hx68] at hyf; exact Option.some.inj hyf
   refine o_fieldAddr rfl rfl Try.underlying110 rfl ti36 (Addr.add_add' _ _ _) ?_
   refine o_loadn (vs := [.bool x68.f_value.f_Has, .slice x68.f_value.f_Value.a (x68.f_value.f_Value.xs).length x68.f_value.f_Value.c, .int .i64 x68.f_value.f_Home, .int .u64 x68.f_value.f_Count]) rfl rfl Try.underlying36 rfl ti36 (rdn_slo (n := 4) e_ItA_ok eadx (rds_own e_ItA_ok 1 rfl) hx68 rfl) ?_
   refine l_f4 ?_
   refine o_storen rfl rfl ti36 rfl rfl rfl rfl ?_
   refine o_assign rfl rfl (l_nil (q_then (c_seq (cP p2 (cP p2 (cP p5 (cP p5 (cP p5 (cP p5 ?_)))))))))
   refine c_held [blk b4 (.cells #[.bool x68.f_value.f_Has, .slice x68.f_value.f_Value.a (x68.f_value.f_Value.xs).length x68.f_value.f_Value.c, .int .i64 x68.f_value.f_Home, .int .u64 x68.f_value.f_Count] 36 (0, 0)), row eN99.T eN99.sz q.ak ((q.kids.map Prod.fst)).length q.ck (flat eN99 (q.kids.map Prod.fst)), kidsR e_ItA eN99 103 d q.kids, blk b3 (.cells #[.string x.f_key, .bool x.f_value.f_Has, .slice x.f_value.f_Value.a (x.f_value.f_Value.xs).length x.f_value.f_Value.c, .int .i64 x.f_value.f_Home, .int .u64 x.f_value.f_Count] 110 (0, 0))] (by kernel_rfl) rfl ?_
   refine h_take 0 rfl rfl (by kernel_rfl) (by kernel_rfl) (by kernel_rfl) (fun L0 => v_move rfl rfl) ?_
   refine h_take 1 rfl rfl (by kernel_rfl) (by kernel_rfl) (by kernel_rfl) (fun L0 => v_nil rfl rfl) ?_
   refine h_take 2 rfl rfl (by kernel_rfl) (by kernel_rfl) (by kernel_rfl) (fun L0 => v_fieldAddr (q := ⟨b, 0, none⟩) rfl rfl Try.underlying103 rfl ti100 rfl) ?_
   refine h_take 4 rfl rfl (by kernel_rfl) (by kernel_rfl) (by kernel_rfl) (fun L0 => v_move rfl rfl) ?_
   refine h_take 5 rfl rfl (by kernel_rfl) (by kernel_rfl) (by kernel_rfl) (fun L0 => v_fieldAddr (q := ⟨b3, 1, none⟩) rfl rfl Try.underlying110 rfl ti36 rfl) ?_
   refine h_take 6 rfl rfl (by kernel_rfl) (by kernel_rfl) (by kernel_rfl) (fun L0 => v_loadn (vs := [_, _, _, _]) rfl rfl Try.underlying36 rfl ti36 (rdn_lit 3 rfl rfl)) ?_
   refine h_one 3 rfl (by kernel_rfl) ?_
   refine o_load1 rfl rfl Try.underlying100 rfl (rd_mem 4 rfl rfl) ?_
   refine l_nil (h_next ?_)
   refine h_take 7 rfl rfl (by kernel_rfl) (by kernel_rfl) (by kernel_rfl) (fun L0 => v_indexK e_ItA_ok eadx rfl rfl rfl Try.underlying100 (by omega) (by omega)) ?_
   obtain ⟨x78, hx78⟩ : ∃ x, (q.items)[((i17 : Int)).toNat]? = some x := ⟨_, List.getElem?_eq_getElem (by omega)⟩
   have e78 : x78 = yf := by rw [show q.items[i17]? = some x78 from hx78] at hyf; exact Option.some.inj hyf
   refine h_take 8 rfl rfl (by kernel_rfl) (by kernel_rfl) (by kernel_rfl) (fun L0 => v_fieldAddr rfl rfl Try.underlying110 rfl ti36 (Addr.add_add' _ _ _)) ?_
   refine h_one 9 rfl (by kernel_rfl) ?_
   refine l_f5 ?_
   refine o_storeRowN (vs := [.bool x.f_value.f_Has, .slice x.f_value.f_Value.a (x.f_value.f_Value.xs).length x.f_value.f_Value.c, .int .i64 x.f_value.f_Home, .int .u64 x.f_value.f_Count]) e_ItA_ok eadx rfl rfl ti36 rfl ⟨x78.f_key, x.f_value⟩ hx78 (show 1 + 4 ≤ 5 by decide) rfl ?_
   refine l_f5 ?_
   refine l_conv (L' := blk b (.cells #[.slice q.a (q.items).length q.c, .slice q.ak ((q.kids.map Prod.fst)).length q.ck] 103 (0, 0)) :: _) (fun w S => S) ?_
   refine l_conv (L' := blk b (.cells #[.slice q.a ((q.items).set ((i17 : Int)).toNat ⟨x78.f_key, x.f_value⟩).length q.c, .slice q.ak ((q.kids.map Prod.fst)).length q.ck] 103 (0, 0)) :: row e_ItA.T e_ItA.sz q.a ((q.items).set ((i17 : Int)).toNat ⟨x78.f_key, x.f_value⟩).length q.c (flat e_ItA ((q.items).set ((i17 : Int)).toNat ⟨x78.f_key, x.f_value⟩)) :: blk b4 (.cells #[.bool x68.f_value.f_Has, .slice x68.f_value.f_Value.a (x68.f_value.f_Value.xs).length x68.f_value.f_Value.c, .int .i64 x68.f_value.f_Home, .int .u64 x68.f_value.f_Count] 36 (0, 0)) :: row eN99.T eN99.sz q.ak ((q.kids.map Prod.fst)).length q.ck (flat eN99 (q.kids.map Prod.fst)) :: kidsR e_ItA eN99 103 d q.kids :: blk b3 (.cells #[.string x.f_key, .bool x.f_value.f_Has, .slice x.f_value.f_Value.a (x.f_value.f_Value.xs).length x.f_value.f_Value.c, .int .i64 x.f_value.f_Home, .int .u64 x.f_value.f_Count] 110 (0, 0)) :: F) (fun w S => by first | exact S | simpa only [List.length_set] using S | (simp only [List.length_set] at S ⊢; exact S)) ?_
   refine l_nil (qP p1 (qP p1 (qP p5 (qP p5 (qP p5 (qP p5 (h_next ?_)))))))
   refine h_done (by kernel_rfl) ?_
   refine q_then (c_seq ?_)
   have hput := put_found (val := ItA.f_value) (zero := (⟨false, ⟨none, [], 0⟩, 0, 0⟩ : Rec)) strlt_sto hq srt hyf hkf (show (⟨x78.f_key, x.f_value⟩ : ItA) = x by rw [e78, show yf.f_key = x.f_key from hkf]) q.a q.c
   refine c_region ?_
   refine o_loadn (vs := [_, _, _, _]) rfl rfl Try.underlying36 rfl ti36 (rdn_lit 0 rfl rfl) ?_
   refine o_move rfl rfl ?_
   refine o_storen rfl rfl ti36 rfl rfl rfl rfl ?_
   refine o_assign rfl rfl (o_assign rfl rfl (o_assign rfl rfl (l_nil (q_then (c_ret ?_)))))
   refine q_block_ret ?_
   refine q_pass_ret ?_
   refine f_retq (.inl rfl) (rs_4 rfl (rs_celln (vs := [.bool x68.f_value.f_Has, .slice x68.f_value.f_Value.a (x68.f_value.f_Value.xs).length x68.f_value.f_Value.c, .int .i64 x68.f_value.f_Home, .int .u64 x68.f_value.f_Count]) rfl Try.underlying36 rfl ti36 (rdn_lit 0 rfl rfl)) (rs_tmp rfl) (rs_tmp rfl) (rs_tmp rfl)) (fun w S => ?_)
   replace S := S.tail
   replace S := (S.perm p2).tail
   replace S := S.perm p1
   replace S := S.perm p1
   replace S := S.perm p3
   replace S := S.perm p3
   exact ⟨_, ⟨x68.f_value, true, ins ItA.f_key strlt x xs, none, ⟨rfl, by rw [e68]; exact hput.2⟩, rfl, rfl⟩, (fun w S => (Sat.emp_ (nodeMk ⟨q.a, q.c, q.ak, q.ck, _, q.kids⟩ hput.1 S)).perm (List.Perm.swap _ _ _)) w S⟩
  · -- h1F
   have h1b := h1
   try simp only [decide_eq_true_eq, decide_eq_false_iff_not, Bool.not_eq_eq_eq_not, Bool.not_true, Bool.not_false, Bool.not_eq_true', Bool.not_eq_false', Int.not_lt, Int.not_le, Bool.or_eq_true, Bool.and_eq_true] at h1
   have hnf : ¬ ∃ y, q.items[i17]? = some y ∧ y.f_key = x.f_key := fun h9 => by rw [hfd17.2 h9] at h1b; cases h1b
   refine c_seq (c_region (o_move rfl rfl (o_nil rfl rfl ?_)))
   refine o_fieldAddr (q := ⟨b, 1, none⟩) rfl rfl Try.underlying103 rfl ti101 rfl ?_
   refine o_load1 rfl rfl Try.underlying101 rfl (rd_mem 0 rfl rfl) ?_
   refine o_len rfl rfl Try.underlying101 ?_
   refine o_bin rfl rfl rfl b_eql ?_
   refine o_assign rfl rfl (l_nil (q_then ?_))
   refine c_cond rfl (fun h2 => ?_) (fun h2 => ?_)
   · -- h2T
    have h2b := h2
    try simp only [decide_eq_true_eq] at h2
    refine cP p1 (cP p1 (cP p5 (cP p5 (cP p5 (cP p5 ?_)))))
    refine c_held [row eN99.T eN99.sz q.ak ((q.kids.map Prod.fst)).length q.ck (flat eN99 (q.kids.map Prod.fst)), kidsR e_ItA eN99 103 d q.kids, blk b4 (.cells #[.bool false, .slice none 0 0, .int .i64 0, .int .u64 0] 36 (0, 0)), blk b3 (.cells #[.string x.f_key, .bool x.f_value.f_Has, .slice x.f_value.f_Value.a (x.f_value.f_Value.xs).length x.f_value.f_Value.c, .int .i64 x.f_value.f_Home, .int .u64 x.f_value.f_Count] 110 (0, 0))] (by kernel_rfl) rfl ?_
    refine h_take 0 rfl rfl (by kernel_rfl) (by kernel_rfl) (by kernel_rfl) (fun L0 => v_move rfl rfl) ?_
    refine h_take 1 rfl rfl (by kernel_rfl) (by kernel_rfl) (by kernel_rfl) (fun L0 => v_move rfl rfl) ?_
    refine h_take 2 rfl rfl (by kernel_rfl) (by kernel_rfl) (by kernel_rfl) (fun L0 => v_nil rfl rfl) ?_
    refine h_take 3 rfl rfl (by kernel_rfl) (by kernel_rfl) (by kernel_rfl) (fun L0 => v_fieldAddr (q := ⟨b, 0, none⟩) rfl rfl Try.underlying103 rfl ti100 rfl) ?_
    refine h_take 5 rfl rfl (by kernel_rfl) (by kernel_rfl) (by kernel_rfl) (fun L0 => v_move rfl rfl) ?_
    refine h_take 6 rfl rfl (by kernel_rfl) (by kernel_rfl) (by kernel_rfl) (fun L0 => v_loadn (vs := [_, _, _, _, _]) rfl rfl Try.underlying110 rfl ti110 (rdn_lit 3 rfl rfl)) ?_
    refine h_many (is := [4, 7]) (by kernel_rfl) (by decide) (forall_cons ⟨_, rfl, ?_⟩ (forall_cons ⟨_, rfl, ?_⟩ forall_nil))
    · -- 4 comes first
     refine o_load1 rfl rfl Try.underlying100 rfl (rd_mem 4 rfl rfl) ?_
     refine l_nil (h_next ?_)
     refine h_one 7 rfl (by kernel_rfl) ?_
     refine o_lit e_ItA_ok rfl Try.underlying100 rfl rfl rfl (lit_ok rfl) [x] rfl rfl fun a96 => ?_
     refine l_nil (qP p6 (qP p6 (qP p2 (qP p6 (qP p6 (qP p6 (qP p6 (h_next ?_))))))))
     refine h_one 8 rfl (by kernel_rfl) ?_
     refine l_f4 (l_f6 ?_)
     refine o_call rfl cal74 rfl (insI_A (xs := q.items) (x := x) (i := i17) hF17.le (by omega)) ?_
     rintro _ _ ⟨a97, c97, rfl, rfl⟩
     refine l_nil (qP p5 (qP p1 (qP p5 (qP p5 (qP p5 (qP p5 (h_next ?_)))))))
     refine h_take 9 rfl rfl (by kernel_rfl) (by kernel_rfl) (by kernel_rfl) (fun L0 => v_nil rfl rfl) ?_
     refine h_take 10 rfl rfl (by kernel_rfl) (by kernel_rfl) (by kernel_rfl) (fun L0 => v_fieldAddr (q := ⟨b, 0, none⟩) rfl rfl Try.underlying103 rfl ti100 rfl) ?_
     refine h_one 11 rfl (by kernel_rfl) ?_
     refine l_f5 ?_
     refine o_store1 rfl rfl rfl ti100 rfl rfl ?_
     refine l_nil (qP p5 (qP p1 (qP p5 (qP p5 (qP p5 (qP p5 (h_next ?_)))))))
     refine h_done (by kernel_rfl) ?_
     refine q_block (qP p3 (qT (qP p2 (qP p2 (qP p2 (qP p4 (qP p4 ?_)))))))
     exact q_mid (⟨a97, c97, q.ak, q.ck, (q.items.take i17 ++ x :: q.items.drop i17), q.kids⟩, ⟨false, ⟨none, [], 0⟩, 0, 0⟩, _) (by exact put_leaf strlt_sto hq srt (by omega) hF17 hnf) ⟨vr, vr, vr, trivial⟩ (fun w S => S)
    · -- 7 comes first
     refine o_lit e_ItA_ok rfl Try.underlying100 rfl rfl rfl (lit_ok rfl) [x] rfl rfl fun a96 => ?_
     refine l_nil (qP p6 (qP p6 (qP p2 (qP p6 (qP p6 (qP p6 (qP p6 (h_next ?_))))))))
     refine h_one 4 rfl (by kernel_rfl) ?_
     refine o_load1 rfl rfl Try.underlying100 rfl (rd_mem 5 rfl rfl) ?_
     refine l_nil (h_next ?_)
     refine h_one 8 rfl (by kernel_rfl) ?_
     refine l_f4 (l_f6 ?_)
     refine o_call rfl cal74 rfl (insI_A (xs := q.items) (x := x) (i := i17) hF17.le (by omega)) ?_
     rintro _ _ ⟨a97, c97, rfl, rfl⟩
     refine l_nil (qP p5 (qP p1 (qP p5 (qP p5 (qP p5 (qP p5 (h_next ?_)))))))
     refine h_take 9 rfl rfl (by kernel_rfl) (by kernel_rfl) (by kernel_rfl) (fun L0 => v_nil rfl rfl) ?_
     refine h_take 10 rfl rfl (by kernel_rfl) (by kernel_rfl) (by kernel_rfl) (fun L0 => v_fieldAddr (q := ⟨b, 0, none⟩) rfl rfl Try.underlying103 rfl ti100 rfl) ?_
     refine h_one 11 rfl (by kernel_rfl) ?_
     refine l_f5 ?_
     refine o_store1 rfl rfl rfl ti100 rfl rfl ?_
     refine l_nil (qP p5 (qP p1 (qP p5 (qP p5 (qP p5 (qP p5 (h_next ?_)))))))
     refine h_done (by kernel_rfl) ?_
     refine q_block (qP p3 (qT (qP p2 (qP p2 (qP p2 (qP p4 (qP p4 ?_)))))))
     exact q_mid (⟨a97, c97, q.ak, q.ck, (q.items.take i17 ++ x :: q.items.drop i17), q.kids⟩, ⟨false, ⟨none, [], 0⟩, 0, 0⟩, _) (by exact put_leaf strlt_sto hq srt (by omega) hF17 hnf) ⟨vr, vr, vr, trivial⟩ (fun w S => S)
   · -- h2F
    have h2b := h2
    try simp only [decide_eq_false_iff_not, Int.not_lt, Int.not_le] at h2
    refine c_seq (c_region (o_assign rfl rfl (l_nil (q_then (c_seq (c_region (o_assign rfl rfl (l_nil (q_then ?_)))))))))
    refine c_seq ?_
    have hkl : q.kids.length = q.items.length + 1 := by rcases hsh with ⟨_, h9⟩ | ⟨_, h9, _⟩; exact absurd (show ((q.kids.map Prod.fst).length : Int) = 0 by rw [h9]; rfl) (by assumption); exact h9
    have hd0 : d ≠ 0 := by rcases hsh with ⟨_, h9⟩ | ⟨h9, _, _⟩; exact absurd (show ((q.kids.map Prod.fst).length : Int) = 0 by rw [h9]; rfl) (by assumption); exact h9
    have hkm : (q.kids.map Prod.fst).length = q.items.length + 1 := by rw [List.length_map]; exact hkl
    have hfl := hF17.le
    obtain ⟨⟨kb, ys⟩, hkid⟩ : ∃ z, q.kids[i17]? = some z := ⟨_, List.getElem?_eq_getElem (by omega)⟩
    obtain ⟨A, B, hxA, _, _, hA, hB, _, _, hsy⟩ := kid_parts strlt_sto hq srt hkid hF17 hnf
    obtain ⟨d', hd'⟩ : ∃ d', d = d' + 1 := ⟨d - 1, by omega⟩
    refine cP p3 ?_
    refine c_conv (L' := nodeR e_ItA eN99 103 d' 2 kb ys :: kidsR e_ItA eN99 103 d (q.kids.eraseIdx i17) :: _) (fun w S => by have h9 := Sat.kid_take hkid S; rw [hd'] at h9 ⊢; exact h9) ?_
    refine c_fact (p := ∃ ad, q.ak = some ad) (rds_some (e := eN99) (xs := (q.kids.map Prod.fst)) (rds_own eN99_ok 4 rfl) (by intro h0; have h00 := congrArg List.length h0; simp only [List.length_nil] at h00; omega)) ?_
    rintro ⟨adx, eadx⟩
    refine cP p5 (cP p1 (cP p6 (cP p6 (cP p6 (cP p6 (cP p6 ?_))))))
    refine c_held [kidsR e_ItA eN99 103 d (q.kids.eraseIdx i17), blk b (.cells #[.slice q.a (q.items).length q.c, .slice q.ak ((q.kids.map Prod.fst)).length q.ck] 103 (0, 0)), row e_ItA.T e_ItA.sz q.a (q.items).length q.c (flat e_ItA q.items), row eN99.T eN99.sz q.ak ((q.kids.map Prod.fst)).length q.ck (flat eN99 (q.kids.map Prod.fst)), blk b3 (.cells #[.string x.f_key, .bool x.f_value.f_Has, .slice x.f_value.f_Value.a (x.f_value.f_Value.xs).length x.f_value.f_Value.c, .int .i64 x.f_value.f_Home, .int .u64 x.f_value.f_Count] 110 (0, 0))] (by kernel_rfl) rfl ?_
    refine h_take 0 rfl rfl (by kernel_rfl) (by kernel_rfl) (by kernel_rfl) (fun L0 => v_move rfl rfl) ?_
    refine h_take 1 rfl rfl (by kernel_rfl) (by kernel_rfl) (by kernel_rfl) (fun L0 => v_nil rfl rfl) ?_
    refine h_take 2 rfl rfl (by kernel_rfl) (by kernel_rfl) (by kernel_rfl) (fun L0 => v_fieldAddr (q := ⟨b, 1, none⟩) rfl rfl Try.underlying103 rfl ti101 rfl) ?_
    refine h_take 3 rfl rfl (by kernel_rfl) (by kernel_rfl) (by kernel_rfl) (fun L0 => v_load1 rfl rfl Try.underlying101 rfl (rd_mem 1 rfl rfl)) ?_
    refine h_take 4 rfl rfl (by kernel_rfl) (by kernel_rfl) (by kernel_rfl) (fun L0 => v_move rfl rfl) ?_
    refine h_take 5 rfl rfl (by kernel_rfl) (by kernel_rfl) (by kernel_rfl) (fun L0 => v_indexK eN99_ok eadx rfl rfl rfl Try.underlying101 (by omega) (by omega)) ?_
    obtain ⟨x26, hx26⟩ : ∃ x, ((q.kids.map Prod.fst))[((i17 : Int)).toNat]? = some x := ⟨_, List.getElem?_eq_getElem (by omega)⟩
    have hxk : x26 = kb := by have h9 := hx26; rw [show ((i17 : Int)).toNat = i17 from rfl, List.getElem?_map, hkid] at h9; exact (Option.some.inj h9).symm
    refine h_take 6 rfl rfl (by kernel_rfl) (by kernel_rfl) (by kernel_rfl) (fun L0 => v_load1 rfl rfl Try.underlying99 rfl (rd_sl0 eN99_ok eadx (rds_own eN99_ok 3 rfl) hx26 rfl)) ?_
    refine h_eq (t := 27) (v' := .pointer (some ⟨kb, 0, none⟩)) rfl (by rw [hxk]) ?_
    refine h_take 7 rfl rfl (by kernel_rfl) (by kernel_rfl) (by kernel_rfl) (fun L0 => v_loadn (vs := [_, _, _, _, _]) rfl rfl Try.underlying110 rfl ti110 (rdn_lit 4 rfl rfl)) ?_
    refine h_one 8 rfl (by kernel_rfl) ?_
    refine l_f5 ?_
    refine o_call rfl cal66 rfl (ih d' hd' (by omega) hsy) ?_
    rintro _ _ ⟨old29, had29, ls29, s29, ⟨his29, hol29⟩, rfl, rfl⟩
    refine l_nil (qP p7 (qP p2 (qP p2 (qP p7 (qP p7 (qP p7 (qP p7 (qP p7 (h_next ?_)))))))))
    refine h_take 9 rfl rfl (by kernel_rfl) (by kernel_rfl) (by kernel_rfl) (fun L0 => v_move rfl rfl) ?_
    refine h_take 10 rfl rfl (by kernel_rfl) (by kernel_rfl) (by kernel_rfl) (fun L0 => v_extract rfl rfl rfl) ?_
    refine h_take 11 rfl rfl (by kernel_rfl) (by kernel_rfl) (by kernel_rfl) (fun L0 => v_extract rfl rfl rfl) ?_
    refine h_take 12 rfl rfl (by kernel_rfl) (by kernel_rfl) (by kernel_rfl) (fun L0 => v_extract rfl rfl rfl) ?_
    refine h_take 13 rfl rfl (by kernel_rfl) (by kernel_rfl) (by kernel_rfl) (fun L0 => v_extract rfl rfl rfl) ?_
    refine h_one 14 rfl (by kernel_rfl) ?_
    refine l_f7 ?_
    refine o_storen rfl rfl ti36 rfl rfl rfl rfl ?_
    refine l_nil (qP p7 (qP p7 (qP p2 (qP p7 (qP p7 (qP p7 (qP p7 (qP p7 (h_next ?_)))))))))
    refine h_take 15 rfl rfl (by kernel_rfl) (by kernel_rfl) (by kernel_rfl) (fun L0 => v_assign rfl rfl) ?_
    refine h_take 16 rfl rfl (by kernel_rfl) (by kernel_rfl) (by kernel_rfl) (fun L0 => v_assign rfl rfl) ?_
    refine h_take 17 rfl rfl (by kernel_rfl) (by kernel_rfl) (by kernel_rfl) (fun L0 => v_assign rfl rfl) ?_
    refine h_done (by kernel_rfl) ?_
    refine q_then (c_seq (c_region (o_move rfl rfl ?_)))
    refine o_bin rfl rfl rfl (b_pne Try.underlying121 _) ?_
    refine l_nil (q_then ?_)
    refine c_cond rfl (fun h3 => ?_) (fun h3 => ?_)
    · -- h3T
     have h3b := h3
     try simp only [decide_eq_true_eq, decide_eq_false_iff_not, Bool.not_eq_eq_eq_not, Bool.not_true, Bool.not_false, Bool.not_eq_true', Bool.not_eq_false', Int.not_lt, Int.not_le, Bool.or_eq_true, Bool.and_eq_true] at h3
     obtain ⟨⟨bm, m, br, rs⟩, hs29⟩ : ∃ z, s29 = some z := by cases s29 with | none => simp at h3b | some z => exact ⟨z, rfl⟩
     subst hs29
     refine c_seq ?_
     refine c_mid (α := (Option Addr) × Nat × (Option Addr)) (fun z => [(0, .pointer (some ⟨b, 0, none⟩)), (1, .agg #[.string x.f_key, .bool x.f_value.f_Has, .slice x.f_value.f_Value.a (x.f_value.f_Value.xs).length x.f_value.f_Value.c, .int .i64 x.f_value.f_Home, .int .u64 x.f_value.f_Count]), (3, .pointer (some ⟨b3, 0, none⟩)), (4, .pointer (some ⟨b4, 0, none⟩)), (5, .bool had29), (6, .pointer none), (7, .pointer none), (8, .int .i64 (i17 : Int)), (9, .bool fd17), (10, .pointer (some ⟨bm, 0, none⟩)), (11, .pointer (some ⟨br, 0, none⟩)), (13, .tuple #[.int .i64 (i17 : Int), .bool fd17]), (14, .pointer (some ⟨b, 0, none⟩)), (15, .pointer (some ⟨b3, 0, none⟩)), (16, .string x.f_key), (17, .tuple #[.int .i64 (i17 : Int), .bool fd17]), (18, .int .i64 (i17 : Int)), (19, .bool fd17), (21, .pointer (some ⟨b, 0, none⟩)), (22, .pointer (some ⟨b, 0, none⟩)), (23, .pointer (some ⟨b, 1, none⟩)), (24, .slice q.ak ((q.kids.map Prod.fst)).length q.ck), (25, .int .i64 (i17 : Int)), (27, .pointer (some ⟨kb, 0, none⟩)), (28, .agg #[.string x.f_key, .bool x.f_value.f_Has, .slice x.f_value.f_Value.a (x.f_value.f_Value.xs).length x.f_value.f_Value.c, .int .i64 x.f_value.f_Home, .int .u64 x.f_value.f_Count]), (30, .agg #[.bool old29.f_Has, .slice old29.f_Value.a (old29.f_Value.xs).length old29.f_Value.c, .int .i64 old29.f_Home, .int .u64 old29.f_Count]), (31, .bool had29), (36, .pointer (some ⟨b, 0, none⟩)), (37, .pointer (some ⟨b, 0, none⟩)), (38, .pointer (some ⟨b, 0, none⟩)), (39, .pointer (some ⟨b, 0, none⟩)), (40, .slice q.a (q.items).length q.c), (41, .int .i64 (i17 : Int)), (42, .pointer (some ⟨bm, 0, none⟩)), (43, .pointer (some ⟨bm, 0, none⟩)), (44, .agg #[.string m.f_key, .bool m.f_value.f_Has, .slice m.f_value.f_Value.a (m.f_value.f_Value.xs).length m.f_value.f_Value.c, .int .i64 m.f_value.f_Home, .int .u64 m.f_value.f_Count]), (45, .slice z.2.2 ([m]).length 1), (46, .slice z.1 ((q.items.take i17 ++ m :: q.items.drop i17)).length z.2.1), (47, .pointer (some ⟨b, 0, none⟩)), (48, .pointer (some ⟨b, 0, none⟩)), (61, .bool fd17), (62, .bool fd17), (82, .bool (decide ((((q.kids.map Prod.fst)).length : Int) = 0))), (83, .pointer (some ⟨b, 0, none⟩)), (84, .pointer (some ⟨b, 0, none⟩)), (85, .pointer (some ⟨b, 1, none⟩)), (86, .slice q.ak ((q.kids.map Prod.fst)).length q.ck), (87, .int .i64 (((q.kids.map Prod.fst)).length : Int)), (88, .bool (decide ((((q.kids.map Prod.fst)).length : Int) = 0)))]) (fun z => blk b (.cells #[.slice z.1 ((q.items.take i17 ++ m :: q.items.drop i17)).length z.2.1, .slice q.ak ((q.kids.map Prod.fst)).length q.ck] 103 (0, 0)) :: row e_ItA.T e_ItA.sz z.1 ((q.items.take i17 ++ m :: q.items.drop i17)).length z.2.1 (flat e_ItA (q.items.take i17 ++ m :: q.items.drop i17)) :: blk bm (.cells #[.string m.f_key, .bool m.f_value.f_Has, .slice m.f_value.f_Value.a (m.f_value.f_Value.xs).length m.f_value.f_Value.c, .int .i64 m.f_value.f_Home, .int .u64 m.f_value.f_Count] 110 (0, 0)) :: nodeR e_ItA eN99 103 d' 2 br rs :: kidsR e_ItA eN99 103 d (q.kids.eraseIdx i17) :: row eN99.T eN99.sz q.ak ((q.kids.map Prod.fst)).length q.ck (flat eN99 (q.kids.map Prod.fst)) :: blk b3 (.cells #[.string x.f_key, .bool x.f_value.f_Has, .slice x.f_value.f_Value.a (x.f_value.f_Value.xs).length x.f_value.f_Value.c, .int .i64 x.f_value.f_Home, .int .u64 x.f_value.f_Count] 110 (0, 0)) :: blk b4 (.cells #[.bool old29.f_Has, .slice old29.f_Value.a (old29.f_Value.xs).length old29.f_Value.c, .int .i64 old29.f_Home, .int .u64 old29.f_Count] 36 (0, 0)) :: nodeR e_ItA eN99 103 d' 2 kb ls29 :: F) (fun z => True) ?_ ?_
     · -- cut
      refine cP p7 ?_
      refine c_conv (L' := blk bm (.cells #[.string m.f_key, .bool m.f_value.f_Has, .slice m.f_value.f_Value.a (m.f_value.f_Value.xs).length m.f_value.f_Value.c, .int .i64 m.f_value.f_Home, .int .u64 m.f_value.f_Count] 110 (0, 0)) :: nodeR e_ItA eN99 103 d' 2 br rs :: _) (fun w S => Sat.flat (Ls := [_, _]) S) ?_
      refine cP p4 (cP p4 (cP p8 (cP p8 (cP p8 (cP p8 (cP p8 (cP p8 (cP p8 ?_))))))))
      refine c_held [blk bm (.cells #[.string m.f_key, .bool m.f_value.f_Has, .slice m.f_value.f_Value.a (m.f_value.f_Value.xs).length m.f_value.f_Value.c, .int .i64 m.f_value.f_Home, .int .u64 m.f_value.f_Count] 110 (0, 0)), nodeR e_ItA eN99 103 d' 2 br rs, kidsR e_ItA eN99 103 d (q.kids.eraseIdx i17), row eN99.T eN99.sz q.ak ((q.kids.map Prod.fst)).length q.ck (flat eN99 (q.kids.map Prod.fst)), blk b3 (.cells #[.string x.f_key, .bool x.f_value.f_Has, .slice x.f_value.f_Value.a (x.f_value.f_Value.xs).length x.f_value.f_Value.c, .int .i64 x.f_value.f_Home, .int .u64 x.f_value.f_Count] 110 (0, 0)), blk b4 (.cells #[.bool old29.f_Has, .slice old29.f_Value.a (old29.f_Value.xs).length old29.f_Value.c, .int .i64 old29.f_Home, .int .u64 old29.f_Count] 36 (0, 0)), nodeR e_ItA eN99 103 d' 2 kb ls29] (by kernel_rfl) rfl ?_
      refine h_take 0 rfl rfl (by kernel_rfl) (by kernel_rfl) (by kernel_rfl) (fun L0 => v_move rfl rfl) ?_
      refine h_take 1 rfl rfl (by kernel_rfl) (by kernel_rfl) (by kernel_rfl) (fun L0 => v_move rfl rfl) ?_
      refine h_take 2 rfl rfl (by kernel_rfl) (by kernel_rfl) (by kernel_rfl) (fun L0 => v_nil rfl rfl) ?_
      refine h_take 3 rfl rfl (by kernel_rfl) (by kernel_rfl) (by kernel_rfl) (fun L0 => v_fieldAddr (q := ⟨b, 0, none⟩) rfl rfl Try.underlying103 rfl ti100 rfl) ?_
      refine h_take 5 rfl rfl (by kernel_rfl) (by kernel_rfl) (by kernel_rfl) (fun L0 => v_move rfl rfl) ?_
      refine h_take 6 rfl rfl (by kernel_rfl) (by kernel_rfl) (by kernel_rfl) (fun L0 => v_move rfl rfl) ?_
      refine h_take 7 rfl rfl (by kernel_rfl) (by kernel_rfl) (by kernel_rfl) (fun L0 => v_nil rfl rfl) ?_
      refine h_take 8 rfl rfl (by kernel_rfl) (by kernel_rfl) (by kernel_rfl) (fun L0 => v_loadn (vs := [_, _, _, _, _]) rfl rfl Try.underlying110 rfl ti110 (rdn_lit 0 rfl rfl)) ?_
      refine h_many (is := [4, 9]) (by kernel_rfl) (by decide) (forall_cons ⟨_, rfl, ?_⟩ (forall_cons ⟨_, rfl, ?_⟩ forall_nil))
      · -- 4 comes first
       refine o_load1 rfl rfl Try.underlying100 rfl (rd_mem 7 rfl rfl) ?_
       refine l_nil (h_next ?_)
       refine h_one 9 rfl (by kernel_rfl) ?_
       refine o_lit e_ItA_ok rfl Try.underlying100 rfl rfl rfl (lit_ok rfl) [m] rfl rfl fun a45 => ?_
       refine l_nil (qP p9 (qP p9 (qP p2 (qP p9 (qP p9 (qP p9 (qP p9 (qP p9 (qP p9 ?_)))))))))
       refine qP p9 (h_next ?_)
       refine h_one 10 rfl (by kernel_rfl) ?_
       refine l_f7 (l_f9 ?_)
       refine o_call rfl cal74 rfl (insI_A (xs := q.items) (x := m) (i := i17) hF17.le (by omega)) ?_
       rintro _ _ ⟨a46, c46, rfl, rfl⟩
       refine l_nil (qP p8 (qP p1 (qP p8 (qP p8 (qP p8 (qP p8 (qP p8 (qP p8 (qP p8 ?_)))))))))
       refine h_next ?_
       refine h_take 11 rfl rfl (by kernel_rfl) (by kernel_rfl) (by kernel_rfl) (fun L0 => v_nil rfl rfl) ?_
       refine h_take 12 rfl rfl (by kernel_rfl) (by kernel_rfl) (by kernel_rfl) (fun L0 => v_fieldAddr (q := ⟨b, 0, none⟩) rfl rfl Try.underlying103 rfl ti100 rfl) ?_
       refine h_one 13 rfl (by kernel_rfl) ?_
       refine l_f8 ?_
       refine o_store1 rfl rfl rfl ti100 rfl rfl ?_
       refine l_nil (qP p8 (qP p1 (qP p8 (qP p8 (qP p8 (qP p8 (qP p8 (qP p8 (qP p8 ?_)))))))))
       refine h_next ?_
       refine h_done (by kernel_rfl) ?_
       refine qP p6 (qP p6 (qP p6 (qP p6 (qP p6 (qP p6 (qP p6 (qP p8 (qP p8 ?_))))))))
       exact q_mid (a46, c46, a45) (by trivial) ⟨vr, vr, vr, vr, vr, vr, vr, vr, vr, vr, vr, vr, vr, vr, vr, vr, vr, vr, vr, vr, vr, vr, vr, vr, vr, vr, vr, vr, vr, vr, vr, vr, vr, vr, vr, vr, vr, vr, vr, vr, vr, vr, vr, vr, vr, vr, vr, vr, vr, trivial⟩ (fun w S => S)
      · -- 9 comes first
       refine o_lit e_ItA_ok rfl Try.underlying100 rfl rfl rfl (lit_ok rfl) [m] rfl rfl fun a45 => ?_
       refine l_nil (qP p9 (qP p9 (qP p2 (qP p9 (qP p9 (qP p9 (qP p9 (qP p9 (qP p9 ?_)))))))))
       refine qP p9 (h_next ?_)
       refine h_one 4 rfl (by kernel_rfl) ?_
       refine o_load1 rfl rfl Try.underlying100 rfl (rd_mem 8 rfl rfl) ?_
       refine l_nil (h_next ?_)
       refine h_one 10 rfl (by kernel_rfl) ?_
       refine l_f7 (l_f9 ?_)
       refine o_call rfl cal74 rfl (insI_A (xs := q.items) (x := m) (i := i17) hF17.le (by omega)) ?_
       rintro _ _ ⟨a46, c46, rfl, rfl⟩
       refine l_nil (qP p8 (qP p1 (qP p8 (qP p8 (qP p8 (qP p8 (qP p8 (qP p8 (qP p8 ?_)))))))))
       refine h_next ?_
       refine h_take 11 rfl rfl (by kernel_rfl) (by kernel_rfl) (by kernel_rfl) (fun L0 => v_nil rfl rfl) ?_
       refine h_take 12 rfl rfl (by kernel_rfl) (by kernel_rfl) (by kernel_rfl) (fun L0 => v_fieldAddr (q := ⟨b, 0, none⟩) rfl rfl Try.underlying103 rfl ti100 rfl) ?_
       refine h_one 13 rfl (by kernel_rfl) ?_
       refine l_f8 ?_
       refine o_store1 rfl rfl rfl ti100 rfl rfl ?_
       refine l_nil (qP p8 (qP p1 (qP p8 (qP p8 (qP p8 (qP p8 (qP p8 (qP p8 (qP p8 ?_)))))))))
       refine h_next ?_
       refine h_done (by kernel_rfl) ?_
       refine qP p6 (qP p6 (qP p6 (qP p6 (qP p6 (qP p6 (qP p6 (qP p8 (qP p8 ?_))))))))
       exact q_mid (a46, c46, a45) (by trivial) ⟨vr, vr, vr, vr, vr, vr, vr, vr, vr, vr, vr, vr, vr, vr, vr, vr, vr, vr, vr, vr, vr, vr, vr, vr, vr, vr, vr, vr, vr, vr, vr, vr, vr, vr, vr, vr, vr, vr, vr, vr, vr, vr, vr, vr, vr, vr, vr, vr, vr, trivial⟩ (fun w S => S)
     · -- behind the cut
      rintro ⟨a46, c46, a45⟩ _hp
      try dsimp only at *
      refine c_region (o_move rfl rfl (o_move rfl rfl (o_nil rfl rfl ?_)))
      refine o_fieldAddr (q := ⟨b, 1, none⟩) rfl rfl Try.underlying103 rfl ti101 rfl ?_
      refine o_load1 rfl rfl Try.underlying101 rfl (rd_mem 0 rfl rfl) ?_
      refine o_move rfl rfl ?_
      refine o_bin rfl rfl rfl (b_add (show IntKind.i64.wrap ((i17 : Int) + 1) = ((i17 + 1 : Nat) : Int) from by rw [wrap_i64 (by omega) (by omega)]; omega)) ?_
      refine o_move rfl rfl ?_
      refine o_lit eN99_ok rfl Try.underlying101 rfl rfl rfl (lit_ok rfl) [br] rfl rfl fun a57 => ?_
      refine l_f6 ?_
      refine o_call rfl cal75 rfl (insK_A (xs := (q.kids.map Prod.fst)) (x := br) (i := (i17 + 1 : Nat)) (by omega) (by omega)) ?_
      rintro _ _ ⟨a58, c58, rfl, rfl⟩
      refine o_nil rfl rfl ?_
      refine o_fieldAddr (q := ⟨b, 1, none⟩) rfl rfl Try.underlying103 rfl ti101 rfl ?_
      refine l_f1 ?_
      refine o_store1 rfl rfl rfl ti101 rfl rfl ?_
      refine l_nil (q_block (qP p7 (qP p7 (qP p5 (qP p5 (qP p5 (qP p5 (qP p7 (qP p7 ?_)))))))))
      refine qP p8 ?_
      refine q_conv (L' := kidsR e_ItA eN99 103 d (q.kids.take i17 ++ (kb, ls29) :: (br, rs) :: q.kids.drop (i17 + 1)) :: _) (fun w S => Sat.kid_two (k := (kb, ls29)) (k2 := (br, rs)) (by omega) (by rw [hd'] at S ⊢; exact S)) ?_
      have hkf : ((q.kids.map Prod.fst).take (i17 + 1 : Nat) ++ br :: (q.kids.map Prod.fst).drop (i17 + 1 : Nat)) = ((q.kids.take i17 ++ (kb, ls29) :: (br, rs) :: q.kids.drop (i17 + 1)).map Prod.fst) := by rw [kids_fst hkid]
      refine qP p6 (qP p6 (qP p6 (qP p6 (qP p4 (qP p5 (qP p6 ?_))))))
      refine q_conv (L' := row eN99.T eN99.sz a58 (((q.kids.take i17 ++ (kb, ls29) :: (br, rs) :: q.kids.drop (i17 + 1)).map Prod.fst)).length c58 (flat eN99 ((q.kids.take i17 ++ (kb, ls29) :: (br, rs) :: q.kids.drop (i17 + 1)).map Prod.fst)) :: blk b (.cells #[.slice a46 ((q.items.take i17 ++ m :: q.items.drop i17)).length c46, .slice a58 (((q.kids.take i17 ++ (kb, ls29) :: (br, rs) :: q.kids.drop (i17 + 1)).map Prod.fst)).length c58] 103 (0, 0)) :: _) (fun w S => by rw [hkf] at S; exact S) ?_
      refine qP p4 (qT (qP p4 (qT (qP p4 (qP p3 (qP p2 (qP p4 (qP p4 ?_))))))))
      exact q_mid (⟨a46, c46, a58, c58, (q.items.take i17 ++ m :: q.items.drop i17), (q.kids.take i17 ++ (kb, ls29) :: (br, rs) :: q.kids.drop (i17 + 1))⟩, old29, _) (by exact put_part strlt_sto hq srt hkid hF17 hnf his29 hol29) ⟨vr, vr, vr, trivial⟩ (fun w S => S)
    · -- h3F
     have h3b := h3
     try simp only [decide_eq_true_eq, decide_eq_false_iff_not, Bool.not_eq_eq_eq_not, Bool.not_true, Bool.not_false, Bool.not_eq_true', Bool.not_eq_false', Int.not_lt, Int.not_le, Bool.or_eq_true, Bool.and_eq_true] at h3
     have hs29 : s29 = none := by cases s29 with | none => rfl | some z => simp at h3b
     subst hs29
     refine c_skip (q_block (qP p7 (qP p6 (qP p6 (qP p6 (qP p6 (qP p6 (qP p6 (qP p7 ?_)))))))))
     refine q_conv (L' := kidsR e_ItA eN99 103 d (q.kids.set i17 (kb, ls29)) :: _) (fun w S => Sat.kid_set (k := (kb, ls29)) (by omega) (by rw [hd'] at S ⊢; exact S)) ?_
     have hkf : (q.kids.map Prod.fst) = ((q.kids.set i17 (kb, ls29)).map Prod.fst) := kids_fst_set hkid
     refine qP p6 (qP p6 (qP p6 (qP p5 (qP p4 (qP p5 (qP p6 ?_))))))
     refine q_conv (L' := row eN99.T eN99.sz q.ak (((q.kids.set i17 (kb, ls29)).map Prod.fst)).length q.ck (flat eN99 ((q.kids.set i17 (kb, ls29)).map Prod.fst)) :: blk b (.cells #[.slice q.a (q.items).length q.c, .slice q.ak (((q.kids.set i17 (kb, ls29)).map Prod.fst)).length q.ck] 103 (0, 0)) :: _) (fun w S => by rw [hkf] at S; exact S) ?_
     refine qP p4 (qT (qP p5 (qT (qP p4 (qP p3 (qP p2 (qP p4 (qP p4 ?_))))))))
     exact q_mid (⟨q.a, q.c, q.ak, q.ck, q.items, (q.kids.set i17 (kb, ls29))⟩, old29, _) (by exact put_kid strlt_sto hq srt hkid hF17 hnf his29 hol29) ⟨vr, vr, vr, trivial⟩ (fun w S => S)
 · -- behind the cut
  rintro ⟨q1, old, had⟩ hmid
  try dsimp only at *
  have hm6 := hmid.le
  refine c_seq (c_seq (c_region (o_move rfl rfl (o_nil rfl rfl ?_))))
  refine o_fieldAddr (q := ⟨b, 0, none⟩) rfl rfl Try.underlying103 rfl ti100 rfl ?_
  refine o_load1 rfl rfl Try.underlying100 rfl (rd_mem 0 rfl rfl) ?_
  refine o_len rfl rfl Try.underlying100 ?_
  refine o_bin rfl rfl rfl b_leq ?_
  refine l_nil (q_then ?_)
  refine c_cond rfl (fun h4 => ?_) (fun h4 => ?_)
  · -- h4T
   have h4b := h4
   try simp only [decide_eq_true_eq] at h4
   refine c_seq (c_region ?_)
   refine o_loadn (vs := [_, _, _, _]) rfl rfl Try.underlying36 rfl ti36 (rdn_lit 4 rfl rfl) ?_
   refine o_move rfl rfl (l_f4 ?_)
   refine o_storen rfl rfl ti36 rfl rfl rfl rfl ?_
   refine o_assign rfl rfl (o_assign rfl rfl (o_assign rfl rfl (l_nil (q_then (c_ret (q_pass_ret ?_))))))
   refine f_retq (.inl rfl) (rs_4 rfl (rs_celln (vs := [.bool old.f_Has, .slice old.f_Value.a (old.f_Value.xs).length old.f_Value.c, .int .i64 old.f_Home, .int .u64 old.f_Count]) rfl Try.underlying36 rfl ti36 (rdn_lit 0 rfl rfl)) (rs_tmp rfl) (rs_tmp rfl) (rs_tmp rfl)) (fun w S => ?_)
   replace S := S.tail
   exact ⟨_, ⟨old, had, ins ItA.f_key strlt x xs, none, ⟨rfl, hmid.old⟩, rfl, rfl⟩, (fun w S => (Sat.emp_ (nodeMk q1 (hmid.fits (by omega) q1.a q1.c q1.ak q1.ck) S)).perm (List.Perm.swap _ _ _)) w S⟩
  · -- h4F
   have h4b := h4
   try simp only [decide_eq_false_iff_not, Int.not_lt, Int.not_le] at h4
   refine c_skip (q_then (c_seq ?_))
   refine c_fact (p := ∃ ad, q1.a = some ad) (rds_some (e := e_ItA) (xs := q1.items) (rds_own e_ItA_ok 1 rfl) (by intro h0; have h00 := congrArg List.length h0; simp only [List.length_nil] at h00; omega)) ?_
   rintro ⟨adx, eadx⟩
   refine c_region (o_move rfl rfl (o_nil rfl rfl ?_))
   refine o_fieldAddr (q := ⟨b, 0, none⟩) rfl rfl Try.underlying103 rfl ti100 rfl ?_
   refine o_load1 rfl rfl Try.underlying100 rfl (rd_mem 0 rfl rfl) ?_
   refine o_indexK e_ItA_ok eadx rfl rfl rfl Try.underlying100 (by omega) (by omega) ?_
   obtain ⟨x112, hx112⟩ : ∃ x, (q1.items)[((2 : Int)).toNat]? = some x := ⟨_, List.getElem?_eq_getElem (by omega)⟩
   have hpar := hmid.parts (by omega) (show q1.items[2]? = some x112 from hx112)
   refine o_loadn (vs := e_ItA.cells x112) rfl rfl Try.underlying110 rfl ti110 (rdn_sl e_ItA_ok eadx (rds_own e_ItA_ok 1 rfl) hx112) ?_
   refine o_alloc rfl ti110 fun b12 => ?_
   refine o_storen rfl rfl ti110 rfl rfl rfl rfl ?_
   refine l_nil (q_then (c_seq (cP p2 ?_)))
   refine c_rowcap ?_
   intro hcI
   simp only [maxLen] at hcI
   refine c_region (o_move rfl rfl (o_nil rfl rfl ?_))
   refine o_fieldAddr (q := ⟨b, 0, none⟩) rfl rfl Try.underlying103 rfl ti100 rfl ?_
   refine o_load1 rfl rfl Try.underlying100 rfl (rd_mem 2 rfl rfl) ?_
   refine o_cut (l' := 3) (h' := ((q1.items).length)) (m := q1.c) rfl rfl Try.underlying100 ti110 (.inl ⟨rfl, rfl⟩) (.inl ⟨rfl, rfl, rfl⟩) (.inr ⟨_, _, rfl, icast rfl (by omega), (by omega)⟩) ?_
   obtain ⟨ys118, ay118, cut118, hys118, hlys118, eay118⟩ : ∃ ys_ ay_, (∀ {L : List Res}, RdS W L e_ItA q1.a q1.items → RdS W L e_ItA ay_ ys_) ∧ ys_ = sub q1.items 3 ((q1.items).length) ∧ ys_.length = ((q1.items).length) - 3 ∧ cutA q1.a q1.c 3 5 = ay_ := ⟨_, _, fun h => rds_cut e_ItA_ok h _ _ _ (by omega), rfl, sub_len (by omega), rfl⟩
   refine l_eq (t := 118) (v' := .slice ay118 ys118.length (q1.c - 3)) rfl (by rw [eay118, hlys118]) ?_
   have hd118 : ys118 = q1.items.drop 3 := by rw [hys118]; unfold sub; rw [List.take_length]
   refine o_call rfl cal76 rfl (cloI_A (cut118 (rds_own e_ItA_ok 0 rfl)) (by omega)) ?_
   rintro _ _ ⟨a119, c119, rfl, rfl⟩
   refine o_build rfl sp103 ti103 rfl ((fill_cons (cells' := [.slice a119 (ys118).length c119, .slice none 0 0]) rfl rfl rfl rfl fill_nil)) ?_
   refine o_box rfl rfl fun b121 => ?_
   refine o_assign rfl rfl (l_nil (q_then (c_seq (c_region (o_move rfl rfl (o_move rfl rfl (o_nil rfl rfl ?_)))))))
   refine o_fieldAddr (q := ⟨b, 0, none⟩) rfl rfl Try.underlying103 rfl ti100 rfl ?_
   refine o_load1 rfl rfl Try.underlying100 rfl (rd_mem 4 rfl rfl) ?_
   refine o_cut (l' := 0) (h' := 2) (m := 2) rfl rfl Try.underlying100 ti110 (.inr ⟨_, _, rfl, icast rfl (by omega), (by omega)⟩) (.inr ⟨_, _, rfl, icast rfl (by omega), (by omega)⟩) (.inl ⟨rfl, rfl⟩) ?_
   obtain ⟨ys127, ay127, cut127, hys127, hlys127, eay127⟩ : ∃ ys_ ay_, (∀ {L : List Res}, RdS W L e_ItA q1.a q1.items → RdS W L e_ItA ay_ ys_) ∧ ys_ = sub q1.items 0 2 ∧ ys_.length = 2 - 0 ∧ cutA q1.a 2 0 5 = ay_ := ⟨_, _, fun h => rds_cut e_ItA_ok h _ _ _ (by omega), rfl, sub_len (by omega), rfl⟩
   refine l_eq (t := 127) (v' := .slice ay127 ys127.length (2 - 0)) rfl (by rw [eay127, hlys127]) ?_
   refine o_nil rfl rfl ?_
   refine o_fieldAddr (q := ⟨b, 0, none⟩) rfl rfl Try.underlying103 rfl ti100 rfl ?_
   refine l_f4 ?_
   refine o_store1 rfl rfl rfl ti100 rfl rfl ?_
   refine l_nil (q_then (c_seq (c_seq (c_region (o_move rfl rfl (o_nil rfl rfl ?_))))))
   refine o_fieldAddr (q := ⟨b, 1, none⟩) rfl rfl Try.underlying103 rfl ti101 rfl ?_
   refine o_load1 rfl rfl Try.underlying101 rfl (rd_mem 0 rfl rfl) ?_
   refine o_len rfl rfl Try.underlying101 ?_
   refine o_bin rfl rfl rfl b_gtr ?_
   refine l_nil (q_then ?_)
   refine c_cond rfl (fun h5 => ?_) (fun h5 => ?_)
   · -- h5T
    have h5b := h5
    try simp only [decide_eq_true_eq] at h5
    refine c_seq ?_
    have hk6 : 6 ≤ q1.kids.length := by have h9 := hmid.sh; have h8 : (q1.kids.map Prod.fst).length = q1.kids.length := List.length_map _; rcases h9 with ⟨_, h9⟩ | ⟨_, h9, _⟩ <;> first | omega | (have h7 := congrArg List.length h9; simp only [List.length_nil] at h7; omega)
    have hk7 : q1.kids.length ≤ 7 := by have h9 := hmid.sh; rcases h9 with ⟨_, h9⟩ | ⟨_, h9, _⟩ <;> first | omega | (have h7 := congrArg List.length h9; simp only [List.length_nil] at h7; omega)
    have hkm : (q1.kids.map Prod.fst).length = q1.kids.length := List.length_map _
    refine cP p5 ?_
    refine c_rowcap ?_
    intro hcK
    simp only [maxLen] at hcK
    refine c_region (o_move rfl rfl (o_move rfl rfl (o_nil rfl rfl ?_)))
    refine o_fieldAddr (q := ⟨b, 1, none⟩) rfl rfl Try.underlying103 rfl ti101 rfl ?_
    refine o_load1 rfl rfl Try.underlying101 rfl (rd_mem 1 rfl rfl) ?_
    refine o_cut (l' := 3) (h' := (((q1.kids.map Prod.fst)).length)) (m := q1.ck) rfl rfl Try.underlying101 ti99 (.inl ⟨rfl, rfl⟩) (.inl ⟨rfl, rfl, rfl⟩) (.inr ⟨_, _, rfl, icast rfl (by omega), (by omega)⟩) ?_
    obtain ⟨ys141, ay141, cut141, hys141, hlys141, eay141⟩ : ∃ ys_ ay_, (∀ {L : List Res}, RdS W L eN99 q1.ak (q1.kids.map Prod.fst) → RdS W L eN99 ay_ ys_) ∧ ys_ = sub (q1.kids.map Prod.fst) 3 (((q1.kids.map Prod.fst)).length) ∧ ys_.length = (((q1.kids.map Prod.fst)).length) - 3 ∧ cutA q1.ak q1.ck 3 1 = ay_ := ⟨_, _, fun h => rds_cut eN99_ok h _ _ _ (by omega), rfl, sub_len (by omega), rfl⟩
    refine l_eq (t := 141) (v' := .slice ay141 ys141.length (q1.ck - 3)) rfl (by rw [eay141, hlys141]) ?_
    have hd141 : ys141 = (q1.kids.map Prod.fst).drop 3 := by rw [hys141]; unfold sub; rw [List.take_length]
    refine o_call rfl cal77 rfl (cloK_A (cut141 (rds_own eN99_ok 0 rfl)) (by omega)) ?_
    rintro _ _ ⟨a142, c142, rfl, rfl⟩
    refine o_nil rfl rfl ?_
    refine o_fieldAddr (q := ⟨b121, 1, none⟩) rfl rfl Try.underlying103 rfl ti101 rfl ?_
    refine l_f3 ?_
    refine o_store1 rfl rfl rfl ti101 rfl rfl ?_
    refine l_nil (q_then (c_region (o_move rfl rfl (o_move rfl rfl (o_nil rfl rfl ?_)))))
    refine o_fieldAddr (q := ⟨b, 1, none⟩) rfl rfl Try.underlying103 rfl ti101 rfl ?_
    refine o_load1 rfl rfl Try.underlying101 rfl (rd_mem 3 rfl rfl) ?_
    refine o_cut (l' := 0) (h' := 3) (m := 3) rfl rfl Try.underlying101 ti99 (.inr ⟨_, _, rfl, icast rfl (by omega), (by omega)⟩) (.inr ⟨_, _, rfl, icast rfl (by omega), (by omega)⟩) (.inl ⟨rfl, rfl⟩) ?_
    obtain ⟨ys150, ay150, cut150, hys150, hlys150, eay150⟩ : ∃ ys_ ay_, (∀ {L : List Res}, RdS W L eN99 q1.ak (q1.kids.map Prod.fst) → RdS W L eN99 ay_ ys_) ∧ ys_ = sub (q1.kids.map Prod.fst) 0 3 ∧ ys_.length = 3 - 0 ∧ cutA q1.ak 3 0 1 = ay_ := ⟨_, _, fun h => rds_cut eN99_ok h _ _ _ (by omega), rfl, sub_len (by omega), rfl⟩
    refine l_eq (t := 150) (v' := .slice ay150 ys150.length (3 - 0)) rfl (by rw [eay150, hlys150]) ?_
    refine o_nil rfl rfl ?_
    refine o_fieldAddr (q := ⟨b, 1, none⟩) rfl rfl Try.underlying103 rfl ti101 rfl ?_
    refine l_f3 ?_
    refine o_store1 rfl rfl rfl ti101 rfl rfl ?_
    refine l_nil (q_then (c_seq ?_))
    skip
    refine c_region ?_
    refine o_loadn (vs := [_, _, _, _]) rfl rfl Try.underlying36 rfl ti36 (rdn_lit 8 rfl rfl) ?_
    refine o_move rfl rfl (o_move rfl rfl (l_f8 ?_))
    refine o_storen rfl rfl ti36 rfl rfl rfl rfl ?_
    refine o_assign rfl rfl (o_assign rfl rfl (o_assign rfl rfl (l_nil (q_then (c_ret ?_)))))
    refine f_retq (.inl rfl) (rs_4 rfl (rs_celln (vs := [.bool old.f_Has, .slice old.f_Value.a (old.f_Value.xs).length old.f_Value.c, .int .i64 old.f_Home, .int .u64 old.f_Count]) rfl Try.underlying36 rfl ti36 (rdn_lit 0 rfl rfl)) (rs_tmp rfl) (rs_tmp rfl) (rs_tmp rfl)) (fun w S => ?_)
    replace S := S.tail
    replace S := S.perm p2
    replace S := S.perm p4
    replace S := S.perm p3
    replace S := S.perm p6
    replace S := S.perm p7
    replace S := S.perm p6
    replace S := S.perm p7
    replace S := S.perm p7
    exact ⟨_, ⟨old, had, weave ((q1.kids.take 3).map Prod.snd) (q1.items.take 2), some (b12, x112, b121, weave ((q1.kids.drop 3).map Prod.snd) (q1.items.drop 3)), ⟨hpar.2.2, hmid.old⟩, rfl, rfl⟩, (fun w S => put_end e_ItA_ok eN99_ok (by omega) hk6 (hpar.1 _ _ _ _) (hpar.2.1 _ _ _ _) (by rw [hlys127, hlys150, ← eay127, ← eay150, cutA_0, cutA_0, hd118, hd141] at S; exact S)) w S⟩
   · -- h5F
    have h5b := h5
    try simp only [decide_eq_false_iff_not, Int.not_lt, Int.not_le] at h5
    have hk0 : q1.kids = [] := List.eq_nil_of_length_eq_zero (by have h8 : (q1.kids.map Prod.fst).length = q1.kids.length := List.length_map _; omega)
    refine c_skip (q_then (c_seq ?_))
    skip
    refine c_region ?_
    refine o_loadn (vs := [_, _, _, _]) rfl rfl Try.underlying36 rfl ti36 (rdn_lit 7 rfl rfl) ?_
    refine o_move rfl rfl (o_move rfl rfl (l_f7 ?_))
    refine o_storen rfl rfl ti36 rfl rfl rfl rfl ?_
    refine o_assign rfl rfl (o_assign rfl rfl (o_assign rfl rfl (l_nil (q_then (c_ret ?_)))))
    refine f_retq (.inl rfl) (rs_4 rfl (rs_celln (vs := [.bool old.f_Has, .slice old.f_Value.a (old.f_Value.xs).length old.f_Value.c, .int .i64 old.f_Home, .int .u64 old.f_Count]) rfl Try.underlying36 rfl ti36 (rdn_lit 0 rfl rfl)) (rs_tmp rfl) (rs_tmp rfl) (rs_tmp rfl)) (fun w S => ?_)
    replace S := S.tail
    replace S := S.perm p2
    replace S := S.perm p2
    replace S := S.perm p4
    replace S := S.perm p6
    replace S := S.perm p6
    replace S := S.perm p6
    replace S := S.perm p6
    exact ⟨_, ⟨old, had, weave ((q1.kids.take 3).map Prod.snd) (q1.items.take 2), some (b12, x112, b121, weave ((q1.kids.drop 3).map Prod.snd) (q1.items.drop 3)), ⟨hpar.2.2, hmid.old⟩, rfl, rfl⟩, (fun w S => put_end0 e_ItA_ok (by omega) hk0 (hpar.1 _ _ _ _) (hpar.2.1 _ _ _ _) (by rw [hlys127, ← eay127, cutA_0, hd118] at S; exact S)) w S⟩
theorem put_A : ∀ d, PutSpec_A d
  | 0 => put_step_A fun d' h => by omega
  | d + 1 => put_step_A fun d' h => by obtain rfl : d = d' := (by omega); exact put_A d
end
section
set_option linter.unusedVariables false
set_option linter.unusedSimpArgs false
set_option maxRecDepth 10000
open Go.RowKit Classical
def WalkSpec_A (d : Nat) : Prop := ∀ {W : World} {G : List Res} {mn b : Nat} {xs : List ItA} {y : Value} {I : List ItA → List Res → Prop} {J : List Res → Prop} {full pre : List ItA} {L0 : List Res} {fr : Option ByteArray} {fp : Option Addr}, Srt ItA.f_key strlt xs → FromOk (fun k : ByteArray => Value.string k) 9 G fr fp → I pre L0 → (pre ++ sel ItA.f_key strlt fr xs <+: full) → (∀ (Lx : List Res) pre x L, I pre L → pre ++ [x] <+: full → FV Try.prog y [.string x.f_key, .agg #[.bool x.f_value.f_Has, .slice x.f_value.f_Value.a (x.f_value.f_Value.xs).length x.f_value.f_Value.c, .int .i64 x.f_value.f_Home, .int .u64 x.f_value.f_Count]] W (Lx ++ L) (fun v L' => ∃ (bb : Bool) (L2 : List Res), v = .bool bb ∧ ((bb = true ∧ I (pre ++ [x]) L2) ∨ (bb = false ∧ J L2)) ∧ L' = Lx ++ L2)) → CS Try.prog 59 #[.pointer (some ⟨b, 0, none⟩), .pointer fp, y] W (nodeR e_ItA eN99 103 d mn b xs :: (G ++ L0)) (fun r L' => ∃ (bb : Bool) (L2 : List Res), r = .bool bb ∧ ((bb = true ∧ I (pre ++ sel ItA.f_key strlt fr xs) L2) ∨ (bb = false ∧ J L2)) ∧ L' = nodeR e_ItA eN99 103 d mn b xs :: (G ++ L2))
set_option maxHeartbeats 4000000 in
theorem walk_step_A {d : Nat} (ih : ∀ d', d = d' + 1 → WalkSpec_A d') : WalkSpec_A d := by
 unfold WalkSpec_A
 intro W G mn b xs y I J full pre L0 fr fp srt hfr hI0 hfull hy
 refine f_door (l0 := [(0, .pointer (some ⟨b, 0, none⟩)), (1, .pointer fp), (2, y)]) Try.func59 Try.ntmps59 rfl rfl rfl ?_
 refine c_seq (c_region (o_assign rfl rfl (l_nil (q_then (c_seq ?_)))))
 refine c_node ?_
 rintro q hq
 have hsi := hq.srt strlt_sto srt
 have hle := hq.le
 have hsh := hq.sh
 have hor := hsh.or
 refine c_conv (L' := blk b (.cells #[.slice q.a (q.items).length q.c, .slice q.ak ((q.kids.map Prod.fst)).length q.ck] 103 (0, 0)) :: row e_ItA.T e_ItA.sz q.a (q.items).length q.c (flat e_ItA q.items) :: row eN99.T eN99.sz q.ak ((q.kids.map Prod.fst)).length q.ck (flat eN99 (q.kids.map Prod.fst)) :: kidsR e_ItA eN99 103 d q.kids :: (G ++ L0)) (fun w S => S) ?_
 have hxs := hq.is
 have hkm : (q.kids.map Prod.fst).length = q.kids.length := List.length_map _
 refine c_region (o_assign rfl rfl (l_nil (q_then (c_seq (c_seq (c_region (o_move rfl rfl ?_)))))))
 refine o_bin rfl rfl rfl (b_pne Try.underlying113 _) ?_
 refine l_nil (q_then ?_)
 refine c_cond rfl (fun h1 => ?_) (fun h1 => ?_)
 · -- h1T
  have h1b := h1
  try simp only [decide_eq_true_eq, decide_eq_false_iff_not, Bool.not_eq_eq_eq_not, Bool.not_true, Bool.not_false, Bool.not_eq_true', Bool.not_eq_false', Int.not_lt, Int.not_le, Bool.or_eq_true, Bool.and_eq_true] at h1
  obtain ⟨k, kb, hfrk, hfpk, hin⟩ := hfr.some (fun h9 => by rw [h9] at h1b; simp at h1b)
  subst hfpk
  refine c_region (o_move rfl rfl (o_move rfl rfl (o_nil rfl rfl ?_)))
  refine o_load1 rfl rfl Try.underlying9 rfl (rd_in (List.mem_cons_of_mem _ (List.mem_cons_of_mem _ (List.mem_cons_of_mem _ (List.mem_cons_of_mem _ (List.mem_append_left _ hin)))))) ?_
  refine l_f1 (l_f1 ?_)
  refine o_call rfl cal56 rfl (search_A (k := k) (by omega) hsi) ?_
  rintro _ _ ⟨i15, fd15, ⟨hF15, hfd15⟩, rfl, rfl⟩
  refine o_move rfl rfl (o_extract rfl rfl rfl (o_extract rfl rfl rfl (o_assign rfl rfl (l_nil (q_then (c_seq (c_block ?_)))))))
  refine c_loop (α := Nat × (Option ByteArray) × (Option Addr) × (List ItA) × (List Res)) (fun z => [(0, .pointer (some ⟨b, 0, none⟩)), (1, .pointer z.2.2.1), (2, y), (7, .int .i64 (z.1 : Int))]) (fun z => blk b (.cells #[.slice q.a (q.items).length q.c, .slice q.ak ((q.kids.map Prod.fst)).length q.ck] 103 (0, 0)) :: row e_ItA.T e_ItA.sz q.a (q.items).length q.c (flat e_ItA q.items) :: row eN99.T eN99.sz q.ak ((q.kids.map Prod.fst)).length q.ck (flat eN99 (q.kids.map Prod.fst)) :: kidsR e_ItA eN99 103 d q.kids :: (G ++ z.2.2.2.2)) (fun z => z.1 ≤ q.items.length + 1 ∧ FromOk (fun k : ByteArray => Value.string k) 9 G z.2.1 z.2.2.1 ∧ I z.2.2.2.1 z.2.2.2.2 ∧ z.2.2.2.1 ++ restW ItA.f_key strlt (q.kids.map Prod.snd) q.items z.1 z.2.1 = pre ++ sel ItA.f_key strlt fr xs) (fun z => q.items.length + 1 - z.1) (i15, some k, some ⟨kb, 0, none⟩, pre, L0) (by exact ⟨by have := hF15.le; omega, .inr ⟨k, kb, rfl, rfl, hin⟩, hI0, by rw [hfrk, hxs, ← rest_some strlt_sto hor hF15 (by have h9 := srt; rw [hxs] at h9; exact h9)]⟩) ⟨vr, vr, vr, vr, trivial⟩ (fun w S => S) ?_
  rintro ⟨i, fo, fp2, pre2, Lc⟩ ⟨hi, hfo, hI, hpre⟩
  try dsimp only at *
  refine c_seq (c_seq (c_region (o_move rfl rfl (o_move rfl rfl (o_nil rfl rfl ?_)))))
  refine o_fieldAddr (q := ⟨b, 0, none⟩) rfl rfl Try.underlying103 rfl ti100 rfl ?_
  refine o_load1 rfl rfl Try.underlying100 rfl (rd_mem 0 rfl rfl) ?_
  refine o_len rfl rfl Try.underlying100 ?_
  refine o_bin rfl rfl rfl b_leq ?_
  refine l_nil (q_then ?_)
  refine c_cond rfl (fun h2 => ?_) (fun h2 => ?_)
  · -- h2T
   have h2b := h2
   try simp only [decide_eq_true_eq] at h2
   refine c_skip (q_then (c_seq (c_block (c_seq (c_seq (c_region (o_move rfl rfl (o_move rfl rfl (o_nil rfl rfl ?_)))))))))
   refine o_fieldAddr (q := ⟨b, 1, none⟩) rfl rfl Try.underlying103 rfl ti101 rfl ?_
   refine o_load1 rfl rfl Try.underlying101 rfl (rd_mem 0 rfl rfl) ?_
   refine o_len rfl rfl Try.underlying101 ?_
   refine o_bin rfl rfl rfl b_lss ?_
   refine o_move rfl rfl ?_
   refine l_split (t := 34) rfl (fun h3 => ?_) (fun h3 => ?_)
   · -- h3T
    have h3b := h3
    try simp only [decide_eq_true_eq] at h3
    refine o_yes rfl rfl rfl (o_move rfl rfl (o_yes rfl rfl rfl (o_nil rfl rfl (o_yes rfl rfl rfl ?_))))
    refine o_fieldAddr (q := ⟨b, 1, none⟩) rfl rfl Try.underlying103 rfl ti101 rfl ?_
    refine o_yes rfl rfl rfl ?_
    refine o_load1 rfl rfl Try.underlying101 rfl (rd_mem 0 rfl rfl) ?_
    refine o_yes rfl rfl rfl (o_move rfl rfl (o_yes rfl rfl rfl ?_))
    refine o_index eN99_ok rfl rfl rfl Try.underlying101 (by omega) (by omega) (rds_own eN99_ok 2 rfl) fun ad40 ead40 => ?_
    obtain ⟨x40, hx40⟩ : ∃ x, ((q.kids.map Prod.fst))[((i : Int)).toNat]? = some x := ⟨_, List.getElem?_eq_getElem (by omega)⟩
    refine o_yes rfl rfl rfl ?_
    refine o_load1 rfl rfl Try.underlying99 rfl (rd_sl0 eN99_ok ead40 (rds_own eN99_ok 2 rfl) hx40 rfl) ?_
    obtain ⟨⟨kb2, ys⟩, hkid⟩ : ∃ z, q.kids[i]? = some z := ⟨_, List.getElem?_eq_getElem (by omega)⟩
    have hxk : x40 = kb2 := by have h9 := hx40; rw [show ((i : Int)).toNat = i from rfl, List.getElem?_map, hkid] at h9; exact (Option.some.inj h9).symm
    have hd0 : d ≠ 0 := by rcases hsh with ⟨_, h9⟩ | ⟨h9, _, _⟩; exact absurd (List.getElem?_eq_some_iff.1 hkid).1 (by rw [h9]; simp); exact h9
    obtain ⟨d', hd'⟩ : ∃ d', d = d' + 1 := ⟨d - 1, by omega⟩
    have hsy : Srt ItA.f_key strlt ys := by have h9 := srt; rw [hxs] at h9; exact srt_kid hor (show (q.kids.map Prod.snd)[i]? = some ys by rw [List.getElem?_map, hkid]; rfl) h9
    have hat : atK (q.kids.map Prod.snd) i = ys := by unfold atK; rw [List.getElem?_map, hkid]; rfl
    refine l_f3 ?_
    refine l_conv (L' := nodeR e_ItA eN99 103 d' 2 kb2 ys :: kidsR e_ItA eN99 103 d (q.kids.eraseIdx i) :: _) (fun w S => by have h9 := Sat.kid_take hkid S; rw [hd'] at h9 ⊢; exact h9) ?_
    refine l_eq (t := 41) (v' := .pointer (some ⟨kb2, 0, none⟩)) rfl (by rw [hxk]) ?_
    refine o_yes rfl rfl rfl (o_move rfl rfl (o_yes rfl rfl rfl (o_move rfl rfl (o_yes rfl rfl rfl ?_))))
    refine o_call rfl cal59 rfl (ih d' hd' (G := [kidsR e_ItA eN99 103 d (q.kids.eraseIdx i), blk b (.cells #[.slice q.a (q.items).length q.c, .slice q.ak ((q.kids.map Prod.fst)).length q.ck] 103 (0, 0)), row e_ItA.T e_ItA.sz q.a (q.items).length q.c (flat e_ItA q.items), row eN99.T eN99.sz q.ak ((q.kids.map Prod.fst)).length q.ck (flat eN99 (q.kids.map Prod.fst))] ++ G) (L0 := Lc) (pre := pre2) (full := full) hsy (hfo.more _) hI (by rw [← hat]; exact (List.IsPrefix.trans (by rw [← hpre]; unfold restW; rw [← List.append_assoc]; exact List.prefix_append _ _) hfull)) hy) ?_
    rintro _ _ ⟨bb44, L44, rfl, hbb44, rfl⟩
    refine l_conv (L' := nodeR e_ItA eN99 103 d' 2 kb2 ys :: kidsR e_ItA eN99 103 d (q.kids.eraseIdx i) :: blk b (.cells #[.slice q.a (q.items).length q.c, .slice q.ak ((q.kids.map Prod.fst)).length q.ck] 103 (0, 0)) :: row e_ItA.T e_ItA.sz q.a (q.items).length q.c (flat e_ItA q.items) :: row eN99.T eN99.sz q.ak ((q.kids.map Prod.fst)).length q.ck (flat eN99 (q.kids.map Prod.fst)) :: (G ++ L44)) (fun w S => S) ?_
    refine l_conv (L' := kidsR e_ItA eN99 103 d q.kids :: _) (fun w S => Sat.kid_back hkid (by rw [hd'] at S ⊢; exact S)) ?_
    refine o_yes rfl rfl rfl ?_
    refine o_not rfl rfl ?_
    refine o_pick_true rfl rfl rfl (l_nil (q_then ?_))
    refine c_cond rfl (fun h4 => ?_) (fun h4 => ?_)
    · -- h4T
     have h4b := h4
     try simp only [decide_eq_true_eq, decide_eq_false_iff_not, Bool.not_eq_eq_eq_not, Bool.not_true, Bool.not_false, Bool.not_eq_true', Bool.not_eq_false', Int.not_lt, Int.not_le, Bool.or_eq_true, Bool.and_eq_true] at h4
     refine c_seq (c_region (o_assign rfl rfl (l_nil (q_then (c_ret (q_pass_ret ?_))))))
     refine q_block_ret ?_
     refine q_pass_ret (q_pass_ret ?_)
     refine q_block_ret ?_
     refine q_pass_ret (qP p3 (qP p3 (qP p3 ?_)))
     exact f_ret (r_one rfl rfl) (⟨false, L44, rfl, .inr ⟨rfl, or_no hbb44 (by assumption)⟩, rfl⟩) (fun w S => nodeMk q hq S)
    · -- h4F
     have h4b := h4
     try simp only [decide_eq_true_eq, decide_eq_false_iff_not, Bool.not_eq_eq_eq_not, Bool.not_true, Bool.not_false, Bool.not_eq_true', Bool.not_eq_false', Int.not_lt, Int.not_le, Bool.or_eq_true, Bool.and_eq_true] at h4
     refine c_skip (q_then (c_seq ?_))
     have hI9 : I (pre2 ++ sel ItA.f_key strlt fo ys) L44 := or_yes hbb44 (by assumption)
     have hpre9 : (pre2 ++ sel ItA.f_key strlt fo ys) ++ post (q.items.drop i) ((q.kids.map Prod.snd).drop (i + 1)) = pre ++ sel ItA.f_key strlt fr xs := by rw [← hpre]; unfold restW; rw [hat, List.append_assoc]
     refine c_region (o_assign rfl rfl (l_nil (q_then (c_seq ?_))))
     refine (Classical.em (i < q.items.length)).elim (fun hs9 => ?_) (fun hs9 => ?_)
     · -- hs9 True
      refine c_fact (p := ∃ ad, q.a = some ad) (rds_some (e := e_ItA) (xs := q.items) (rds_own e_ItA_ok 2 rfl) (by intro h0; have h00 := congrArg List.length h0; simp only [List.length_nil] at h00; omega)) ?_
      rintro ⟨ad9, ead9⟩
      refine c_held [kidsR e_ItA eN99 103 d q.kids, blk b (.cells #[.slice q.a (q.items).length q.c, .slice q.ak ((q.kids.map Prod.fst)).length q.ck] 103 (0, 0)), row e_ItA.T e_ItA.sz q.a (q.items).length q.c (flat e_ItA q.items), row eN99.T eN99.sz q.ak ((q.kids.map Prod.fst)).length q.ck (flat eN99 (q.kids.map Prod.fst))] (by kernel_rfl) rfl ?_
      refine h_take 0 rfl rfl (by kernel_rfl) (by kernel_rfl) (by kernel_rfl) (fun L0 => v_move rfl rfl) ?_
      refine h_take 1 rfl rfl (by kernel_rfl) (by kernel_rfl) (by kernel_rfl) (fun L0 => v_move rfl rfl) ?_
      refine h_take 2 rfl rfl (by kernel_rfl) (by kernel_rfl) (by kernel_rfl) (fun L0 => v_nil rfl rfl) ?_
      refine h_take 3 rfl rfl (by kernel_rfl) (by kernel_rfl) (by kernel_rfl) (fun L0 => v_fieldAddr (q := ⟨b, 0, none⟩) rfl rfl Try.underlying103 rfl ti100 rfl) ?_
      refine h_take 4 rfl rfl (by kernel_rfl) (by kernel_rfl) (by kernel_rfl) (fun L0 => v_load1 rfl rfl Try.underlying100 rfl (rd_mem 1 rfl rfl)) ?_
      refine h_take 5 rfl rfl (by kernel_rfl) (by kernel_rfl) (by kernel_rfl) (fun L0 => v_len rfl rfl Try.underlying100) ?_
      refine h_take 6 rfl rfl (by kernel_rfl) (by kernel_rfl) (by kernel_rfl) (fun L0 => v_bin rfl rfl rfl b_lss) ?_
      refine h_eq (t := 53) (v' := .bool true) rfl (show _ = Value.bool true from by rw [decide_eq_true (by omega)]) ?_
      refine h_take 7 rfl rfl (by kernel_rfl) (by kernel_rfl) (by kernel_rfl) (fun L0 => v_move rfl rfl) ?_
      refine h_take_yes 8 rfl rfl rfl rfl rfl (by kernel_rfl) (by kernel_rfl) (by kernel_rfl) (fun L0 => v_move rfl rfl) ?_
      refine h_take_yes 9 rfl rfl rfl rfl rfl (by kernel_rfl) (by kernel_rfl) (by kernel_rfl) (fun L0 => v_move rfl rfl) ?_
      refine h_take_yes 10 rfl rfl rfl rfl rfl (by kernel_rfl) (by kernel_rfl) (by kernel_rfl) (fun L0 => v_nil rfl rfl) ?_
      refine h_take_yes 11 rfl rfl rfl rfl rfl (by kernel_rfl) (by kernel_rfl) (by kernel_rfl) (fun L0 => v_fieldAddr (q := ⟨b, 0, none⟩) rfl rfl Try.underlying103 rfl ti100 rfl) ?_
      refine h_take_yes 12 rfl rfl rfl rfl rfl (by kernel_rfl) (by kernel_rfl) (by kernel_rfl) (fun L0 => v_load1 rfl rfl Try.underlying100 rfl (rd_mem 1 rfl rfl)) ?_
      refine h_take_yes 13 rfl rfl rfl rfl rfl (by kernel_rfl) (by kernel_rfl) (by kernel_rfl) (fun L0 => v_move rfl rfl) ?_
      refine h_take_yes 14 rfl rfl rfl rfl rfl (by kernel_rfl) (by kernel_rfl) (by kernel_rfl) (fun L0 => v_indexK e_ItA_ok ead9 rfl rfl rfl Try.underlying100 (by omega) (by omega)) ?_
      obtain ⟨x61, hx61⟩ : ∃ x, (q.items)[((i : Int)).toNat]? = some x := ⟨_, List.getElem?_eq_getElem (by omega)⟩
      have hx61' : q.items[i]? = some x61 := hx61
      refine h_take_yes 15 rfl rfl rfl rfl rfl (by kernel_rfl) (by kernel_rfl) (by kernel_rfl) (fun L0 => v_fieldAddr rfl rfl Try.underlying110 rfl ti9 (Addr.add_add' _ _ _)) ?_
      refine h_take_yes 16 rfl rfl rfl rfl rfl (by kernel_rfl) (by kernel_rfl) (by kernel_rfl) (fun L0 => v_load1 rfl rfl Try.underlying9 rfl (rd_sl e_ItA_ok ead9 (rds_own e_ItA_ok 2 rfl) hx61 rfl)) ?_
      refine h_take_yes 17 rfl rfl rfl rfl rfl (by kernel_rfl) (by kernel_rfl) (by kernel_rfl) (fun L0 => v_move rfl rfl) ?_
      refine h_take_yes 18 rfl rfl rfl rfl rfl (by kernel_rfl) (by kernel_rfl) (by kernel_rfl) (fun L0 => v_nil rfl rfl) ?_
      refine h_take_yes 19 rfl rfl rfl rfl rfl (by kernel_rfl) (by kernel_rfl) (by kernel_rfl) (fun L0 => v_fieldAddr (q := ⟨b, 0, none⟩) rfl rfl Try.underlying103 rfl ti100 rfl) ?_
      refine h_take_yes 20 rfl rfl rfl rfl rfl (by kernel_rfl) (by kernel_rfl) (by kernel_rfl) (fun L0 => v_load1 rfl rfl Try.underlying100 rfl (rd_mem 1 rfl rfl)) ?_
      refine h_take_yes 21 rfl rfl rfl rfl rfl (by kernel_rfl) (by kernel_rfl) (by kernel_rfl) (fun L0 => v_move rfl rfl) ?_
      refine h_take_yes 22 rfl rfl rfl rfl rfl (by kernel_rfl) (by kernel_rfl) (by kernel_rfl) (fun L0 => v_indexK e_ItA_ok ead9 rfl rfl rfl Try.underlying100 (by omega) (by omega)) ?_
      obtain ⟨x69, hx69⟩ : ∃ x, (q.items)[((i : Int)).toNat]? = some x := ⟨_, List.getElem?_eq_getElem (by omega)⟩
      have e69 : x69 = x61 := by rw [hx61] at hx69; exact (Option.some.inj hx69).symm
      refine h_take_yes 23 rfl rfl rfl rfl rfl (by kernel_rfl) (by kernel_rfl) (by kernel_rfl) (fun L0 => v_fieldAddr rfl rfl Try.underlying110 rfl ti36 (Addr.add_add' _ _ _)) ?_
      refine h_take_yes 24 rfl rfl rfl rfl rfl (by kernel_rfl) (by kernel_rfl) (by kernel_rfl) (fun L0 => v_loadn (vs := [.bool x69.f_value.f_Has, .slice x69.f_value.f_Value.a (x69.f_value.f_Value.xs).length x69.f_value.f_Value.c, .int .i64 x69.f_value.f_Home, .int .u64 x69.f_value.f_Count]) rfl rfl Try.underlying36 rfl ti36 (rdn_slo (n := 4) e_ItA_ok ead9 (rds_own e_ItA_ok 2 rfl) hx69 rfl)) ?_
      refine h_eq (t := 71) (v' := .agg #[.bool x61.f_value.f_Has, .slice x61.f_value.f_Value.a (x61.f_value.f_Value.xs).length x61.f_value.f_Value.c, .int .i64 x61.f_value.f_Home, .int .u64 x61.f_value.f_Count]) rfl (by rw [e69]) ?_
      refine h_one 25 rfl (by kernel_rfl) ?_
      refine o_yes rfl rfl rfl ?_
      refine l_conv (L' := ([kidsR e_ItA eN99 103 d q.kids, blk b (.cells #[.slice q.a (q.items).length q.c, .slice q.ak ((q.kids.map Prod.fst)).length q.ck] 103 (0, 0)), row e_ItA.T e_ItA.sz q.a (q.items).length q.c (flat e_ItA q.items), row eN99.T eN99.sz q.ak ((q.kids.map Prod.fst)).length q.ck (flat eN99 (q.kids.map Prod.fst))] ++ G) ++ L44) (fun w S => S) ?_
      refine o_callV rfl rfl rfl (hy ([kidsR e_ItA eN99 103 d q.kids, blk b (.cells #[.slice q.a (q.items).length q.c, .slice q.ak ((q.kids.map Prod.fst)).length q.ck] 103 (0, 0)), row e_ItA.T e_ItA.sz q.a (q.items).length q.c (flat e_ItA q.items), row eN99.T eN99.sz q.ak ((q.kids.map Prod.fst)).length q.ck (flat eN99 (q.kids.map Prod.fst))] ++ G) (pre2 ++ sel ItA.f_key strlt fo ys) x61 L44 hI9 (List.IsPrefix.trans (by rw [← hpre9]; rw [rest_item (key := ItA.f_key) (lt := strlt) hor hx61']; exact prefix_snoc) hfull)) ?_
      rintro _ _ ⟨bb72, L72, rfl, hbb72, rfl⟩
      refine l_conv (L' := kidsR e_ItA eN99 103 d q.kids :: blk b (.cells #[.slice q.a (q.items).length q.c, .slice q.ak ((q.kids.map Prod.fst)).length q.ck] 103 (0, 0)) :: row e_ItA.T e_ItA.sz q.a (q.items).length q.c (flat e_ItA q.items) :: row eN99.T eN99.sz q.ak ((q.kids.map Prod.fst)).length q.ck (flat eN99 (q.kids.map Prod.fst)) :: (G ++ L72)) (fun w S => S) ?_
      refine l_nil (h_next ?_)
      refine h_take_yes 26 rfl rfl rfl rfl rfl (by kernel_rfl) (by kernel_rfl) (by kernel_rfl) (fun L0 => v_not rfl rfl) ?_
      refine h_take 27 rfl rfl (by kernel_rfl) (by kernel_rfl) (by kernel_rfl) (fun L0 => v_pick_true rfl rfl rfl) ?_
      refine h_done (by kernel_rfl) ?_
      refine q_then ?_
      refine c_cond rfl (fun h5 => ?_) (fun h5 => ?_)
      · -- h5T
       have h5b := h5
       try simp only [decide_eq_true_eq, decide_eq_false_iff_not, Bool.not_eq_eq_eq_not, Bool.not_true, Bool.not_false, Bool.not_eq_true', Bool.not_eq_false', Int.not_lt, Int.not_le, Bool.or_eq_true, Bool.and_eq_true] at h5
       refine c_seq (c_region (o_assign rfl rfl (l_nil (q_then (c_ret ?_)))))
       refine q_block_ret ?_
       refine q_pass_ret (q_pass_ret ?_)
       refine q_block_ret ?_
       refine q_pass_ret (qP p3 (qP p3 (qP p3 ?_)))
       exact f_ret (r_one rfl rfl) (⟨false, L72, rfl, .inr ⟨rfl, or_no hbb72 (by assumption)⟩, rfl⟩) (fun w S => nodeMk q hq S)
      · -- h5F
       have h5b := h5
       try simp only [decide_eq_true_eq, decide_eq_false_iff_not, Bool.not_eq_eq_eq_not, Bool.not_true, Bool.not_false, Bool.not_eq_true', Bool.not_eq_false', Int.not_lt, Int.not_le, Bool.or_eq_true, Bool.and_eq_true] at h5
       refine c_skip (q_block (q_then (c_region (o_move rfl rfl ?_))))
       refine o_bin rfl rfl rfl (b_add (wrap_i64 (by omega) (by omega))) ?_
       refine o_assign rfl rfl (l_nil (qP p3 (qP p3 (qP p3 ?_))))
       exact q_round (i + 1, none, none, ((pre2 ++ sel ItA.f_key strlt fo ys) ++ [x61]), L72) (by exact ⟨by omega, .inl ⟨rfl, rfl⟩, or_yes hbb72 (by assumption), by rw [← hpre9, rest_item (key := ItA.f_key) (lt := strlt) hor hx61', List.append_assoc]; rfl⟩) (by (try dsimp only); omega) ⟨vr, vr, vr, vr, trivial⟩ (fun w S => S)
     · -- hs9 False
      refine c_held [kidsR e_ItA eN99 103 d q.kids, blk b (.cells #[.slice q.a (q.items).length q.c, .slice q.ak ((q.kids.map Prod.fst)).length q.ck] 103 (0, 0)), row e_ItA.T e_ItA.sz q.a (q.items).length q.c (flat e_ItA q.items), row eN99.T eN99.sz q.ak ((q.kids.map Prod.fst)).length q.ck (flat eN99 (q.kids.map Prod.fst))] (by kernel_rfl) rfl ?_
      refine h_take 0 rfl rfl (by kernel_rfl) (by kernel_rfl) (by kernel_rfl) (fun L0 => v_move rfl rfl) ?_
      refine h_take 1 rfl rfl (by kernel_rfl) (by kernel_rfl) (by kernel_rfl) (fun L0 => v_move rfl rfl) ?_
      refine h_take 2 rfl rfl (by kernel_rfl) (by kernel_rfl) (by kernel_rfl) (fun L0 => v_nil rfl rfl) ?_
      refine h_take 3 rfl rfl (by kernel_rfl) (by kernel_rfl) (by kernel_rfl) (fun L0 => v_fieldAddr (q := ⟨b, 0, none⟩) rfl rfl Try.underlying103 rfl ti100 rfl) ?_
      refine h_take 4 rfl rfl (by kernel_rfl) (by kernel_rfl) (by kernel_rfl) (fun L0 => v_load1 rfl rfl Try.underlying100 rfl (rd_mem 1 rfl rfl)) ?_
      refine h_take 5 rfl rfl (by kernel_rfl) (by kernel_rfl) (by kernel_rfl) (fun L0 => v_len rfl rfl Try.underlying100) ?_
      refine h_take 6 rfl rfl (by kernel_rfl) (by kernel_rfl) (by kernel_rfl) (fun L0 => v_bin rfl rfl rfl b_lss) ?_
      refine h_eq (t := 53) (v' := .bool false) rfl (show _ = Value.bool false from by rw [decide_eq_false (by omega)]) ?_
      refine h_take 7 rfl rfl (by kernel_rfl) (by kernel_rfl) (by kernel_rfl) (fun L0 => v_move rfl rfl) ?_
      refine h_take_no 8 rfl rfl rfl rfl rfl (by kernel_rfl) (by kernel_rfl) (by kernel_rfl) ?_
      refine h_take_no 9 rfl rfl rfl rfl rfl (by kernel_rfl) (by kernel_rfl) (by kernel_rfl) ?_
      refine h_take_no 10 rfl rfl rfl rfl rfl (by kernel_rfl) (by kernel_rfl) (by kernel_rfl) ?_
      refine h_take_no 11 rfl rfl rfl rfl rfl (by kernel_rfl) (by kernel_rfl) (by kernel_rfl) ?_
      refine h_take_no 12 rfl rfl rfl rfl rfl (by kernel_rfl) (by kernel_rfl) (by kernel_rfl) ?_
      refine h_take_no 13 rfl rfl rfl rfl rfl (by kernel_rfl) (by kernel_rfl) (by kernel_rfl) ?_
      refine h_take_no 14 rfl rfl rfl rfl rfl (by kernel_rfl) (by kernel_rfl) (by kernel_rfl) ?_
      refine h_take_no 15 rfl rfl rfl rfl rfl (by kernel_rfl) (by kernel_rfl) (by kernel_rfl) ?_
      refine h_take_no 16 rfl rfl rfl rfl rfl (by kernel_rfl) (by kernel_rfl) (by kernel_rfl) ?_
      refine h_take_no 17 rfl rfl rfl rfl rfl (by kernel_rfl) (by kernel_rfl) (by kernel_rfl) ?_
      refine h_take_no 18 rfl rfl rfl rfl rfl (by kernel_rfl) (by kernel_rfl) (by kernel_rfl) ?_
      refine h_take_no 19 rfl rfl rfl rfl rfl (by kernel_rfl) (by kernel_rfl) (by kernel_rfl) ?_
      refine h_take_no 20 rfl rfl rfl rfl rfl (by kernel_rfl) (by kernel_rfl) (by kernel_rfl) ?_
      refine h_take_no 21 rfl rfl rfl rfl rfl (by kernel_rfl) (by kernel_rfl) (by kernel_rfl) ?_
      refine h_take_no 22 rfl rfl rfl rfl rfl (by kernel_rfl) (by kernel_rfl) (by kernel_rfl) ?_
      refine h_take_no 23 rfl rfl rfl rfl rfl (by kernel_rfl) (by kernel_rfl) (by kernel_rfl) ?_
      refine h_take_no 24 rfl rfl rfl rfl rfl (by kernel_rfl) (by kernel_rfl) (by kernel_rfl) ?_
      refine h_take_no 25 rfl rfl rfl rfl rfl (by kernel_rfl) (by kernel_rfl) (by kernel_rfl) ?_
      refine h_take_no 26 rfl rfl rfl rfl rfl (by kernel_rfl) (by kernel_rfl) (by kernel_rfl) ?_
      refine h_take 27 rfl rfl (by kernel_rfl) (by kernel_rfl) (by kernel_rfl) (fun L0 => v_pick_false rfl rfl rfl) ?_
      refine h_done (by kernel_rfl) ?_
      refine q_then (c_false rfl (c_skip (q_block (q_then (c_region (o_move rfl rfl ?_))))))
      refine o_bin rfl rfl rfl (b_add (wrap_i64 (by omega) (by omega))) ?_
      refine o_assign rfl rfl (l_nil (qP p3 (qP p3 (qP p3 ?_))))
      exact q_round (i + 1, none, none, (pre2 ++ sel ItA.f_key strlt fo ys), L44) (by exact ⟨by omega, .inl ⟨rfl, rfl⟩, hI9, by rw [← hpre9, rest_end (key := ItA.f_key) (lt := strlt) hor (by omega)]⟩) (by (try dsimp only); omega) ⟨vr, vr, vr, vr, trivial⟩ (fun w S => S)
   · -- h3F
    have h3b := h3
    try simp only [decide_eq_false_iff_not, Int.not_lt, Int.not_le] at h3
    refine o_no rfl rfl rfl rfl (o_no rfl rfl rfl rfl (o_no rfl rfl rfl rfl (o_no rfl rfl rfl rfl (o_no rfl rfl rfl rfl (o_no rfl rfl rfl rfl (o_no rfl rfl rfl rfl (o_no rfl rfl rfl rfl (o_no rfl rfl rfl rfl (o_no rfl rfl rfl rfl ?_)))))))))
    refine o_no rfl rfl rfl rfl (o_pick_false rfl rfl rfl (l_nil (q_then (c_false rfl (c_skip (q_then (c_seq ?_)))))))
    have hat : atK (q.kids.map Prod.snd) i = [] := by unfold atK; rw [List.getElem?_eq_none (by rw [List.length_map]; omega)]; rfl
    have hI9 := hI
    have hpre9 : pre2 ++ post (q.items.drop i) ((q.kids.map Prod.snd).drop (i + 1)) = pre ++ sel ItA.f_key strlt fr xs := by rw [← hpre]; unfold restW; rw [hat, sel_nil, List.nil_append]
    refine c_region (o_assign rfl rfl (l_nil (q_then (c_seq ?_))))
    refine (Classical.em (i < q.items.length)).elim (fun hs9 => ?_) (fun hs9 => ?_)
    · -- hs9 True
     refine c_fact (p := ∃ ad, q.a = some ad) (rds_some (e := e_ItA) (xs := q.items) (rds_own e_ItA_ok 1 rfl) (by intro h0; have h00 := congrArg List.length h0; simp only [List.length_nil] at h00; omega)) ?_
     rintro ⟨ad9, ead9⟩
     refine c_held [blk b (.cells #[.slice q.a (q.items).length q.c, .slice q.ak ((q.kids.map Prod.fst)).length q.ck] 103 (0, 0)), row e_ItA.T e_ItA.sz q.a (q.items).length q.c (flat e_ItA q.items), row eN99.T eN99.sz q.ak ((q.kids.map Prod.fst)).length q.ck (flat eN99 (q.kids.map Prod.fst)), kidsR e_ItA eN99 103 d q.kids] (by kernel_rfl) rfl ?_
     refine h_take 0 rfl rfl (by kernel_rfl) (by kernel_rfl) (by kernel_rfl) (fun L0 => v_move rfl rfl) ?_
     refine h_take 1 rfl rfl (by kernel_rfl) (by kernel_rfl) (by kernel_rfl) (fun L0 => v_move rfl rfl) ?_
     refine h_take 2 rfl rfl (by kernel_rfl) (by kernel_rfl) (by kernel_rfl) (fun L0 => v_nil rfl rfl) ?_
     refine h_take 3 rfl rfl (by kernel_rfl) (by kernel_rfl) (by kernel_rfl) (fun L0 => v_fieldAddr (q := ⟨b, 0, none⟩) rfl rfl Try.underlying103 rfl ti100 rfl) ?_
     refine h_take 4 rfl rfl (by kernel_rfl) (by kernel_rfl) (by kernel_rfl) (fun L0 => v_load1 rfl rfl Try.underlying100 rfl (rd_mem 0 rfl rfl)) ?_
     refine h_take 5 rfl rfl (by kernel_rfl) (by kernel_rfl) (by kernel_rfl) (fun L0 => v_len rfl rfl Try.underlying100) ?_
     refine h_take 6 rfl rfl (by kernel_rfl) (by kernel_rfl) (by kernel_rfl) (fun L0 => v_bin rfl rfl rfl b_lss) ?_
     refine h_eq (t := 53) (v' := .bool true) rfl (show _ = Value.bool true from by rw [decide_eq_true (by omega)]) ?_
     refine h_take 7 rfl rfl (by kernel_rfl) (by kernel_rfl) (by kernel_rfl) (fun L0 => v_move rfl rfl) ?_
     refine h_take_yes 8 rfl rfl rfl rfl rfl (by kernel_rfl) (by kernel_rfl) (by kernel_rfl) (fun L0 => v_move rfl rfl) ?_
     refine h_take_yes 9 rfl rfl rfl rfl rfl (by kernel_rfl) (by kernel_rfl) (by kernel_rfl) (fun L0 => v_move rfl rfl) ?_
     refine h_take_yes 10 rfl rfl rfl rfl rfl (by kernel_rfl) (by kernel_rfl) (by kernel_rfl) (fun L0 => v_nil rfl rfl) ?_
     refine h_take_yes 11 rfl rfl rfl rfl rfl (by kernel_rfl) (by kernel_rfl) (by kernel_rfl) (fun L0 => v_fieldAddr (q := ⟨b, 0, none⟩) rfl rfl Try.underlying103 rfl ti100 rfl) ?_
     refine h_take_yes 12 rfl rfl rfl rfl rfl (by kernel_rfl) (by kernel_rfl) (by kernel_rfl) (fun L0 => v_load1 rfl rfl Try.underlying100 rfl (rd_mem 0 rfl rfl)) ?_
     refine h_take_yes 13 rfl rfl rfl rfl rfl (by kernel_rfl) (by kernel_rfl) (by kernel_rfl) (fun L0 => v_move rfl rfl) ?_
     refine h_take_yes 14 rfl rfl rfl rfl rfl (by kernel_rfl) (by kernel_rfl) (by kernel_rfl) (fun L0 => v_indexK e_ItA_ok ead9 rfl rfl rfl Try.underlying100 (by omega) (by omega)) ?_
     obtain ⟨x61, hx61⟩ : ∃ x, (q.items)[((i : Int)).toNat]? = some x := ⟨_, List.getElem?_eq_getElem (by omega)⟩
     have hx61' : q.items[i]? = some x61 := hx61
     refine h_take_yes 15 rfl rfl rfl rfl rfl (by kernel_rfl) (by kernel_rfl) (by kernel_rfl) (fun L0 => v_fieldAddr rfl rfl Try.underlying110 rfl ti9 (Addr.add_add' _ _ _)) ?_
     refine h_take_yes 16 rfl rfl rfl rfl rfl (by kernel_rfl) (by kernel_rfl) (by kernel_rfl) (fun L0 => v_load1 rfl rfl Try.underlying9 rfl (rd_sl e_ItA_ok ead9 (rds_own e_ItA_ok 1 rfl) hx61 rfl)) ?_
     refine h_take_yes 17 rfl rfl rfl rfl rfl (by kernel_rfl) (by kernel_rfl) (by kernel_rfl) (fun L0 => v_move rfl rfl) ?_
     refine h_take_yes 18 rfl rfl rfl rfl rfl (by kernel_rfl) (by kernel_rfl) (by kernel_rfl) (fun L0 => v_nil rfl rfl) ?_
     refine h_take_yes 19 rfl rfl rfl rfl rfl (by kernel_rfl) (by kernel_rfl) (by kernel_rfl) (fun L0 => v_fieldAddr (q := ⟨b, 0, none⟩) rfl rfl Try.underlying103 rfl ti100 rfl) ?_
     refine h_take_yes 20 rfl rfl rfl rfl rfl (by kernel_rfl) (by kernel_rfl) (by kernel_rfl) (fun L0 => v_load1 rfl rfl Try.underlying100 rfl (rd_mem 0 rfl rfl)) ?_
     refine h_take_yes 21 rfl rfl rfl rfl rfl (by kernel_rfl) (by kernel_rfl) (by kernel_rfl) (fun L0 => v_move rfl rfl) ?_
     refine h_take_yes 22 rfl rfl rfl rfl rfl (by kernel_rfl) (by kernel_rfl) (by kernel_rfl) (fun L0 => v_indexK e_ItA_ok ead9 rfl rfl rfl Try.underlying100 (by omega) (by omega)) ?_
     obtain ⟨x69, hx69⟩ : ∃ x, (q.items)[((i : Int)).toNat]? = some x := ⟨_, List.getElem?_eq_getElem (by omega)⟩
     have e69 : x69 = x61 := by rw [hx61] at hx69; exact (Option.some.inj hx69).symm
     refine h_take_yes 23 rfl rfl rfl rfl rfl (by kernel_rfl) (by kernel_rfl) (by kernel_rfl) (fun L0 => v_fieldAddr rfl rfl Try.underlying110 rfl ti36 (Addr.add_add' _ _ _)) ?_
     refine h_take_yes 24 rfl rfl rfl rfl rfl (by kernel_rfl) (by kernel_rfl) (by kernel_rfl) (fun L0 => v_loadn (vs := [.bool x69.f_value.f_Has, .slice x69.f_value.f_Value.a (x69.f_value.f_Value.xs).length x69.f_value.f_Value.c, .int .i64 x69.f_value.f_Home, .int .u64 x69.f_value.f_Count]) rfl rfl Try.underlying36 rfl ti36 (rdn_slo (n := 4) e_ItA_ok ead9 (rds_own e_ItA_ok 1 rfl) hx69 rfl)) ?_
     refine h_eq (t := 71) (v' := .agg #[.bool x61.f_value.f_Has, .slice x61.f_value.f_Value.a (x61.f_value.f_Value.xs).length x61.f_value.f_Value.c, .int .i64 x61.f_value.f_Home, .int .u64 x61.f_value.f_Count]) rfl (by rw [e69]) ?_
     refine h_one 25 rfl (by kernel_rfl) ?_
     refine o_yes rfl rfl rfl ?_
     refine l_conv (L' := ([blk b (.cells #[.slice q.a (q.items).length q.c, .slice q.ak ((q.kids.map Prod.fst)).length q.ck] 103 (0, 0)), row e_ItA.T e_ItA.sz q.a (q.items).length q.c (flat e_ItA q.items), row eN99.T eN99.sz q.ak ((q.kids.map Prod.fst)).length q.ck (flat eN99 (q.kids.map Prod.fst)), kidsR e_ItA eN99 103 d q.kids] ++ G) ++ Lc) (fun w S => S) ?_
     refine o_callV rfl rfl rfl (hy ([blk b (.cells #[.slice q.a (q.items).length q.c, .slice q.ak ((q.kids.map Prod.fst)).length q.ck] 103 (0, 0)), row e_ItA.T e_ItA.sz q.a (q.items).length q.c (flat e_ItA q.items), row eN99.T eN99.sz q.ak ((q.kids.map Prod.fst)).length q.ck (flat eN99 (q.kids.map Prod.fst)), kidsR e_ItA eN99 103 d q.kids] ++ G) pre2 x61 Lc hI9 (List.IsPrefix.trans (by rw [← hpre9]; rw [rest_item (key := ItA.f_key) (lt := strlt) hor hx61']; exact prefix_snoc) hfull)) ?_
     rintro _ _ ⟨bb72, L72, rfl, hbb72, rfl⟩
     refine l_conv (L' := blk b (.cells #[.slice q.a (q.items).length q.c, .slice q.ak ((q.kids.map Prod.fst)).length q.ck] 103 (0, 0)) :: row e_ItA.T e_ItA.sz q.a (q.items).length q.c (flat e_ItA q.items) :: row eN99.T eN99.sz q.ak ((q.kids.map Prod.fst)).length q.ck (flat eN99 (q.kids.map Prod.fst)) :: kidsR e_ItA eN99 103 d q.kids :: (G ++ L72)) (fun w S => S) ?_
     refine l_nil (h_next ?_)
     refine h_take_yes 26 rfl rfl rfl rfl rfl (by kernel_rfl) (by kernel_rfl) (by kernel_rfl) (fun L0 => v_not rfl rfl) ?_
     refine h_take 27 rfl rfl (by kernel_rfl) (by kernel_rfl) (by kernel_rfl) (fun L0 => v_pick_true rfl rfl rfl) ?_
     refine h_done (by kernel_rfl) ?_
     refine q_then ?_
     refine c_cond rfl (fun h6 => ?_) (fun h6 => ?_)
     · -- h6T
      have h6b := h6
      try simp only [decide_eq_true_eq, decide_eq_false_iff_not, Bool.not_eq_eq_eq_not, Bool.not_true, Bool.not_false, Bool.not_eq_true', Bool.not_eq_false', Int.not_lt, Int.not_le, Bool.or_eq_true, Bool.and_eq_true] at h6
      refine c_seq (c_region (o_assign rfl rfl (l_nil (q_then (c_ret ?_)))))
      refine q_block_ret ?_
      refine q_pass_ret (q_pass_ret ?_)
      refine q_block_ret ?_
      refine q_pass_ret ?_
      exact f_ret (r_one rfl rfl) (⟨false, L72, rfl, .inr ⟨rfl, or_no hbb72 (by assumption)⟩, rfl⟩) (fun w S => nodeMk q hq S)
     · -- h6F
      have h6b := h6
      try simp only [decide_eq_true_eq, decide_eq_false_iff_not, Bool.not_eq_eq_eq_not, Bool.not_true, Bool.not_false, Bool.not_eq_true', Bool.not_eq_false', Int.not_lt, Int.not_le, Bool.or_eq_true, Bool.and_eq_true] at h6
      refine c_skip (q_block (q_then (c_region (o_move rfl rfl ?_))))
      refine o_bin rfl rfl rfl (b_add (wrap_i64 (by omega) (by omega))) ?_
      refine o_assign rfl rfl (l_nil ?_)
      exact q_round (i + 1, none, none, (pre2 ++ [x61]), L72) (by exact ⟨by omega, .inl ⟨rfl, rfl⟩, or_yes hbb72 (by assumption), by rw [← hpre9, rest_item (key := ItA.f_key) (lt := strlt) hor hx61', List.append_assoc]; rfl⟩) (by (try dsimp only); omega) ⟨vr, vr, vr, vr, trivial⟩ (fun w S => S)
    · -- hs9 False
     refine c_held [blk b (.cells #[.slice q.a (q.items).length q.c, .slice q.ak ((q.kids.map Prod.fst)).length q.ck] 103 (0, 0)), row e_ItA.T e_ItA.sz q.a (q.items).length q.c (flat e_ItA q.items), row eN99.T eN99.sz q.ak ((q.kids.map Prod.fst)).length q.ck (flat eN99 (q.kids.map Prod.fst)), kidsR e_ItA eN99 103 d q.kids] (by kernel_rfl) rfl ?_
     refine h_take 0 rfl rfl (by kernel_rfl) (by kernel_rfl) (by kernel_rfl) (fun L0 => v_move rfl rfl) ?_
     refine h_take 1 rfl rfl (by kernel_rfl) (by kernel_rfl) (by kernel_rfl) (fun L0 => v_move rfl rfl) ?_
     refine h_take 2 rfl rfl (by kernel_rfl) (by kernel_rfl) (by kernel_rfl) (fun L0 => v_nil rfl rfl) ?_
     refine h_take 3 rfl rfl (by kernel_rfl) (by kernel_rfl) (by kernel_rfl) (fun L0 => v_fieldAddr (q := ⟨b, 0, none⟩) rfl rfl Try.underlying103 rfl ti100 rfl) ?_
     refine h_take 4 rfl rfl (by kernel_rfl) (by kernel_rfl) (by kernel_rfl) (fun L0 => v_load1 rfl rfl Try.underlying100 rfl (rd_mem 0 rfl rfl)) ?_
     refine h_take 5 rfl rfl (by kernel_rfl) (by kernel_rfl) (by kernel_rfl) (fun L0 => v_len rfl rfl Try.underlying100) ?_
     refine h_take 6 rfl rfl (by kernel_rfl) (by kernel_rfl) (by kernel_rfl) (fun L0 => v_bin rfl rfl rfl b_lss) ?_
     refine h_eq (t := 53) (v' := .bool false) rfl (show _ = Value.bool false from by rw [decide_eq_false (by omega)]) ?_
     refine h_take 7 rfl rfl (by kernel_rfl) (by kernel_rfl) (by kernel_rfl) (fun L0 => v_move rfl rfl) ?_
     refine h_take_no 8 rfl rfl rfl rfl rfl (by kernel_rfl) (by kernel_rfl) (by kernel_rfl) ?_
     refine h_take_no 9 rfl rfl rfl rfl rfl (by kernel_rfl) (by kernel_rfl) (by kernel_rfl) ?_
     refine h_take_no 10 rfl rfl rfl rfl rfl (by kernel_rfl) (by kernel_rfl) (by kernel_rfl) ?_
     refine h_take_no 11 rfl rfl rfl rfl rfl (by kernel_rfl) (by kernel_rfl) (by kernel_rfl) ?_
     refine h_take_no 12 rfl rfl rfl rfl rfl (by kernel_rfl) (by kernel_rfl) (by kernel_rfl) ?_
     refine h_take_no 13 rfl rfl rfl rfl rfl (by kernel_rfl) (by kernel_rfl) (by kernel_rfl) ?_
     refine h_take_no 14 rfl rfl rfl rfl rfl (by kernel_rfl) (by kernel_rfl) (by kernel_rfl) ?_
     refine h_take_no 15 rfl rfl rfl rfl rfl (by kernel_rfl) (by kernel_rfl) (by kernel_rfl) ?_
     refine h_take_no 16 rfl rfl rfl rfl rfl (by kernel_rfl) (by kernel_rfl) (by kernel_rfl) ?_
     refine h_take_no 17 rfl rfl rfl rfl rfl (by kernel_rfl) (by kernel_rfl) (by kernel_rfl) ?_
     refine h_take_no 18 rfl rfl rfl rfl rfl (by kernel_rfl) (by kernel_rfl) (by kernel_rfl) ?_
     refine h_take_no 19 rfl rfl rfl rfl rfl (by kernel_rfl) (by kernel_rfl) (by kernel_rfl) ?_
     refine h_take_no 20 rfl rfl rfl rfl rfl (by kernel_rfl) (by kernel_rfl) (by kernel_rfl) ?_
     refine h_take_no 21 rfl rfl rfl rfl rfl (by kernel_rfl) (by kernel_rfl) (by kernel_rfl) ?_
     refine h_take_no 22 rfl rfl rfl rfl rfl (by kernel_rfl) (by kernel_rfl) (by kernel_rfl) ?_
     refine h_take_no 23 rfl rfl rfl rfl rfl (by kernel_rfl) (by kernel_rfl) (by kernel_rfl) ?_
     refine h_take_no 24 rfl rfl rfl rfl rfl (by kernel_rfl) (by kernel_rfl) (by kernel_rfl) ?_
     refine h_take_no 25 rfl rfl rfl rfl rfl (by kernel_rfl) (by kernel_rfl) (by kernel_rfl) ?_
     refine h_take_no 26 rfl rfl rfl rfl rfl (by kernel_rfl) (by kernel_rfl) (by kernel_rfl) ?_
     refine h_take 27 rfl rfl (by kernel_rfl) (by kernel_rfl) (by kernel_rfl) (fun L0 => v_pick_false rfl rfl rfl) ?_
     refine h_done (by kernel_rfl) ?_
     refine q_then (c_false rfl (c_skip (q_block (q_then (c_region (o_move rfl rfl ?_))))))
     refine o_bin rfl rfl rfl (b_add (wrap_i64 (by omega) (by omega))) ?_
     refine o_assign rfl rfl (l_nil ?_)
     exact q_round (i + 1, none, none, pre2, Lc) (by exact ⟨by omega, .inl ⟨rfl, rfl⟩, hI9, by rw [← hpre9, rest_end (key := ItA.f_key) (lt := strlt) hor (by omega)]⟩) (by (try dsimp only); omega) ⟨vr, vr, vr, vr, trivial⟩ (fun w S => S)
  · -- h2F
   have h2b := h2
   try simp only [decide_eq_false_iff_not, Int.not_lt, Int.not_le] at h2
   refine c_exit (q_pass_exit (q_pass_exit (q_hit (q_then (c_seq (c_region (o_assign rfl rfl (l_nil (q_then ?_)))))))))
   refine c_ret ?_
   exact f_ret (r_one rfl rfl) (⟨true, Lc, rfl, .inl ⟨rfl, by rw [← hpre, rest_over hor (by omega), List.append_nil]; exact hI⟩, rfl⟩) (fun w S => nodeMk q hq S)
 · -- h1F
  have h1b := h1
  try simp only [decide_eq_true_eq, decide_eq_false_iff_not, Bool.not_eq_eq_eq_not, Bool.not_true, Bool.not_false, Bool.not_eq_true', Bool.not_eq_false', Int.not_lt, Int.not_le, Bool.or_eq_true, Bool.and_eq_true] at h1
  obtain rfl : fp = none := by cases fp with | none => rfl | some z => simp at h1b
  have hfn := hfr.none rfl
  refine c_skip (q_then (c_seq (c_block ?_)))
  refine c_loop (α := Nat × (Option ByteArray) × (Option Addr) × (List ItA) × (List Res)) (fun z => [(0, .pointer (some ⟨b, 0, none⟩)), (1, .pointer z.2.2.1), (2, y), (7, .int .i64 (z.1 : Int))]) (fun z => blk b (.cells #[.slice q.a (q.items).length q.c, .slice q.ak ((q.kids.map Prod.fst)).length q.ck] 103 (0, 0)) :: row e_ItA.T e_ItA.sz q.a (q.items).length q.c (flat e_ItA q.items) :: row eN99.T eN99.sz q.ak ((q.kids.map Prod.fst)).length q.ck (flat eN99 (q.kids.map Prod.fst)) :: kidsR e_ItA eN99 103 d q.kids :: (G ++ z.2.2.2.2)) (fun z => z.1 ≤ q.items.length + 1 ∧ FromOk (fun k : ByteArray => Value.string k) 9 G z.2.1 z.2.2.1 ∧ I z.2.2.2.1 z.2.2.2.2 ∧ z.2.2.2.1 ++ restW ItA.f_key strlt (q.kids.map Prod.snd) q.items z.1 z.2.1 = pre ++ sel ItA.f_key strlt fr xs) (fun z => q.items.length + 1 - z.1) (0, none, none, pre, L0) (by exact ⟨Nat.zero_le _, .inl ⟨rfl, rfl⟩, hI0, by rw [hfn, hxs, rest_0]; rfl⟩) ⟨vr, vr, vr, vr, trivial⟩ (fun w S => S) ?_
  rintro ⟨i, fo, fp2, pre2, Lc⟩ ⟨hi, hfo, hI, hpre⟩
  try dsimp only at *
  refine c_seq (c_seq (c_region (o_move rfl rfl (o_move rfl rfl (o_nil rfl rfl ?_)))))
  refine o_fieldAddr (q := ⟨b, 0, none⟩) rfl rfl Try.underlying103 rfl ti100 rfl ?_
  refine o_load1 rfl rfl Try.underlying100 rfl (rd_mem 0 rfl rfl) ?_
  refine o_len rfl rfl Try.underlying100 ?_
  refine o_bin rfl rfl rfl b_leq ?_
  refine l_nil (q_then ?_)
  refine c_cond rfl (fun h7 => ?_) (fun h7 => ?_)
  · -- h7T
   have h7b := h7
   try simp only [decide_eq_true_eq] at h7
   refine c_skip (q_then (c_seq (c_block (c_seq (c_seq (c_region (o_move rfl rfl (o_move rfl rfl (o_nil rfl rfl ?_)))))))))
   refine o_fieldAddr (q := ⟨b, 1, none⟩) rfl rfl Try.underlying103 rfl ti101 rfl ?_
   refine o_load1 rfl rfl Try.underlying101 rfl (rd_mem 0 rfl rfl) ?_
   refine o_len rfl rfl Try.underlying101 ?_
   refine o_bin rfl rfl rfl b_lss ?_
   refine o_move rfl rfl ?_
   refine l_split (t := 34) rfl (fun h8 => ?_) (fun h8 => ?_)
   · -- h8T
    have h8b := h8
    try simp only [decide_eq_true_eq] at h8
    refine o_yes rfl rfl rfl (o_move rfl rfl (o_yes rfl rfl rfl (o_nil rfl rfl (o_yes rfl rfl rfl ?_))))
    refine o_fieldAddr (q := ⟨b, 1, none⟩) rfl rfl Try.underlying103 rfl ti101 rfl ?_
    refine o_yes rfl rfl rfl ?_
    refine o_load1 rfl rfl Try.underlying101 rfl (rd_mem 0 rfl rfl) ?_
    refine o_yes rfl rfl rfl (o_move rfl rfl (o_yes rfl rfl rfl ?_))
    refine o_index eN99_ok rfl rfl rfl Try.underlying101 (by omega) (by omega) (rds_own eN99_ok 2 rfl) fun ad40 ead40 => ?_
    obtain ⟨x40, hx40⟩ : ∃ x, ((q.kids.map Prod.fst))[((i : Int)).toNat]? = some x := ⟨_, List.getElem?_eq_getElem (by omega)⟩
    refine o_yes rfl rfl rfl ?_
    refine o_load1 rfl rfl Try.underlying99 rfl (rd_sl0 eN99_ok ead40 (rds_own eN99_ok 2 rfl) hx40 rfl) ?_
    obtain ⟨⟨kb2, ys⟩, hkid⟩ : ∃ z, q.kids[i]? = some z := ⟨_, List.getElem?_eq_getElem (by omega)⟩
    have hxk : x40 = kb2 := by have h9 := hx40; rw [show ((i : Int)).toNat = i from rfl, List.getElem?_map, hkid] at h9; exact (Option.some.inj h9).symm
    have hd0 : d ≠ 0 := by rcases hsh with ⟨_, h9⟩ | ⟨h9, _, _⟩; exact absurd (List.getElem?_eq_some_iff.1 hkid).1 (by rw [h9]; simp); exact h9
    obtain ⟨d', hd'⟩ : ∃ d', d = d' + 1 := ⟨d - 1, by omega⟩
    have hsy : Srt ItA.f_key strlt ys := by have h9 := srt; rw [hxs] at h9; exact srt_kid hor (show (q.kids.map Prod.snd)[i]? = some ys by rw [List.getElem?_map, hkid]; rfl) h9
    have hat : atK (q.kids.map Prod.snd) i = ys := by unfold atK; rw [List.getElem?_map, hkid]; rfl
    refine l_f3 ?_
    refine l_conv (L' := nodeR e_ItA eN99 103 d' 2 kb2 ys :: kidsR e_ItA eN99 103 d (q.kids.eraseIdx i) :: _) (fun w S => by have h9 := Sat.kid_take hkid S; rw [hd'] at h9 ⊢; exact h9) ?_
    refine l_eq (t := 41) (v' := .pointer (some ⟨kb2, 0, none⟩)) rfl (by rw [hxk]) ?_
    refine o_yes rfl rfl rfl (o_move rfl rfl (o_yes rfl rfl rfl (o_move rfl rfl (o_yes rfl rfl rfl ?_))))
    refine o_call rfl cal59 rfl (ih d' hd' (G := [kidsR e_ItA eN99 103 d (q.kids.eraseIdx i), blk b (.cells #[.slice q.a (q.items).length q.c, .slice q.ak ((q.kids.map Prod.fst)).length q.ck] 103 (0, 0)), row e_ItA.T e_ItA.sz q.a (q.items).length q.c (flat e_ItA q.items), row eN99.T eN99.sz q.ak ((q.kids.map Prod.fst)).length q.ck (flat eN99 (q.kids.map Prod.fst))] ++ G) (L0 := Lc) (pre := pre2) (full := full) hsy (hfo.more _) hI (by rw [← hat]; exact (List.IsPrefix.trans (by rw [← hpre]; unfold restW; rw [← List.append_assoc]; exact List.prefix_append _ _) hfull)) hy) ?_
    rintro _ _ ⟨bb44, L44, rfl, hbb44, rfl⟩
    refine l_conv (L' := nodeR e_ItA eN99 103 d' 2 kb2 ys :: kidsR e_ItA eN99 103 d (q.kids.eraseIdx i) :: blk b (.cells #[.slice q.a (q.items).length q.c, .slice q.ak ((q.kids.map Prod.fst)).length q.ck] 103 (0, 0)) :: row e_ItA.T e_ItA.sz q.a (q.items).length q.c (flat e_ItA q.items) :: row eN99.T eN99.sz q.ak ((q.kids.map Prod.fst)).length q.ck (flat eN99 (q.kids.map Prod.fst)) :: (G ++ L44)) (fun w S => S) ?_
    refine l_conv (L' := kidsR e_ItA eN99 103 d q.kids :: _) (fun w S => Sat.kid_back hkid (by rw [hd'] at S ⊢; exact S)) ?_
    refine o_yes rfl rfl rfl ?_
    refine o_not rfl rfl ?_
    refine o_pick_true rfl rfl rfl (l_nil (q_then ?_))
    refine c_cond rfl (fun h9 => ?_) (fun h9 => ?_)
    · -- h9T
     have h9b := h9
     try simp only [decide_eq_true_eq, decide_eq_false_iff_not, Bool.not_eq_eq_eq_not, Bool.not_true, Bool.not_false, Bool.not_eq_true', Bool.not_eq_false', Int.not_lt, Int.not_le, Bool.or_eq_true, Bool.and_eq_true] at h9
     refine c_seq (c_region (o_assign rfl rfl (l_nil (q_then (c_ret (q_pass_ret ?_))))))
     refine q_block_ret ?_
     refine q_pass_ret (q_pass_ret ?_)
     refine q_block_ret ?_
     refine q_pass_ret (qP p3 (qP p3 (qP p3 ?_)))
     exact f_ret (r_one rfl rfl) (⟨false, L44, rfl, .inr ⟨rfl, or_no hbb44 (by assumption)⟩, rfl⟩) (fun w S => nodeMk q hq S)
    · -- h9F
     have h9b := h9
     try simp only [decide_eq_true_eq, decide_eq_false_iff_not, Bool.not_eq_eq_eq_not, Bool.not_true, Bool.not_false, Bool.not_eq_true', Bool.not_eq_false', Int.not_lt, Int.not_le, Bool.or_eq_true, Bool.and_eq_true] at h9
     refine c_skip (q_then (c_seq ?_))
     have hI9 : I (pre2 ++ sel ItA.f_key strlt fo ys) L44 := or_yes hbb44 (by assumption)
     have hpre9 : (pre2 ++ sel ItA.f_key strlt fo ys) ++ post (q.items.drop i) ((q.kids.map Prod.snd).drop (i + 1)) = pre ++ sel ItA.f_key strlt fr xs := by rw [← hpre]; unfold restW; rw [hat, List.append_assoc]
     refine c_region (o_assign rfl rfl (l_nil (q_then (c_seq ?_))))
     refine (Classical.em (i < q.items.length)).elim (fun hs9 => ?_) (fun hs9 => ?_)
     · -- hs9 True
      refine c_fact (p := ∃ ad, q.a = some ad) (rds_some (e := e_ItA) (xs := q.items) (rds_own e_ItA_ok 2 rfl) (by intro h0; have h00 := congrArg List.length h0; simp only [List.length_nil] at h00; omega)) ?_
      rintro ⟨ad9, ead9⟩
      refine c_held [kidsR e_ItA eN99 103 d q.kids, blk b (.cells #[.slice q.a (q.items).length q.c, .slice q.ak ((q.kids.map Prod.fst)).length q.ck] 103 (0, 0)), row e_ItA.T e_ItA.sz q.a (q.items).length q.c (flat e_ItA q.items), row eN99.T eN99.sz q.ak ((q.kids.map Prod.fst)).length q.ck (flat eN99 (q.kids.map Prod.fst))] (by kernel_rfl) rfl ?_
      refine h_take 0 rfl rfl (by kernel_rfl) (by kernel_rfl) (by kernel_rfl) (fun L0 => v_move rfl rfl) ?_
      refine h_take 1 rfl rfl (by kernel_rfl) (by kernel_rfl) (by kernel_rfl) (fun L0 => v_move rfl rfl) ?_
      refine h_take 2 rfl rfl (by kernel_rfl) (by kernel_rfl) (by kernel_rfl) (fun L0 => v_nil rfl rfl) ?_
      refine h_take 3 rfl rfl (by kernel_rfl) (by kernel_rfl) (by kernel_rfl) (fun L0 => v_fieldAddr (q := ⟨b, 0, none⟩) rfl rfl Try.underlying103 rfl ti100 rfl) ?_
      refine h_take 4 rfl rfl (by kernel_rfl) (by kernel_rfl) (by kernel_rfl) (fun L0 => v_load1 rfl rfl Try.underlying100 rfl (rd_mem 1 rfl rfl)) ?_
      refine h_take 5 rfl rfl (by kernel_rfl) (by kernel_rfl) (by kernel_rfl) (fun L0 => v_len rfl rfl Try.underlying100) ?_
      refine h_take 6 rfl rfl (by kernel_rfl) (by kernel_rfl) (by kernel_rfl) (fun L0 => v_bin rfl rfl rfl b_lss) ?_
      refine h_eq (t := 53) (v' := .bool true) rfl (show _ = Value.bool true from by rw [decide_eq_true (by omega)]) ?_
      refine h_take 7 rfl rfl (by kernel_rfl) (by kernel_rfl) (by kernel_rfl) (fun L0 => v_move rfl rfl) ?_
      refine h_take_yes 8 rfl rfl rfl rfl rfl (by kernel_rfl) (by kernel_rfl) (by kernel_rfl) (fun L0 => v_move rfl rfl) ?_
      refine h_take_yes 9 rfl rfl rfl rfl rfl (by kernel_rfl) (by kernel_rfl) (by kernel_rfl) (fun L0 => v_move rfl rfl) ?_
      refine h_take_yes 10 rfl rfl rfl rfl rfl (by kernel_rfl) (by kernel_rfl) (by kernel_rfl) (fun L0 => v_nil rfl rfl) ?_
      refine h_take_yes 11 rfl rfl rfl rfl rfl (by kernel_rfl) (by kernel_rfl) (by kernel_rfl) (fun L0 => v_fieldAddr (q := ⟨b, 0, none⟩) rfl rfl Try.underlying103 rfl ti100 rfl) ?_
      refine h_take_yes 12 rfl rfl rfl rfl rfl (by kernel_rfl) (by kernel_rfl) (by kernel_rfl) (fun L0 => v_load1 rfl rfl Try.underlying100 rfl (rd_mem 1 rfl rfl)) ?_
      refine h_take_yes 13 rfl rfl rfl rfl rfl (by kernel_rfl) (by kernel_rfl) (by kernel_rfl) (fun L0 => v_move rfl rfl) ?_
      refine h_take_yes 14 rfl rfl rfl rfl rfl (by kernel_rfl) (by kernel_rfl) (by kernel_rfl) (fun L0 => v_indexK e_ItA_ok ead9 rfl rfl rfl Try.underlying100 (by omega) (by omega)) ?_
      obtain ⟨x61, hx61⟩ : ∃ x, (q.items)[((i : Int)).toNat]? = some x := ⟨_, List.getElem?_eq_getElem (by omega)⟩
      have hx61' : q.items[i]? = some x61 := hx61
      refine h_take_yes 15 rfl rfl rfl rfl rfl (by kernel_rfl) (by kernel_rfl) (by kernel_rfl) (fun L0 => v_fieldAddr rfl rfl Try.underlying110 rfl ti9 (Addr.add_add' _ _ _)) ?_
      refine h_take_yes 16 rfl rfl rfl rfl rfl (by kernel_rfl) (by kernel_rfl) (by kernel_rfl) (fun L0 => v_load1 rfl rfl Try.underlying9 rfl (rd_sl e_ItA_ok ead9 (rds_own e_ItA_ok 2 rfl) hx61 rfl)) ?_
      refine h_take_yes 17 rfl rfl rfl rfl rfl (by kernel_rfl) (by kernel_rfl) (by kernel_rfl) (fun L0 => v_move rfl rfl) ?_
      refine h_take_yes 18 rfl rfl rfl rfl rfl (by kernel_rfl) (by kernel_rfl) (by kernel_rfl) (fun L0 => v_nil rfl rfl) ?_
      refine h_take_yes 19 rfl rfl rfl rfl rfl (by kernel_rfl) (by kernel_rfl) (by kernel_rfl) (fun L0 => v_fieldAddr (q := ⟨b, 0, none⟩) rfl rfl Try.underlying103 rfl ti100 rfl) ?_
      refine h_take_yes 20 rfl rfl rfl rfl rfl (by kernel_rfl) (by kernel_rfl) (by kernel_rfl) (fun L0 => v_load1 rfl rfl Try.underlying100 rfl (rd_mem 1 rfl rfl)) ?_
      refine h_take_yes 21 rfl rfl rfl rfl rfl (by kernel_rfl) (by kernel_rfl) (by kernel_rfl) (fun L0 => v_move rfl rfl) ?_
      refine h_take_yes 22 rfl rfl rfl rfl rfl (by kernel_rfl) (by kernel_rfl) (by kernel_rfl) (fun L0 => v_indexK e_ItA_ok ead9 rfl rfl rfl Try.underlying100 (by omega) (by omega)) ?_
      obtain ⟨x69, hx69⟩ : ∃ x, (q.items)[((i : Int)).toNat]? = some x := ⟨_, List.getElem?_eq_getElem (by omega)⟩
      have e69 : x69 = x61 := by rw [hx61] at hx69; exact (Option.some.inj hx69).symm
      refine h_take_yes 23 rfl rfl rfl rfl rfl (by kernel_rfl) (by kernel_rfl) (by kernel_rfl) (fun L0 => v_fieldAddr rfl rfl Try.underlying110 rfl ti36 (Addr.add_add' _ _ _)) ?_
      refine h_take_yes 24 rfl rfl rfl rfl rfl (by kernel_rfl) (by kernel_rfl) (by kernel_rfl) (fun L0 => v_loadn (vs := [.bool x69.f_value.f_Has, .slice x69.f_value.f_Value.a (x69.f_value.f_Value.xs).length x69.f_value.f_Value.c, .int .i64 x69.f_value.f_Home, .int .u64 x69.f_value.f_Count]) rfl rfl Try.underlying36 rfl ti36 (rdn_slo (n := 4) e_ItA_ok ead9 (rds_own e_ItA_ok 2 rfl) hx69 rfl)) ?_
      refine h_eq (t := 71) (v' := .agg #[.bool x61.f_value.f_Has, .slice x61.f_value.f_Value.a (x61.f_value.f_Value.xs).length x61.f_value.f_Value.c, .int .i64 x61.f_value.f_Home, .int .u64 x61.f_value.f_Count]) rfl (by rw [e69]) ?_
      refine h_one 25 rfl (by kernel_rfl) ?_
      refine o_yes rfl rfl rfl ?_
      refine l_conv (L' := ([kidsR e_ItA eN99 103 d q.kids, blk b (.cells #[.slice q.a (q.items).length q.c, .slice q.ak ((q.kids.map Prod.fst)).length q.ck] 103 (0, 0)), row e_ItA.T e_ItA.sz q.a (q.items).length q.c (flat e_ItA q.items), row eN99.T eN99.sz q.ak ((q.kids.map Prod.fst)).length q.ck (flat eN99 (q.kids.map Prod.fst))] ++ G) ++ L44) (fun w S => S) ?_
      refine o_callV rfl rfl rfl (hy ([kidsR e_ItA eN99 103 d q.kids, blk b (.cells #[.slice q.a (q.items).length q.c, .slice q.ak ((q.kids.map Prod.fst)).length q.ck] 103 (0, 0)), row e_ItA.T e_ItA.sz q.a (q.items).length q.c (flat e_ItA q.items), row eN99.T eN99.sz q.ak ((q.kids.map Prod.fst)).length q.ck (flat eN99 (q.kids.map Prod.fst))] ++ G) (pre2 ++ sel ItA.f_key strlt fo ys) x61 L44 hI9 (List.IsPrefix.trans (by rw [← hpre9]; rw [rest_item (key := ItA.f_key) (lt := strlt) hor hx61']; exact prefix_snoc) hfull)) ?_
      rintro _ _ ⟨bb72, L72, rfl, hbb72, rfl⟩
      refine l_conv (L' := kidsR e_ItA eN99 103 d q.kids :: blk b (.cells #[.slice q.a (q.items).length q.c, .slice q.ak ((q.kids.map Prod.fst)).length q.ck] 103 (0, 0)) :: row e_ItA.T e_ItA.sz q.a (q.items).length q.c (flat e_ItA q.items) :: row eN99.T eN99.sz q.ak ((q.kids.map Prod.fst)).length q.ck (flat eN99 (q.kids.map Prod.fst)) :: (G ++ L72)) (fun w S => S) ?_
      refine l_nil (h_next ?_)
      refine h_take_yes 26 rfl rfl rfl rfl rfl (by kernel_rfl) (by kernel_rfl) (by kernel_rfl) (fun L0 => v_not rfl rfl) ?_
      refine h_take 27 rfl rfl (by kernel_rfl) (by kernel_rfl) (by kernel_rfl) (fun L0 => v_pick_true rfl rfl rfl) ?_
      refine h_done (by kernel_rfl) ?_
      refine q_then ?_
      refine c_cond rfl (fun h10 => ?_) (fun h10 => ?_)
      · -- h10T
       have h10b := h10
       try simp only [decide_eq_true_eq, decide_eq_false_iff_not, Bool.not_eq_eq_eq_not, Bool.not_true, Bool.not_false, Bool.not_eq_true', Bool.not_eq_false', Int.not_lt, Int.not_le, Bool.or_eq_true, Bool.and_eq_true] at h10
       refine c_seq (c_region (o_assign rfl rfl (l_nil (q_then (c_ret ?_)))))
       refine q_block_ret ?_
       refine q_pass_ret (q_pass_ret ?_)
       refine q_block_ret ?_
       refine q_pass_ret (qP p3 (qP p3 (qP p3 ?_)))
       exact f_ret (r_one rfl rfl) (⟨false, L72, rfl, .inr ⟨rfl, or_no hbb72 (by assumption)⟩, rfl⟩) (fun w S => nodeMk q hq S)
      · -- h10F
       have h10b := h10
       try simp only [decide_eq_true_eq, decide_eq_false_iff_not, Bool.not_eq_eq_eq_not, Bool.not_true, Bool.not_false, Bool.not_eq_true', Bool.not_eq_false', Int.not_lt, Int.not_le, Bool.or_eq_true, Bool.and_eq_true] at h10
       refine c_skip (q_block (q_then (c_region (o_move rfl rfl ?_))))
       refine o_bin rfl rfl rfl (b_add (wrap_i64 (by omega) (by omega))) ?_
       refine o_assign rfl rfl (l_nil (qP p3 (qP p3 (qP p3 ?_))))
       exact q_round (i + 1, none, none, ((pre2 ++ sel ItA.f_key strlt fo ys) ++ [x61]), L72) (by exact ⟨by omega, .inl ⟨rfl, rfl⟩, or_yes hbb72 (by assumption), by rw [← hpre9, rest_item (key := ItA.f_key) (lt := strlt) hor hx61', List.append_assoc]; rfl⟩) (by (try dsimp only); omega) ⟨vr, vr, vr, vr, trivial⟩ (fun w S => S)
     · -- hs9 False
      refine c_held [kidsR e_ItA eN99 103 d q.kids, blk b (.cells #[.slice q.a (q.items).length q.c, .slice q.ak ((q.kids.map Prod.fst)).length q.ck] 103 (0, 0)), row e_ItA.T e_ItA.sz q.a (q.items).length q.c (flat e_ItA q.items), row eN99.T eN99.sz q.ak ((q.kids.map Prod.fst)).length q.ck (flat eN99 (q.kids.map Prod.fst))] (by kernel_rfl) rfl ?_
      refine h_take 0 rfl rfl (by kernel_rfl) (by kernel_rfl) (by kernel_rfl) (fun L0 => v_move rfl rfl) ?_
      refine h_take 1 rfl rfl (by kernel_rfl) (by kernel_rfl) (by kernel_rfl) (fun L0 => v_move rfl rfl) ?_
      refine h_take 2 rfl rfl (by kernel_rfl) (by kernel_rfl) (by kernel_rfl) (fun L0 => v_nil rfl rfl) ?_
      refine h_take 3 rfl rfl (by kernel_rfl) (by kernel_rfl) (by kernel_rfl) (fun L0 => v_fieldAddr (q := ⟨b, 0, none⟩) rfl rfl Try.underlying103 rfl ti100 rfl) ?_
      refine h_take 4 rfl rfl (by kernel_rfl) (by kernel_rfl) (by kernel_rfl) (fun L0 => v_load1 rfl rfl Try.underlying100 rfl (rd_mem 1 rfl rfl)) ?_
      refine h_take 5 rfl rfl (by kernel_rfl) (by kernel_rfl) (by kernel_rfl) (fun L0 => v_len rfl rfl Try.underlying100) ?_
      refine h_take 6 rfl rfl (by kernel_rfl) (by kernel_rfl) (by kernel_rfl) (fun L0 => v_bin rfl rfl rfl b_lss) ?_
      refine h_eq (t := 53) (v' := .bool false) rfl (show _ = Value.bool false from by rw [decide_eq_false (by omega)]) ?_
      refine h_take 7 rfl rfl (by kernel_rfl) (by kernel_rfl) (by kernel_rfl) (fun L0 => v_move rfl rfl) ?_
      refine h_take_no 8 rfl rfl rfl rfl rfl (by kernel_rfl) (by kernel_rfl) (by kernel_rfl) ?_
      refine h_take_no 9 rfl rfl rfl rfl rfl (by kernel_rfl) (by kernel_rfl) (by kernel_rfl) ?_
      refine h_take_no 10 rfl rfl rfl rfl rfl (by kernel_rfl) (by kernel_rfl) (by kernel_rfl) ?_
      refine h_take_no 11 rfl rfl rfl rfl rfl (by kernel_rfl) (by kernel_rfl) (by kernel_rfl) ?_
      refine h_take_no 12 rfl rfl rfl rfl rfl (by kernel_rfl) (by kernel_rfl) (by kernel_rfl) ?_
      refine h_take_no 13 rfl rfl rfl rfl rfl (by kernel_rfl) (by kernel_rfl) (by kernel_rfl) ?_
      refine h_take_no 14 rfl rfl rfl rfl rfl (by kernel_rfl) (by kernel_rfl) (by kernel_rfl) ?_
      refine h_take_no 15 rfl rfl rfl rfl rfl (by kernel_rfl) (by kernel_rfl) (by kernel_rfl) ?_
      refine h_take_no 16 rfl rfl rfl rfl rfl (by kernel_rfl) (by kernel_rfl) (by kernel_rfl) ?_
      refine h_take_no 17 rfl rfl rfl rfl rfl (by kernel_rfl) (by kernel_rfl) (by kernel_rfl) ?_
      refine h_take_no 18 rfl rfl rfl rfl rfl (by kernel_rfl) (by kernel_rfl) (by kernel_rfl) ?_
      refine h_take_no 19 rfl rfl rfl rfl rfl (by kernel_rfl) (by kernel_rfl) (by kernel_rfl) ?_
      refine h_take_no 20 rfl rfl rfl rfl rfl (by kernel_rfl) (by kernel_rfl) (by kernel_rfl) ?_
      refine h_take_no 21 rfl rfl rfl rfl rfl (by kernel_rfl) (by kernel_rfl) (by kernel_rfl) ?_
      refine h_take_no 22 rfl rfl rfl rfl rfl (by kernel_rfl) (by kernel_rfl) (by kernel_rfl) ?_
      refine h_take_no 23 rfl rfl rfl rfl rfl (by kernel_rfl) (by kernel_rfl) (by kernel_rfl) ?_
      refine h_take_no 24 rfl rfl rfl rfl rfl (by kernel_rfl) (by kernel_rfl) (by kernel_rfl) ?_
      refine h_take_no 25 rfl rfl rfl rfl rfl (by kernel_rfl) (by kernel_rfl) (by kernel_rfl) ?_
      refine h_take_no 26 rfl rfl rfl rfl rfl (by kernel_rfl) (by kernel_rfl) (by kernel_rfl) ?_
      refine h_take 27 rfl rfl (by kernel_rfl) (by kernel_rfl) (by kernel_rfl) (fun L0 => v_pick_false rfl rfl rfl) ?_
      refine h_done (by kernel_rfl) ?_
      refine q_then (c_false rfl (c_skip (q_block (q_then (c_region (o_move rfl rfl ?_))))))
      refine o_bin rfl rfl rfl (b_add (wrap_i64 (by omega) (by omega))) ?_
      refine o_assign rfl rfl (l_nil (qP p3 (qP p3 (qP p3 ?_))))
      exact q_round (i + 1, none, none, (pre2 ++ sel ItA.f_key strlt fo ys), L44) (by exact ⟨by omega, .inl ⟨rfl, rfl⟩, hI9, by rw [← hpre9, rest_end (key := ItA.f_key) (lt := strlt) hor (by omega)]⟩) (by (try dsimp only); omega) ⟨vr, vr, vr, vr, trivial⟩ (fun w S => S)
   · -- h8F
    have h8b := h8
    try simp only [decide_eq_false_iff_not, Int.not_lt, Int.not_le] at h8
    refine o_no rfl rfl rfl rfl (o_no rfl rfl rfl rfl (o_no rfl rfl rfl rfl (o_no rfl rfl rfl rfl (o_no rfl rfl rfl rfl (o_no rfl rfl rfl rfl (o_no rfl rfl rfl rfl (o_no rfl rfl rfl rfl (o_no rfl rfl rfl rfl (o_no rfl rfl rfl rfl ?_)))))))))
    refine o_no rfl rfl rfl rfl (o_pick_false rfl rfl rfl (l_nil (q_then (c_false rfl (c_skip (q_then (c_seq ?_)))))))
    have hat : atK (q.kids.map Prod.snd) i = [] := by unfold atK; rw [List.getElem?_eq_none (by rw [List.length_map]; omega)]; rfl
    have hI9 := hI
    have hpre9 : pre2 ++ post (q.items.drop i) ((q.kids.map Prod.snd).drop (i + 1)) = pre ++ sel ItA.f_key strlt fr xs := by rw [← hpre]; unfold restW; rw [hat, sel_nil, List.nil_append]
    refine c_region (o_assign rfl rfl (l_nil (q_then (c_seq ?_))))
    refine (Classical.em (i < q.items.length)).elim (fun hs9 => ?_) (fun hs9 => ?_)
    · -- hs9 True
     refine c_fact (p := ∃ ad, q.a = some ad) (rds_some (e := e_ItA) (xs := q.items) (rds_own e_ItA_ok 1 rfl) (by intro h0; have h00 := congrArg List.length h0; simp only [List.length_nil] at h00; omega)) ?_
     rintro ⟨ad9, ead9⟩
     refine c_held [blk b (.cells #[.slice q.a (q.items).length q.c, .slice q.ak ((q.kids.map Prod.fst)).length q.ck] 103 (0, 0)), row e_ItA.T e_ItA.sz q.a (q.items).length q.c (flat e_ItA q.items), row eN99.T eN99.sz q.ak ((q.kids.map Prod.fst)).length q.ck (flat eN99 (q.kids.map Prod.fst)), kidsR e_ItA eN99 103 d q.kids] (by kernel_rfl) rfl ?_
     refine h_take 0 rfl rfl (by kernel_rfl) (by kernel_rfl) (by kernel_rfl) (fun L0 => v_move rfl rfl) ?_
     refine h_take 1 rfl rfl (by kernel_rfl) (by kernel_rfl) (by kernel_rfl) (fun L0 => v_move rfl rfl) ?_
     refine h_take 2 rfl rfl (by kernel_rfl) (by kernel_rfl) (by kernel_rfl) (fun L0 => v_nil rfl rfl) ?_
     refine h_take 3 rfl rfl (by kernel_rfl) (by kernel_rfl) (by kernel_rfl) (fun L0 => v_fieldAddr (q := ⟨b, 0, none⟩) rfl rfl Try.underlying103 rfl ti100 rfl) ?_
     refine h_take 4 rfl rfl (by kernel_rfl) (by kernel_rfl) (by kernel_rfl) (fun L0 => v_load1 rfl rfl Try.underlying100 rfl (rd_mem 0 rfl rfl)) ?_
     refine h_take 5 rfl rfl (by kernel_rfl) (by kernel_rfl) (by kernel_rfl) (fun L0 => v_len rfl rfl Try.underlying100) ?_
     refine h_take 6 rfl rfl (by kernel_rfl) (by kernel_rfl) (by kernel_rfl) (fun L0 => v_bin rfl rfl rfl b_lss) ?_
     refine h_eq (t := 53) (v' := .bool true) rfl (show _ = Value.bool true from by rw [decide_eq_true (by omega)]) ?_
     refine h_take 7 rfl rfl (by kernel_rfl) (by kernel_rfl) (by kernel_rfl) (fun L0 => v_move rfl rfl) ?_
     refine h_take_yes 8 rfl rfl rfl rfl rfl (by kernel_rfl) (by kernel_rfl) (by kernel_rfl) (fun L0 => v_move rfl rfl) ?_
     refine h_take_yes 9 rfl rfl rfl rfl rfl (by kernel_rfl) (by kernel_rfl) (by kernel_rfl) (fun L0 => v_move rfl rfl) ?_
     refine h_take_yes 10 rfl rfl rfl rfl rfl (by kernel_rfl) (by kernel_rfl) (by kernel_rfl) (fun L0 => v_nil rfl rfl) ?_
     refine h_take_yes 11 rfl rfl rfl rfl rfl (by kernel_rfl) (by kernel_rfl) (by kernel_rfl) (fun L0 => v_fieldAddr (q := ⟨b, 0, none⟩) rfl rfl Try.underlying103 rfl ti100 rfl) ?_
     refine h_take_yes 12 rfl rfl rfl rfl rfl (by kernel_rfl) (by kernel_rfl) (by kernel_rfl) (fun L0 => v_load1 rfl rfl Try.underlying100 rfl (rd_mem 0 rfl rfl)) ?_
     refine h_take_yes 13 rfl rfl rfl rfl rfl (by kernel_rfl) (by kernel_rfl) (by kernel_rfl) (fun L0 => v_move rfl rfl) ?_
     refine h_take_yes 14 rfl rfl rfl rfl rfl (by kernel_rfl) (by kernel_rfl) (by kernel_rfl) (fun L0 => v_indexK e_ItA_ok ead9 rfl rfl rfl Try.underlying100 (by omega) (by omega)) ?_
     obtain ⟨x61, hx61⟩ : ∃ x, (q.items)[((i : Int)).toNat]? = some x := ⟨_, List.getElem?_eq_getElem (by omega)⟩
     have hx61' : q.items[i]? = some x61 := hx61
     refine h_take_yes 15 rfl rfl rfl rfl rfl (by kernel_rfl) (by kernel_rfl) (by kernel_rfl) (fun L0 => v_fieldAddr rfl rfl Try.underlying110 rfl ti9 (Addr.add_add' _ _ _)) ?_
     refine h_take_yes 16 rfl rfl rfl rfl rfl (by kernel_rfl) (by kernel_rfl) (by kernel_rfl) (fun L0 => v_load1 rfl rfl Try.underlying9 rfl (rd_sl e_ItA_ok ead9 (rds_own e_ItA_ok 1 rfl) hx61 rfl)) ?_
     refine h_take_yes 17 rfl rfl rfl rfl rfl (by kernel_rfl) (by kernel_rfl) (by kernel_rfl) (fun L0 => v_move rfl rfl) ?_
     refine h_take_yes 18 rfl rfl rfl rfl rfl (by kernel_rfl) (by kernel_rfl) (by kernel_rfl) (fun L0 => v_nil rfl rfl) ?_
     refine h_take_yes 19 rfl rfl rfl rfl rfl (by kernel_rfl) (by kernel_rfl) (by kernel_rfl) (fun L0 => v_fieldAddr (q := ⟨b, 0, none⟩) rfl rfl Try.underlying103 rfl ti100 rfl) ?_
     refine h_take_yes 20 rfl rfl rfl rfl rfl (by kernel_rfl) (by kernel_rfl) (by kernel_rfl) (fun L0 => v_load1 rfl rfl Try.underlying100 rfl (rd_mem 0 rfl rfl)) ?_
     refine h_take_yes 21 rfl rfl rfl rfl rfl (by kernel_rfl) (by kernel_rfl) (by kernel_rfl) (fun L0 => v_move rfl rfl) ?_
     refine h_take_yes 22 rfl rfl rfl rfl rfl (by kernel_rfl) (by kernel_rfl) (by kernel_rfl) (fun L0 => v_indexK e_ItA_ok ead9 rfl rfl rfl Try.underlying100 (by omega) (by omega)) ?_
     obtain ⟨x69, hx69⟩ : ∃ x, (q.items)[((i : Int)).toNat]? = some x := ⟨_, List.getElem?_eq_getElem (by omega)⟩
     have e69 : x69 = x61 := by rw [hx61] at hx69; exact (Option.some.inj hx69).symm
     refine h_take_yes 23 rfl rfl rfl rfl rfl (by kernel_rfl) (by kernel_rfl) (by kernel_rfl) (fun L0 => v_fieldAddr rfl rfl Try.underlying110 rfl ti36 (Addr.add_add' _ _ _)) ?_
     refine h_take_yes 24 rfl rfl rfl rfl rfl (by kernel_rfl) (by kernel_rfl) (by kernel_rfl) (fun L0 => v_loadn (vs := [.bool x69.f_value.f_Has, .slice x69.f_value.f_Value.a (x69.f_value.f_Value.xs).length x69.f_value.f_Value.c, .int .i64 x69.f_value.f_Home, .int .u64 x69.f_value.f_Count]) rfl rfl Try.underlying36 rfl ti36 (rdn_slo (n := 4) e_ItA_ok ead9 (rds_own e_ItA_ok 1 rfl) hx69 rfl)) ?_
     refine h_eq (t := 71) (v' := .agg #[.bool x61.f_value.f_Has, .slice x61.f_value.f_Value.a (x61.f_value.f_Value.xs).length x61.f_value.f_Value.c, .int .i64 x61.f_value.f_Home, .int .u64 x61.f_value.f_Count]) rfl (by rw [e69]) ?_
     refine h_one 25 rfl (by kernel_rfl) ?_
     refine o_yes rfl rfl rfl ?_
     refine l_conv (L' := ([blk b (.cells #[.slice q.a (q.items).length q.c, .slice q.ak ((q.kids.map Prod.fst)).length q.ck] 103 (0, 0)), row e_ItA.T e_ItA.sz q.a (q.items).length q.c (flat e_ItA q.items), row eN99.T eN99.sz q.ak ((q.kids.map Prod.fst)).length q.ck (flat eN99 (q.kids.map Prod.fst)), kidsR e_ItA eN99 103 d q.kids] ++ G) ++ Lc) (fun w S => S) ?_
     refine o_callV rfl rfl rfl (hy ([blk b (.cells #[.slice q.a (q.items).length q.c, .slice q.ak ((q.kids.map Prod.fst)).length q.ck] 103 (0, 0)), row e_ItA.T e_ItA.sz q.a (q.items).length q.c (flat e_ItA q.items), row eN99.T eN99.sz q.ak ((q.kids.map Prod.fst)).length q.ck (flat eN99 (q.kids.map Prod.fst)), kidsR e_ItA eN99 103 d q.kids] ++ G) pre2 x61 Lc hI9 (List.IsPrefix.trans (by rw [← hpre9]; rw [rest_item (key := ItA.f_key) (lt := strlt) hor hx61']; exact prefix_snoc) hfull)) ?_
     rintro _ _ ⟨bb72, L72, rfl, hbb72, rfl⟩
     refine l_conv (L' := blk b (.cells #[.slice q.a (q.items).length q.c, .slice q.ak ((q.kids.map Prod.fst)).length q.ck] 103 (0, 0)) :: row e_ItA.T e_ItA.sz q.a (q.items).length q.c (flat e_ItA q.items) :: row eN99.T eN99.sz q.ak ((q.kids.map Prod.fst)).length q.ck (flat eN99 (q.kids.map Prod.fst)) :: kidsR e_ItA eN99 103 d q.kids :: (G ++ L72)) (fun w S => S) ?_
     refine l_nil (h_next ?_)
     refine h_take_yes 26 rfl rfl rfl rfl rfl (by kernel_rfl) (by kernel_rfl) (by kernel_rfl) (fun L0 => v_not rfl rfl) ?_
     refine h_take 27 rfl rfl (by kernel_rfl) (by kernel_rfl) (by kernel_rfl) (fun L0 => v_pick_true rfl rfl rfl) ?_
     refine h_done (by kernel_rfl) ?_
     refine q_then ?_
     refine c_cond rfl (fun h11 => ?_) (fun h11 => ?_)
     · -- h11T
      have h11b := h11
      try simp only [decide_eq_true_eq, decide_eq_false_iff_not, Bool.not_eq_eq_eq_not, Bool.not_true, Bool.not_false, Bool.not_eq_true', Bool.not_eq_false', Int.not_lt, Int.not_le, Bool.or_eq_true, Bool.and_eq_true] at h11
      refine c_seq (c_region (o_assign rfl rfl (l_nil (q_then (c_ret ?_)))))
      refine q_block_ret ?_
      refine q_pass_ret (q_pass_ret ?_)
      refine q_block_ret ?_
      refine q_pass_ret ?_
      exact f_ret (r_one rfl rfl) (⟨false, L72, rfl, .inr ⟨rfl, or_no hbb72 (by assumption)⟩, rfl⟩) (fun w S => nodeMk q hq S)
     · -- h11F
      have h11b := h11
      try simp only [decide_eq_true_eq, decide_eq_false_iff_not, Bool.not_eq_eq_eq_not, Bool.not_true, Bool.not_false, Bool.not_eq_true', Bool.not_eq_false', Int.not_lt, Int.not_le, Bool.or_eq_true, Bool.and_eq_true] at h11
      refine c_skip (q_block (q_then (c_region (o_move rfl rfl ?_))))
      refine o_bin rfl rfl rfl (b_add (wrap_i64 (by omega) (by omega))) ?_
      refine o_assign rfl rfl (l_nil ?_)
      exact q_round (i + 1, none, none, (pre2 ++ [x61]), L72) (by exact ⟨by omega, .inl ⟨rfl, rfl⟩, or_yes hbb72 (by assumption), by rw [← hpre9, rest_item (key := ItA.f_key) (lt := strlt) hor hx61', List.append_assoc]; rfl⟩) (by (try dsimp only); omega) ⟨vr, vr, vr, vr, trivial⟩ (fun w S => S)
    · -- hs9 False
     refine c_held [blk b (.cells #[.slice q.a (q.items).length q.c, .slice q.ak ((q.kids.map Prod.fst)).length q.ck] 103 (0, 0)), row e_ItA.T e_ItA.sz q.a (q.items).length q.c (flat e_ItA q.items), row eN99.T eN99.sz q.ak ((q.kids.map Prod.fst)).length q.ck (flat eN99 (q.kids.map Prod.fst)), kidsR e_ItA eN99 103 d q.kids] (by kernel_rfl) rfl ?_
     refine h_take 0 rfl rfl (by kernel_rfl) (by kernel_rfl) (by kernel_rfl) (fun L0 => v_move rfl rfl) ?_
     refine h_take 1 rfl rfl (by kernel_rfl) (by kernel_rfl) (by kernel_rfl) (fun L0 => v_move rfl rfl) ?_
     refine h_take 2 rfl rfl (by kernel_rfl) (by kernel_rfl) (by kernel_rfl) (fun L0 => v_nil rfl rfl) ?_
     refine h_take 3 rfl rfl (by kernel_rfl) (by kernel_rfl) (by kernel_rfl) (fun L0 => v_fieldAddr (q := ⟨b, 0, none⟩) rfl rfl Try.underlying103 rfl ti100 rfl) ?_
     refine h_take 4 rfl rfl (by kernel_rfl) (by kernel_rfl) (by kernel_rfl) (fun L0 => v_load1 rfl rfl Try.underlying100 rfl (rd_mem 0 rfl rfl)) ?_
     refine h_take 5 rfl rfl (by kernel_rfl) (by kernel_rfl) (by kernel_rfl) (fun L0 => v_len rfl rfl Try.underlying100) ?_
     refine h_take 6 rfl rfl (by kernel_rfl) (by kernel_rfl) (by kernel_rfl) (fun L0 => v_bin rfl rfl rfl b_lss) ?_
     refine h_eq (t := 53) (v' := .bool false) rfl (show _ = Value.bool false from by rw [decide_eq_false (by omega)]) ?_
     refine h_take 7 rfl rfl (by kernel_rfl) (by kernel_rfl) (by kernel_rfl) (fun L0 => v_move rfl rfl) ?_
     refine h_take_no 8 rfl rfl rfl rfl rfl (by kernel_rfl) (by kernel_rfl) (by kernel_rfl) ?_
     refine h_take_no 9 rfl rfl rfl rfl rfl (by kernel_rfl) (by kernel_rfl) (by kernel_rfl) ?_
     refine h_take_no 10 rfl rfl rfl rfl rfl (by kernel_rfl) (by kernel_rfl) (by kernel_rfl) ?_
     refine h_take_no 11 rfl rfl rfl rfl rfl (by kernel_rfl) (by kernel_rfl) (by kernel_rfl) ?_
     refine h_take_no 12 rfl rfl rfl rfl rfl (by kernel_rfl) (by kernel_rfl) (by kernel_rfl) ?_
     refine h_take_no 13 rfl rfl rfl rfl rfl (by kernel_rfl) (by kernel_rfl) (by kernel_rfl) ?_
     refine h_take_no 14 rfl rfl rfl rfl rfl (by kernel_rfl) (by kernel_rfl) (by kernel_rfl) ?_
     refine h_take_no 15 rfl rfl rfl rfl rfl (by kernel_rfl) (by kernel_rfl) (by kernel_rfl) ?_
     refine h_take_no 16 rfl rfl rfl rfl rfl (by kernel_rfl) (by kernel_rfl) (by kernel_rfl) ?_
     refine h_take_no 17 rfl rfl rfl rfl rfl (by kernel_rfl) (by kernel_rfl) (by kernel_rfl) ?_
     refine h_take_no 18 rfl rfl rfl rfl rfl (by kernel_rfl) (by kernel_rfl) (by kernel_rfl) ?_
     refine h_take_no 19 rfl rfl rfl rfl rfl (by kernel_rfl) (by kernel_rfl) (by kernel_rfl) ?_
     refine h_take_no 20 rfl rfl rfl rfl rfl (by kernel_rfl) (by kernel_rfl) (by kernel_rfl) ?_
     refine h_take_no 21 rfl rfl rfl rfl rfl (by kernel_rfl) (by kernel_rfl) (by kernel_rfl) ?_
     refine h_take_no 22 rfl rfl rfl rfl rfl (by kernel_rfl) (by kernel_rfl) (by kernel_rfl) ?_
     refine h_take_no 23 rfl rfl rfl rfl rfl (by kernel_rfl) (by kernel_rfl) (by kernel_rfl) ?_
     refine h_take_no 24 rfl rfl rfl rfl rfl (by kernel_rfl) (by kernel_rfl) (by kernel_rfl) ?_
     refine h_take_no 25 rfl rfl rfl rfl rfl (by kernel_rfl) (by kernel_rfl) (by kernel_rfl) ?_
     refine h_take_no 26 rfl rfl rfl rfl rfl (by kernel_rfl) (by kernel_rfl) (by kernel_rfl) ?_
     refine h_take 27 rfl rfl (by kernel_rfl) (by kernel_rfl) (by kernel_rfl) (fun L0 => v_pick_false rfl rfl rfl) ?_
     refine h_done (by kernel_rfl) ?_
     refine q_then (c_false rfl (c_skip (q_block (q_then (c_region (o_move rfl rfl ?_))))))
     refine o_bin rfl rfl rfl (b_add (wrap_i64 (by omega) (by omega))) ?_
     refine o_assign rfl rfl (l_nil ?_)
     exact q_round (i + 1, none, none, pre2, Lc) (by exact ⟨by omega, .inl ⟨rfl, rfl⟩, hI9, by rw [← hpre9, rest_end (key := ItA.f_key) (lt := strlt) hor (by omega)]⟩) (by (try dsimp only); omega) ⟨vr, vr, vr, vr, trivial⟩ (fun w S => S)
  · -- h7F
   have h7b := h7
   try simp only [decide_eq_false_iff_not, Int.not_lt, Int.not_le] at h7
   refine c_exit (q_pass_exit (q_pass_exit (q_hit (q_then (c_seq (c_region (o_assign rfl rfl (l_nil (q_then ?_)))))))))
   refine c_ret ?_
   exact f_ret (r_one rfl rfl) (⟨true, Lc, rfl, .inl ⟨rfl, by rw [← hpre, rest_over hor (by omega), List.append_nil]; exact hI⟩, rfl⟩) (fun w S => nodeMk q hq S)
theorem walk_A : ∀ d, WalkSpec_A d
  | 0 => walk_step_A fun d' h => by omega
  | d + 1 => walk_step_A fun d' h => by obtain rfl : d = d' := (by omega); exact walk_A d
end
section
set_option linter.unusedVariables false
set_option linter.unusedSimpArgs false
set_option maxRecDepth 10000
open Go.RowKit Classical
theorem new_A {W : World} {F : List Res}  : CS Try.prog 29 #[] W (F) (fun r L' => ∃ t : Nat, r = .pointer (some ⟨t, 0, none⟩) ∧ L' = treeR e_ItA eN99 103 105 ItA.f_key strlt t ([] : List ItA) :: F) := by
 refine f_door (l0 := []) Try.func29 Try.ntmps29 rfl rfl rfl ?_
 refine c_seq (c_region (o_assign rfl rfl (l_nil (q_then (c_seq (c_region ?_))))))
 refine o_build rfl sp103 ti103 rfl rfl ?_
 refine o_box rfl rfl fun b2 => ?_
 refine o_build rfl sp105 ti105 rfl ((fill_cons (cells' := [.pointer (some ⟨b2, 0, none⟩), .int .i64 0]) rfl rfl rfl rfl fill_nil)) ?_
 refine o_box rfl rfl fun b4 => ?_
 refine o_assign rfl rfl (l_nil (q_then (c_ret ?_)))
 exact f_ret (r_one rfl rfl) (⟨b4, rfl, rfl⟩) (fun w S => tree_new S)
set_option maxHeartbeats 1000000 in
theorem tput_A {W : World} {F : List Res} {t : Nat} {xs : List ItA} {k : ByteArray} {v : Rec} (hb : (xs.length : Int) < 9223372036854775807) : CS Try.prog 55 #[.pointer (some ⟨t, 0, none⟩), .string k, .agg #[.bool v.f_Has, .slice v.f_Value.a (v.f_Value.xs).length v.f_Value.c, .int .i64 v.f_Home, .int .u64 v.f_Count]] W (treeR e_ItA eN99 103 105 ItA.f_key strlt t xs :: F) (fun r L' => ∃ (old : Rec) (had : Bool), (Old ItA.f_key ItA.f_value (⟨false, ⟨none, [], 0⟩, 0, 0⟩ : Rec) (⟨k, v⟩ : ItA) xs old had ∧ Srt ItA.f_key strlt xs) ∧ r = .tuple #[.agg #[.bool old.f_Has, .slice old.f_Value.a (old.f_Value.xs).length old.f_Value.c, .int .i64 old.f_Home, .int .u64 old.f_Count], .bool had] ∧ L' = treeR e_ItA eN99 103 105 ItA.f_key strlt t (ins ItA.f_key strlt (⟨k, v⟩ : ItA) xs) :: F) := by
 refine f_door (l0 := [(0, .pointer (some ⟨t, 0, none⟩)), (1, .string k), (2, .agg #[.bool v.f_Has, .slice v.f_Value.a (v.f_Value.xs).length v.f_Value.c, .int .i64 v.f_Home, .int .u64 v.f_Count])]) Try.func55 Try.ntmps55 rfl rfl rfl ?_
 refine c_seq ?_
 refine c_tree ?_
 rintro d rb srt
 refine c_conv (L' := blk t (.cells #[.pointer (some ⟨rb, 0, none⟩), .int .i64 ((xs).length : Int)] 105 (0, 0)) :: nodeR e_ItA eN99 103 d 0 rb xs :: F) (fun w S => S) ?_
 refine c_region ?_
 refine o_box rfl rfl fun b5 => ?_
 refine o_alloc rfl ti36 fun b6 => ?_
 refine o_assign rfl rfl (l_nil (q_then (c_seq ?_)))
 refine c_mid (α := Nat × Rec × Bool × (List ItA) × (Option (Nat × ItA × Nat × List ItA))) (fun z => [(0, .pointer (some ⟨t, 0, none⟩)), (1, .string k), (2, .agg #[.bool v.f_Has, .slice v.f_Value.a (v.f_Value.xs).length v.f_Value.c, .int .i64 v.f_Home, .int .u64 v.f_Count]), (5, .pointer (some ⟨b5, 0, none⟩)), (6, .pointer (some ⟨b6, 0, none⟩)), (7, .bool false), (8, .pointer (some ⟨z.1, 0, none⟩)), (9, .bool z.2.2.1), (10, .pointer (z.2.2.2.2.map fun z => (⟨z.1, 0, none⟩ : Addr))), (11, .pointer (z.2.2.2.2.map fun z => (⟨z.2.2.1, 0, none⟩ : Addr))), (12, .tuple #[.agg #[.bool z.2.1.f_Has, .slice z.2.1.f_Value.a (z.2.1.f_Value.xs).length z.2.1.f_Value.c, .int .i64 z.2.1.f_Home, .int .u64 z.2.1.f_Count], .bool z.2.2.1, .pointer (z.2.2.2.2.map fun z => (⟨z.1, 0, none⟩ : Addr)), .pointer (z.2.2.2.2.map fun z => (⟨z.2.2.1, 0, none⟩ : Addr))]), (13, .pointer (some ⟨t, 0, none⟩)), (14, .pointer (some ⟨t, 0, none⟩)), (15, .pointer (some ⟨t, 0, none⟩)), (16, .pointer (some ⟨rb, 0, none⟩)), (17, .string k), (18, .agg #[.bool v.f_Has, .slice v.f_Value.a (v.f_Value.xs).length v.f_Value.c, .int .i64 v.f_Home, .int .u64 v.f_Count]), (19, .agg #[.string k, .bool v.f_Has, .slice v.f_Value.a (v.f_Value.xs).length v.f_Value.c, .int .i64 v.f_Home, .int .u64 v.f_Count]), (20, .tuple #[.agg #[.bool z.2.1.f_Has, .slice z.2.1.f_Value.a (z.2.1.f_Value.xs).length z.2.1.f_Value.c, .int .i64 z.2.1.f_Home, .int .u64 z.2.1.f_Count], .bool z.2.2.1, .pointer (z.2.2.2.2.map fun z => (⟨z.1, 0, none⟩ : Addr)), .pointer (z.2.2.2.2.map fun z => (⟨z.2.2.1, 0, none⟩ : Addr))]), (21, .agg #[.bool z.2.1.f_Has, .slice z.2.1.f_Value.a (z.2.1.f_Value.xs).length z.2.1.f_Value.c, .int .i64 z.2.1.f_Home, .int .u64 z.2.1.f_Count]), (22, .bool z.2.2.1), (23, .pointer (z.2.2.2.2.map fun z => (⟨z.1, 0, none⟩ : Addr))), (24, .pointer (z.2.2.2.2.map fun z => (⟨z.2.2.1, 0, none⟩ : Addr)))]) (fun z => blk z.1 (.cells #[.bool z.2.1.f_Has, .slice z.2.1.f_Value.a (z.2.1.f_Value.xs).length z.2.1.f_Value.c, .int .i64 z.2.1.f_Home, .int .u64 z.2.1.f_Count] 36 (0, 0)) :: nodeR e_ItA eN99 103 d (mnO 0 z.2.2.2.2) rb z.2.2.2.1 :: midR e_ItA eN99 103 d z.2.2.2.2 :: blk b6 (.cells #[.bool false, .slice none 0 0, .int .i64 0, .int .u64 0] 36 (0, 0)) :: blk b5 (.cells #[.bool v.f_Has, .slice v.f_Value.a (v.f_Value.xs).length v.f_Value.c, .int .i64 v.f_Home, .int .u64 v.f_Count] 36 (0, 0)) :: blk t (.cells #[.pointer (some ⟨rb, 0, none⟩), .int .i64 ((xs).length : Int)] 105 (0, 0)) :: F) (fun z => ins ItA.f_key strlt (⟨k, v⟩ : ItA) xs = insS z.2.2.2.1 z.2.2.2.2 ∧ Old ItA.f_key ItA.f_value (⟨false, ⟨none, [], 0⟩, 0, 0⟩ : Rec) (⟨k, v⟩ : ItA) xs z.2.1 z.2.2.1) ?_ ?_
 · -- cut
  refine c_held [blk b6 (.cells #[.bool false, .slice none 0 0, .int .i64 0, .int .u64 0] 36 (0, 0)), blk b5 (.cells #[.bool v.f_Has, .slice v.f_Value.a (v.f_Value.xs).length v.f_Value.c, .int .i64 v.f_Home, .int .u64 v.f_Count] 36 (0, 0)), blk t (.cells #[.pointer (some ⟨rb, 0, none⟩), .int .i64 ((xs).length : Int)] 105 (0, 0))] (by kernel_rfl) rfl ?_
  refine h_take 0 rfl rfl (by kernel_rfl) (by kernel_rfl) (by kernel_rfl) (fun L0 => v_move rfl rfl) ?_
  refine h_take 1 rfl rfl (by kernel_rfl) (by kernel_rfl) (by kernel_rfl) (fun L0 => v_nil rfl rfl) ?_
  refine h_take 2 rfl rfl (by kernel_rfl) (by kernel_rfl) (by kernel_rfl) (fun L0 => v_fieldAddr (q := ⟨t, 0, none⟩) rfl rfl Try.underlying105 rfl ti99 rfl) ?_
  refine h_take 3 rfl rfl (by kernel_rfl) (by kernel_rfl) (by kernel_rfl) (fun L0 => v_load1 rfl rfl Try.underlying99 rfl (rd_mem 2 rfl rfl)) ?_
  refine h_take 4 rfl rfl (by kernel_rfl) (by kernel_rfl) (by kernel_rfl) (fun L0 => v_move rfl rfl) ?_
  refine h_take 5 rfl rfl (by kernel_rfl) (by kernel_rfl) (by kernel_rfl) (fun L0 => v_loadn (vs := [_, _, _, _]) rfl rfl Try.underlying36 rfl ti36 (rdn_lit 1 rfl rfl)) ?_
  refine h_take 6 rfl rfl (by kernel_rfl) (by kernel_rfl) (by kernel_rfl) (fun L0 => v_build rfl sp110 ti110 rfl ((fill_cons (cells' := [.string k, .bool false, .slice none 0 0, .int .i64 0, .int .u64 0]) rfl rfl rfl rfl (fill_cons (cells' := [.string k, .bool v.f_Has, .slice v.f_Value.a (v.f_Value.xs).length v.f_Value.c, .int .i64 v.f_Home, .int .u64 v.f_Count]) rfl rfl rfl rfl fill_nil)))) ?_
  refine h_many (is := [7, 13]) (by kernel_rfl) (by decide) (forall_cons ⟨_, rfl, ?_⟩ (forall_cons ⟨_, rfl, ?_⟩ forall_nil))
  · -- 7 comes first
   refine l_f3 ?_
   refine o_call rfl cal66 rfl (put_A d (mn := 0) (x := (⟨k, v⟩ : ItA)) (by omega) srt) ?_
   rintro _ _ ⟨old20, had20, ls20, s20, ⟨his20, hol20⟩, rfl, rfl⟩
   refine l_nil (qP p1 (qP p1 (qP p4 (qP p4 (qP p4 (h_next ?_))))))
   refine h_take 8 rfl rfl (by kernel_rfl) (by kernel_rfl) (by kernel_rfl) (fun L0 => v_move rfl rfl) ?_
   refine h_take 9 rfl rfl (by kernel_rfl) (by kernel_rfl) (by kernel_rfl) (fun L0 => v_extract rfl rfl rfl) ?_
   refine h_take 10 rfl rfl (by kernel_rfl) (by kernel_rfl) (by kernel_rfl) (fun L0 => v_extract rfl rfl rfl) ?_
   refine h_take 11 rfl rfl (by kernel_rfl) (by kernel_rfl) (by kernel_rfl) (fun L0 => v_extract rfl rfl rfl) ?_
   refine h_take 12 rfl rfl (by kernel_rfl) (by kernel_rfl) (by kernel_rfl) (fun L0 => v_extract rfl rfl rfl) ?_
   refine h_one 13 rfl (by kernel_rfl) ?_
   refine o_alloc rfl ti36 fun b8 => ?_
   refine l_nil (qP p5 (qP p5 (qP p2 (qP p5 (qP p5 (qP p5 (h_next ?_)))))))
   refine h_one 14 rfl (by kernel_rfl) ?_
   refine l_f3 ?_
   refine o_storen rfl rfl ti36 rfl rfl rfl rfl ?_
   refine l_nil (qP p5 (qP p5 (qP p2 (qP p5 (qP p5 (qP p5 (h_next ?_)))))))
   refine h_take 15 rfl rfl (by kernel_rfl) (by kernel_rfl) (by kernel_rfl) (fun L0 => v_assign rfl rfl) ?_
   refine h_take 16 rfl rfl (by kernel_rfl) (by kernel_rfl) (by kernel_rfl) (fun L0 => v_assign rfl rfl) ?_
   refine h_take 17 rfl rfl (by kernel_rfl) (by kernel_rfl) (by kernel_rfl) (fun L0 => v_assign rfl rfl) ?_
   refine h_done (by kernel_rfl) ?_
   refine qP p2 (qP p2 (qP p2 (qP p5 (qP p5 (qP p5 ?_)))))
   exact q_mid (b8, old20, had20, ls20, s20) (by exact ⟨his20, hol20⟩) ⟨vr, vr, vr, vr, vr, vr, vr, vr, vr, vr, vr, vr, vr, vr, vr, vr, vr, vr, vr, vr, vr, vr, vr, trivial⟩ (fun w S => S)
  · -- 13 comes first
   refine o_alloc rfl ti36 fun b8 => ?_
   refine l_nil (qP p4 (qP p1 (qP p4 (qP p4 (qP p4 (h_next ?_))))))
   refine h_one 7 rfl (by kernel_rfl) ?_
   refine l_f4 ?_
   refine o_call rfl cal66 rfl (put_A d (mn := 0) (x := (⟨k, v⟩ : ItA)) (by omega) srt) ?_
   rintro _ _ ⟨old20, had20, ls20, s20, ⟨his20, hol20⟩, rfl, rfl⟩
   refine l_nil (qP p5 (qP p2 (qP p2 (qP p5 (qP p5 (qP p5 (h_next ?_)))))))
   refine h_take 8 rfl rfl (by kernel_rfl) (by kernel_rfl) (by kernel_rfl) (fun L0 => v_move rfl rfl) ?_
   refine h_take 9 rfl rfl (by kernel_rfl) (by kernel_rfl) (by kernel_rfl) (fun L0 => v_extract rfl rfl rfl) ?_
   refine h_take 10 rfl rfl (by kernel_rfl) (by kernel_rfl) (by kernel_rfl) (fun L0 => v_extract rfl rfl rfl) ?_
   refine h_take 11 rfl rfl (by kernel_rfl) (by kernel_rfl) (by kernel_rfl) (fun L0 => v_extract rfl rfl rfl) ?_
   refine h_take 12 rfl rfl (by kernel_rfl) (by kernel_rfl) (by kernel_rfl) (fun L0 => v_extract rfl rfl rfl) ?_
   refine h_one 14 rfl (by kernel_rfl) ?_
   refine l_f5 ?_
   refine o_storen rfl rfl ti36 rfl rfl rfl rfl ?_
   refine l_nil (qP p5 (qP p5 (qP p2 (qP p5 (qP p5 (qP p5 (h_next ?_)))))))
   refine h_take 15 rfl rfl (by kernel_rfl) (by kernel_rfl) (by kernel_rfl) (fun L0 => v_assign rfl rfl) ?_
   refine h_take 16 rfl rfl (by kernel_rfl) (by kernel_rfl) (by kernel_rfl) (fun L0 => v_assign rfl rfl) ?_
   refine h_take 17 rfl rfl (by kernel_rfl) (by kernel_rfl) (by kernel_rfl) (fun L0 => v_assign rfl rfl) ?_
   refine h_done (by kernel_rfl) ?_
   refine qP p2 (qP p2 (qP p2 (qP p5 (qP p5 (qP p5 ?_)))))
   exact q_mid (b8, old20, had20, ls20, s20) (by exact ⟨his20, hol20⟩) ⟨vr, vr, vr, vr, vr, vr, vr, vr, vr, vr, vr, vr, vr, vr, vr, vr, vr, vr, vr, vr, vr, vr, vr, trivial⟩ (fun w S => S)
 · -- behind the cut
  rintro ⟨b8, old20, had20, ls20, s20⟩ ⟨his20, hol20⟩
  try dsimp only at *
  refine c_seq (c_seq (c_region (o_move rfl rfl ?_)))
  refine o_bin rfl rfl rfl (b_pne Try.underlying121 _) ?_
  refine l_nil (q_then ?_)
  refine c_cond rfl (fun h1 => ?_) (fun h1 => ?_)
  · -- h1T
   have h1b := h1
   try simp only [decide_eq_true_eq, decide_eq_false_iff_not, Bool.not_eq_eq_eq_not, Bool.not_true, Bool.not_false, Bool.not_eq_true', Bool.not_eq_false', Int.not_lt, Int.not_le, Bool.or_eq_true, Bool.and_eq_true] at h1
   obtain ⟨⟨bm, m, br, rs⟩, hs20⟩ : ∃ z, s20 = some z := by cases s20 with | none => simp at h1b | some z => exact ⟨z, rfl⟩
   subst hs20
   refine c_mid (α := Nat × (Option Addr) × (Option Addr)) (fun z => [(0, .pointer (some ⟨t, 0, none⟩)), (1, .string k), (2, .agg #[.bool v.f_Has, .slice v.f_Value.a (v.f_Value.xs).length v.f_Value.c, .int .i64 v.f_Home, .int .u64 v.f_Count]), (5, .pointer (some ⟨b5, 0, none⟩)), (6, .pointer (some ⟨b6, 0, none⟩)), (7, .bool false), (8, .pointer (some ⟨b8, 0, none⟩)), (9, .bool had20), (10, .pointer (some ⟨bm, 0, none⟩)), (11, .pointer (some ⟨br, 0, none⟩)), (13, .pointer (some ⟨t, 0, none⟩)), (14, .pointer (some ⟨t, 0, none⟩)), (15, .pointer (some ⟨t, 0, none⟩)), (16, .pointer (some ⟨rb, 0, none⟩)), (17, .string k), (18, .agg #[.bool v.f_Has, .slice v.f_Value.a (v.f_Value.xs).length v.f_Value.c, .int .i64 v.f_Home, .int .u64 v.f_Count]), (19, .agg #[.string k, .bool v.f_Has, .slice v.f_Value.a (v.f_Value.xs).length v.f_Value.c, .int .i64 v.f_Home, .int .u64 v.f_Count]), (21, .agg #[.bool old20.f_Has, .slice old20.f_Value.a (old20.f_Value.xs).length old20.f_Value.c, .int .i64 old20.f_Home, .int .u64 old20.f_Count]), (22, .bool had20), (27, .pointer (some ⟨t, 0, none⟩)), (28, .pointer (some ⟨bm, 0, none⟩)), (29, .pointer (some ⟨bm, 0, none⟩)), (30, .agg #[.string m.f_key, .bool m.f_value.f_Has, .slice m.f_value.f_Value.a (m.f_value.f_Value.xs).length m.f_value.f_Value.c, .int .i64 m.f_value.f_Home, .int .u64 m.f_value.f_Count]), (31, .slice z.2.1 ([m]).length 1), (32, .pointer (some ⟨t, 0, none⟩)), (33, .pointer (some ⟨t, 0, none⟩)), (34, .pointer (some ⟨t, 0, none⟩)), (35, .pointer (some ⟨rb, 0, none⟩)), (36, .pointer (some ⟨br, 0, none⟩)), (37, .slice z.2.2 ([rb, br]).length 2), (38, .agg #[.slice z.2.1 ([m]).length 1, .slice z.2.2 ([rb, br]).length 2]), (39, .pointer (some ⟨z.1, 0, none⟩)), (40, .pointer (some ⟨t, 0, none⟩)), (41, .pointer (some ⟨t, 0, none⟩))]) (fun z => blk t (.cells #[.pointer (some ⟨z.1, 0, none⟩), .int .i64 ((xs).length : Int)] 105 (0, 0)) :: blk z.1 (.cells #[.slice z.2.1 ([m]).length 1, .slice z.2.2 ([rb, br]).length 2] 103 (0, 0)) :: row eN99.T eN99.sz z.2.2 ([rb, br]).length 2 (flat eN99 [rb, br]) :: row e_ItA.T e_ItA.sz z.2.1 ([m]).length 1 (flat e_ItA [m]) :: blk bm (.cells #[.string m.f_key, .bool m.f_value.f_Has, .slice m.f_value.f_Value.a (m.f_value.f_Value.xs).length m.f_value.f_Value.c, .int .i64 m.f_value.f_Home, .int .u64 m.f_value.f_Count] 110 (0, 0)) :: nodeR e_ItA eN99 103 d 2 br rs :: blk b8 (.cells #[.bool old20.f_Has, .slice old20.f_Value.a (old20.f_Value.xs).length old20.f_Value.c, .int .i64 old20.f_Home, .int .u64 old20.f_Count] 36 (0, 0)) :: nodeR e_ItA eN99 103 d 2 rb ls20 :: blk b6 (.cells #[.bool false, .slice none 0 0, .int .i64 0, .int .u64 0] 36 (0, 0)) :: blk b5 (.cells #[.bool v.f_Has, .slice v.f_Value.a (v.f_Value.xs).length v.f_Value.c, .int .i64 v.f_Home, .int .u64 v.f_Count] 36 (0, 0)) :: F) (fun z => True) ?_ ?_
   · -- cut
    refine cP p2 ?_
    refine c_conv (L' := blk bm (.cells #[.string m.f_key, .bool m.f_value.f_Has, .slice m.f_value.f_Value.a (m.f_value.f_Value.xs).length m.f_value.f_Value.c, .int .i64 m.f_value.f_Home, .int .u64 m.f_value.f_Count] 110 (0, 0)) :: nodeR e_ItA eN99 103 d 2 br rs :: _) (fun w S => Sat.flat (Ls := [_, _]) S) ?_
    refine c_held [blk bm (.cells #[.string m.f_key, .bool m.f_value.f_Has, .slice m.f_value.f_Value.a (m.f_value.f_Value.xs).length m.f_value.f_Value.c, .int .i64 m.f_value.f_Home, .int .u64 m.f_value.f_Count] 110 (0, 0)), nodeR e_ItA eN99 103 d 2 br rs, blk b8 (.cells #[.bool old20.f_Has, .slice old20.f_Value.a (old20.f_Value.xs).length old20.f_Value.c, .int .i64 old20.f_Home, .int .u64 old20.f_Count] 36 (0, 0)), nodeR e_ItA eN99 103 d 2 rb ls20, blk b6 (.cells #[.bool false, .slice none 0 0, .int .i64 0, .int .u64 0] 36 (0, 0)), blk b5 (.cells #[.bool v.f_Has, .slice v.f_Value.a (v.f_Value.xs).length v.f_Value.c, .int .i64 v.f_Home, .int .u64 v.f_Count] 36 (0, 0))] (by kernel_rfl) rfl ?_
    refine h_take 0 rfl rfl (by kernel_rfl) (by kernel_rfl) (by kernel_rfl) (fun L0 => v_move rfl rfl) ?_
    refine h_take 1 rfl rfl (by kernel_rfl) (by kernel_rfl) (by kernel_rfl) (fun L0 => v_move rfl rfl) ?_
    refine h_take 2 rfl rfl (by kernel_rfl) (by kernel_rfl) (by kernel_rfl) (fun L0 => v_nil rfl rfl) ?_
    refine h_take 3 rfl rfl (by kernel_rfl) (by kernel_rfl) (by kernel_rfl) (fun L0 => v_loadn (vs := [_, _, _, _, _]) rfl rfl Try.underlying110 rfl ti110 (rdn_lit 0 rfl rfl)) ?_
    refine h_take 5 rfl rfl (by kernel_rfl) (by kernel_rfl) (by kernel_rfl) (fun L0 => v_move rfl rfl) ?_
    refine h_take 6 rfl rfl (by kernel_rfl) (by kernel_rfl) (by kernel_rfl) (fun L0 => v_nil rfl rfl) ?_
    refine h_take 7 rfl rfl (by kernel_rfl) (by kernel_rfl) (by kernel_rfl) (fun L0 => v_fieldAddr (q := ⟨t, 0, none⟩) rfl rfl Try.underlying105 rfl ti99 rfl) ?_
    refine h_take 9 rfl rfl (by kernel_rfl) (by kernel_rfl) (by kernel_rfl) (fun L0 => v_move rfl rfl) ?_
    refine h_many (is := [4, 8]) (by kernel_rfl) (by decide) (forall_cons ⟨_, rfl, ?_⟩ (forall_cons ⟨_, rfl, ?_⟩ forall_nil))
    · -- 4 comes first
     refine o_lit e_ItA_ok rfl Try.underlying100 rfl rfl rfl (lit_ok rfl) [m] rfl rfl fun a31 => ?_
     refine l_nil (qP p7 (qP p1 (qP p7 (qP p7 (qP p7 (qP p7 (qP p7 (qP p7 (h_next ?_)))))))))
     refine h_one 8 rfl (by kernel_rfl) ?_
     refine o_load1 rfl rfl Try.underlying99 rfl (rd_mem 7 rfl rfl) ?_
     refine l_nil (h_next ?_)
     refine h_one 10 rfl (by kernel_rfl) ?_
     refine o_lit eN99_ok rfl Try.underlying101 rfl rfl rfl (lit_ok rfl) [rb, br] rfl rfl fun a37 => ?_
     refine l_nil (qP p8 (qP p8 (qP p2 (qP p8 (qP p8 (qP p8 (qP p8 (qP p8 (qP p8 ?_)))))))))
     refine h_next ?_
     refine h_take 11 rfl rfl (by kernel_rfl) (by kernel_rfl) (by kernel_rfl) (fun L0 => v_build rfl sp103 ti103 rfl ((fill_cons (cells' := [.slice a31 ([m]).length 1, .slice none 0 0]) rfl rfl rfl rfl (fill_cons (cells' := [.slice a31 ([m]).length 1, .slice a37 ([rb, br]).length 2]) rfl rfl rfl rfl fill_nil)))) ?_
     refine h_one 12 rfl (by kernel_rfl) ?_
     refine o_box rfl rfl fun b39 => ?_
     refine l_nil (qP p9 (qP p9 (qP p9 (qP p3 (qP p9 (qP p9 (qP p9 (qP p9 (qP p9 ?_)))))))))
     refine qP p9 (h_next ?_)
     refine h_take 13 rfl rfl (by kernel_rfl) (by kernel_rfl) (by kernel_rfl) (fun L0 => v_nil rfl rfl) ?_
     refine h_take 14 rfl rfl (by kernel_rfl) (by kernel_rfl) (by kernel_rfl) (fun L0 => v_fieldAddr (q := ⟨t, 0, none⟩) rfl rfl Try.underlying105 rfl ti99 rfl) ?_
     refine h_one 15 rfl (by kernel_rfl) ?_
     refine l_f9 ?_
     refine o_store1 rfl rfl rfl ti99 rfl rfl ?_
     refine l_nil (qP p9 (qP p9 (qP p9 (qP p3 (qP p9 (qP p9 (qP p9 (qP p9 (qP p9 ?_)))))))))
     refine qP p9 (h_next ?_)
     refine h_done (by kernel_rfl) ?_
     refine qP p5 (qP p5 (qP p5 (qP p5 (qP p5 (qP p5 (qP p9 (qP p9 (qP p9 (qP p9 ?_)))))))))
     exact q_mid (b39, a31, a37) (by trivial) ⟨vr, vr, vr, vr, vr, vr, vr, vr, vr, vr, vr, vr, vr, vr, vr, vr, vr, vr, vr, vr, vr, vr, vr, vr, vr, vr, vr, vr, vr, vr, vr, vr, vr, vr, trivial⟩ (fun w S => S)
    · -- 8 comes first
     refine o_load1 rfl rfl Try.underlying99 rfl (rd_mem 6 rfl rfl) ?_
     refine l_nil (h_next ?_)
     refine h_many (is := [4, 10]) (by kernel_rfl) (by decide) (forall_cons ⟨_, rfl, ?_⟩ (forall_cons ⟨_, rfl, ?_⟩ forall_nil))
     · -- 4 comes first
      refine o_lit e_ItA_ok rfl Try.underlying100 rfl rfl rfl (lit_ok rfl) [m] rfl rfl fun a31 => ?_
      refine l_nil (qP p7 (qP p1 (qP p7 (qP p7 (qP p7 (qP p7 (qP p7 (qP p7 (h_next ?_)))))))))
      refine h_one 10 rfl (by kernel_rfl) ?_
      refine o_lit eN99_ok rfl Try.underlying101 rfl rfl rfl (lit_ok rfl) [rb, br] rfl rfl fun a37 => ?_
      refine l_nil (qP p8 (qP p8 (qP p2 (qP p8 (qP p8 (qP p8 (qP p8 (qP p8 (qP p8 ?_)))))))))
      refine h_next ?_
      refine h_take 11 rfl rfl (by kernel_rfl) (by kernel_rfl) (by kernel_rfl) (fun L0 => v_build rfl sp103 ti103 rfl ((fill_cons (cells' := [.slice a31 ([m]).length 1, .slice none 0 0]) rfl rfl rfl rfl (fill_cons (cells' := [.slice a31 ([m]).length 1, .slice a37 ([rb, br]).length 2]) rfl rfl rfl rfl fill_nil)))) ?_
      refine h_one 12 rfl (by kernel_rfl) ?_
      refine o_box rfl rfl fun b39 => ?_
      refine l_nil (qP p9 (qP p9 (qP p9 (qP p3 (qP p9 (qP p9 (qP p9 (qP p9 (qP p9 ?_)))))))))
      refine qP p9 (h_next ?_)
      refine h_take 13 rfl rfl (by kernel_rfl) (by kernel_rfl) (by kernel_rfl) (fun L0 => v_nil rfl rfl) ?_
      refine h_take 14 rfl rfl (by kernel_rfl) (by kernel_rfl) (by kernel_rfl) (fun L0 => v_fieldAddr (q := ⟨t, 0, none⟩) rfl rfl Try.underlying105 rfl ti99 rfl) ?_
      refine h_one 15 rfl (by kernel_rfl) ?_
      refine l_f9 ?_
      refine o_store1 rfl rfl rfl ti99 rfl rfl ?_
      refine l_nil (qP p9 (qP p9 (qP p9 (qP p3 (qP p9 (qP p9 (qP p9 (qP p9 (qP p9 ?_)))))))))
      refine qP p9 (h_next ?_)
      refine h_done (by kernel_rfl) ?_
      refine qP p5 (qP p5 (qP p5 (qP p5 (qP p5 (qP p5 (qP p9 (qP p9 (qP p9 (qP p9 ?_)))))))))
      exact q_mid (b39, a31, a37) (by trivial) ⟨vr, vr, vr, vr, vr, vr, vr, vr, vr, vr, vr, vr, vr, vr, vr, vr, vr, vr, vr, vr, vr, vr, vr, vr, vr, vr, vr, vr, vr, vr, vr, vr, vr, vr, trivial⟩ (fun w S => S)
     · -- 10 comes first
      refine o_lit eN99_ok rfl Try.underlying101 rfl rfl rfl (lit_ok rfl) [rb, br] rfl rfl fun a37 => ?_
      refine l_nil (qP p7 (qP p1 (qP p7 (qP p7 (qP p7 (qP p7 (qP p7 (qP p7 (h_next ?_)))))))))
      refine h_one 4 rfl (by kernel_rfl) ?_
      refine o_lit e_ItA_ok rfl Try.underlying100 rfl rfl rfl (lit_ok rfl) [m] rfl rfl fun a31 => ?_
      refine l_nil (qP p8 (qP p8 (qP p2 (qP p8 (qP p8 (qP p8 (qP p8 (qP p8 (qP p8 ?_)))))))))
      refine h_next ?_
      refine h_take 11 rfl rfl (by kernel_rfl) (by kernel_rfl) (by kernel_rfl) (fun L0 => v_build rfl sp103 ti103 rfl ((fill_cons (cells' := [.slice a31 ([m]).length 1, .slice none 0 0]) rfl rfl rfl rfl (fill_cons (cells' := [.slice a31 ([m]).length 1, .slice a37 ([rb, br]).length 2]) rfl rfl rfl rfl fill_nil)))) ?_
      refine h_one 12 rfl (by kernel_rfl) ?_
      refine o_box rfl rfl fun b39 => ?_
      refine l_nil (qP p9 (qP p9 (qP p9 (qP p3 (qP p9 (qP p9 (qP p9 (qP p9 (qP p9 ?_)))))))))
      refine qP p9 (h_next ?_)
      refine h_take 13 rfl rfl (by kernel_rfl) (by kernel_rfl) (by kernel_rfl) (fun L0 => v_nil rfl rfl) ?_
      refine h_take 14 rfl rfl (by kernel_rfl) (by kernel_rfl) (by kernel_rfl) (fun L0 => v_fieldAddr (q := ⟨t, 0, none⟩) rfl rfl Try.underlying105 rfl ti99 rfl) ?_
      refine h_one 15 rfl (by kernel_rfl) ?_
      refine l_f9 ?_
      refine o_store1 rfl rfl rfl ti99 rfl rfl ?_
      refine l_nil (qP p9 (qP p9 (qP p9 (qP p3 (qP p9 (qP p9 (qP p9 (qP p9 (qP p9 ?_)))))))))
      refine qP p9 (h_next ?_)
      refine h_done (by kernel_rfl) ?_
      refine qP p5 (qP p5 (qP p5 (qP p5 (qP p5 (qP p5 (qP p8 (qP p9 (qP p9 (qP p9 ?_)))))))))
      exact q_mid (b39, a31, a37) (by trivial) ⟨vr, vr, vr, vr, vr, vr, vr, vr, vr, vr, vr, vr, vr, vr, vr, vr, vr, vr, vr, vr, vr, vr, vr, vr, vr, vr, vr, vr, vr, vr, vr, vr, vr, vr, trivial⟩ (fun w S => S)
   · -- behind the cut
    rintro ⟨b39, a31, a37⟩ _hp
    try dsimp only at *
    refine c_seq (c_seq (c_region (o_move rfl rfl ?_)))
    refine o_not rfl rfl ?_
    refine l_nil (q_then ?_)
    refine c_cond rfl (fun h2 => ?_) (fun h2 => ?_)
    · -- h2T
     have h2b := h2
     try simp only [decide_eq_true_eq, decide_eq_false_iff_not, Bool.not_eq_eq_eq_not, Bool.not_true, Bool.not_false, Bool.not_eq_true', Bool.not_eq_false', Int.not_lt, Int.not_le, Bool.or_eq_true, Bool.and_eq_true] at h2
     refine c_region (o_move rfl rfl (o_nil rfl rfl ?_))
     refine o_fieldAddr (q := ⟨t, 1, none⟩) rfl rfl Try.underlying105 rfl ti3 rfl ?_
     refine o_load1 rfl rfl Try.underlying3 rfl (rd_mem 0 rfl rfl) ?_
     refine o_bin rfl rfl rfl (b_add (wrap_i64 (by omega) (by omega))) ?_
     refine o_nil rfl rfl ?_
     refine o_fieldAddr (q := ⟨t, 1, none⟩) rfl rfl Try.underlying105 rfl ti3 rfl ?_
     refine o_store1 rfl rfl rfl ti3 rfl rfl ?_
     refine l_nil (q_then (c_seq (c_region ?_)))
     refine o_loadn (vs := [_, _, _, _]) rfl rfl Try.underlying36 rfl ti36 (rdn_lit 6 rfl rfl) ?_
     refine o_move rfl rfl (l_f8 ?_)
     refine o_storen rfl rfl ti36 rfl rfl rfl rfl ?_
     refine o_assign rfl rfl (l_nil (q_then (c_ret ?_)))
     refine f_retq (.inl rfl) (rs_2 rfl (rs_celln (vs := [.bool old20.f_Has, .slice old20.f_Value.a (old20.f_Value.xs).length old20.f_Value.c, .int .i64 old20.f_Home, .int .u64 old20.f_Count]) rfl Try.underlying36 rfl ti36 (rdn_lit 0 rfl rfl)) (rs_tmp rfl)) (fun w S => ?_)
     have hlen : ((ins ItA.f_key strlt (⟨k, v⟩ : ItA) xs).length : Int) = ((xs).length : Int) + 1 := by have h9 := hol20.len strlt_sto srt; rw [show had20 = false from by assumption] at h9; simpa using h9
     replace S := S.tail
     replace S := (S.perm p4).tail
     replace S := (S.perm p5).tail
     replace S := (S.perm p6).tail
     replace S := S.perm p4
     replace S := S.perm p5
     replace S := S.perm p4
     replace S := S.perm p5
     replace S := S.perm p5
     exact ⟨_, ⟨old20, had20, ⟨hol20, srt⟩, rfl, rfl⟩, (fun w S => treeMk (d + 1) b39 (srt_ins strlt_sto srt) (by rw [hlen, his20]; exact (root_new S).perm (List.Perm.swap _ _ _))) w S⟩
    · -- h2F
     have h2b := h2
     try simp only [decide_eq_true_eq, decide_eq_false_iff_not, Bool.not_eq_eq_eq_not, Bool.not_true, Bool.not_false, Bool.not_eq_true', Bool.not_eq_false', Int.not_lt, Int.not_le, Bool.or_eq_true, Bool.and_eq_true] at h2
     refine c_skip (q_then (c_seq (c_region ?_)))
     refine o_loadn (vs := [_, _, _, _]) rfl rfl Try.underlying36 rfl ti36 (rdn_lit 6 rfl rfl) ?_
     refine o_move rfl rfl (l_f8 ?_)
     refine o_storen rfl rfl ti36 rfl rfl rfl rfl ?_
     refine o_assign rfl rfl (l_nil (q_then (c_ret ?_)))
     refine f_retq (.inl rfl) (rs_2 rfl (rs_celln (vs := [.bool old20.f_Has, .slice old20.f_Value.a (old20.f_Value.xs).length old20.f_Value.c, .int .i64 old20.f_Home, .int .u64 old20.f_Count]) rfl Try.underlying36 rfl ti36 (rdn_lit 0 rfl rfl)) (rs_tmp rfl)) (fun w S => ?_)
     have hlen : ((ins ItA.f_key strlt (⟨k, v⟩ : ItA) xs).length : Int) = ((xs).length : Int) := by have h9 := hol20.len strlt_sto srt; rw [show had20 = true from by assumption] at h9; simpa using h9
     replace S := S.tail
     replace S := (S.perm p4).tail
     replace S := (S.perm p5).tail
     replace S := (S.perm p6).tail
     replace S := S.perm p4
     replace S := S.perm p5
     replace S := S.perm p4
     replace S := S.perm p5
     replace S := S.perm p5
     exact ⟨_, ⟨old20, had20, ⟨hol20, srt⟩, rfl, rfl⟩, (fun w S => treeMk (d + 1) b39 (srt_ins strlt_sto srt) (by rw [hlen, his20]; exact (root_new S).perm (List.Perm.swap _ _ _))) w S⟩
  · -- h1F
   have h1b := h1
   try simp only [decide_eq_true_eq, decide_eq_false_iff_not, Bool.not_eq_eq_eq_not, Bool.not_true, Bool.not_false, Bool.not_eq_true', Bool.not_eq_false', Int.not_lt, Int.not_le, Bool.or_eq_true, Bool.and_eq_true] at h1
   have hs20 : s20 = none := by cases s20 with | none => rfl | some z => simp at h1b
   subst hs20
   refine c_skip (q_then (c_seq (c_seq (c_region (o_move rfl rfl ?_)))))
   refine o_not rfl rfl ?_
   refine l_nil (q_then ?_)
   refine c_cond rfl (fun h3 => ?_) (fun h3 => ?_)
   · -- h3T
    have h3b := h3
    try simp only [decide_eq_true_eq, decide_eq_false_iff_not, Bool.not_eq_eq_eq_not, Bool.not_true, Bool.not_false, Bool.not_eq_true', Bool.not_eq_false', Int.not_lt, Int.not_le, Bool.or_eq_true, Bool.and_eq_true] at h3
    refine c_region (o_move rfl rfl (o_nil rfl rfl ?_))
    refine o_fieldAddr (q := ⟨t, 1, none⟩) rfl rfl Try.underlying105 rfl ti3 rfl ?_
    refine o_load1 rfl rfl Try.underlying3 rfl (rd_mem 5 rfl rfl) ?_
    refine o_bin rfl rfl rfl (b_add (wrap_i64 (by omega) (by omega))) ?_
    refine o_nil rfl rfl ?_
    refine o_fieldAddr (q := ⟨t, 1, none⟩) rfl rfl Try.underlying105 rfl ti3 rfl ?_
    refine l_f5 ?_
    refine o_store1 rfl rfl rfl ti3 rfl rfl ?_
    refine l_nil (q_then (c_seq (c_region ?_)))
    refine o_loadn (vs := [_, _, _, _]) rfl rfl Try.underlying36 rfl ti36 (rdn_lit 1 rfl rfl) ?_
    refine o_move rfl rfl (l_f4 ?_)
    refine o_storen rfl rfl ti36 rfl rfl rfl rfl ?_
    refine o_assign rfl rfl (l_nil (q_then (c_ret ?_)))
    refine f_retq (.inl rfl) (rs_2 rfl (rs_celln (vs := [.bool old20.f_Has, .slice old20.f_Value.a (old20.f_Value.xs).length old20.f_Value.c, .int .i64 old20.f_Home, .int .u64 old20.f_Count]) rfl Try.underlying36 rfl ti36 (rdn_lit 0 rfl rfl)) (rs_tmp rfl)) (fun w S => ?_)
    have hlen : ((ins ItA.f_key strlt (⟨k, v⟩ : ItA) xs).length : Int) = ((xs).length : Int) + 1 := by have h9 := hol20.len strlt_sto srt; rw [show had20 = false from by assumption] at h9; simpa using h9
    replace S := S.tail
    replace S := (S.perm p1).tail
    replace S := (S.perm p2).tail
    replace S := (S.perm p2).tail
    exact ⟨_, ⟨old20, had20, ⟨hol20, srt⟩, rfl, rfl⟩, (fun w S => treeMk d rb (srt_ins strlt_sto srt) (by rw [hlen, his20]; exact S)) w S⟩
   · -- h3F
    have h3b := h3
    try simp only [decide_eq_true_eq, decide_eq_false_iff_not, Bool.not_eq_eq_eq_not, Bool.not_true, Bool.not_false, Bool.not_eq_true', Bool.not_eq_false', Int.not_lt, Int.not_le, Bool.or_eq_true, Bool.and_eq_true] at h3
    refine c_skip (q_then (c_seq (c_region ?_)))
    refine o_loadn (vs := [_, _, _, _]) rfl rfl Try.underlying36 rfl ti36 (rdn_lit 0 rfl rfl) ?_
    refine o_move rfl rfl (l_f3 ?_)
    refine o_storen rfl rfl ti36 rfl rfl rfl rfl ?_
    refine o_assign rfl rfl (l_nil (q_then (c_ret ?_)))
    refine f_retq (.inl rfl) (rs_2 rfl (rs_celln (vs := [.bool old20.f_Has, .slice old20.f_Value.a (old20.f_Value.xs).length old20.f_Value.c, .int .i64 old20.f_Home, .int .u64 old20.f_Count]) rfl Try.underlying36 rfl ti36 (rdn_lit 0 rfl rfl)) (rs_tmp rfl)) (fun w S => ?_)
    have hlen : ((ins ItA.f_key strlt (⟨k, v⟩ : ItA) xs).length : Int) = ((xs).length : Int) := by have h9 := hol20.len strlt_sto srt; rw [show had20 = true from by assumption] at h9; simpa using h9
    replace S := S.tail
    replace S := S.tail
    replace S := (S.perm p1).tail
    replace S := (S.perm p1).tail
    replace S := S.perm p1
    exact ⟨_, ⟨old20, had20, ⟨hol20, srt⟩, rfl, rfl⟩, (fun w S => treeMk d rb (srt_ins strlt_sto srt) (by rw [hlen, his20]; exact S)) w S⟩
theorem tlen_A {W : World} {F : List Res} {t : Nat} {xs : List ItA} : CS Try.prog 40 #[.pointer (some ⟨t, 0, none⟩)] W (treeR e_ItA eN99 103 105 ItA.f_key strlt t xs :: F) (fun r L' => r = .int .i64 (xs.length : Int) ∧ L' = treeR e_ItA eN99 103 105 ItA.f_key strlt t xs :: F) := by
 refine f_door (l0 := [(0, .pointer (some ⟨t, 0, none⟩))]) Try.func40 Try.ntmps40 rfl rfl rfl ?_
 refine c_seq (c_region (o_assign rfl rfl (l_nil (q_then (c_seq ?_)))))
 refine c_tree ?_
 rintro d rb srt
 refine c_conv (L' := blk t (.cells #[.pointer (some ⟨rb, 0, none⟩), .int .i64 ((xs).length : Int)] 105 (0, 0)) :: nodeR e_ItA eN99 103 d 0 rb xs :: F) (fun w S => S) ?_
 refine c_region (o_move rfl rfl (o_nil rfl rfl ?_))
 refine o_fieldAddr (q := ⟨t, 1, none⟩) rfl rfl Try.underlying105 rfl ti3 rfl ?_
 refine o_load1 rfl rfl Try.underlying3 rfl (rd_mem 0 rfl rfl) ?_
 refine o_assign rfl rfl (l_nil (q_then (c_ret ?_)))
 exact f_ret (r_one rfl rfl) (⟨rfl, rfl⟩) (fun w S => treeMk d rb srt S)
theorem all_A {W : World} {F : List Res} {t : Nat} : CS Try.prog 38 #[.pointer (some ⟨t, 0, none⟩)] W (F) (fun r L' => ∃ kt : Nat, r = .func (.func 60) #[] #[.pointer (some ⟨kt, 0, none⟩)] ∧ L' = blk kt (.cells #[.pointer (some ⟨t, 0, none⟩)] 62 (0, 0)) :: F) := by
 refine f_door (l0 := [(0, .pointer (some ⟨t, 0, none⟩))]) Try.func38 Try.ntmps38 rfl rfl rfl ?_
 refine c_seq (c_region ?_)
 refine o_box rfl rfl fun b1 => ?_
 refine o_assign rfl rfl (l_nil (q_then (c_seq (c_region ?_))))
 refine o_makeFunc rfl rfl rfl ?_
 refine o_assign rfl rfl (l_nil (q_then (c_ret ?_)))
 exact f_ret (r_one rfl rfl) (⟨b1, rfl, rfl⟩) (fun w S => S)
theorem allIter_A {W : World} {t kt : Nat} {xs : List ItA} : IterG Try.prog 60 #[.pointer (some ⟨kt, 0, none⟩)] (fun x : ItA => [.string x.f_key, .agg #[.bool x.f_value.f_Has, .slice x.f_value.f_Value.a (x.f_value.f_Value.xs).length x.f_value.f_Value.c, .int .i64 x.f_value.f_Home, .int .u64 x.f_value.f_Count]]) W [blk kt (.cells #[.pointer (some ⟨t, 0, none⟩)] 62 (0, 0)), treeR e_ItA eN99 103 105 ItA.f_key strlt t xs] xs := by
 intro y I J L0 hI0 hy
 show CS Try.prog 60 #[y, .pointer (some ⟨kt, 0, none⟩)] W (blk kt (.cells #[.pointer (some ⟨t, 0, none⟩)] 62 (0, 0)) :: treeR e_ItA eN99 103 105 ItA.f_key strlt t xs :: L0) _
 refine f_door (l0 := [(0, y), (1, .pointer (some ⟨kt, 0, none⟩))]) Try.func60 Try.ntmps60 rfl rfl rfl ?_
 refine cP p1 ?_
 refine c_tree ?_
 rintro d rb srt
 refine c_conv (L' := blk t (.cells #[.pointer (some ⟨rb, 0, none⟩), .int .i64 ((xs).length : Int)] 105 (0, 0)) :: nodeR e_ItA eN99 103 d 0 rb xs :: blk kt (.cells #[.pointer (some ⟨t, 0, none⟩)] 62 (0, 0)) :: L0) (fun w S => S) ?_
 refine c_region ?_
 refine o_load1 rfl rfl Try.underlying62 rfl (rd_mem 2 rfl rfl) ?_
 refine o_nil rfl rfl ?_
 refine o_fieldAddr (q := ⟨t, 0, none⟩) rfl rfl Try.underlying105 rfl ti99 rfl ?_
 refine o_load1 rfl rfl Try.underlying99 rfl (rd_mem 0 rfl rfl) ?_
 refine o_move rfl rfl ?_
 refine l_conv (fun w S => S.perm p2) ?_
 refine l_conv (fun w S => S.perm p1) ?_
 refine l_conv (fun w S => S.perm p2) ?_
 refine l_conv (L' := nodeR e_ItA eN99 103 d 0 rb xs :: ([blk t (.cells #[.pointer (some ⟨rb, 0, none⟩), .int .i64 ((xs).length : Int)] 105 (0, 0)), blk kt (.cells #[.pointer (some ⟨t, 0, none⟩)] 62 (0, 0))] ++ L0)) (fun w S => S) ?_
 refine o_call rfl cal59 rfl (walk_A d (G := [blk t (.cells #[.pointer (some ⟨rb, 0, none⟩), .int .i64 ((xs).length : Int)] 105 (0, 0)), blk kt (.cells #[.pointer (some ⟨t, 0, none⟩)] 62 (0, 0))]) (pre := []) (full := xs) (fr := none) srt (.inl ⟨rfl, rfl⟩) hI0 (by rw [List.nil_append]; exact List.prefix_refl _) hy) ?_
 rintro _ _ ⟨bb8, L8, rfl, hbb8, rfl⟩
 refine l_conv (L' := nodeR e_ItA eN99 103 d 0 rb xs :: blk t (.cells #[.pointer (some ⟨rb, 0, none⟩), .int .i64 ((xs).length : Int)] 105 (0, 0)) :: blk kt (.cells #[.pointer (some ⟨t, 0, none⟩)] 62 (0, 0)) :: L8) (fun w S => S) ?_
 refine l_nil (qP p2 (qP p1 (qP p2 ?_)))
 exact f_end (r_none rfl) (⟨L8, by rcases hbb8 with ⟨_, h9⟩ | ⟨_, h9⟩; exact .inl h9; exact .inr h9, rfl⟩) (fun w S => (treeMk d rb srt S).perm p1)
end
section
set_option linter.unusedVariables false
set_option linter.unusedSimpArgs false
set_option maxRecDepth 10000
open Go.RowKit Classical
set_option maxHeartbeats 2000000 in
theorem tdel_A {W : World} {F : List Res} {t : Nat} {xs : List ItA} {k : ByteArray} (hb : (xs.length : Int) < 9223372036854775807) : CS Try.prog 54 #[.pointer (some ⟨t, 0, none⟩), .string k] W (treeR e_ItA eN99 103 105 ItA.f_key strlt t xs :: F) (fun r L' => ∃ (v : Rec) (ok : Bool), GetG ItA.f_key ItA.f_value xs k v ok ∧ r = .tuple #[.agg #[.bool v.f_Has, .slice v.f_Value.a (v.f_Value.xs).length v.f_Value.c, .int .i64 v.f_Home, .int .u64 v.f_Count], .bool ok] ∧ L' = treeR e_ItA eN99 103 105 ItA.f_key strlt t (del ItA.f_key k xs) :: F) := by
 refine f_door (l0 := [(0, .pointer (some ⟨t, 0, none⟩)), (1, .string k)]) Try.func54 Try.ntmps54 rfl rfl rfl ?_
 refine c_seq (c_region ?_)
 refine o_alloc rfl ti36 fun b4 => ?_
 refine o_assign rfl rfl (l_nil (q_then (c_seq (cP p1 ?_))))
 refine c_tree ?_
 rintro d rb srt
 refine c_conv (L' := blk t (.cells #[.pointer (some ⟨rb, 0, none⟩), .int .i64 ((xs).length : Int)] 105 (0, 0)) :: nodeR e_ItA eN99 103 d 0 rb xs :: blk b4 (.cells #[.bool false, .slice none 0 0, .int .i64 0, .int .u64 0] 36 (0, 0)) :: F) (fun w S => S) ?_
 refine c_region (o_move rfl rfl (o_nil rfl rfl ?_))
 refine o_fieldAddr (q := ⟨t, 0, none⟩) rfl rfl Try.underlying105 rfl ti99 rfl ?_
 refine o_load1 rfl rfl Try.underlying99 rfl (rd_mem 0 rfl rfl) ?_
 refine o_move rfl rfl (l_f1 ?_)
 refine o_call rfl cal65 rfl (take_A d srt) ?_
 rintro _ _ ⟨v12, ok12, hg12, rfl, rfl⟩
 refine o_move rfl rfl (o_extract rfl rfl rfl (o_extract rfl rfl rfl (l_f2 ?_)))
 refine o_storen rfl rfl ti36 rfl rfl rfl rfl ?_
 refine o_assign rfl rfl (l_nil (q_then (c_seq (c_seq (cP p1 ?_)))))
 refine c_nodeO ?_
 rintro q hq
 refine c_conv (L' := blk rb (.cells #[.slice q.a (q.items).length q.c, .slice q.ak ((q.kids.map Prod.fst)).length q.ck] 103 (0, 0)) :: row e_ItA.T e_ItA.sz q.a (q.items).length q.c (flat e_ItA q.items) :: row eN99.T eN99.sz q.ak ((q.kids.map Prod.fst)).length q.ck (flat eN99 (q.kids.map Prod.fst)) :: kidsR e_ItA eN99 103 d q.kids :: blk b4 (.cells #[.bool v12.f_Has, .slice v12.f_Value.a (v12.f_Value.xs).length v12.f_Value.c, .int .i64 v12.f_Home, .int .u64 v12.f_Count] 36 (0, 0)) :: blk t (.cells #[.pointer (some ⟨rb, 0, none⟩), .int .i64 ((xs).length : Int)] 105 (0, 0)) :: F) (fun w S => S) ?_
 refine c_region (o_move rfl rfl (o_nil rfl rfl ?_))
 refine o_fieldAddr (q := ⟨t, 0, none⟩) rfl rfl Try.underlying105 rfl ti99 rfl ?_
 refine o_load1 rfl rfl Try.underlying99 rfl (rd_mem 5 rfl rfl) ?_
 refine o_nil rfl rfl ?_
 refine o_fieldAddr (q := ⟨rb, 0, none⟩) rfl rfl Try.underlying103 rfl ti100 rfl ?_
 refine o_load1 rfl rfl Try.underlying100 rfl (rd_mem 0 rfl rfl) ?_
 refine o_len rfl rfl Try.underlying100 ?_
 refine o_bin rfl rfl rfl b_eql ?_
 refine o_move rfl rfl ?_
 refine l_split (t := 24) rfl (fun h1 => ?_) (fun h1 => ?_)
 · -- h1T
  have h1b := h1
  try simp only [decide_eq_true_eq] at h1
  refine o_yes rfl rfl rfl (o_move rfl rfl (o_yes rfl rfl rfl (o_nil rfl rfl (o_yes rfl rfl rfl ?_))))
  refine o_fieldAddr (q := ⟨t, 0, none⟩) rfl rfl Try.underlying105 rfl ti99 rfl ?_
  refine o_yes rfl rfl rfl ?_
  refine o_load1 rfl rfl Try.underlying99 rfl (rd_mem 5 rfl rfl) ?_
  refine o_yes rfl rfl rfl (o_nil rfl rfl (o_yes rfl rfl rfl ?_))
  refine o_fieldAddr (q := ⟨rb, 1, none⟩) rfl rfl Try.underlying103 rfl ti101 rfl ?_
  refine o_yes rfl rfl rfl ?_
  refine o_load1 rfl rfl Try.underlying101 rfl (rd_mem 0 rfl rfl) ?_
  refine o_yes rfl rfl rfl ?_
  refine o_len rfl rfl Try.underlying101 ?_
  refine o_yes rfl rfl rfl ?_
  refine o_bin rfl rfl rfl b_eql ?_
  refine o_pick_true rfl rfl rfl (l_nil (q_then ?_))
  refine c_cond rfl (fun h2 => ?_) (fun h2 => ?_)
  · -- h2T
   have h2b := h2
   try simp only [decide_eq_true_eq] at h2
   obtain ⟨d', kb, hd, hk⟩ := root_kid hq (by omega) (by omega)
   refine c_region (o_move rfl rfl (o_move rfl rfl (o_nil rfl rfl ?_)))
   refine o_fieldAddr (q := ⟨t, 0, none⟩) rfl rfl Try.underlying105 rfl ti99 rfl ?_
   refine o_load1 rfl rfl Try.underlying99 rfl (rd_mem 5 rfl rfl) ?_
   refine o_nil rfl rfl ?_
   refine o_fieldAddr (q := ⟨rb, 1, none⟩) rfl rfl Try.underlying103 rfl ti101 rfl ?_
   refine o_load1 rfl rfl Try.underlying101 rfl (rd_mem 0 rfl rfl) ?_
   refine o_index eN99_ok rfl rfl rfl Try.underlying101 (by omega) (by omega) (rds_own eN99_ok 2 rfl) fun ad43 ead43 => ?_
   obtain ⟨x43, hx43⟩ : ∃ x, ((q.kids.map Prod.fst))[((0 : Int)).toNat]? = some x := ⟨_, List.getElem?_eq_getElem (by omega)⟩
   have hxk : x43 = kb := by have h9 := hx43; rw [hk] at h9; exact (Option.some.inj h9).symm
   refine o_load1 rfl rfl Try.underlying99 rfl (rd_sl0 eN99_ok ead43 (rds_own eN99_ok 2 rfl) hx43 rfl) ?_
   refine l_eq (t := 44) (v' := .pointer (some ⟨kb, 0, none⟩)) rfl (by rw [hxk]) ?_
   refine o_nil rfl rfl ?_
   refine o_fieldAddr (q := ⟨t, 0, none⟩) rfl rfl Try.underlying105 rfl ti99 rfl ?_
   refine l_f5 ?_
   refine o_store1 rfl rfl rfl ti99 rfl rfl ?_
   refine l_nil (q_then (c_seq (c_seq (c_region (o_move rfl rfl (l_nil (q_then ?_)))))))
   refine c_cond rfl (fun h3 => ?_) (fun h3 => ?_)
   · -- h3T
    have h3b := h3
    try simp only [decide_eq_true_eq, decide_eq_false_iff_not, Bool.not_eq_eq_eq_not, Bool.not_true, Bool.not_false, Bool.not_eq_true', Bool.not_eq_false', Int.not_lt, Int.not_le, Bool.or_eq_true, Bool.and_eq_true] at h3
    refine c_region (o_move rfl rfl (o_nil rfl rfl ?_))
    refine o_fieldAddr (q := ⟨t, 1, none⟩) rfl rfl Try.underlying105 rfl ti3 rfl ?_
    refine o_load1 rfl rfl Try.underlying3 rfl (rd_mem 0 rfl rfl) ?_
    refine o_bin rfl rfl rfl (b_sub (wrap_i64 (by omega) (by omega))) ?_
    refine o_nil rfl rfl ?_
    refine o_fieldAddr (q := ⟨t, 1, none⟩) rfl rfl Try.underlying105 rfl ti3 rfl ?_
    refine o_store1 rfl rfl rfl ti3 rfl rfl ?_
    refine l_nil (q_then (c_seq (c_region ?_)))
    refine o_loadn (vs := [_, _, _, _]) rfl rfl Try.underlying36 rfl ti36 (rdn_lit 5 rfl rfl) ?_
    refine o_move rfl rfl (l_f5 ?_)
    refine o_storen rfl rfl ti36 rfl rfl rfl rfl ?_
    refine o_assign rfl rfl (l_nil (q_then (c_ret ?_)))
    refine f_retq (.inl rfl) (rs_2 rfl (rs_celln (vs := [.bool v12.f_Has, .slice v12.f_Value.a (v12.f_Value.xs).length v12.f_Value.c, .int .i64 v12.f_Home, .int .u64 v12.f_Count]) rfl Try.underlying36 rfl ti36 (rdn_lit 0 rfl rfl)) (rs_tmp rfl)) (fun w S => ?_)
    have hlen : ((del ItA.f_key k xs).length : Int) = ((xs).length : Int) - 1 := by have h9 := del_len strlt_sto srt hg12; rw [show ok12 = true from by assumption] at h9; simpa using h9
    replace S := S.tail
    replace S := (S.perm p1).tail
    replace S := (S.perm p1).tail
    replace S := (S.perm p1).tail
    replace S := S.perm p1
    exact ⟨_, ⟨v12, ok12, hg12, rfl, rfl⟩, (fun w S => treeMk d' kb (srt_del srt) (by rw [hlen]; exact (root_down hd hk S).perm p1)) w S⟩
   · -- h3F
    have h3b := h3
    try simp only [decide_eq_true_eq, decide_eq_false_iff_not, Bool.not_eq_eq_eq_not, Bool.not_true, Bool.not_false, Bool.not_eq_true', Bool.not_eq_false', Int.not_lt, Int.not_le, Bool.or_eq_true, Bool.and_eq_true] at h3
    refine c_skip (q_then (c_seq (c_region ?_)))
    refine o_loadn (vs := [_, _, _, _]) rfl rfl Try.underlying36 rfl ti36 (rdn_lit 5 rfl rfl) ?_
    refine o_move rfl rfl (l_f5 ?_)
    refine o_storen rfl rfl ti36 rfl rfl rfl rfl ?_
    refine o_assign rfl rfl (l_nil (q_then (c_ret ?_)))
    refine f_retq (.inl rfl) (rs_2 rfl (rs_celln (vs := [.bool v12.f_Has, .slice v12.f_Value.a (v12.f_Value.xs).length v12.f_Value.c, .int .i64 v12.f_Home, .int .u64 v12.f_Count]) rfl Try.underlying36 rfl ti36 (rdn_lit 0 rfl rfl)) (rs_tmp rfl)) (fun w S => ?_)
    have hlen : ((del ItA.f_key k xs).length : Int) = ((xs).length : Int) := by have h9 := del_len strlt_sto srt hg12; rw [show ok12 = false from by assumption] at h9; simpa using h9
    replace S := S.tail
    replace S := (S.perm p1).tail
    replace S := (S.perm p1).tail
    replace S := (S.perm p1).tail
    replace S := S.perm p1
    exact ⟨_, ⟨v12, ok12, hg12, rfl, rfl⟩, (fun w S => treeMk d' kb (srt_del srt) (by rw [hlen]; exact (root_down hd hk S).perm p1)) w S⟩
  · -- h2F
   have h2b := h2
   try simp only [decide_eq_false_iff_not, Int.not_lt, Int.not_le] at h2
   refine c_skip (q_then (c_seq (c_seq (c_region (o_move rfl rfl (l_nil (q_then ?_)))))))
   refine c_cond rfl (fun h4 => ?_) (fun h4 => ?_)
   · -- h4T
    have h4b := h4
    try simp only [decide_eq_true_eq, decide_eq_false_iff_not, Bool.not_eq_eq_eq_not, Bool.not_true, Bool.not_false, Bool.not_eq_true', Bool.not_eq_false', Int.not_lt, Int.not_le, Bool.or_eq_true, Bool.and_eq_true] at h4
    refine c_region (o_move rfl rfl (o_nil rfl rfl ?_))
    refine o_fieldAddr (q := ⟨t, 1, none⟩) rfl rfl Try.underlying105 rfl ti3 rfl ?_
    refine o_load1 rfl rfl Try.underlying3 rfl (rd_mem 5 rfl rfl) ?_
    refine o_bin rfl rfl rfl (b_sub (wrap_i64 (by omega) (by omega))) ?_
    refine o_nil rfl rfl ?_
    refine o_fieldAddr (q := ⟨t, 1, none⟩) rfl rfl Try.underlying105 rfl ti3 rfl ?_
    refine l_f5 ?_
    refine o_store1 rfl rfl rfl ti3 rfl rfl ?_
    refine l_nil (q_then (c_seq (c_region ?_)))
    refine o_loadn (vs := [_, _, _, _]) rfl rfl Try.underlying36 rfl ti36 (rdn_lit 5 rfl rfl) ?_
    refine o_move rfl rfl (l_f5 ?_)
    refine o_storen rfl rfl ti36 rfl rfl rfl rfl ?_
    refine o_assign rfl rfl (l_nil (q_then (c_ret ?_)))
    refine f_retq (.inl rfl) (rs_2 rfl (rs_celln (vs := [.bool v12.f_Has, .slice v12.f_Value.a (v12.f_Value.xs).length v12.f_Value.c, .int .i64 v12.f_Home, .int .u64 v12.f_Count]) rfl Try.underlying36 rfl ti36 (rdn_lit 0 rfl rfl)) (rs_tmp rfl)) (fun w S => ?_)
    have hlen : ((del ItA.f_key k xs).length : Int) = ((xs).length : Int) - 1 := by have h9 := del_len strlt_sto srt hg12; rw [show ok12 = true from by assumption] at h9; simpa using h9
    replace S := S.tail
    replace S := S.perm p4
    replace S := S.perm p4
    replace S := S.perm p4
    replace S := S.perm p4
    exact ⟨_, ⟨v12, ok12, hg12, rfl, rfl⟩, (fun w S => treeMk d rb (srt_del srt) (by rw [hlen]; exact (nodeMk q (root_full hq (by omega)) S).perm p1)) w S⟩
   · -- h4F
    have h4b := h4
    try simp only [decide_eq_true_eq, decide_eq_false_iff_not, Bool.not_eq_eq_eq_not, Bool.not_true, Bool.not_false, Bool.not_eq_true', Bool.not_eq_false', Int.not_lt, Int.not_le, Bool.or_eq_true, Bool.and_eq_true] at h4
    refine c_skip (q_then (c_seq (c_region ?_)))
    refine o_loadn (vs := [_, _, _, _]) rfl rfl Try.underlying36 rfl ti36 (rdn_lit 4 rfl rfl) ?_
    refine o_move rfl rfl (l_f4 ?_)
    refine o_storen rfl rfl ti36 rfl rfl rfl rfl ?_
    refine o_assign rfl rfl (l_nil (q_then (c_ret ?_)))
    refine f_retq (.inl rfl) (rs_2 rfl (rs_celln (vs := [.bool v12.f_Has, .slice v12.f_Value.a (v12.f_Value.xs).length v12.f_Value.c, .int .i64 v12.f_Home, .int .u64 v12.f_Count]) rfl Try.underlying36 rfl ti36 (rdn_lit 0 rfl rfl)) (rs_tmp rfl)) (fun w S => ?_)
    have hlen : ((del ItA.f_key k xs).length : Int) = ((xs).length : Int) := by have h9 := del_len strlt_sto srt hg12; rw [show ok12 = false from by assumption] at h9; simpa using h9
    replace S := S.tail
    exact ⟨_, ⟨v12, ok12, hg12, rfl, rfl⟩, (fun w S => treeMk d rb (srt_del srt) (by rw [hlen]; exact (nodeMk q (root_full hq (by omega)) S).perm p1)) w S⟩
 · -- h1F
  have h1b := h1
  try simp only [decide_eq_false_iff_not, Int.not_lt, Int.not_le] at h1
  refine o_no rfl rfl rfl rfl (o_no rfl rfl rfl rfl (o_no rfl rfl rfl rfl (o_no rfl rfl rfl rfl (o_no rfl rfl rfl rfl (o_no rfl rfl rfl rfl (o_no rfl rfl rfl rfl (o_no rfl rfl rfl rfl (o_no rfl rfl rfl rfl (o_pick_false rfl rfl rfl ?_)))))))))
  refine l_nil (q_then (c_false rfl (c_skip (q_then (c_seq (c_seq (c_region (o_move rfl rfl (l_nil ?_)))))))))
  refine q_then ?_
  refine c_cond rfl (fun h5 => ?_) (fun h5 => ?_)
  · -- h5T
   have h5b := h5
   try simp only [decide_eq_true_eq, decide_eq_false_iff_not, Bool.not_eq_eq_eq_not, Bool.not_true, Bool.not_false, Bool.not_eq_true', Bool.not_eq_false', Int.not_lt, Int.not_le, Bool.or_eq_true, Bool.and_eq_true] at h5
   refine c_region (o_move rfl rfl (o_nil rfl rfl ?_))
   refine o_fieldAddr (q := ⟨t, 1, none⟩) rfl rfl Try.underlying105 rfl ti3 rfl ?_
   refine o_load1 rfl rfl Try.underlying3 rfl (rd_mem 5 rfl rfl) ?_
   refine o_bin rfl rfl rfl (b_sub (wrap_i64 (by omega) (by omega))) ?_
   refine o_nil rfl rfl ?_
   refine o_fieldAddr (q := ⟨t, 1, none⟩) rfl rfl Try.underlying105 rfl ti3 rfl ?_
   refine l_f5 ?_
   refine o_store1 rfl rfl rfl ti3 rfl rfl ?_
   refine l_nil (q_then (c_seq (c_region ?_)))
   refine o_loadn (vs := [_, _, _, _]) rfl rfl Try.underlying36 rfl ti36 (rdn_lit 5 rfl rfl) ?_
   refine o_move rfl rfl (l_f5 ?_)
   refine o_storen rfl rfl ti36 rfl rfl rfl rfl ?_
   refine o_assign rfl rfl (l_nil (q_then (c_ret ?_)))
   refine f_retq (.inl rfl) (rs_2 rfl (rs_celln (vs := [.bool v12.f_Has, .slice v12.f_Value.a (v12.f_Value.xs).length v12.f_Value.c, .int .i64 v12.f_Home, .int .u64 v12.f_Count]) rfl Try.underlying36 rfl ti36 (rdn_lit 0 rfl rfl)) (rs_tmp rfl)) (fun w S => ?_)
   have hlen : ((del ItA.f_key k xs).length : Int) = ((xs).length : Int) - 1 := by have h9 := del_len strlt_sto srt hg12; rw [show ok12 = true from by assumption] at h9; simpa using h9
   replace S := S.tail
   replace S := S.perm p4
   replace S := S.perm p4
   replace S := S.perm p4
   replace S := S.perm p4
   exact ⟨_, ⟨v12, ok12, hg12, rfl, rfl⟩, (fun w S => treeMk d rb (srt_del srt) (by rw [hlen]; exact (nodeMk q (root_full hq (by omega)) S).perm p1)) w S⟩
  · -- h5F
   have h5b := h5
   try simp only [decide_eq_true_eq, decide_eq_false_iff_not, Bool.not_eq_eq_eq_not, Bool.not_true, Bool.not_false, Bool.not_eq_true', Bool.not_eq_false', Int.not_lt, Int.not_le, Bool.or_eq_true, Bool.and_eq_true] at h5
   refine c_skip (q_then (c_seq (c_region ?_)))
   refine o_loadn (vs := [_, _, _, _]) rfl rfl Try.underlying36 rfl ti36 (rdn_lit 4 rfl rfl) ?_
   refine o_move rfl rfl (l_f4 ?_)
   refine o_storen rfl rfl ti36 rfl rfl rfl rfl ?_
   refine o_assign rfl rfl (l_nil (q_then (c_ret ?_)))
   refine f_retq (.inl rfl) (rs_2 rfl (rs_celln (vs := [.bool v12.f_Has, .slice v12.f_Value.a (v12.f_Value.xs).length v12.f_Value.c, .int .i64 v12.f_Home, .int .u64 v12.f_Count]) rfl Try.underlying36 rfl ti36 (rdn_lit 0 rfl rfl)) (rs_tmp rfl)) (fun w S => ?_)
   have hlen : ((del ItA.f_key k xs).length : Int) = ((xs).length : Int) := by have h9 := del_len strlt_sto srt hg12; rw [show ok12 = false from by assumption] at h9; simpa using h9
   replace S := S.tail
   exact ⟨_, ⟨v12, ok12, hg12, rfl, rfl⟩, (fun w S => treeMk d rb (srt_del srt) (by rw [hlen]; exact (nodeMk q (root_full hq (by omega)) S).perm p1)) w S⟩
end
section
set_option linter.unusedVariables false
set_option linter.unusedSimpArgs false
set_option maxRecDepth 10000
open Go.RowKit Classical
set_option maxHeartbeats 1000000 in
theorem tget_A {W : World} {F : List Res} {t : Nat} {xs : List ItA} {k : ByteArray} : CS Try.prog 32 #[.pointer (some ⟨t, 0, none⟩), .string k] W (treeR e_ItA eN99 103 105 ItA.f_key strlt t xs :: F) (fun r L' => ∃ (v : Rec) (ok : Bool), GetG ItA.f_key ItA.f_value xs k v ok ∧ (ok = false → v = (⟨false, ⟨none, [], 0⟩, 0, 0⟩ : Rec)) ∧ r = .tuple #[.agg #[.bool v.f_Has, .slice v.f_Value.a (v.f_Value.xs).length v.f_Value.c, .int .i64 v.f_Home, .int .u64 v.f_Count], .bool ok] ∧ L' = treeR e_ItA eN99 103 105 ItA.f_key strlt t xs :: F) := by
 refine f_door (l0 := [(0, .pointer (some ⟨t, 0, none⟩)), (1, .string k)]) Try.func32 Try.ntmps32 rfl rfl rfl ?_
 refine c_seq (c_region ?_)
 refine o_alloc rfl ti36 fun b4 => ?_
 refine o_assign rfl rfl (l_nil (q_then (c_seq (cP p1 ?_))))
 refine c_tree ?_
 rintro d rb srt
 refine c_conv (L' := blk t (.cells #[.pointer (some ⟨rb, 0, none⟩), .int .i64 ((xs).length : Int)] 105 (0, 0)) :: nodeR e_ItA eN99 103 d 0 rb xs :: blk b4 (.cells #[.bool false, .slice none 0 0, .int .i64 0, .int .u64 0] 36 (0, 0)) :: F) (fun w S => S) ?_
 have srt0 := srt
 refine c_region (o_move rfl rfl (o_nil rfl rfl ?_))
 refine o_fieldAddr (q := ⟨t, 0, none⟩) rfl rfl Try.underlying105 rfl ti99 rfl ?_
 refine o_load1 rfl rfl Try.underlying99 rfl (rd_mem 0 rfl rfl) ?_
 refine o_assign rfl rfl (l_nil (q_then (c_block (cP p2 (cP p2 ?_)))))
 refine c_conv (L' := nodeR e_ItA eN99 103 d 0 rb xs :: blk b4 (.cells #[.bool false, .slice none 0 0, .int .i64 0, .int .u64 0] 36 (0, 0)) :: (blk t (.cells #[.pointer (some ⟨rb, 0, none⟩), .int .i64 ((xs).length : Int)] 105 (0, 0)) :: F)) (fun w S => S) ?_
 refine c_loop (α := Nat × Nat × Nat × (List ItA) × (List Res)) (fun z => [(1, .string k), (4, .pointer (some ⟨b4, 0, none⟩)), (6, .pointer (some ⟨z.2.1, 0, none⟩))]) (fun z => nodeR e_ItA eN99 103 z.1 z.2.2.1 z.2.1 z.2.2.2.1 :: blk b4 (.cells #[.bool false, .slice none 0 0, .int .i64 0, .int .u64 0] 36 (0, 0)) :: z.2.2.2.2) (fun z => Srt ItA.f_key strlt z.2.2.2.1 ∧ (∀ w, Sat W w (nodeR e_ItA eN99 103 z.1 z.2.2.1 z.2.1 z.2.2.2.1 :: z.2.2.2.2) → Sat W w (treeR e_ItA eN99 103 105 ItA.f_key strlt t xs :: F)) ∧ (∀ y ∈ z.2.2.2.1, y ∈ xs) ∧ (∀ y ∈ xs, y.f_key = k → y ∈ z.2.2.2.1)) (fun z => z.1) (d, rb, 0, xs, (blk t (.cells #[.pointer (some ⟨rb, 0, none⟩), .int .i64 ((xs).length : Int)] 105 (0, 0)) :: F)) (by exact ⟨srt, fun w S => treeMk d rb srt (S.perm (List.Perm.swap _ _ _)), fun y hy => hy, fun y hy _ => hy⟩) ⟨vr, vr, vr, trivial⟩ (fun w S => S) ?_
 rintro ⟨d1, b1, mn1, ys1, R⟩ ⟨srt1, hback, hsub, hin⟩
 try dsimp only at *
 refine c_block (c_seq ?_)
 refine c_node ?_
 rintro q hq
 have hsi := hq.srt strlt_sto srt1
 have hle := hq.le
 have hsh := hq.sh
 refine c_conv (L' := blk b1 (.cells #[.slice q.a (q.items).length q.c, .slice q.ak ((q.kids.map Prod.fst)).length q.ck] 103 (0, 0)) :: row e_ItA.T e_ItA.sz q.a (q.items).length q.c (flat e_ItA q.items) :: row eN99.T eN99.sz q.ak ((q.kids.map Prod.fst)).length q.ck (flat eN99 (q.kids.map Prod.fst)) :: kidsR e_ItA eN99 103 d1 q.kids :: blk b4 (.cells #[.bool false, .slice none 0 0, .int .i64 0, .int .u64 0] 36 (0, 0)) :: R) (fun w S => S) ?_
 have hor := hsh.or
 refine c_region (o_move rfl rfl (o_move rfl rfl (l_f1 (l_f1 ?_))))
 refine o_call rfl cal56 rfl (search_A (k := k) (by omega) hsi) ?_
 rintro _ _ ⟨i16, fd16, ⟨hF16, hfd16⟩, rfl, rfl⟩
 refine o_move rfl rfl (o_extract rfl rfl rfl (o_extract rfl rfl rfl (o_assign rfl rfl (o_assign rfl rfl (l_nil (q_then (c_seq (c_seq (c_region ?_)))))))))
 refine o_move rfl rfl (l_nil (q_then ?_))
 refine c_cond rfl (fun h1 => ?_) (fun h1 => ?_)
 · -- h1T
  have h1b := h1
  try simp only [decide_eq_true_eq, decide_eq_false_iff_not, Bool.not_eq_eq_eq_not, Bool.not_true, Bool.not_false, Bool.not_eq_true', Bool.not_eq_false', Int.not_lt, Int.not_le, Bool.or_eq_true, Bool.and_eq_true] at h1
  refine c_seq ?_
  have hfi := hfd16.1 (by simpa using h1b)
  refine c_fact (p := ∃ ad, q.a = some ad) (rds_some (e := e_ItA) (xs := q.items) (rds_own e_ItA_ok 1 rfl) (by obtain ⟨y, hy, _⟩ := hfi; intro h0; rw [h0] at hy; simp at hy)) ?_
  rintro ⟨adx, eadx⟩
  obtain ⟨yf, hyf, hkf⟩ := hfi
  have hil := (List.getElem?_eq_some_iff.1 hyf).1
  refine c_region (o_move rfl rfl (o_nil rfl rfl ?_))
  refine o_fieldAddr (q := ⟨b1, 0, none⟩) rfl rfl Try.underlying103 rfl ti100 rfl ?_
  refine o_load1 rfl rfl Try.underlying100 rfl (rd_mem 0 rfl rfl) ?_
  refine o_move rfl rfl ?_
  refine o_indexK e_ItA_ok eadx rfl rfl rfl Try.underlying100 (by omega) (by omega) ?_
  obtain ⟨x25, hx25⟩ : ∃ x, (q.items)[((i16 : Int)).toNat]? = some x := ⟨_, List.getElem?_eq_getElem (by omega)⟩
  have hkx : x25.f_key = k := by rw [show q.items[i16]? = some x25 from hx25] at hyf; cases hyf; exact hkf
  refine o_fieldAddr rfl rfl Try.underlying110 rfl ti36 (Addr.add_add' _ _ _) ?_
  refine o_loadn (vs := [.bool x25.f_value.f_Has, .slice x25.f_value.f_Value.a (x25.f_value.f_Value.xs).length x25.f_value.f_Value.c, .int .i64 x25.f_value.f_Home, .int .u64 x25.f_value.f_Count]) rfl rfl Try.underlying36 rfl ti36 (rdn_slo (n := 4) e_ItA_ok eadx (rds_own e_ItA_ok 1 rfl) hx25 rfl) ?_
  refine l_f4 ?_
  refine o_storen rfl rfl ti36 rfl rfl rfl rfl ?_
  refine o_assign rfl rfl (l_nil (q_then (c_ret (q_pass_ret ?_))))
  refine q_block_ret ?_
  refine q_pass_ret ?_
  refine q_block_ret ?_
  refine f_retq (.inl rfl) (rs_2 rfl (rs_celln (vs := [.bool x25.f_value.f_Has, .slice x25.f_value.f_Value.a (x25.f_value.f_Value.xs).length x25.f_value.f_Value.c, .int .i64 x25.f_value.f_Home, .int .u64 x25.f_value.f_Count]) rfl Try.underlying36 rfl ti36 (rdn_lit 0 rfl rfl)) (rs_tmp rfl)) (fun w S => ?_)
  replace S := S.tail
  exact ⟨_, ⟨x25.f_value, true, ⟨⟨fun _ => ⟨x25, hsub x25 (hq.is ▸ mem_weave_item hor (show q.items[i16]? = some x25 from hx25)), hkx⟩, fun _ => rfl⟩, fun _ y hy hk => by rw [one_key strlt_sto srt0 hy (hsub x25 (hq.is ▸ mem_weave_item hor (show q.items[i16]? = some x25 from hx25))) (hk.trans hkx.symm)]⟩, (fun h9 => (by cases h9)), rfl, rfl⟩, (fun w S => hback w (nodeMk q hq S)) w S⟩
 · -- h1F
  have h1b := h1
  try simp only [decide_eq_true_eq, decide_eq_false_iff_not, Bool.not_eq_eq_eq_not, Bool.not_true, Bool.not_false, Bool.not_eq_true', Bool.not_eq_false', Int.not_lt, Int.not_le, Bool.or_eq_true, Bool.and_eq_true] at h1
  refine c_skip (q_then (c_seq (c_seq ?_)))
  have hnf : ¬ ∃ y, q.items[i16]? = some y ∧ y.f_key = k := fun h9 => by rw [hfd16.2 h9] at h1b; cases h1b
  have hkm : (q.kids.map Prod.fst).length = q.kids.length := List.length_map _
  refine c_region (o_move rfl rfl (o_nil rfl rfl ?_))
  refine o_fieldAddr (q := ⟨b1, 1, none⟩) rfl rfl Try.underlying103 rfl ti101 rfl ?_
  refine o_load1 rfl rfl Try.underlying101 rfl (rd_mem 0 rfl rfl) ?_
  refine o_len rfl rfl Try.underlying101 ?_
  refine o_bin rfl rfl rfl b_eql ?_
  refine l_nil (q_then ?_)
  refine c_cond rfl (fun h2 => ?_) (fun h2 => ?_)
  · -- h2T
   have h2b := h2
   try simp only [decide_eq_true_eq] at h2
   refine c_seq ?_
   have hk0 : q.kids = [] := List.eq_nil_of_length_eq_zero (by omega)
   refine c_region ?_
   refine o_loadn (vs := [.bool false, .slice none 0 0, .int .i64 0, .int .u64 0]) rfl rfl Try.underlying36 rfl ti36 (rdn_lit 4 rfl rfl) ?_
   refine l_f4 ?_
   refine o_storen rfl rfl ti36 rfl rfl rfl rfl ?_
   refine o_assign rfl rfl (l_nil (q_then (c_ret (q_pass_ret ?_))))
   refine q_block_ret ?_
   refine q_pass_ret ?_
   refine q_block_ret ?_
   refine f_retq (.inl rfl) (rs_2 rfl (rs_celln (vs := [.bool false, .slice none 0 0, .int .i64 0, .int .u64 0]) rfl Try.underlying36 rfl ti36 (rdn_lit 0 rfl rfl)) (rs_tmp rfl)) (fun w S => ?_)
   replace S := S.tail
   exact ⟨_, ⟨(⟨false, ⟨none, [], 0⟩, 0, 0⟩ : Rec), false, ⟨⟨fun h9 => (by cases h9), fun ⟨y, hy, hk⟩ => absurd ⟨y, hin y hy hk, hk⟩ (leaf_none strlt_sto hq srt1 hF16 hnf hk0)⟩, fun h9 => (by cases h9)⟩, (fun _ => rfl), rfl, rfl⟩, (fun w S => hback w (nodeMk q hq S)) w S⟩
  · -- h2F
   have h2b := h2
   try simp only [decide_eq_false_iff_not, Int.not_lt, Int.not_le] at h2
   refine c_skip (q_then ?_)
   have hkl : q.kids.length = q.items.length + 1 := by rcases hsh with ⟨_, h9⟩ | ⟨_, h9, _⟩; exact absurd (show ((q.kids.map Prod.fst).length : Int) = 0 by rw [h9]; rfl) (by assumption); exact h9
   have hd0 : d1 ≠ 0 := by rcases hsh with ⟨_, h9⟩ | ⟨h9, _, _⟩; exact absurd (show ((q.kids.map Prod.fst).length : Int) = 0 by rw [h9]; rfl) (by assumption); exact h9
   have hfl := hF16.le
   obtain ⟨⟨kb, ys2⟩, hkid⟩ : ∃ z, q.kids[i16]? = some z := ⟨_, List.getElem?_eq_getElem (by omega)⟩
   obtain ⟨A, B, hxA, _, _, hA, hB, _, _, hsy⟩ := kid_parts (x := (⟨k, (⟨false, ⟨none, [], 0⟩, 0, 0⟩ : Rec)⟩ : ItA)) strlt_sto hq srt1 hkid hF16 hnf
   obtain ⟨d', hd'⟩ : ∃ d', d1 = d' + 1 := ⟨d1 - 1, by omega⟩
   refine c_fact (p := ∃ ad, q.ak = some ad) (rds_some (e := eN99) (xs := (q.kids.map Prod.fst)) (rds_own eN99_ok 2 rfl) (by intro h0; have h00 := congrArg List.length h0; simp only [List.length_nil] at h00; omega)) ?_
   rintro ⟨adk, eadk⟩
   refine c_region (o_move rfl rfl (o_nil rfl rfl ?_))
   refine o_fieldAddr (q := ⟨b1, 1, none⟩) rfl rfl Try.underlying103 rfl ti101 rfl ?_
   refine o_load1 rfl rfl Try.underlying101 rfl (rd_mem 0 rfl rfl) ?_
   refine o_move rfl rfl ?_
   refine o_indexK eN99_ok eadk rfl rfl rfl Try.underlying101 (by omega) (by omega) ?_
   obtain ⟨x40, hx40⟩ : ∃ x, ((q.kids.map Prod.fst))[((i16 : Int)).toNat]? = some x := ⟨_, List.getElem?_eq_getElem (by omega)⟩
   have hxk : x40 = kb := by have h9 := hx40; rw [show ((i16 : Int)).toNat = i16 from rfl, List.getElem?_map, hkid] at h9; exact (Option.some.inj h9).symm
   refine o_load1 rfl rfl Try.underlying99 rfl (rd_sl0 eN99_ok eadk (rds_own eN99_ok 2 rfl) hx40 rfl) ?_
   refine l_eq (t := 41) (v' := .pointer (some ⟨kb, 0, none⟩)) rfl (by rw [hxk]) ?_
   refine l_f3 ?_
   refine l_conv (L' := nodeR e_ItA eN99 103 d' 2 kb ys2 :: kidsR e_ItA eN99 103 d1 (q.kids.eraseIdx i16) :: _) (fun w S => by have h9 := Sat.kid_take hkid S; rw [hd'] at h9 ⊢; exact h9) ?_
   refine o_assign rfl rfl (l_nil (q_block (qP p4 (qP p4 (qP p4 (qP p4 (qP p5 (qP p5 ?_))))))))
   refine q_conv (L' := nodeR e_ItA eN99 103 d' 2 kb ys2 :: blk b4 (.cells #[.bool false, .slice none 0 0, .int .i64 0, .int .u64 0] 36 (0, 0)) :: (kidsR e_ItA eN99 103 d1 (q.kids.eraseIdx i16) :: blk b1 (.cells #[.slice q.a (q.items).length q.c, .slice q.ak ((q.kids.map Prod.fst)).length q.ck] 103 (0, 0)) :: row e_ItA.T e_ItA.sz q.a (q.items).length q.c (flat e_ItA q.items) :: row eN99.T eN99.sz q.ak ((q.kids.map Prod.fst)).length q.ck (flat eN99 (q.kids.map Prod.fst)) :: R)) (fun w S => S) ?_
   exact q_round (d', kb, 2, ys2, (kidsR e_ItA eN99 103 d1 (q.kids.eraseIdx i16) :: blk b1 (.cells #[.slice q.a (q.items).length q.c, .slice q.ak ((q.kids.map Prod.fst)).length q.ck] 103 (0, 0)) :: row e_ItA.T e_ItA.sz q.a (q.items).length q.c (flat e_ItA q.items) :: row eN99.T eN99.sz q.ak ((q.kids.map Prod.fst)).length q.ck (flat eN99 (q.kids.map Prod.fst)) :: R)) (by exact ⟨hsy, fun w S => hback w (nodeMk q hq (get_back hkid hd' S)), fun y hy => hsub y (by rw [hxA]; simp [hy]), fun y hy hk => get_in strlt_sto (by have h9 := hin y hy hk; rw [hxA] at h9; exact h9) hk hA hB⟩) (by (try dsimp only); omega) ⟨vr, vr, vr, trivial⟩ (fun w S => S)
end
section
set_option linter.unusedVariables false
set_option linter.unusedSimpArgs false
open Go.RowKit Classical
/-- A record's contents. -/
structure RecM where
  has : Bool
  val : List UInt8
  home : Int
  count : Int
def Rec.m (r : Rec) : RecM := ⟨r.f_Has, r.f_Value.xs, r.f_Home, r.f_Count⟩
def proj (x : ItA) : ByteArray × RecM := (x.f_key, x.f_value.m)
abbrev Rows := List (ByteArray × RecM)
def sumK (k : ByteArray) : Nat := (k.data.toList.map UInt8.toNat).sum
def sumI (k : ByteArray) (i : Nat) : Nat := ((k.data.toList.take i).map UInt8.toNat).sum
theorem sumI_on {k : ByteArray} {i : Nat} {b : UInt8} (h : k.data.toList[i]? = some b) : sumI k (i + 1) = sumI k i + b.toNat := by
  unfold sumI
  rw [List.take_add_one, h]
  simp
theorem sumI_le (k : ByteArray) : ∀ i, sumI k i ≤ 255 * i
  | 0 => by simp [sumI]
  | i + 1 => by
    have ih := sumI_le k i
    cases h : k.data.toList[i]? with
    | none => unfold sumI at ih ⊢; rw [List.take_add_one, h, Option.toList_none, List.append_nil]; omega
    | some b => rw [sumI_on h]; have := b.toNat_lt; omega
theorem sumI_all {k : ByteArray} {i : Nat} (h : k.size ≤ i) : sumI k i = sumK k := by
  unfold sumI sumK
  rw [List.take_of_length_le (by rw [Array.length_toList]; exact h)]
theorem dflt_bd {k : ByteArray} {i : Nat} {n : Int} (hn : 1 ≤ n) : 0 ≤ ((sumI k i : Nat) : Int) % n ∧ ((sumI k i : Nat) : Int) % n ≤ 255 * (i : Int) := by
  have h1 := sumI_le k i
  refine ⟨Int.emod_nonneg _ (by omega), ?_⟩
  by_cases h : ((sumI k i : Nat) : Int) < n
  · rw [Int.emod_eq_of_lt (by omega) h]; omega
  · have := Int.emod_lt_of_pos ((sumI k i : Nat) : Int) (show 0 < n by omega)
    omega
theorem dflt_on {k : ByteArray} {i : Nat} {n : Int} {b : UInt8} (hn : 1 ≤ n) (h : k.data.toList[i]? = some b) : (((sumI k i : Nat) : Int) % n + (b.toNat : Int)).tmod n = ((sumI k (i + 1) : Nat) : Int) % n := by
  have h1 := (dflt_bd (k := k) (i := i) hn).1
  rw [Int.tmod_eq_emod_of_nonneg (by omega), sumI_on h, Int.natCast_add, Int.emod_add_emod]
def dflt (k : ByteArray) (n : Int) : Int := if n < 1 then 0 else (sumK k : Int) % n
noncomputable def findM (k : ByteArray) (M : Rows) : Option (ByteArray × RecM) := M.find? fun z => decide (z.1 = k)
def r0 (n : Int) (k : ByteArray) : RecM := ⟨false, [], dflt k n, 0⟩
noncomputable def lookM (n : Int) (k : ByteArray) (M : Rows) : RecM := ((findM k M).map Prod.snd).getD (r0 n k)
noncomputable def delM (k : ByteArray) (M : Rows) : Rows := del Prod.fst k M
noncomputable def insM (k : ByteArray) (r : RecM) (M : Rows) : Rows := ins Prod.fst strlt (k, r) M
noncomputable def setM (k : ByteArray) (r : RecM) (M : Rows) : Rows := if r.has = false ∧ r.count = 0 then delM k M else insM k r M
noncomputable def putM (n : Int) (k : ByteArray) (v : List UInt8) (M : Rows) : Rows := setM k { lookM n k M with has := true, val := v } M
def maxU : Int := 18446744073709551615
noncomputable def moveM (n : Int) (k : ByteArray) (h : Int) (M : Rows) : Int × Rows :=
  if h < 0 ∨ n ≤ h then (1, M) else if (lookM n k M).count = maxU then (111, M) else (0, setM k { lookM n k M with home := h, count := (lookM n k M).count + 1 } M)
theorem find_ins_eq {k : ByteArray} {r : RecM} : ∀ {M : Rows}, findM k (insM k r M) = some (k, r)
  | [] => by simp [findM, insM, ins]
  | y :: ys => by
    unfold insM ins findM
    split
    · simp
    · rename_i h1
      split
      · rename_i h2
        have hne : ¬ y.1 = k := fun h => strlt_sto.irr k (by have h3 : strlt y.1 k := h2; rw [h] at h3; exact h3)
        rw [List.find?_cons_of_neg (by simpa using hne)]
        exact find_ins_eq
      · simp
theorem find_ins_ne {k k' : ByteArray} {r : RecM} (hk : ¬ k' = k) : ∀ {M : Rows}, findM k (insM k' r M) = findM k M
  | [] => by simp [findM, insM, ins, hk]
  | y :: ys => by
    have hd : ¬ decide (((k', r) : ByteArray × RecM).1 = k) = true := by simpa using hk
    unfold insM ins findM
    split
    · rw [List.find?_cons_of_neg (p := fun z : ByteArray × RecM => decide (z.1 = k)) hd]
    · rename_i h1
      split
      · by_cases hy : y.1 = k
        · rw [List.find?_cons_of_pos (by simpa using hy), List.find?_cons_of_pos (by simpa using hy)]
        · rw [List.find?_cons_of_neg (by simpa using hy), List.find?_cons_of_neg (by simpa using hy)]
          exact find_ins_ne hk
      · rename_i h2
        have he : k' = y.1 := strlt_sto.tri h1 h2
        rw [List.find?_cons_of_neg (p := fun z : ByteArray × RecM => decide (z.1 = k)) hd, List.find?_cons_of_neg (p := fun z : ByteArray × RecM => decide (z.1 = k)) (by rw [← he]; exact hd)]
theorem find_del_ne {k k' : ByteArray} (hk : ¬ k' = k) {M : Rows} : findM k (delM k' M) = findM k M := by
  unfold findM delM del
  rw [List.find?_filter]
  congr 1; funext z
  by_cases h : z.1 = k
  · have : ¬ z.1 = k' := fun h2 => hk (h2.symm.trans h)
    simp [h, this]; exact fun h3 => hk h3.symm
  · simp [h]
theorem find_key {k : ByteArray} {M : Rows} {z : ByteArray × RecM} (h : findM k M = some z) : z.1 = k := by
  unfold findM at h
  have h2 := List.find?_some h
  exact of_decide_eq_true h2
theorem look_set_ne {n : Int} {k k' : ByteArray} {r : RecM} (hk : ¬ k' = k) {M : Rows} : lookM n k (setM k' r M) = lookM n k M := by
  unfold lookM setM
  split
  · rw [find_del_ne hk]
  · rw [find_ins_ne hk]
theorem look_set {n : Int} {k : ByteArray} {r : RecM} {M : Rows} (h : r.has = true ∨ ¬ r.count = 0) : lookM n k (setM k r M) = r := by
  unfold lookM setM
  rw [if_neg (by rintro ⟨h1, h2⟩; rcases h with h | h; · rw [h] at h1; cases h1
                 · exact h h2), find_ins_eq]; rfl
theorem map_del {k : ByteArray} {xs : List ItA} : (del ItA.f_key k xs).map proj = delM k (xs.map proj) := by
  unfold del delM del
  rw [List.filter_map]; rfl
theorem map_ins {x : ItA} : ∀ {xs : List ItA}, (ins ItA.f_key strlt x xs).map proj = insM x.f_key x.f_value.m (xs.map proj)
  | [] => by simp [ins, insM, proj]
  | y :: ys => by
    have ih := map_ins (x := x) (xs := ys)
    unfold insM at ih ⊢
    rw [List.map_cons, ins, ins]
    by_cases h1 : strlt x.f_key y.f_key
    · rw [if_pos h1, if_pos (show strlt ((x.f_key, x.f_value.m) : ByteArray × RecM).1 (proj y).1 from h1)]; rfl
    · rw [if_neg h1, if_neg (show ¬ strlt ((x.f_key, x.f_value.m) : ByteArray × RecM).1 (proj y).1 from h1)]
      by_cases h2 : strlt y.f_key x.f_key
      · rw [if_pos h2, if_pos (show strlt (proj y).1 ((x.f_key, x.f_value.m) : ByteArray × RecM).1 from h2), List.map_cons, ih]
      · rw [if_neg h2, if_neg (show ¬ strlt (proj y).1 ((x.f_key, x.f_value.m) : ByteArray × RecM).1 from h2)]; rfl
theorem set_len {k : ByteArray} {r : RecM} {M : Rows} : (setM k r M).length ≤ M.length + 1 := by
  unfold setM
  split
  · have : (delM k M).length ≤ M.length := List.length_filter_le _ _
    omega
  · unfold insM
    induction M with
    | nil => simp [ins]
    | cons y ys ih => rw [ins]; split; · simp
                      split <;> simp <;> omega
structure SS where
  n : Int
  xs : List ItA
def SS.M (s : SS) : Rows := s.xs.map proj
structure OkR (n : Int) (r : RecM) : Prop where
  val : r.val.length ≤ 1000000
  h0 : 0 ≤ r.home
  hn : r.home < n
  c0 : 0 ≤ r.count
  cn : r.count ≤ maxU
structure OkS (s : SS) : Prop where
  n1 : 1 ≤ s.n
  n3 : s.n ≤ 3
  ok : ∀ x ∈ s.xs, OkR 3 x.f_value.m
theorem OkS.new {n : Int} (h1 : 1 ≤ n) (h2 : n ≤ 3) : OkS ⟨n, []⟩ := ⟨h1, h2, fun x h => by simp at h⟩
theorem OkS.del {s : SS} {k : ByteArray} (h : OkS s) : OkS ⟨s.n, del ItA.f_key k s.xs⟩ := ⟨h.n1, h.n3, fun x hx => h.ok x (mem_del.1 hx).1⟩
theorem OkS.ins {s : SS} {k : ByteArray} {r : Rec} (h : OkS s) (hr : OkR 3 r.m) : OkS ⟨s.n, ins ItA.f_key strlt (⟨k, r⟩ : ItA) s.xs⟩ := ⟨h.n1, h.n3, fun x hx => by
  rcases mem_ins hx with rfl | hx
  · exact hr
  · exact h.ok x hx⟩
theorem dflt_in {k : ByteArray} {n : Int} (h : 1 ≤ n) : 0 ≤ dflt k n ∧ dflt k n < n := by
  unfold dflt
  rw [if_neg (by omega)]
  exact ⟨Int.emod_nonneg _ (by omega), Int.emod_lt_of_pos _ (by omega)⟩
theorem OkS.look {s : SS} (h : OkS s) (k : ByteArray) : OkR 3 (lookM s.n k s.M) := by
  unfold lookM
  cases hf : findM k s.M with
  | none => exact ⟨by show 0 ≤ 1000000; omega, (dflt_in h.n1).1, Int.lt_of_lt_of_le (dflt_in h.n1).2 h.n3, by show (0 : Int) ≤ 0; omega, by show (0 : Int) ≤ maxU; decide⟩
  | some z =>
    obtain ⟨x, hx, rfl⟩ := List.mem_map.1 (List.mem_of_find?_eq_some hf)
    exact h.ok x hx
theorem OkR.put {n : Int} {r : RecM} {b : Bool} {v : List UInt8} (h : OkR n r) (hv : v.length ≤ 1000000) : OkR n { r with has := b, val := v } := ⟨hv, h.h0, h.hn, h.c0, h.cn⟩
theorem OkR.move {n : Int} {r : RecM} {h : Int} (o : OkR n r) (h0 : ¬ (h < 0 ∨ n ≤ h)) (hc : ¬ r.count = maxU) : OkR n { r with home := h, count := r.count + 1 } := ⟨o.val, by show 0 ≤ h; omega, by show h < n; omega, by have := o.c0; show 0 ≤ r.count + 1; omega, by have := o.cn; show r.count + 1 ≤ maxU; omega⟩
theorem look_has {s : SS} {k : ByteArray} {v : Rec} (g : GetG ItA.f_key ItA.f_value s.xs k v true) : lookM s.n k s.M = v.m := by
  obtain ⟨y, hy, he⟩ := g.has.1 rfl
  unfold lookM
  cases hf : findM k s.M with
  | none => exact absurd (decide_eq_true (show (proj y).1 = k from he)) (List.find?_eq_none.1 hf (proj y) (List.mem_map.2 ⟨y, hy, rfl⟩))
  | some z =>
    obtain ⟨x, hx, rfl⟩ := List.mem_map.1 (List.mem_of_find?_eq_some hf)
    have hk : x.f_key = k := find_key hf
    show x.f_value.m = v.m
    rw [g.val rfl x hx hk]
theorem look_none {s : SS} {k : ByteArray} {v : Rec} (g : GetG ItA.f_key ItA.f_value s.xs k v false) : lookM s.n k s.M = r0 s.n k := by
  unfold lookM
  cases hf : findM k s.M with
  | none => rfl
  | some z =>
    obtain ⟨x, hx, rfl⟩ := List.mem_map.1 (List.mem_of_find?_eq_some hf)
    have hk : x.f_key = k := find_key hf
    exact absurd (g.has.2 ⟨x, hx, hk⟩) (by simp)
theorem M_len {s : SS} : s.M.length = s.xs.length := List.length_map _
abbrev vR (x : ItA) : Res := row e8.T e8.sz x.f_value.f_Value.a x.f_value.f_Value.xs.length x.f_value.f_Value.c (flat e8 x.f_value.f_Value.xs)
def vals (xs : List ItA) : Res := stars (xs.map vR)
section
variable {W w : World} {L : List Res}
theorem Sat.vals_perm {xs ys : List ItA} (h : xs.Perm ys) (S : Sat W w (vals xs :: L)) : Sat W w (vals ys :: L) := S.stars_perm (h.map _)
theorem Sat.vals_take {xs : List ItA} {i : Nat} {x : ItA} (hk : xs[i]? = some x) (S : Sat W w (vals xs :: L)) : Sat W w (vR x :: vals (xs.eraseIdx i) :: L) :=
  Sat.stars_cons (Rs := (xs.eraseIdx i).map vR) (Sat.vals_perm (erase_perm hk).symm S)
theorem Sat.vals_back {xs : List ItA} {i : Nat} {x : ItA} (hk : xs[i]? = some x) (S : Sat W w (vR x :: vals (xs.eraseIdx i) :: L)) : Sat W w (vals xs :: L) :=
  Sat.vals_perm (erase_perm hk) (Sat.stars_uncons (Rs := (xs.eraseIdx i).map vR) S)
theorem Sat.vals_part {xs ys R : List ItA} (h : xs.Perm (ys ++ R)) (S : Sat W w (vals xs :: L)) : Sat W w (vals ys :: L) := by
  have S1 := Sat.vals_perm h S
  unfold vals at S1
  rw [List.map_append] at S1
  exact (S1.stars_two.perm (List.Perm.swap _ _ _)).tail
theorem Sat.vals_del {xs : List ItA} {k : ByteArray} (S : Sat W w (vals xs :: L)) : Sat W w (vals (del ItA.f_key k xs) :: L) :=
  let ⟨R, hR⟩ : ∃ R, xs.Perm (del ItA.f_key k xs ++ R) := ⟨_, (List.filter_append_perm _ xs).symm⟩
  Sat.vals_part hR S
theorem ins_perm {x : ItA} : ∀ {xs : List ItA}, ∃ R, (x :: xs).Perm (ins ItA.f_key strlt x xs ++ R)
  | [] => ⟨[], by simp [ins]⟩
  | y :: ys => by
    rw [ins]
    split
    · exact ⟨[], by simp⟩
    · split
      · obtain ⟨R, hR⟩ := ins_perm (x := x) (xs := ys)
        exact ⟨R, (List.Perm.swap _ _ _).trans (hR.cons y)⟩
      · exact ⟨[y], by
          show (x :: y :: ys).Perm (x :: (ys ++ [y]))
          exact (List.perm_append_comm (l₁ := [y]) (l₂ := ys)).cons x⟩
theorem Sat.vals_ins {xs : List ItA} {x : ItA} (S : Sat W w (vR x :: vals xs :: L)) : Sat W w (vals (ins ItA.f_key strlt x xs) :: L) := by
  obtain ⟨R, hR⟩ := ins_perm (x := x) (xs := xs)
  exact Sat.vals_part hR (Sat.stars_uncons (A := vR x) (Rs := xs.map vR) S)
theorem Sat.vals_nil (S : Sat W w L) : Sat W w (vals [] :: L) := Sat.unflat (Ls := []) S
end
end
end Go.Proofs.Ytnfbjidpiglabaa
