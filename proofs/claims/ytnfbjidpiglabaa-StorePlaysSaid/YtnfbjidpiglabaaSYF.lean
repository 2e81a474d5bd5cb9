/- Texts of the proof: TDelA, GetA, Storep, Clone, Default, Get6, Set6, Move6, Lastp, RefSp, RDef, RSet, ROps, Ranp, Same6. -/
import Derived.Test.YtnfbjidpiglabaaSYE
namespace Go.Proofs.Ytnfbjidpiglabaa
section
set_option linter.unusedVariables false
set_option linter.unusedSimpArgs false
set_option maxRecDepth 10000
open Go.RowKit Classical
set_option maxHeartbeats 2000000 in
theorem tdel_A {W : World} {F : List Res} {t : Nat} {xs : List ItA} {k : ByteArray} (hb : (xs.length : Int) < 9223372036854775807) : CS Try.prog 54 #[.pointer (some ⟨t, 0, none⟩), .string k] W (treeR e_ItA eN99 103 105 ItA.f_key strlt t xs :: F) (fun r L' => ∃ (v : Rec) (ok : Bool), GetG ItA.f_key ItA.f_value xs k v ok ∧ r = .tuple #[.agg #[.bool v.f_Has, .slice v.f_Value.a (v.f_Value.xs).length v.f_Value.c, .int .i64 v.f_Home, .int .u64 v.f_Count], .bool ok] ∧ L' = treeR e_ItA eN99 103 105 ItA.f_key strlt t (del ItA.f_key k xs) :: F) := by
 refine f_door (l0 := [(0, .pointer (some ⟨t, 0, none⟩)), (1, .string k)]) Try.func54 Try.ntmps54 rfl rfl rfl ?_
 refine c_seq ?_
 refine c_region ?_
 refine o_alloc rfl ti36 fun b4 => ?_
 refine o_assign rfl rfl ?_
 refine l_nil ?_
 refine q_then ?_
 refine c_seq ?_
 refine c_conv (fun w S => S.perm p1) ?_
 refine c_tree ?_
 rintro d rb srt
 refine c_conv (L' := blk t (.cells #[.pointer (some ⟨rb, 0, none⟩), .int .i64 ((xs).length : Int)] 105 (0, 0)) :: nodeR e_ItA eN99 103 d 0 rb xs :: blk b4 (.cells #[.bool false, .slice none 0 0, .int .i64 0, .int .u64 0] 36 (0, 0)) :: F) (fun w S => S) ?_
 refine c_region ?_
 refine o_move rfl rfl ?_
 refine o_nil rfl rfl ?_
 refine o_fieldAddr (q := ⟨t, 0, none⟩) rfl rfl Try.underlying105 rfl ti99 rfl ?_
 refine o_load1 rfl rfl Try.underlying99 rfl (rd_mem 0 rfl rfl) ?_
 refine o_move rfl rfl ?_
 refine l_f1 ?_
 refine o_call rfl cal65 rfl (take_A d srt) ?_
 rintro _ _ ⟨v12, ok12, hg12, rfl, rfl⟩
 refine o_move rfl rfl ?_
 refine o_extract rfl rfl rfl ?_
 refine o_extract rfl rfl rfl ?_
 refine l_f2 ?_
 refine o_storen rfl rfl ti36 rfl rfl rfl rfl ?_
 refine o_assign rfl rfl ?_
 refine l_nil ?_
 refine q_then ?_
 refine c_seq ?_
 refine c_seq ?_
 refine c_conv (fun w S => S.perm p1) ?_
 refine c_nodeO ?_
 rintro q hq
 refine c_conv (L' := blk rb (.cells #[.slice q.a (q.items).length q.c, .slice q.ak ((q.kids.map Prod.fst)).length q.ck] 103 (0, 0)) :: row e_ItA.T e_ItA.sz q.a (q.items).length q.c (flat e_ItA q.items) :: row eN99.T eN99.sz q.ak ((q.kids.map Prod.fst)).length q.ck (flat eN99 (q.kids.map Prod.fst)) :: kidsR e_ItA eN99 103 d q.kids :: blk b4 (.cells #[.bool v12.f_Has, .slice v12.f_Value.a (v12.f_Value.xs).length v12.f_Value.c, .int .i64 v12.f_Home, .int .u64 v12.f_Count] 36 (0, 0)) :: blk t (.cells #[.pointer (some ⟨rb, 0, none⟩), .int .i64 ((xs).length : Int)] 105 (0, 0)) :: F) (fun w S => S) ?_
 refine c_region ?_
 refine o_move rfl rfl ?_
 refine o_nil rfl rfl ?_
 refine o_fieldAddr (q := ⟨t, 0, none⟩) rfl rfl Try.underlying105 rfl ti99 rfl ?_
 refine o_load1 rfl rfl Try.underlying99 rfl (rd_mem 5 rfl rfl) ?_
 refine o_nil rfl rfl ?_
 refine o_fieldAddr (q := ⟨rb, 0, none⟩) rfl rfl Try.underlying103 rfl ti100 rfl ?_
 refine o_load1 rfl rfl Try.underlying100 rfl (rd_mem 0 rfl rfl) ?_
 refine o_len rfl rfl Try.underlying100 ?_
 refine o_bin rfl rfl rfl b_eql ?_
 refine o_move rfl rfl ?_
 refine l_split (t := 24) rfl (fun h1 => ?_) (fun h1 => ?_)
 · -- h1T
  have h1b := h1
  try simp only [decide_eq_true_eq] at h1
  refine o_yes rfl rfl rfl ?_
  refine o_move rfl rfl ?_
  refine o_yes rfl rfl rfl ?_
  refine o_nil rfl rfl ?_
  refine o_yes rfl rfl rfl ?_
  refine o_fieldAddr (q := ⟨t, 0, none⟩) rfl rfl Try.underlying105 rfl ti99 rfl ?_
  refine o_yes rfl rfl rfl ?_
  refine o_load1 rfl rfl Try.underlying99 rfl (rd_mem 5 rfl rfl) ?_
  refine o_yes rfl rfl rfl ?_
  refine o_nil rfl rfl ?_
  refine o_yes rfl rfl rfl ?_
  refine o_fieldAddr (q := ⟨rb, 1, none⟩) rfl rfl Try.underlying103 rfl ti101 rfl ?_
  refine o_yes rfl rfl rfl ?_
  refine o_load1 rfl rfl Try.underlying101 rfl (rd_mem 0 rfl rfl) ?_
  refine o_yes rfl rfl rfl ?_
  refine o_len rfl rfl Try.underlying101 ?_
  refine o_yes rfl rfl rfl ?_
  refine o_bin rfl rfl rfl b_eql ?_
  refine o_pick_true rfl rfl rfl ?_
  refine l_nil ?_
  refine q_then ?_
  refine c_cond rfl (fun h2 => ?_) (fun h2 => ?_)
  · -- h2T
   have h2b := h2
   try simp only [decide_eq_true_eq] at h2
   obtain ⟨d', kb, hd, hk⟩ := root_kid hq (by omega) (by omega)
   refine c_region ?_
   refine o_move rfl rfl ?_
   refine o_move rfl rfl ?_
   refine o_nil rfl rfl ?_
   refine o_fieldAddr (q := ⟨t, 0, none⟩) rfl rfl Try.underlying105 rfl ti99 rfl ?_
   refine o_load1 rfl rfl Try.underlying99 rfl (rd_mem 5 rfl rfl) ?_
   refine o_nil rfl rfl ?_
   refine o_fieldAddr (q := ⟨rb, 1, none⟩) rfl rfl Try.underlying103 rfl ti101 rfl ?_
   refine o_load1 rfl rfl Try.underlying101 rfl (rd_mem 0 rfl rfl) ?_
   refine o_index eN99_ok rfl rfl rfl Try.underlying101 (by omega) (by omega) (rds_own eN99_ok 2 rfl) fun ad43 ead43 => ?_
   obtain ⟨x43, hx43⟩ : ∃ x, ((q.kids.map Prod.fst))[((0 : Int)).toNat]? = some x := ⟨_, List.getElem?_eq_getElem (by omega)⟩
   have hxk : x43 = kb := by have h9 := hx43; rw [hk] at h9; exact (Option.some.inj h9).symm
   refine o_load1 rfl rfl Try.underlying99 rfl (rd_sl0 eN99_ok ead43 (rds_own eN99_ok 2 rfl) hx43 rfl) ?_
   refine l_eq (t := 44) (v' := .pointer (some ⟨kb, 0, none⟩)) rfl (by rw [hxk]) ?_
   refine o_nil rfl rfl ?_
   refine o_fieldAddr (q := ⟨t, 0, none⟩) rfl rfl Try.underlying105 rfl ti99 rfl ?_
   refine l_f5 ?_
   refine o_store1 rfl rfl rfl ti99 rfl rfl ?_
   refine l_nil ?_
   refine q_then ?_
   refine c_seq ?_
   refine c_seq ?_
   refine c_region ?_
   refine o_move rfl rfl ?_
   refine l_nil ?_
   refine q_then ?_
   refine c_cond rfl (fun h3 => ?_) (fun h3 => ?_)
   · -- h3T
    have h3b := h3
    try simp only [decide_eq_true_eq, decide_eq_false_iff_not, Bool.not_eq_eq_eq_not, Bool.not_true, Bool.not_false, Bool.not_eq_true', Bool.not_eq_false', Int.not_lt, Int.not_le, Bool.or_eq_true, Bool.and_eq_true] at h3
    refine c_region ?_
    refine o_move rfl rfl ?_
    refine o_nil rfl rfl ?_
    refine o_fieldAddr (q := ⟨t, 1, none⟩) rfl rfl Try.underlying105 rfl ti3 rfl ?_
    refine o_load1 rfl rfl Try.underlying3 rfl (rd_mem 0 rfl rfl) ?_
    refine o_bin rfl rfl rfl (b_sub (wrap_i64 (by omega) (by omega))) ?_
    refine o_nil rfl rfl ?_
    refine o_fieldAddr (q := ⟨t, 1, none⟩) rfl rfl Try.underlying105 rfl ti3 rfl ?_
    refine o_store1 rfl rfl rfl ti3 rfl rfl ?_
    refine l_nil ?_
    refine q_then ?_
    refine c_seq ?_
    refine c_region ?_
    refine o_loadn (vs := [_, _, _, _]) rfl rfl Try.underlying36 rfl ti36 (rdn_lit 5 rfl rfl) ?_
    refine o_move rfl rfl ?_
    refine l_f5 ?_
    refine o_storen rfl rfl ti36 rfl rfl rfl rfl ?_
    refine o_assign rfl rfl ?_
    refine l_nil ?_
    refine q_then ?_
    refine c_ret ?_
    refine f_retq (.inl rfl) (rs_2 rfl (rs_celln (vs := [.bool v12.f_Has, .slice v12.f_Value.a (v12.f_Value.xs).length v12.f_Value.c, .int .i64 v12.f_Home, .int .u64 v12.f_Count]) rfl Try.underlying36 rfl ti36 (rdn_lit 0 rfl rfl)) (rs_tmp rfl)) (fun w S => ?_)
    have hlen : ((del ItA.f_key k xs).length : Int) = ((xs).length : Int) - 1 := by have h9 := del_len strlt_sto srt hg12; rw [show ok12 = true from by assumption] at h9; simpa using h9
    replace S := S.tail
    replace S := (S.perm p1).tail
    replace S := (S.perm p1).tail
    replace S := (S.perm p1).tail
    replace S := S.perm p1
    exact ⟨_, ⟨v12, ok12, hg12, rfl, rfl⟩, (fun w S => treeMk d' kb (srt_del srt) (by rw [hlen]; exact (root_down hd hk S).perm p1)) w S⟩
   · -- h3F
    have h3b := h3
    try simp only [decide_eq_true_eq, decide_eq_false_iff_not, Bool.not_eq_eq_eq_not, Bool.not_true, Bool.not_false, Bool.not_eq_true', Bool.not_eq_false', Int.not_lt, Int.not_le, Bool.or_eq_true, Bool.and_eq_true] at h3
    refine c_skip ?_
    refine q_then ?_
    refine c_seq ?_
    refine c_region ?_
    refine o_loadn (vs := [_, _, _, _]) rfl rfl Try.underlying36 rfl ti36 (rdn_lit 5 rfl rfl) ?_
    refine o_move rfl rfl ?_
    refine l_f5 ?_
    refine o_storen rfl rfl ti36 rfl rfl rfl rfl ?_
    refine o_assign rfl rfl ?_
    refine l_nil ?_
    refine q_then ?_
    refine c_ret ?_
    refine f_retq (.inl rfl) (rs_2 rfl (rs_celln (vs := [.bool v12.f_Has, .slice v12.f_Value.a (v12.f_Value.xs).length v12.f_Value.c, .int .i64 v12.f_Home, .int .u64 v12.f_Count]) rfl Try.underlying36 rfl ti36 (rdn_lit 0 rfl rfl)) (rs_tmp rfl)) (fun w S => ?_)
    have hlen : ((del ItA.f_key k xs).length : Int) = ((xs).length : Int) := by have h9 := del_len strlt_sto srt hg12; rw [show ok12 = false from by assumption] at h9; simpa using h9
    replace S := S.tail
    replace S := (S.perm p1).tail
    replace S := (S.perm p1).tail
    replace S := (S.perm p1).tail
    replace S := S.perm p1
    exact ⟨_, ⟨v12, ok12, hg12, rfl, rfl⟩, (fun w S => treeMk d' kb (srt_del srt) (by rw [hlen]; exact (root_down hd hk S).perm p1)) w S⟩
  · -- h2F
   have h2b := h2
   try simp only [decide_eq_false_iff_not, Int.not_lt, Int.not_le] at h2
   refine c_skip ?_
   refine q_then ?_
   refine c_seq ?_
   refine c_seq ?_
   refine c_region ?_
   refine o_move rfl rfl ?_
   refine l_nil ?_
   refine q_then ?_
   refine c_cond rfl (fun h4 => ?_) (fun h4 => ?_)
   · -- h4T
    have h4b := h4
    try simp only [decide_eq_true_eq, decide_eq_false_iff_not, Bool.not_eq_eq_eq_not, Bool.not_true, Bool.not_false, Bool.not_eq_true', Bool.not_eq_false', Int.not_lt, Int.not_le, Bool.or_eq_true, Bool.and_eq_true] at h4
    refine c_region ?_
    refine o_move rfl rfl ?_
    refine o_nil rfl rfl ?_
    refine o_fieldAddr (q := ⟨t, 1, none⟩) rfl rfl Try.underlying105 rfl ti3 rfl ?_
    refine o_load1 rfl rfl Try.underlying3 rfl (rd_mem 5 rfl rfl) ?_
    refine o_bin rfl rfl rfl (b_sub (wrap_i64 (by omega) (by omega))) ?_
    refine o_nil rfl rfl ?_
    refine o_fieldAddr (q := ⟨t, 1, none⟩) rfl rfl Try.underlying105 rfl ti3 rfl ?_
    refine l_f5 ?_
    refine o_store1 rfl rfl rfl ti3 rfl rfl ?_
    refine l_nil ?_
    refine q_then ?_
    refine c_seq ?_
    refine c_region ?_
    refine o_loadn (vs := [_, _, _, _]) rfl rfl Try.underlying36 rfl ti36 (rdn_lit 5 rfl rfl) ?_
    refine o_move rfl rfl ?_
    refine l_f5 ?_
    refine o_storen rfl rfl ti36 rfl rfl rfl rfl ?_
    refine o_assign rfl rfl ?_
    refine l_nil ?_
    refine q_then ?_
    refine c_ret ?_
    refine f_retq (.inl rfl) (rs_2 rfl (rs_celln (vs := [.bool v12.f_Has, .slice v12.f_Value.a (v12.f_Value.xs).length v12.f_Value.c, .int .i64 v12.f_Home, .int .u64 v12.f_Count]) rfl Try.underlying36 rfl ti36 (rdn_lit 0 rfl rfl)) (rs_tmp rfl)) (fun w S => ?_)
    have hlen : ((del ItA.f_key k xs).length : Int) = ((xs).length : Int) - 1 := by have h9 := del_len strlt_sto srt hg12; rw [show ok12 = true from by assumption] at h9; simpa using h9
    replace S := S.tail
    replace S := S.perm p4
    replace S := S.perm p4
    replace S := S.perm p4
    replace S := S.perm p4
    exact ⟨_, ⟨v12, ok12, hg12, rfl, rfl⟩, (fun w S => treeMk d rb (srt_del srt) (by rw [hlen]; exact (nodeMk q (root_full hq (by omega)) S).perm p1)) w S⟩
   · -- h4F
    have h4b := h4
    try simp only [decide_eq_true_eq, decide_eq_false_iff_not, Bool.not_eq_eq_eq_not, Bool.not_true, Bool.not_false, Bool.not_eq_true', Bool.not_eq_false', Int.not_lt, Int.not_le, Bool.or_eq_true, Bool.and_eq_true] at h4
    refine c_skip ?_
    refine q_then ?_
    refine c_seq ?_
    refine c_region ?_
    refine o_loadn (vs := [_, _, _, _]) rfl rfl Try.underlying36 rfl ti36 (rdn_lit 4 rfl rfl) ?_
    refine o_move rfl rfl ?_
    refine l_f4 ?_
    refine o_storen rfl rfl ti36 rfl rfl rfl rfl ?_
    refine o_assign rfl rfl ?_
    refine l_nil ?_
    refine q_then ?_
    refine c_ret ?_
    refine f_retq (.inl rfl) (rs_2 rfl (rs_celln (vs := [.bool v12.f_Has, .slice v12.f_Value.a (v12.f_Value.xs).length v12.f_Value.c, .int .i64 v12.f_Home, .int .u64 v12.f_Count]) rfl Try.underlying36 rfl ti36 (rdn_lit 0 rfl rfl)) (rs_tmp rfl)) (fun w S => ?_)
    have hlen : ((del ItA.f_key k xs).length : Int) = ((xs).length : Int) := by have h9 := del_len strlt_sto srt hg12; rw [show ok12 = false from by assumption] at h9; simpa using h9
    replace S := S.tail
    exact ⟨_, ⟨v12, ok12, hg12, rfl, rfl⟩, (fun w S => treeMk d rb (srt_del srt) (by rw [hlen]; exact (nodeMk q (root_full hq (by omega)) S).perm p1)) w S⟩
 · -- h1F
  have h1b := h1
  try simp only [decide_eq_false_iff_not, Int.not_lt, Int.not_le] at h1
  refine o_no rfl rfl rfl rfl ?_
  refine o_no rfl rfl rfl rfl ?_
  refine o_no rfl rfl rfl rfl ?_
  refine o_no rfl rfl rfl rfl ?_
  refine o_no rfl rfl rfl rfl ?_
  refine o_no rfl rfl rfl rfl ?_
  refine o_no rfl rfl rfl rfl ?_
  refine o_no rfl rfl rfl rfl ?_
  refine o_no rfl rfl rfl rfl ?_
  refine o_pick_false rfl rfl rfl ?_
  refine l_nil ?_
  refine q_then ?_
  refine c_false rfl ?_
  refine c_skip ?_
  refine q_then ?_
  refine c_seq ?_
  refine c_seq ?_
  refine c_region ?_
  refine o_move rfl rfl ?_
  refine l_nil ?_
  refine q_then ?_
  refine c_cond rfl (fun h5 => ?_) (fun h5 => ?_)
  · -- h5T
   have h5b := h5
   try simp only [decide_eq_true_eq, decide_eq_false_iff_not, Bool.not_eq_eq_eq_not, Bool.not_true, Bool.not_false, Bool.not_eq_true', Bool.not_eq_false', Int.not_lt, Int.not_le, Bool.or_eq_true, Bool.and_eq_true] at h5
   refine c_region ?_
   refine o_move rfl rfl ?_
   refine o_nil rfl rfl ?_
   refine o_fieldAddr (q := ⟨t, 1, none⟩) rfl rfl Try.underlying105 rfl ti3 rfl ?_
   refine o_load1 rfl rfl Try.underlying3 rfl (rd_mem 5 rfl rfl) ?_
   refine o_bin rfl rfl rfl (b_sub (wrap_i64 (by omega) (by omega))) ?_
   refine o_nil rfl rfl ?_
   refine o_fieldAddr (q := ⟨t, 1, none⟩) rfl rfl Try.underlying105 rfl ti3 rfl ?_
   refine l_f5 ?_
   refine o_store1 rfl rfl rfl ti3 rfl rfl ?_
   refine l_nil ?_
   refine q_then ?_
   refine c_seq ?_
   refine c_region ?_
   refine o_loadn (vs := [_, _, _, _]) rfl rfl Try.underlying36 rfl ti36 (rdn_lit 5 rfl rfl) ?_
   refine o_move rfl rfl ?_
   refine l_f5 ?_
   refine o_storen rfl rfl ti36 rfl rfl rfl rfl ?_
   refine o_assign rfl rfl ?_
   refine l_nil ?_
   refine q_then ?_
   refine c_ret ?_
   refine f_retq (.inl rfl) (rs_2 rfl (rs_celln (vs := [.bool v12.f_Has, .slice v12.f_Value.a (v12.f_Value.xs).length v12.f_Value.c, .int .i64 v12.f_Home, .int .u64 v12.f_Count]) rfl Try.underlying36 rfl ti36 (rdn_lit 0 rfl rfl)) (rs_tmp rfl)) (fun w S => ?_)
   have hlen : ((del ItA.f_key k xs).length : Int) = ((xs).length : Int) - 1 := by have h9 := del_len strlt_sto srt hg12; rw [show ok12 = true from by assumption] at h9; simpa using h9
   replace S := S.tail
   replace S := S.perm p4
   replace S := S.perm p4
   replace S := S.perm p4
   replace S := S.perm p4
   exact ⟨_, ⟨v12, ok12, hg12, rfl, rfl⟩, (fun w S => treeMk d rb (srt_del srt) (by rw [hlen]; exact (nodeMk q (root_full hq (by omega)) S).perm p1)) w S⟩
  · -- h5F
   have h5b := h5
   try simp only [decide_eq_true_eq, decide_eq_false_iff_not, Bool.not_eq_eq_eq_not, Bool.not_true, Bool.not_false, Bool.not_eq_true', Bool.not_eq_false', Int.not_lt, Int.not_le, Bool.or_eq_true, Bool.and_eq_true] at h5
   refine c_skip ?_
   refine q_then ?_
   refine c_seq ?_
   refine c_region ?_
   refine o_loadn (vs := [_, _, _, _]) rfl rfl Try.underlying36 rfl ti36 (rdn_lit 4 rfl rfl) ?_
   refine o_move rfl rfl ?_
   refine l_f4 ?_
   refine o_storen rfl rfl ti36 rfl rfl rfl rfl ?_
   refine o_assign rfl rfl ?_
   refine l_nil ?_
   refine q_then ?_
   refine c_ret ?_
   refine f_retq (.inl rfl) (rs_2 rfl (rs_celln (vs := [.bool v12.f_Has, .slice v12.f_Value.a (v12.f_Value.xs).length v12.f_Value.c, .int .i64 v12.f_Home, .int .u64 v12.f_Count]) rfl Try.underlying36 rfl ti36 (rdn_lit 0 rfl rfl)) (rs_tmp rfl)) (fun w S => ?_)
   have hlen : ((del ItA.f_key k xs).length : Int) = ((xs).length : Int) := by have h9 := del_len strlt_sto srt hg12; rw [show ok12 = false from by assumption] at h9; simpa using h9
   replace S := S.tail
   exact ⟨_, ⟨v12, ok12, hg12, rfl, rfl⟩, (fun w S => treeMk d rb (srt_del srt) (by rw [hlen]; exact (nodeMk q (root_full hq (by omega)) S).perm p1)) w S⟩
end
section
set_option linter.unusedVariables false
set_option linter.unusedSimpArgs false
set_option maxRecDepth 10000
open Go.RowKit Classical
set_option maxHeartbeats 1000000 in
theorem tget_A {W : World} {F : List Res} {t : Nat} {xs : List ItA} {k : ByteArray} : CS Try.prog 32 #[.pointer (some ⟨t, 0, none⟩), .string k] W (treeR e_ItA eN99 103 105 ItA.f_key strlt t xs :: F) (fun r L' => ∃ (v : Rec) (ok : Bool), GetG ItA.f_key ItA.f_value xs k v ok ∧ (ok = false → v = (⟨false, ⟨none, [], 0⟩, 0, 0⟩ : Rec)) ∧ r = .tuple #[.agg #[.bool v.f_Has, .slice v.f_Value.a (v.f_Value.xs).length v.f_Value.c, .int .i64 v.f_Home, .int .u64 v.f_Count], .bool ok] ∧ L' = treeR e_ItA eN99 103 105 ItA.f_key strlt t xs :: F) := by
 refine f_door (l0 := [(0, .pointer (some ⟨t, 0, none⟩)), (1, .string k)]) Try.func32 Try.ntmps32 rfl rfl rfl ?_
 refine c_seq ?_
 refine c_region ?_
 refine o_alloc rfl ti36 fun b4 => ?_
 refine o_assign rfl rfl ?_
 refine l_nil ?_
 refine q_then ?_
 refine c_seq ?_
 refine c_conv (fun w S => S.perm p1) ?_
 refine c_tree ?_
 rintro d rb srt
 refine c_conv (L' := blk t (.cells #[.pointer (some ⟨rb, 0, none⟩), .int .i64 ((xs).length : Int)] 105 (0, 0)) :: nodeR e_ItA eN99 103 d 0 rb xs :: blk b4 (.cells #[.bool false, .slice none 0 0, .int .i64 0, .int .u64 0] 36 (0, 0)) :: F) (fun w S => S) ?_
 have srt0 := srt
 refine c_region ?_
 refine o_move rfl rfl ?_
 refine o_nil rfl rfl ?_
 refine o_fieldAddr (q := ⟨t, 0, none⟩) rfl rfl Try.underlying105 rfl ti99 rfl ?_
 refine o_load1 rfl rfl Try.underlying99 rfl (rd_mem 0 rfl rfl) ?_
 refine o_assign rfl rfl ?_
 refine l_nil ?_
 refine q_then ?_
 refine c_block ?_
 refine c_conv (fun w S => S.perm p2) ?_
 refine c_conv (fun w S => S.perm p2) ?_
 refine c_conv (L' := nodeR e_ItA eN99 103 d 0 rb xs :: blk b4 (.cells #[.bool false, .slice none 0 0, .int .i64 0, .int .u64 0] 36 (0, 0)) :: (blk t (.cells #[.pointer (some ⟨rb, 0, none⟩), .int .i64 ((xs).length : Int)] 105 (0, 0)) :: F)) (fun w S => S) ?_
 refine c_loop (α := Nat × Nat × Nat × (List ItA) × (List Res)) (fun z => [(1, .string k), (4, .pointer (some ⟨b4, 0, none⟩)), (6, .pointer (some ⟨z.2.1, 0, none⟩))]) (fun z => nodeR e_ItA eN99 103 z.1 z.2.2.1 z.2.1 z.2.2.2.1 :: blk b4 (.cells #[.bool false, .slice none 0 0, .int .i64 0, .int .u64 0] 36 (0, 0)) :: z.2.2.2.2) (fun z => Srt ItA.f_key strlt z.2.2.2.1 ∧ (∀ w, Sat W w (nodeR e_ItA eN99 103 z.1 z.2.2.1 z.2.1 z.2.2.2.1 :: z.2.2.2.2) → Sat W w (treeR e_ItA eN99 103 105 ItA.f_key strlt t xs :: F)) ∧ (∀ y ∈ z.2.2.2.1, y ∈ xs) ∧ (∀ y ∈ xs, y.f_key = k → y ∈ z.2.2.2.1)) (fun z => z.1) (d, rb, 0, xs, (blk t (.cells #[.pointer (some ⟨rb, 0, none⟩), .int .i64 ((xs).length : Int)] 105 (0, 0)) :: F)) (by exact ⟨srt, fun w S => treeMk d rb srt (S.perm (List.Perm.swap _ _ _)), fun y hy => hy, fun y hy _ => hy⟩) ⟨(by first | rfl | exact vint (by omega)), (by first | rfl | exact vint (by omega)), (by first | rfl | exact vint (by omega)), trivial⟩ (fun w S => S) ?_
 rintro ⟨d1, b1, mn1, ys1, R⟩ ⟨srt1, hback, hsub, hin⟩
 try dsimp only at *
 refine c_block ?_
 refine c_seq ?_
 refine c_node ?_
 rintro q hq
 have hsi := hq.srt strlt_sto srt1
 have hle := hq.le
 have hsh := hq.sh
 refine c_conv (L' := blk b1 (.cells #[.slice q.a (q.items).length q.c, .slice q.ak ((q.kids.map Prod.fst)).length q.ck] 103 (0, 0)) :: row e_ItA.T e_ItA.sz q.a (q.items).length q.c (flat e_ItA q.items) :: row eN99.T eN99.sz q.ak ((q.kids.map Prod.fst)).length q.ck (flat eN99 (q.kids.map Prod.fst)) :: kidsR e_ItA eN99 103 d1 q.kids :: blk b4 (.cells #[.bool false, .slice none 0 0, .int .i64 0, .int .u64 0] 36 (0, 0)) :: R) (fun w S => S) ?_
 have hor := hsh.or
 refine c_region ?_
 refine o_move rfl rfl ?_
 refine o_move rfl rfl ?_
 refine l_f1 ?_
 refine l_f1 ?_
 refine o_call rfl cal56 rfl (search_A (k := k) (by omega) hsi) ?_
 rintro _ _ ⟨i16, fd16, ⟨hF16, hfd16⟩, rfl, rfl⟩
 refine o_move rfl rfl ?_
 refine o_extract rfl rfl rfl ?_
 refine o_extract rfl rfl rfl ?_
 refine o_assign rfl rfl ?_
 refine o_assign rfl rfl ?_
 refine l_nil ?_
 refine q_then ?_
 refine c_seq ?_
 refine c_seq ?_
 refine c_region ?_
 refine o_move rfl rfl ?_
 refine l_nil ?_
 refine q_then ?_
 refine c_cond rfl (fun h1 => ?_) (fun h1 => ?_)
 · -- h1T
  have h1b := h1
  try simp only [decide_eq_true_eq, decide_eq_false_iff_not, Bool.not_eq_eq_eq_not, Bool.not_true, Bool.not_false, Bool.not_eq_true', Bool.not_eq_false', Int.not_lt, Int.not_le, Bool.or_eq_true, Bool.and_eq_true] at h1
  refine c_seq ?_
  have hfi := hfd16.1 (by simpa using h1b)
  refine c_fact (p := ∃ ad, q.a = some ad) (rds_some (e := e_ItA) (xs := q.items) (rds_own e_ItA_ok 1 rfl) (by obtain ⟨y, hy, _⟩ := hfi; intro h0; rw [h0] at hy; simp at hy)) ?_
  rintro ⟨adx, eadx⟩
  obtain ⟨yf, hyf, hkf⟩ := hfi
  have hil := (List.getElem?_eq_some_iff.1 hyf).1
  refine c_region ?_
  refine o_move rfl rfl ?_
  refine o_nil rfl rfl ?_
  refine o_fieldAddr (q := ⟨b1, 0, none⟩) rfl rfl Try.underlying103 rfl ti100 rfl ?_
  refine o_load1 rfl rfl Try.underlying100 rfl (rd_mem 0 rfl rfl) ?_
  refine o_move rfl rfl ?_
  refine o_indexK e_ItA_ok eadx rfl rfl rfl Try.underlying100 (by omega) (by omega) ?_
  obtain ⟨x25, hx25⟩ : ∃ x, (q.items)[((i16 : Int)).toNat]? = some x := ⟨_, List.getElem?_eq_getElem (by omega)⟩
  have hkx : x25.f_key = k := by rw [show q.items[i16]? = some x25 from hx25] at hyf; cases hyf; exact hkf
  refine o_fieldAddr rfl rfl Try.underlying110 rfl ti36 (Addr.add_add' _ _ _) ?_
  refine o_loadn (vs := [.bool x25.f_value.f_Has, .slice x25.f_value.f_Value.a (x25.f_value.f_Value.xs).length x25.f_value.f_Value.c, .int .i64 x25.f_value.f_Home, .int .u64 x25.f_value.f_Count]) rfl rfl Try.underlying36 rfl ti36 (rdn_slo (n := 4) e_ItA_ok eadx (rds_own e_ItA_ok 1 rfl) hx25 rfl) ?_
  refine l_f4 ?_
  refine o_storen rfl rfl ti36 rfl rfl rfl rfl ?_
  refine o_assign rfl rfl ?_
  refine l_nil ?_
  refine q_then ?_
  refine c_ret ?_
  refine q_pass_ret ?_
  refine q_block_ret ?_
  refine q_pass_ret ?_
  refine q_block_ret ?_
  refine f_retq (.inl rfl) (rs_2 rfl (rs_celln (vs := [.bool x25.f_value.f_Has, .slice x25.f_value.f_Value.a (x25.f_value.f_Value.xs).length x25.f_value.f_Value.c, .int .i64 x25.f_value.f_Home, .int .u64 x25.f_value.f_Count]) rfl Try.underlying36 rfl ti36 (rdn_lit 0 rfl rfl)) (rs_tmp rfl)) (fun w S => ?_)
  replace S := S.tail
  exact ⟨_, ⟨x25.f_value, true, ⟨⟨fun _ => ⟨x25, hsub x25 (hq.is ▸ mem_weave_item hor (show q.items[i16]? = some x25 from hx25)), hkx⟩, fun _ => rfl⟩, fun _ y hy hk => by rw [one_key strlt_sto srt0 hy (hsub x25 (hq.is ▸ mem_weave_item hor (show q.items[i16]? = some x25 from hx25))) (hk.trans hkx.symm)]⟩, (fun h9 => (by cases h9)), rfl, rfl⟩, (fun w S => hback w (nodeMk q hq S)) w S⟩
 · -- h1F
  have h1b := h1
  try simp only [decide_eq_true_eq, decide_eq_false_iff_not, Bool.not_eq_eq_eq_not, Bool.not_true, Bool.not_false, Bool.not_eq_true', Bool.not_eq_false', Int.not_lt, Int.not_le, Bool.or_eq_true, Bool.and_eq_true] at h1
  refine c_skip ?_
  refine q_then ?_
  refine c_seq ?_
  refine c_seq ?_
  have hnf : ¬ ∃ y, q.items[i16]? = some y ∧ y.f_key = k := fun h9 => by rw [hfd16.2 h9] at h1b; cases h1b
  have hkm : (q.kids.map Prod.fst).length = q.kids.length := List.length_map _
  refine c_region ?_
  refine o_move rfl rfl ?_
  refine o_nil rfl rfl ?_
  refine o_fieldAddr (q := ⟨b1, 1, none⟩) rfl rfl Try.underlying103 rfl ti101 rfl ?_
  refine o_load1 rfl rfl Try.underlying101 rfl (rd_mem 0 rfl rfl) ?_
  refine o_len rfl rfl Try.underlying101 ?_
  refine o_bin rfl rfl rfl b_eql ?_
  refine l_nil ?_
  refine q_then ?_
  refine c_cond rfl (fun h2 => ?_) (fun h2 => ?_)
  · -- h2T
   have h2b := h2
   try simp only [decide_eq_true_eq] at h2
   refine c_seq ?_
   have hk0 : q.kids = [] := List.eq_nil_of_length_eq_zero (by omega)
   refine c_region ?_
   refine o_loadn (vs := [.bool false, .slice none 0 0, .int .i64 0, .int .u64 0]) rfl rfl Try.underlying36 rfl ti36 (rdn_lit 4 rfl rfl) ?_
   refine l_f4 ?_
   refine o_storen rfl rfl ti36 rfl rfl rfl rfl ?_
   refine o_assign rfl rfl ?_
   refine l_nil ?_
   refine q_then ?_
   refine c_ret ?_
   refine q_pass_ret ?_
   refine q_block_ret ?_
   refine q_pass_ret ?_
   refine q_block_ret ?_
   refine f_retq (.inl rfl) (rs_2 rfl (rs_celln (vs := [.bool false, .slice none 0 0, .int .i64 0, .int .u64 0]) rfl Try.underlying36 rfl ti36 (rdn_lit 0 rfl rfl)) (rs_tmp rfl)) (fun w S => ?_)
   replace S := S.tail
   exact ⟨_, ⟨(⟨false, ⟨none, [], 0⟩, 0, 0⟩ : Rec), false, ⟨⟨fun h9 => (by cases h9), fun ⟨y, hy, hk⟩ => absurd ⟨y, hin y hy hk, hk⟩ (leaf_none strlt_sto hq srt1 hF16 hnf hk0)⟩, fun h9 => (by cases h9)⟩, (fun _ => rfl), rfl, rfl⟩, (fun w S => hback w (nodeMk q hq S)) w S⟩
  · -- h2F
   have h2b := h2
   try simp only [decide_eq_false_iff_not, Int.not_lt, Int.not_le] at h2
   refine c_skip ?_
   refine q_then ?_
   have hkl : q.kids.length = q.items.length + 1 := by rcases hsh with ⟨_, h9⟩ | ⟨_, h9, _⟩; exact absurd (show ((q.kids.map Prod.fst).length : Int) = 0 by rw [h9]; rfl) (by assumption); exact h9
   have hd0 : d1 ≠ 0 := by rcases hsh with ⟨_, h9⟩ | ⟨h9, _, _⟩; exact absurd (show ((q.kids.map Prod.fst).length : Int) = 0 by rw [h9]; rfl) (by assumption); exact h9
   have hfl := hF16.le
   obtain ⟨⟨kb, ys2⟩, hkid⟩ : ∃ z, q.kids[i16]? = some z := ⟨_, List.getElem?_eq_getElem (by omega)⟩
   obtain ⟨A, B, hxA, _, _, hA, hB, _, _, hsy⟩ := kid_parts (x := (⟨k, (⟨false, ⟨none, [], 0⟩, 0, 0⟩ : Rec)⟩ : ItA)) strlt_sto hq srt1 hkid hF16 hnf
   obtain ⟨d', hd'⟩ : ∃ d', d1 = d' + 1 := ⟨d1 - 1, by omega⟩
   refine c_fact (p := ∃ ad, q.ak = some ad) (rds_some (e := eN99) (xs := (q.kids.map Prod.fst)) (rds_own eN99_ok 2 rfl) (by intro h0; have h00 := congrArg List.length h0; simp only [List.length_nil] at h00; omega)) ?_
   rintro ⟨adk, eadk⟩
   refine c_region ?_
   refine o_move rfl rfl ?_
   refine o_nil rfl rfl ?_
   refine o_fieldAddr (q := ⟨b1, 1, none⟩) rfl rfl Try.underlying103 rfl ti101 rfl ?_
   refine o_load1 rfl rfl Try.underlying101 rfl (rd_mem 0 rfl rfl) ?_
   refine o_move rfl rfl ?_
   refine o_indexK eN99_ok eadk rfl rfl rfl Try.underlying101 (by omega) (by omega) ?_
   obtain ⟨x40, hx40⟩ : ∃ x, ((q.kids.map Prod.fst))[((i16 : Int)).toNat]? = some x := ⟨_, List.getElem?_eq_getElem (by omega)⟩
   have hxk : x40 = kb := by have h9 := hx40; rw [show ((i16 : Int)).toNat = i16 from rfl, List.getElem?_map, hkid] at h9; exact (Option.some.inj h9).symm
   refine o_load1 rfl rfl Try.underlying99 rfl (rd_sl0 eN99_ok eadk (rds_own eN99_ok 2 rfl) hx40 rfl) ?_
   refine l_eq (t := 41) (v' := .pointer (some ⟨kb, 0, none⟩)) rfl (by rw [hxk]) ?_
   refine l_f3 ?_
   refine l_conv (L' := nodeR e_ItA eN99 103 d' 2 kb ys2 :: kidsR e_ItA eN99 103 d1 (q.kids.eraseIdx i16) :: _) (fun w S => by have h9 := Sat.kid_take hkid S; rw [hd'] at h9 ⊢; exact h9) ?_
   refine o_assign rfl rfl ?_
   refine l_nil ?_
   refine q_block ?_
   refine q_conv (fun w S => S.perm p4) ?_
   refine q_conv (fun w S => S.perm p4) ?_
   refine q_conv (fun w S => S.perm p4) ?_
   refine q_conv (fun w S => S.perm p4) ?_
   refine q_conv (fun w S => S.perm p5) ?_
   refine q_conv (fun w S => S.perm p5) ?_
   refine q_conv (L' := nodeR e_ItA eN99 103 d' 2 kb ys2 :: blk b4 (.cells #[.bool false, .slice none 0 0, .int .i64 0, .int .u64 0] 36 (0, 0)) :: (kidsR e_ItA eN99 103 d1 (q.kids.eraseIdx i16) :: blk b1 (.cells #[.slice q.a (q.items).length q.c, .slice q.ak ((q.kids.map Prod.fst)).length q.ck] 103 (0, 0)) :: row e_ItA.T e_ItA.sz q.a (q.items).length q.c (flat e_ItA q.items) :: row eN99.T eN99.sz q.ak ((q.kids.map Prod.fst)).length q.ck (flat eN99 (q.kids.map Prod.fst)) :: R)) (fun w S => S) ?_
   exact q_round (d', kb, 2, ys2, (kidsR e_ItA eN99 103 d1 (q.kids.eraseIdx i16) :: blk b1 (.cells #[.slice q.a (q.items).length q.c, .slice q.ak ((q.kids.map Prod.fst)).length q.ck] 103 (0, 0)) :: row e_ItA.T e_ItA.sz q.a (q.items).length q.c (flat e_ItA q.items) :: row eN99.T eN99.sz q.ak ((q.kids.map Prod.fst)).length q.ck (flat eN99 (q.kids.map Prod.fst)) :: R)) (by exact ⟨hsy, fun w S => hback w (nodeMk q hq (get_back hkid hd' S)), fun y hy => hsub y (by rw [hxA]; simp [hy]), fun y hy hk => get_in strlt_sto (by have h9 := hin y hy hk; rw [hxA] at h9; exact h9) hk hA hB⟩) (by (try dsimp only); omega) ⟨(by first | rfl | exact vint (by omega)), (by first | rfl | exact vint (by omega)), (by first | rfl | exact vint (by omega)), trivial⟩ (fun w S => S)
end
section
set_option linter.unusedVariables false
set_option linter.unusedSimpArgs false
open Go.RowKit Classical
/-- A record's contents. -/
structure RecM where
  has : Bool
  val : List UInt8
  home : Int
  count : Int
def Rec.m (r : Rec) : RecM := ⟨r.f_Has, r.f_Value.xs, r.f_Home, r.f_Count⟩
def proj (x : ItA) : ByteArray × RecM := (x.f_key, x.f_value.m)
abbrev Rows := List (ByteArray × RecM)
def sumK (k : ByteArray) : Nat := (k.data.toList.map UInt8.toNat).sum
def sumI (k : ByteArray) (i : Nat) : Nat := ((k.data.toList.take i).map UInt8.toNat).sum
theorem sumI_on {k : ByteArray} {i : Nat} {b : UInt8} (h : k.data.toList[i]? = some b) : sumI k (i + 1) = sumI k i + b.toNat := by
  unfold sumI
  rw [List.take_add_one, h]
  simp
theorem sumI_le (k : ByteArray) : ∀ i, sumI k i ≤ 255 * i
  | 0 => by simp [sumI]
  | i + 1 => by
    have ih := sumI_le k i
    cases h : k.data.toList[i]? with
    | none => unfold sumI at ih ⊢; rw [List.take_add_one, h, Option.toList_none, List.append_nil]; omega
    | some b => rw [sumI_on h]; have := b.toNat_lt; omega
theorem sumI_all {k : ByteArray} {i : Nat} (h : k.size ≤ i) : sumI k i = sumK k := by
  unfold sumI sumK
  rw [List.take_of_length_le (by rw [Array.length_toList]; exact h)]
theorem dflt_bd {k : ByteArray} {i : Nat} {n : Int} (hn : 1 ≤ n) : 0 ≤ ((sumI k i : Nat) : Int) % n ∧ ((sumI k i : Nat) : Int) % n ≤ 255 * (i : Int) := by
  have h1 := sumI_le k i
  refine ⟨Int.emod_nonneg _ (by omega), ?_⟩
  by_cases h : ((sumI k i : Nat) : Int) < n
  · rw [Int.emod_eq_of_lt (by omega) h]; omega
  · have := Int.emod_lt_of_pos ((sumI k i : Nat) : Int) (show 0 < n by omega)
    omega
theorem dflt_on {k : ByteArray} {i : Nat} {n : Int} {b : UInt8} (hn : 1 ≤ n) (h : k.data.toList[i]? = some b) : (((sumI k i : Nat) : Int) % n + (b.toNat : Int)).tmod n = ((sumI k (i + 1) : Nat) : Int) % n := by
  have h1 := (dflt_bd (k := k) (i := i) hn).1
  rw [Int.tmod_eq_emod_of_nonneg (by omega), sumI_on h, Int.natCast_add, Int.emod_add_emod]
def dflt (k : ByteArray) (n : Int) : Int := if n < 1 then 0 else (sumK k : Int) % n
noncomputable def findM (k : ByteArray) (M : Rows) : Option (ByteArray × RecM) := M.find? fun z => decide (z.1 = k)
def r0 (n : Int) (k : ByteArray) : RecM := ⟨false, [], dflt k n, 0⟩
noncomputable def lookM (n : Int) (k : ByteArray) (M : Rows) : RecM := ((findM k M).map Prod.snd).getD (r0 n k)
noncomputable def delM (k : ByteArray) (M : Rows) : Rows := del Prod.fst k M
noncomputable def insM (k : ByteArray) (r : RecM) (M : Rows) : Rows := ins Prod.fst strlt (k, r) M
noncomputable def setM (k : ByteArray) (r : RecM) (M : Rows) : Rows := if r.has = false ∧ r.count = 0 then delM k M else insM k r M
noncomputable def putM (n : Int) (k : ByteArray) (v : List UInt8) (M : Rows) : Rows := setM k { lookM n k M with has := true, val := v } M
noncomputable def rmM (n : Int) (k : ByteArray) (M : Rows) : Rows := setM k { lookM n k M with has := false, val := [] } M
def maxU : Int := 18446744073709551615
noncomputable def moveM (n : Int) (k : ByteArray) (h : Int) (M : Rows) : Int × Rows :=
  if h < 0 ∨ n ≤ h then (1, M) else if (lookM n k M).count = maxU then (111, M) else (0, setM k { lookM n k M with home := h, count := (lookM n k M).count + 1 } M)
theorem find_ins_eq {k : ByteArray} {r : RecM} : ∀ {M : Rows}, findM k (insM k r M) = some (k, r)
  | [] => by simp [findM, insM, ins]
  | y :: ys => by
    unfold insM ins findM
    split
    · simp
    · rename_i h1
      split
      · rename_i h2
        have hne : ¬ y.1 = k := fun h => strlt_sto.irr k (by have h3 : strlt y.1 k := h2; rw [h] at h3; exact h3)
        rw [List.find?_cons_of_neg (by simpa using hne)]
        exact find_ins_eq
      · simp
theorem find_ins_ne {k k' : ByteArray} {r : RecM} (hk : ¬ k' = k) : ∀ {M : Rows}, findM k (insM k' r M) = findM k M
  | [] => by simp [findM, insM, ins, hk]
  | y :: ys => by
    have hd : ¬ decide (((k', r) : ByteArray × RecM).1 = k) = true := by simpa using hk
    unfold insM ins findM
    split
    · rw [List.find?_cons_of_neg (p := fun z : ByteArray × RecM => decide (z.1 = k)) hd]
    · rename_i h1
      split
      · by_cases hy : y.1 = k
        · rw [List.find?_cons_of_pos (by simpa using hy), List.find?_cons_of_pos (by simpa using hy)]
        · rw [List.find?_cons_of_neg (by simpa using hy), List.find?_cons_of_neg (by simpa using hy)]
          exact find_ins_ne hk
      · rename_i h2
        have he : k' = y.1 := strlt_sto.tri h1 h2
        rw [List.find?_cons_of_neg (p := fun z : ByteArray × RecM => decide (z.1 = k)) hd, List.find?_cons_of_neg (p := fun z : ByteArray × RecM => decide (z.1 = k)) (by rw [← he]; exact hd)]
theorem find_del_ne {k k' : ByteArray} (hk : ¬ k' = k) {M : Rows} : findM k (delM k' M) = findM k M := by
  unfold findM delM del
  rw [List.find?_filter]
  congr 1; funext z
  by_cases h : z.1 = k
  · have : ¬ z.1 = k' := fun h2 => hk (h2.symm.trans h)
    simp [h, this]; exact fun h3 => hk h3.symm
  · simp [h]
theorem find_key {k : ByteArray} {M : Rows} {z : ByteArray × RecM} (h : findM k M = some z) : z.1 = k := by
  unfold findM at h
  have h2 := List.find?_some h
  exact of_decide_eq_true h2
theorem look_set_ne {n : Int} {k k' : ByteArray} {r : RecM} (hk : ¬ k' = k) {M : Rows} : lookM n k (setM k' r M) = lookM n k M := by
  unfold lookM setM
  split
  · rw [find_del_ne hk]
  · rw [find_ins_ne hk]
theorem look_set {n : Int} {k : ByteArray} {r : RecM} {M : Rows} (h : r.has = true ∨ ¬ r.count = 0) : lookM n k (setM k r M) = r := by
  unfold lookM setM
  rw [if_neg (by rintro ⟨h1, h2⟩; rcases h with h | h; · rw [h] at h1; cases h1
                 · exact h h2), find_ins_eq]; rfl
theorem map_del {k : ByteArray} {xs : List ItA} : (del ItA.f_key k xs).map proj = delM k (xs.map proj) := by
  unfold del delM del
  rw [List.filter_map]; rfl
theorem map_ins {x : ItA} : ∀ {xs : List ItA}, (ins ItA.f_key strlt x xs).map proj = insM x.f_key x.f_value.m (xs.map proj)
  | [] => by simp [ins, insM, proj]
  | y :: ys => by
    have ih := map_ins (x := x) (xs := ys)
    unfold insM at ih ⊢
    rw [List.map_cons, ins, ins]
    by_cases h1 : strlt x.f_key y.f_key
    · rw [if_pos h1, if_pos (show strlt ((x.f_key, x.f_value.m) : ByteArray × RecM).1 (proj y).1 from h1)]; rfl
    · rw [if_neg h1, if_neg (show ¬ strlt ((x.f_key, x.f_value.m) : ByteArray × RecM).1 (proj y).1 from h1)]
      by_cases h2 : strlt y.f_key x.f_key
      · rw [if_pos h2, if_pos (show strlt (proj y).1 ((x.f_key, x.f_value.m) : ByteArray × RecM).1 from h2), List.map_cons, ih]
      · rw [if_neg h2, if_neg (show ¬ strlt (proj y).1 ((x.f_key, x.f_value.m) : ByteArray × RecM).1 from h2)]; rfl
theorem set_len {k : ByteArray} {r : RecM} {M : Rows} : (setM k r M).length ≤ M.length + 1 := by
  unfold setM
  split
  · have : (delM k M).length ≤ M.length := List.length_filter_le _ _
    omega
  · unfold insM
    induction M with
    | nil => simp [ins]
    | cons y ys ih => rw [ins]; split; · simp
                      split <;> simp <;> omega
structure SS where
  n : Int
  xs : List ItA
def SS.M (s : SS) : Rows := s.xs.map proj
structure OkR (n : Int) (r : RecM) : Prop where
  val : r.val.length ≤ 1000000
  h0 : 0 ≤ r.home
  hn : r.home < n
  c0 : 0 ≤ r.count
  cn : r.count ≤ maxU
structure OkS (s : SS) : Prop where
  n1 : 1 ≤ s.n
  n3 : s.n ≤ 3
  ok : ∀ x ∈ s.xs, OkR s.n x.f_value.m
theorem OkS.new {n : Int} (h1 : 1 ≤ n) (h2 : n ≤ 3) : OkS ⟨n, []⟩ := ⟨h1, h2, fun x h => by simp at h⟩
theorem OkS.del {s : SS} {k : ByteArray} (h : OkS s) : OkS ⟨s.n, del ItA.f_key k s.xs⟩ := ⟨h.n1, h.n3, fun x hx => h.ok x (mem_del.1 hx).1⟩
theorem OkS.ins {s : SS} {k : ByteArray} {r : Rec} (h : OkS s) (hr : OkR s.n r.m) : OkS ⟨s.n, ins ItA.f_key strlt (⟨k, r⟩ : ItA) s.xs⟩ := ⟨h.n1, h.n3, fun x hx => by
  rcases mem_ins hx with rfl | hx
  · exact hr
  · exact h.ok x hx⟩
theorem dflt_in {k : ByteArray} {n : Int} (h : 1 ≤ n) : 0 ≤ dflt k n ∧ dflt k n < n := by
  unfold dflt
  rw [if_neg (by omega)]
  exact ⟨Int.emod_nonneg _ (by omega), Int.emod_lt_of_pos _ (by omega)⟩
theorem OkS.look {s : SS} (h : OkS s) (k : ByteArray) : OkR s.n (lookM s.n k s.M) := by
  unfold lookM
  cases hf : findM k s.M with
  | none => exact ⟨by show 0 ≤ 1000000; omega, (dflt_in h.n1).1, (dflt_in h.n1).2, by show (0 : Int) ≤ 0; omega, by show (0 : Int) ≤ maxU; decide⟩
  | some z =>
    obtain ⟨x, hx, rfl⟩ := List.mem_map.1 (List.mem_of_find?_eq_some hf)
    exact h.ok x hx
theorem OkR.put {n : Int} {r : RecM} {b : Bool} {v : List UInt8} (h : OkR n r) (hv : v.length ≤ 1000000) : OkR n { r with has := b, val := v } := ⟨hv, h.h0, h.hn, h.c0, h.cn⟩
theorem OkR.move {n : Int} {r : RecM} {h : Int} (o : OkR n r) (h0 : ¬ (h < 0 ∨ n ≤ h)) (hc : ¬ r.count = maxU) : OkR n { r with home := h, count := r.count + 1 } := ⟨o.val, by show 0 ≤ h; omega, by show h < n; omega, by have := o.c0; show 0 ≤ r.count + 1; omega, by have := o.cn; show r.count + 1 ≤ maxU; omega⟩
theorem look_has {s : SS} {k : ByteArray} {v : Rec} (g : GetG ItA.f_key ItA.f_value s.xs k v true) : lookM s.n k s.M = v.m := by
  obtain ⟨y, hy, he⟩ := g.has.1 rfl
  unfold lookM
  cases hf : findM k s.M with
  | none => exact absurd (decide_eq_true (show (proj y).1 = k from he)) (List.find?_eq_none.1 hf (proj y) (List.mem_map.2 ⟨y, hy, rfl⟩))
  | some z =>
    obtain ⟨x, hx, rfl⟩ := List.mem_map.1 (List.mem_of_find?_eq_some hf)
    have hk : x.f_key = k := find_key hf
    show x.f_value.m = v.m
    rw [g.val rfl x hx hk]
theorem look_none {s : SS} {k : ByteArray} {v : Rec} (g : GetG ItA.f_key ItA.f_value s.xs k v false) : lookM s.n k s.M = r0 s.n k := by
  unfold lookM
  cases hf : findM k s.M with
  | none => rfl
  | some z =>
    obtain ⟨x, hx, rfl⟩ := List.mem_map.1 (List.mem_of_find?_eq_some hf)
    have hk : x.f_key = k := find_key hf
    exact absurd (g.has.2 ⟨x, hx, hk⟩) (by simp)
theorem M_len {s : SS} : s.M.length = s.xs.length := List.length_map _
abbrev vR (x : ItA) : Res := row e8.T e8.sz x.f_value.f_Value.a x.f_value.f_Value.xs.length x.f_value.f_Value.c (flat e8 x.f_value.f_Value.xs)
def vals (xs : List ItA) : Res := stars (xs.map vR)
section
variable {W w : World} {L : List Res}
theorem Sat.vals_perm {xs ys : List ItA} (h : xs.Perm ys) (S : Sat W w (vals xs :: L)) : Sat W w (vals ys :: L) := S.stars_perm (h.map _)
theorem Sat.vals_take {xs : List ItA} {i : Nat} {x : ItA} (hk : xs[i]? = some x) (S : Sat W w (vals xs :: L)) : Sat W w (vR x :: vals (xs.eraseIdx i) :: L) :=
  Sat.stars_cons (Rs := (xs.eraseIdx i).map vR) (Sat.vals_perm (erase_perm hk).symm S)
theorem Sat.vals_back {xs : List ItA} {i : Nat} {x : ItA} (hk : xs[i]? = some x) (S : Sat W w (vR x :: vals (xs.eraseIdx i) :: L)) : Sat W w (vals xs :: L) :=
  Sat.vals_perm (erase_perm hk) (Sat.stars_uncons (Rs := (xs.eraseIdx i).map vR) S)
theorem Sat.vals_part {xs ys R : List ItA} (h : xs.Perm (ys ++ R)) (S : Sat W w (vals xs :: L)) : Sat W w (vals ys :: L) := by
  have S1 := Sat.vals_perm h S
  unfold vals at S1
  rw [List.map_append] at S1
  exact (S1.stars_two.perm (List.Perm.swap _ _ _)).tail
theorem Sat.vals_del {xs : List ItA} {k : ByteArray} (S : Sat W w (vals xs :: L)) : Sat W w (vals (del ItA.f_key k xs) :: L) :=
  let ⟨R, hR⟩ : ∃ R, xs.Perm (del ItA.f_key k xs ++ R) := ⟨_, (List.filter_append_perm _ xs).symm⟩
  Sat.vals_part hR S
theorem ins_perm {x : ItA} : ∀ {xs : List ItA}, ∃ R, (x :: xs).Perm (ins ItA.f_key strlt x xs ++ R)
  | [] => ⟨[], by simp [ins]⟩
  | y :: ys => by
    rw [ins]
    split
    · exact ⟨[], by simp⟩
    · split
      · obtain ⟨R, hR⟩ := ins_perm (x := x) (xs := ys)
        exact ⟨R, (List.Perm.swap _ _ _).trans (hR.cons y)⟩
      · exact ⟨[y], by
          show (x :: y :: ys).Perm (x :: (ys ++ [y]))
          exact (List.perm_append_comm (l₁ := [y]) (l₂ := ys)).cons x⟩
theorem Sat.vals_ins {xs : List ItA} {x : ItA} (S : Sat W w (vR x :: vals xs :: L)) : Sat W w (vals (ins ItA.f_key strlt x xs) :: L) := by
  obtain ⟨R, hR⟩ := ins_perm (x := x) (xs := xs)
  exact Sat.vals_part hR (Sat.stars_uncons (A := vR x) (Rs := xs.map vR) S)
theorem Sat.vals_nil (S : Sat W w L) : Sat W w (vals [] :: L) := Sat.unflat (Ls := []) S
end
end
section
set_option linter.unusedVariables false
set_option linter.unusedSimpArgs false
set_option maxRecDepth 10000
open Go.RowKit Classical
theorem clone8 {W : World} {F : List Res} {xs : List UInt8} {a : Option Addr} {c : Nat} (hs : RdS W F e8 a xs) (hb : xs.length * e8.bytes ≤ 140737488355328) (hn : xs.length ≤ 140737488355328) : CS Try.prog 30 #[.slice a (xs).length c] W (F) (fun r L' => ∃ (a' : Option Addr) (c' : Nat), r = .slice a' xs.length c' ∧ L' = row e8.T e8.sz a' (xs).length c' (flat e8 xs) :: F) := by
 refine f_door (l0 := [(0, .slice a (xs).length c)]) Try.func30 Try.ntmps30 rfl rfl rfl ?_
 refine c_seq ?_
 refine c_fact (rds_nilq hs) ?_
 intro hz
 refine c_region ?_
 refine o_assign rfl rfl ?_
 refine l_nil ?_
 refine q_then ?_
 refine c_seq ?_
 refine c_seq ?_
 refine c_region ?_
 refine o_move rfl rfl ?_
 refine o_bin rfl rfl rfl (b_sleq Try.underlying23 _ _ _) ?_
 refine l_nil ?_
 refine q_then ?_
 refine c_cond rfl (fun h1 => ?_) (fun h1 => ?_)
 · -- h1T
  have h1b := h1
  try simp only [decide_eq_true_eq, decide_eq_false_iff_not, Bool.not_eq_eq_eq_not, Bool.not_true, Bool.not_false, Bool.not_eq_true', Bool.not_eq_false', Int.not_lt, Int.not_le, Bool.or_eq_true, Bool.and_eq_true] at h1
  have hnil : xs = [] := hz (by simpa using h1)
  refine c_seq ?_
  refine c_region ?_
  refine o_assign rfl rfl ?_
  refine l_nil ?_
  refine q_then ?_
  refine c_ret ?_
  refine q_pass_ret ?_
  exact f_ret (r_one rfl rfl) (⟨none, 0, by rw [hnil]; rfl, rfl⟩) (by rw [hnil]; exact fun w S => S.own_nil)
 · -- h1F
  have h1b := h1
  try simp only [decide_eq_true_eq, decide_eq_false_iff_not, Bool.not_eq_eq_eq_not, Bool.not_true, Bool.not_false, Bool.not_eq_true', Bool.not_eq_false', Int.not_lt, Int.not_le, Bool.or_eq_true, Bool.and_eq_true] at h1
  refine c_skip ?_
  refine q_then ?_
  refine c_seq ?_
  refine c_region ?_
  refine o_lit e8_ok rfl Try.underlying23 rfl rfl rfl (lit_ok rfl) ([] : List UInt8) rfl rfl fun a5 => ?_
  refine o_move rfl rfl ?_
  refine o_append e8_ok rfl rfl rfl Try.underlying23 (rds_c hs) (by simpa using hb) (by simpa using hn) fun a7 c7 => ?_
  refine o_assign rfl rfl ?_
  refine l_nil ?_
  refine q_then ?_
  refine c_ret ?_
  exact f_ret (r_one rfl rfl) (⟨_, _, rfl, rfl⟩) (fun w S => by simpa using S)
end
section
set_option linter.unusedVariables false
set_option linter.unusedSimpArgs false
set_option maxRecDepth 10000
open Go.RowKit Classical
def StR (k : Nat) (s : SS) : Res := obj (fun _ : Nat => OkS s) fun x => [blk k (.cells #[.int .i64 s.n, .pointer (some ⟨x, 0, none⟩)] 65 (0, 0)), treeR e_ItA eN99 103 105 ItA.f_key strlt x s.xs, vals s.xs]
theorem StR_ok {W w : World} {L : List Res} {k : Nat} {s : SS} (S : Sat W w (StR k s :: L)) : OkS s := by
  obtain ⟨_, h, _⟩ := S.obj_open
  exact h
theorem default_ {W : World} {F : List Res} {k : ByteArray} {n : Int} (hk : k.size ≤ 1000000) : CS Try.prog 14 #[.string k, .int .i64 n] W (F) (fun r L' => r = .int .i64 (dflt k n) ∧ F = L') := by
 refine f_door (l0 := [(0, .string k), (1, .int .i64 n)]) Try.func14 Try.ntmps14 rfl rfl rfl ?_
 refine c_seq ?_
 refine c_region ?_
 refine o_assign rfl rfl ?_
 refine l_nil ?_
 refine q_then ?_
 refine c_seq ?_
 refine c_seq ?_
 refine c_region ?_
 refine o_move rfl rfl ?_
 refine o_bin rfl rfl rfl b_lss ?_
 refine l_nil ?_
 refine q_then ?_
 refine c_cond rfl (fun h1 => ?_) (fun h1 => ?_)
 · -- h1T
  have h1b := h1
  try simp only [decide_eq_true_eq] at h1
  refine c_seq ?_
  refine c_region ?_
  refine o_assign rfl rfl ?_
  refine l_nil ?_
  refine q_then ?_
  refine c_ret ?_
  refine q_pass_ret ?_
  exact f_ret (r_one rfl rfl) (⟨by unfold dflt; rw [if_pos (by omega)], rfl⟩) (fun w S => S)
 · -- h1F
  have h1b := h1
  try simp only [decide_eq_false_iff_not, Int.not_lt, Int.not_le] at h1
  refine c_skip ?_
  refine q_then ?_
  refine c_seq ?_
  refine c_region ?_
  refine o_assign rfl rfl ?_
  refine l_nil ?_
  refine q_then ?_
  refine c_seq ?_
  refine c_seq ?_
  refine c_region ?_
  refine o_move rfl rfl ?_
  refine o_lenStr rfl rfl Try.underlying9 ?_
  refine o_move rfl rfl ?_
  refine l_nil ?_
  refine q_then ?_
  refine c_block ?_
  refine c_loop (α := Nat) (fun z => [(0, .string k), (1, .int .i64 n), (5, .int .i64 (((sumI k z : Nat) : Int) % n)), (10, .int .i64 ((k).size : Int)), (11, .int .i64 (z : Int))]) (fun z => F) (fun z => z ≤ k.size) (fun z => k.size - z) (0) (by exact Nat.zero_le _) ⟨(by first | rfl | exact vint (by omega)), (by first | rfl | exact vint (by omega)), (by first | rfl | exact vint (by omega)), (by first | rfl | exact vint (by omega)), (by first | rfl | exact vint (by omega)), trivial⟩ (fun w S => S) ?_
  rintro i hi
  try dsimp only at *
  refine c_seq ?_
  refine c_region ?_
  refine o_bin rfl rfl rfl b_lss ?_
  refine l_nil ?_
  refine q_then ?_
  refine c_seq ?_
  refine c_cond rfl (fun h2 => ?_) (fun h2 => ?_)
  · -- h2T
   have h2b := h2
   try simp only [decide_eq_true_eq] at h2
   refine c_skip ?_
   refine q_then ?_
   refine c_seq ?_
   refine c_block ?_
   refine c_seq ?_
   refine c_region ?_
   refine o_move rfl rfl ?_
   refine o_assign rfl rfl ?_
   refine l_nil ?_
   refine q_then ?_
   have hbd := dflt_bd (k := k) (i := i) (n := n) (by omega)
   refine c_region ?_
   refine o_move rfl rfl ?_
   refine o_move rfl rfl ?_
   refine o_move rfl rfl ?_
   obtain ⟨x17, hx17⟩ : ∃ b, (k).data.toList[((i : Int)).toNat]? = some b := ⟨_, List.getElem?_eq_getElem (by (try simp only [Array.length_toList]); first | omega | (show _ < ByteArray.size _; omega))⟩
   refine o_strIndex rfl rfl rfl Try.underlying9 (by omega) hx17 ?_
   have hx17' : k.data.toList[i]? = some x17 := hx17
   have hbb := x17.toNat_lt
   refine o_int rfl rfl Try.underlying5 Try.underlying3 (wrap_i64 (by omega) (by omega)) ?_
   refine o_bin rfl rfl rfl (b_add (wrap_i64 (by omega) (by omega))) ?_
   refine o_move rfl rfl ?_
   refine o_bin rfl rfl rfl (b_rem (by omega) (dflt_on (by omega) hx17')) ?_
   refine o_assign rfl rfl ?_
   refine l_nil ?_
   refine q_block ?_
   refine q_then ?_
   refine c_region ?_
   refine o_bin rfl rfl rfl (b_add (wrap_i64 (by omega) (by omega))) ?_
   refine o_move rfl rfl ?_
   refine l_nil ?_
   exact q_round (i + 1) (by omega) (by (try dsimp only); omega) ⟨(by first | rfl | exact vint (by omega)), (by first | rfl | exact vint (by omega)), (by first | rfl | exact vint (by omega)), (by first | rfl | exact vint (by omega)), (by first | rfl | exact vint (by omega)), trivial⟩ (fun w S => S)
  · -- h2F
   have h2b := h2
   try simp only [decide_eq_false_iff_not, Int.not_lt, Int.not_le] at h2
   refine c_exit ?_
   refine q_pass_exit ?_
   refine q_pass_exit ?_
   refine q_hit ?_
   refine q_then ?_
   refine c_seq ?_
   refine c_region ?_
   refine o_move rfl rfl ?_
   refine o_assign rfl rfl ?_
   refine l_nil ?_
   refine q_then ?_
   refine c_ret ?_
   exact f_ret (r_one rfl rfl) (⟨by rw [show ((sumI k i : Nat) : Int) % n = dflt k n from by unfold dflt; rw [if_neg (by omega), sumI_all (by omega)]], rfl⟩) (fun w S => S)
end
section
set_option linter.unusedVariables false
set_option linter.unusedSimpArgs false
set_option maxRecDepth 10000
open Go.RowKit Classical
theorem new_ {W : World} {F : List Res} {n : Int} (h1n : 1 ≤ n) (hn3 : n ≤ 3) : CS Try.prog 10 #[.int .i64 n] W (F) (fun r L' => ∃ k : Nat, r = .tuple #[.pointer (some ⟨k, 0, none⟩), .int .i64 0] ∧ L' = StR k ⟨n, []⟩ :: F) := by
 refine f_door (l0 := [(0, .int .i64 n)]) Try.func10 Try.ntmps10 rfl rfl rfl ?_
 refine c_seq ?_
 refine c_region ?_
 refine o_assign rfl rfl ?_
 refine o_assign rfl rfl ?_
 refine l_nil ?_
 refine q_then ?_
 refine c_seq ?_
 refine c_seq ?_
 refine c_region ?_
 refine o_move rfl rfl ?_
 refine o_bin rfl rfl rfl b_lss ?_
 refine l_eq (t := 5) (v' := .bool false) rfl (show _ = Value.bool false from by rw [decide_eq_false (by omega)]) ?_
 refine o_move rfl rfl ?_
 refine o_yes rfl rfl rfl ?_
 refine o_move rfl rfl ?_
 refine o_yes rfl rfl rfl ?_
 refine o_bin rfl rfl rfl b_gtr ?_
 refine l_eq (t := 8) (v' := .bool false) rfl (show _ = Value.bool false from by rw [decide_eq_false (by omega)]) ?_
 refine o_pick_false rfl rfl rfl ?_
 refine l_nil ?_
 refine q_then ?_
 refine c_false rfl ?_
 refine c_skip ?_
 refine q_then ?_
 refine c_seq ?_
 refine c_region ?_
 refine o_move rfl rfl ?_
 refine o_call rfl cal29 rfl (new_A) ?_
 rintro _ _ ⟨t11, rfl, rfl⟩
 refine o_build rfl sp65 ti65 rfl ((fill_cons (cells' := [.int .i64 n, .pointer none]) rfl rfl rfl rfl (fill_cons (cells' := [.int .i64 n, .pointer (some ⟨t11, 0, none⟩)]) rfl rfl rfl rfl fill_nil))) ?_
 refine o_box rfl rfl fun b13 => ?_
 refine o_assign rfl rfl ?_
 refine o_assign rfl rfl ?_
 refine l_nil ?_
 refine q_then ?_
 refine c_ret ?_
 exact f_ret (r_two rfl rfl rfl) (⟨b13, rfl, rfl⟩) (fun w S => Sat.obj_mk t11 (OkS.new h1n hn3) (((Sat.vals_nil S).perm p2).perm p2))
theorem newlo_ {W : World} {F : List Res} {n : Int} (h1n : n < 1) : CS Try.prog 10 #[.int .i64 n] W (F) (fun r L' => r = .tuple #[.pointer none, .int .i64 1] ∧ F = L') := by
 refine f_door (l0 := [(0, .int .i64 n)]) Try.func10 Try.ntmps10 rfl rfl rfl ?_
 refine c_seq ?_
 refine c_region ?_
 refine o_assign rfl rfl ?_
 refine o_assign rfl rfl ?_
 refine l_nil ?_
 refine q_then ?_
 refine c_seq ?_
 refine c_seq ?_
 refine c_region ?_
 refine o_move rfl rfl ?_
 refine o_bin rfl rfl rfl b_lss ?_
 refine l_eq (t := 5) (v' := .bool true) rfl (show _ = Value.bool true from by rw [decide_eq_true (by omega)]) ?_
 refine o_move rfl rfl ?_
 refine o_no rfl rfl rfl rfl ?_
 refine o_no rfl rfl rfl rfl ?_
 refine o_pick_true rfl rfl rfl ?_
 refine l_nil ?_
 refine q_then ?_
 refine c_true rfl ?_
 refine c_seq ?_
 refine c_region ?_
 refine o_assign rfl rfl ?_
 refine o_assign rfl rfl ?_
 refine l_nil ?_
 refine q_then ?_
 refine c_ret ?_
 refine q_pass_ret ?_
 exact f_ret (r_two rfl rfl rfl) (⟨rfl, rfl⟩) (fun w S => S)
theorem newhi_ {W : World} {F : List Res} {n : Int} (h1n : 3 < n) : CS Try.prog 10 #[.int .i64 n] W (F) (fun r L' => r = .tuple #[.pointer none, .int .i64 1] ∧ F = L') := by
 refine f_door (l0 := [(0, .int .i64 n)]) Try.func10 Try.ntmps10 rfl rfl rfl ?_
 refine c_seq ?_
 refine c_region ?_
 refine o_assign rfl rfl ?_
 refine o_assign rfl rfl ?_
 refine l_nil ?_
 refine q_then ?_
 refine c_seq ?_
 refine c_seq ?_
 refine c_region ?_
 refine o_move rfl rfl ?_
 refine o_bin rfl rfl rfl b_lss ?_
 refine l_eq (t := 5) (v' := .bool false) rfl (show _ = Value.bool false from by rw [decide_eq_false (by omega)]) ?_
 refine o_move rfl rfl ?_
 refine o_yes rfl rfl rfl ?_
 refine o_move rfl rfl ?_
 refine o_yes rfl rfl rfl ?_
 refine o_bin rfl rfl rfl b_gtr ?_
 refine l_eq (t := 8) (v' := .bool true) rfl (show _ = Value.bool true from by rw [decide_eq_true (by omega)]) ?_
 refine o_pick_false rfl rfl rfl ?_
 refine l_nil ?_
 refine q_then ?_
 refine c_true rfl ?_
 refine c_seq ?_
 refine c_region ?_
 refine o_assign rfl rfl ?_
 refine o_assign rfl rfl ?_
 refine l_nil ?_
 refine q_then ?_
 refine c_ret ?_
 refine q_pass_ret ?_
 exact f_ret (r_two rfl rfl rfl) (⟨rfl, rfl⟩) (fun w S => S)
theorem get_ {W : World} {F : List Res} {k : Nat} {s : SS} {k' : ByteArray} (hk : k'.size ≤ 1000000) : CS Try.prog 13 #[.pointer (some ⟨k, 0, none⟩), .string k'] W (StR k s :: F) (fun r L' => ∃ v : Rec, v.m = lookM s.n k' s.M ∧ r = .agg #[.bool v.f_Has, .slice v.f_Value.a (v.f_Value.xs).length v.f_Value.c, .int .i64 v.f_Home, .int .u64 v.f_Count] ∧ L' = row e8.T e8.sz v.f_Value.a (v.f_Value.xs).length v.f_Value.c (flat e8 v.f_Value.xs) :: StR k s :: F) := by
 refine f_door (l0 := [(0, .pointer (some ⟨k, 0, none⟩)), (1, .string k')]) Try.func13 Try.ntmps13 rfl rfl rfl ?_
 refine c_seq ?_
 refine c_region ?_
 refine o_alloc rfl ti36 fun b4 => ?_
 refine l_nil ?_
 refine q_then ?_
 refine c_seq ?_
 refine c_conv (fun w S => S.perm p1) ?_
 refine c_obj ?_
 rintro t_1 ok_1
 refine c_conv (L' := blk k (.cells #[.int .i64 s.n, .pointer (some ⟨t_1, 0, none⟩)] 65 (0, 0)) :: treeR e_ItA eN99 103 105 ItA.f_key strlt t_1 s.xs :: vals s.xs :: _) (fun w S => S) ?_
 refine c_region ?_
 refine o_move rfl rfl ?_
 refine o_nil rfl rfl ?_
 refine o_fieldAddr (q := ⟨k, 1, none⟩) rfl rfl Try.underlying65 rfl ti62 rfl ?_
 refine o_load1 rfl rfl Try.underlying62 rfl (rd_mem 0 rfl rfl) ?_
 refine o_move rfl rfl ?_
 refine l_f1 ?_
 refine o_call rfl cal32 rfl (tget_A (k := k')) ?_
 rintro _ _ ⟨v13, ok13, hg13, hz13, rfl, rfl⟩
 refine o_move rfl rfl ?_
 refine o_extract rfl rfl rfl ?_
 refine o_extract rfl rfl rfl ?_
 refine o_alloc rfl ti36 fun b5 => ?_
 refine o_storen rfl rfl ti36 rfl rfl rfl rfl ?_
 refine o_assign rfl rfl ?_
 refine l_nil ?_
 refine q_then ?_
 refine c_seq ?_
 refine c_seq ?_
 refine c_region ?_
 refine o_move rfl rfl ?_
 refine o_not rfl rfl ?_
 refine l_nil ?_
 refine q_then ?_
 refine c_cond rfl (fun h1 => ?_) (fun h1 => ?_)
 · -- h1T
  have h1b := h1
  try simp only [decide_eq_true_eq, decide_eq_false_iff_not, Bool.not_eq_eq_eq_not, Bool.not_true, Bool.not_false, Bool.not_eq_true', Bool.not_eq_false', Int.not_lt, Int.not_le, Bool.or_eq_true, Bool.and_eq_true] at h1
  refine c_region ?_
  refine o_move rfl rfl ?_
  refine o_move rfl rfl ?_
  refine o_nil rfl rfl ?_
  refine o_fieldAddr (q := ⟨k, 0, none⟩) rfl rfl Try.underlying65 rfl ti3 rfl ?_
  refine o_load1 rfl rfl Try.underlying3 rfl (rd_mem 2 rfl rfl) ?_
  refine o_call rfl cal14 rfl (default_ (k := k') (n := s.n) (by omega)) ?_
  rintro _ _ ⟨rfl, rfl⟩
  refine o_fieldAddr (q := ⟨b5, 2, none⟩) rfl rfl Try.underlying36 rfl ti3 rfl ?_
  refine o_store1 rfl rfl rfl ti3 rfl rfl ?_
  refine l_nil ?_
  refine q_then ?_
  refine c_seq ?_
  obtain rfl : ok13 = false := by simpa using h1b
  obtain rfl := hz13 rfl
  have hlk := look_none hg13
  have hvl : ([] : List UInt8).length ≤ 1000000 := by simp
  refine c_nilrow e8 ?_
  refine c_conv (fun w S => S.perm p1) ?_
  refine c_conv (L' := blk b5 (.cells #[.bool ((⟨false, ⟨none, [], 0⟩, 0, 0⟩ : Rec).f_Has), .slice none (([] : List UInt8)).length 0, .int .i64 (dflt k' s.n), .int .u64 ((⟨false, ⟨none, [], 0⟩, 0, 0⟩ : Rec).f_Count)] 36 (0, 0)) :: _) (fun w S => S) ?_
  refine c_region ?_
  refine o_fieldAddr (q := ⟨b5, 1, none⟩) rfl rfl Try.underlying36 rfl ti23 rfl ?_
  refine o_load1 rfl rfl Try.underlying23 rfl (rd_mem 0 rfl rfl) ?_
  refine o_call rfl cal30 rfl (clone8 (xs := ([] : List UInt8)) (a := none) (c := 0) (rds_own e8_ok 1 rfl) (by show _ * 1 ≤ _; omega) (by omega)) ?_
  rintro _ _ ⟨a27, c27, rfl, rfl⟩
  refine o_fieldAddr (q := ⟨b5, 1, none⟩) rfl rfl Try.underlying36 rfl ti23 rfl ?_
  refine l_f1 ?_
  refine o_store1 rfl rfl rfl ti23 rfl rfl ?_
  refine l_nil ?_
  refine q_then ?_
  refine c_seq ?_
  refine c_region ?_
  refine o_loadn (vs := [_, _, _, _]) rfl rfl Try.underlying36 rfl ti36 (rdn_lit 0 rfl rfl) ?_
  refine l_f6 ?_
  refine o_storen rfl rfl ti36 rfl rfl rfl rfl ?_
  refine l_nil ?_
  refine q_then ?_
  refine c_ret ?_
  refine q_conv (fun w S => S.perm p3) ?_
  refine q_conv (fun w S => S.perm p3) ?_
  refine q_conv (fun w S => S.perm p3) ?_
  refine q_conv (fun w S => S.perm p3) ?_
  refine q_conv (fun w S => S.perm p6) ?_
  refine q_conv (fun w S => S.perm p5) ?_
  refine q_conv (fun w S => S.perm p6) ?_
  refine q_conv (L' := StR k s :: _) (fun w S => Sat.obj_mk t_1 ok_1 S) ?_
  refine f_retq (.inl rfl) (rs_1 rfl (rs_celln (vs := [.bool ((⟨false, ⟨none, [], 0⟩, 0, 0⟩ : Rec).f_Has), .slice a27 (([] : List UInt8)).length c27, .int .i64 (dflt k' s.n), .int .u64 ((⟨false, ⟨none, [], 0⟩, 0, 0⟩ : Rec).f_Count)]) rfl Try.underlying36 rfl ti36 (rdn_lit 1 rfl rfl))) (fun w S => ?_)
  replace S := (S.perm p1).tail
  replace S := (S.perm p1).tail
  replace S := (S.perm p2).tail
  replace S := S.perm p1
  exact ⟨_, ⟨(⟨(⟨false, ⟨none, [], 0⟩, 0, 0⟩ : Rec).f_Has, ⟨a27, ([] : List UInt8), c27⟩, dflt k' s.n, (⟨false, ⟨none, [], 0⟩, 0, 0⟩ : Rec).f_Count⟩ : Rec), (by rw [hlk] <;> rfl), rfl, rfl⟩, (fun w S => S) w S⟩
 · -- h1F
  have h1b := h1
  try simp only [decide_eq_true_eq, decide_eq_false_iff_not, Bool.not_eq_eq_eq_not, Bool.not_true, Bool.not_false, Bool.not_eq_true', Bool.not_eq_false', Int.not_lt, Int.not_le, Bool.or_eq_true, Bool.and_eq_true] at h1
  refine c_skip ?_
  refine q_then ?_
  refine c_seq ?_
  obtain rfl : ok13 = true := by simpa using h1b
  obtain ⟨y13, hy13, hky13⟩ := hg13.has.1 rfl
  obtain rfl := hg13.val rfl y13 hy13 hky13
  obtain ⟨i13, hi13⟩ := List.getElem?_of_mem hy13
  have hlk := look_has hg13
  have hvl : y13.f_value.f_Value.xs.length ≤ 1000000 := (ok_1.ok _ hy13).val
  refine c_conv (fun w S => S.perm p3) ?_
  refine c_conv (L' := row e8.T e8.sz y13.f_value.f_Value.a (y13.f_value.f_Value.xs).length y13.f_value.f_Value.c (flat e8 y13.f_value.f_Value.xs) :: vals (s.xs.eraseIdx i13) :: _) (fun w S => Sat.vals_take hi13 S) ?_
  refine c_conv (fun w S => S.perm p2) ?_
  refine c_conv (L' := blk b5 (.cells #[.bool y13.f_value.f_Has, .slice y13.f_value.f_Value.a (y13.f_value.f_Value.xs).length y13.f_value.f_Value.c, .int .i64 y13.f_value.f_Home, .int .u64 y13.f_value.f_Count] 36 (0, 0)) :: _) (fun w S => S) ?_
  refine c_region ?_
  refine o_fieldAddr (q := ⟨b5, 1, none⟩) rfl rfl Try.underlying36 rfl ti23 rfl ?_
  refine o_load1 rfl rfl Try.underlying23 rfl (rd_mem 0 rfl rfl) ?_
  refine o_call rfl cal30 rfl (clone8 (xs := y13.f_value.f_Value.xs) (a := y13.f_value.f_Value.a) (c := y13.f_value.f_Value.c) (rds_own e8_ok 1 rfl) (by show _ * 1 ≤ _; omega) (by omega)) ?_
  rintro _ _ ⟨a27, c27, rfl, rfl⟩
  refine o_fieldAddr (q := ⟨b5, 1, none⟩) rfl rfl Try.underlying36 rfl ti23 rfl ?_
  refine l_f1 ?_
  refine o_store1 rfl rfl rfl ti23 rfl rfl ?_
  refine l_nil ?_
  refine q_then ?_
  refine c_seq ?_
  refine c_region ?_
  refine o_loadn (vs := [_, _, _, _]) rfl rfl Try.underlying36 rfl ti36 (rdn_lit 0 rfl rfl) ?_
  refine l_f6 ?_
  refine o_storen rfl rfl ti36 rfl rfl rfl rfl ?_
  refine l_nil ?_
  refine q_then ?_
  refine c_ret ?_
  refine q_conv (fun w S => S.perm p6) ?_
  refine q_conv (fun w S => S.perm p6) ?_
  refine q_conv (fun w S => S.perm p4) ?_
  refine q_conv (fun w S => S.perm p4) ?_
  refine q_conv (fun w S => S.perm p4) ?_
  refine q_conv (fun w S => S.perm p6) ?_
  refine q_conv (fun w S => S.perm p6) ?_
  refine q_conv (L' := vals s.xs :: _) (fun w S => Sat.vals_back hi13 S) ?_
  refine q_conv (fun w S => S.perm p3) ?_
  refine q_conv (fun w S => S.perm p3) ?_
  refine q_conv (fun w S => S.perm p3) ?_
  refine q_conv (fun w S => S.perm p3) ?_
  refine q_conv (fun w S => S.perm p4) ?_
  refine q_conv (fun w S => S.perm p5) ?_
  refine q_conv (L' := StR k (⟨s.n, s.xs⟩ : SS) :: _) (fun w S => Sat.obj_mk t_1 ok_1 S) ?_
  refine f_retq (.inl rfl) (rs_1 rfl (rs_celln (vs := [.bool y13.f_value.f_Has, .slice a27 (y13.f_value.f_Value.xs).length c27, .int .i64 y13.f_value.f_Home, .int .u64 y13.f_value.f_Count]) rfl Try.underlying36 rfl ti36 (rdn_lit 1 rfl rfl))) (fun w S => ?_)
  replace S := (S.perm p1).tail
  replace S := (S.perm p1).tail
  replace S := S.perm p1
  exact ⟨_, ⟨(⟨y13.f_value.f_Has, ⟨a27, y13.f_value.f_Value.xs, c27⟩, y13.f_value.f_Home, y13.f_value.f_Count⟩ : Rec), (by rw [hlk] <;> rfl), rfl, rfl⟩, (fun w S => S) w S⟩
end
section
set_option linter.unusedVariables false
set_option linter.unusedSimpArgs false
set_option maxRecDepth 10000
open Go.RowKit Classical
theorem set_ {W : World} {F : List Res} {k : Nat} {s : SS} {k' : ByteArray} {r : Rec} (hr : OkR s.n r.m) (hl : s.xs.length ≤ 1000000) : CS Try.prog 31 #[.pointer (some ⟨k, 0, none⟩), .string k', .agg #[.bool r.f_Has, .slice r.f_Value.a (r.f_Value.xs).length r.f_Value.c, .int .i64 r.f_Home, .int .u64 r.f_Count]] W (row e8.T e8.sz r.f_Value.a (r.f_Value.xs).length r.f_Value.c (flat e8 r.f_Value.xs) :: StR k s :: F) (fun _ L' => ∃ s' : SS, s'.n = s.n ∧ s'.M = setM k' r.m s.M ∧ L' = StR k s' :: F) := by
 refine f_door (l0 := [(0, .pointer (some ⟨k, 0, none⟩)), (1, .string k'), (2, .agg #[.bool r.f_Has, .slice r.f_Value.a (r.f_Value.xs).length r.f_Value.c, .int .i64 r.f_Home, .int .u64 r.f_Count])]) Try.func31 Try.ntmps31 rfl rfl rfl ?_
 refine c_seq ?_
 refine c_region ?_
 refine o_box rfl rfl fun b5 => ?_
 refine l_nil ?_
 refine q_then ?_
 refine c_seq ?_
 refine c_seq ?_
 refine c_conv (fun w S => S.perm p2) ?_
 refine c_obj ?_
 rintro t_1 ok_1
 refine c_conv (L' := blk k (.cells #[.int .i64 s.n, .pointer (some ⟨t_1, 0, none⟩)] 65 (0, 0)) :: treeR e_ItA eN99 103 105 ItA.f_key strlt t_1 s.xs :: vals s.xs :: _) (fun w S => S) ?_
 refine c_region ?_
 refine o_fieldAddr (q := ⟨b5, 0, none⟩) rfl rfl Try.underlying36 rfl ti4 rfl ?_
 refine o_load1 rfl rfl Try.underlying4 rfl (rd_mem 3 rfl rfl) ?_
 refine o_not rfl rfl ?_
 refine o_move rfl rfl ?_
 refine l_split (t := 9) rfl (fun h1 => ?_) (fun h1 => ?_)
 · -- h1T
  have h1b := h1
  try simp only [decide_eq_true_eq, decide_eq_false_iff_not, Bool.not_eq_eq_eq_not, Bool.not_true, Bool.not_false, Bool.not_eq_true', Bool.not_eq_false', Int.not_lt, Int.not_le, Bool.or_eq_true, Bool.and_eq_true] at h1
  refine o_yes rfl rfl rfl ?_
  refine o_fieldAddr (q := ⟨b5, 3, none⟩) rfl rfl Try.underlying36 rfl ti34 rfl ?_
  refine o_yes rfl rfl rfl ?_
  refine o_load1 rfl rfl Try.underlying34 rfl (rd_mem 3 rfl rfl) ?_
  refine o_yes rfl rfl rfl ?_
  refine o_bin rfl rfl rfl b_eql ?_
  refine o_pick_true rfl rfl rfl ?_
  refine l_nil ?_
  refine q_then ?_
  refine c_cond rfl (fun h2 => ?_) (fun h2 => ?_)
  · -- h2T
   have h2b := h2
   try simp only [decide_eq_true_eq] at h2
   refine c_seq ?_
   refine c_region ?_
   refine o_move rfl rfl ?_
   refine o_nil rfl rfl ?_
   refine o_fieldAddr (q := ⟨k, 1, none⟩) rfl rfl Try.underlying65 rfl ti62 rfl ?_
   refine o_load1 rfl rfl Try.underlying62 rfl (rd_mem 0 rfl rfl) ?_
   refine o_move rfl rfl ?_
   refine l_f1 ?_
   refine o_call rfl cal54 rfl (tdel_A (k := k') (by omega)) ?_
   rintro _ _ ⟨v19, ok19, hg19, rfl, rfl⟩
   refine l_nil ?_
   refine q_then ?_
   refine c_ret ?_
   refine q_pass_ret ?_
   refine q_conv (fun w S => (S.perm p3).tail) ?_
   refine q_conv (fun w S => (S.perm p3).tail) ?_
   refine q_conv (fun w S => S.perm p2) ?_
   refine q_conv (fun w S => S.perm p1) ?_
   refine q_conv (fun w S => S.perm p2) ?_
   exact f_ret (r_none rfl) (⟨⟨s.n, del ItA.f_key k' s.xs⟩, rfl, by (rw [show setM k' r.m s.M = delM k' s.M from if_pos ⟨(show r.f_Has = false by simpa using h1b), (show r.f_Count = 0 by assumption)⟩]; exact map_del), rfl⟩) (fun w S => Sat.obj_mk t_1 ok_1.del (((Sat.vals_del (S.perm p2)).perm p2).perm p2))
  · -- h2F
   have h2b := h2
   try simp only [decide_eq_false_iff_not, Int.not_lt, Int.not_le] at h2
   refine c_skip ?_
   refine q_then ?_
   have hneg : ¬ (r.m.has = false ∧ r.m.count = 0) := by rintro ⟨h8, h9⟩; simp only [Rec.m] at h8 h9; simp_all
   refine c_conv (fun w S => S.perm p1) ?_
   refine c_conv (fun w S => S.perm p4) ?_
   refine c_conv (fun w S => S.perm p4) ?_
   refine c_conv (fun w S => S.perm p4) ?_
   refine c_conv (fun w S => S.perm p4) ?_
   refine c_held [blk k (.cells #[.int .i64 s.n, .pointer (some ⟨t_1, 0, none⟩)] 65 (0, 0)), vals s.xs, blk b5 (.cells #[.bool r.f_Has, .slice r.f_Value.a (r.f_Value.xs).length r.f_Value.c, .int .i64 r.f_Home, .int .u64 r.f_Count] 36 (0, 0)), row e8.T e8.sz r.f_Value.a (r.f_Value.xs).length r.f_Value.c (flat e8 r.f_Value.xs)] (by kernel_rfl) rfl ?_
   refine h_take 0 rfl rfl (by kernel_rfl) (by kernel_rfl) (by kernel_rfl) (fun L0 => v_move rfl rfl) ?_
   refine h_take 1 rfl rfl (by kernel_rfl) (by kernel_rfl) (by kernel_rfl) (fun L0 => v_nil rfl rfl) ?_
   refine h_take 2 rfl rfl (by kernel_rfl) (by kernel_rfl) (by kernel_rfl) (fun L0 => v_fieldAddr (q := ⟨k, 1, none⟩) rfl rfl Try.underlying65 rfl ti62 rfl) ?_
   refine h_take 3 rfl rfl (by kernel_rfl) (by kernel_rfl) (by kernel_rfl) (fun L0 => v_load1 rfl rfl Try.underlying62 rfl (rd_mem 0 rfl rfl)) ?_
   refine h_take 4 rfl rfl (by kernel_rfl) (by kernel_rfl) (by kernel_rfl) (fun L0 => v_move rfl rfl) ?_
   refine h_take 5 rfl rfl (by kernel_rfl) (by kernel_rfl) (by kernel_rfl) (fun L0 => v_loadn (vs := [_, _, _, _]) rfl rfl Try.underlying36 rfl ti36 (rdn_lit 2 rfl rfl)) ?_
   refine h_one 6 rfl (by kernel_rfl) ?_
   refine l_f4 ?_
   refine o_call rfl cal55 rfl (tput_A (k := k') (v := r) (by omega)) ?_
   rintro _ _ ⟨old26, had26, ⟨hol26, hsr26⟩, rfl, rfl⟩
   refine l_nil ?_
   refine q_conv (fun w S => S.perm p4) ?_
   refine q_conv (fun w S => S.perm p4) ?_
   refine q_conv (fun w S => S.perm p4) ?_
   refine q_conv (fun w S => S.perm p4) ?_
   refine h_next ?_
   refine h_done (by kernel_rfl) ?_
   refine q_conv (fun w S => (S.perm p2).tail) ?_
   refine q_conv (fun w S => S.perm p1) ?_
   refine q_conv (fun w S => S.perm p2) ?_
   refine q_conv (fun w S => S.perm p3) ?_
   refine q_conv (fun w S => S.perm p3) ?_
   exact f_end (r_none rfl) (⟨⟨s.n, ins ItA.f_key strlt (⟨k', r⟩ : ItA) s.xs⟩, rfl, by (rw [show setM k' r.m s.M = insM k' r.m s.M from if_neg hneg]; exact map_ins), rfl⟩) (fun w S => Sat.obj_mk t_1 (ok_1.ins hr) (((Sat.vals_ins (x := (⟨k', r⟩ : ItA)) ((S.perm p3).perm p3)).perm p2).perm p2))
 · -- h1F
  have h1b := h1
  try simp only [decide_eq_true_eq, decide_eq_false_iff_not, Bool.not_eq_eq_eq_not, Bool.not_true, Bool.not_false, Bool.not_eq_true', Bool.not_eq_false', Int.not_lt, Int.not_le, Bool.or_eq_true, Bool.and_eq_true] at h1
  refine o_no rfl rfl rfl rfl ?_
  refine o_no rfl rfl rfl rfl ?_
  refine o_no rfl rfl rfl rfl ?_
  refine o_pick_false rfl rfl rfl ?_
  refine l_nil ?_
  refine q_then ?_
  refine c_false rfl ?_
  refine c_skip ?_
  refine q_then ?_
  have hneg : ¬ (r.m.has = false ∧ r.m.count = 0) := by rintro ⟨h8, h9⟩; simp only [Rec.m] at h8 h9; simp_all
  refine c_conv (fun w S => S.perm p1) ?_
  refine c_conv (fun w S => S.perm p4) ?_
  refine c_conv (fun w S => S.perm p4) ?_
  refine c_conv (fun w S => S.perm p4) ?_
  refine c_conv (fun w S => S.perm p4) ?_
  refine c_held [blk k (.cells #[.int .i64 s.n, .pointer (some ⟨t_1, 0, none⟩)] 65 (0, 0)), vals s.xs, blk b5 (.cells #[.bool r.f_Has, .slice r.f_Value.a (r.f_Value.xs).length r.f_Value.c, .int .i64 r.f_Home, .int .u64 r.f_Count] 36 (0, 0)), row e8.T e8.sz r.f_Value.a (r.f_Value.xs).length r.f_Value.c (flat e8 r.f_Value.xs)] (by kernel_rfl) rfl ?_
  refine h_take 0 rfl rfl (by kernel_rfl) (by kernel_rfl) (by kernel_rfl) (fun L0 => v_move rfl rfl) ?_
  refine h_take 1 rfl rfl (by kernel_rfl) (by kernel_rfl) (by kernel_rfl) (fun L0 => v_nil rfl rfl) ?_
  refine h_take 2 rfl rfl (by kernel_rfl) (by kernel_rfl) (by kernel_rfl) (fun L0 => v_fieldAddr (q := ⟨k, 1, none⟩) rfl rfl Try.underlying65 rfl ti62 rfl) ?_
  refine h_take 3 rfl rfl (by kernel_rfl) (by kernel_rfl) (by kernel_rfl) (fun L0 => v_load1 rfl rfl Try.underlying62 rfl (rd_mem 0 rfl rfl)) ?_
  refine h_take 4 rfl rfl (by kernel_rfl) (by kernel_rfl) (by kernel_rfl) (fun L0 => v_move rfl rfl) ?_
  refine h_take 5 rfl rfl (by kernel_rfl) (by kernel_rfl) (by kernel_rfl) (fun L0 => v_loadn (vs := [_, _, _, _]) rfl rfl Try.underlying36 rfl ti36 (rdn_lit 2 rfl rfl)) ?_
  refine h_one 6 rfl (by kernel_rfl) ?_
  refine l_f4 ?_
  refine o_call rfl cal55 rfl (tput_A (k := k') (v := r) (by omega)) ?_
  rintro _ _ ⟨old26, had26, ⟨hol26, hsr26⟩, rfl, rfl⟩
  refine l_nil ?_
  refine q_conv (fun w S => S.perm p4) ?_
  refine q_conv (fun w S => S.perm p4) ?_
  refine q_conv (fun w S => S.perm p4) ?_
  refine q_conv (fun w S => S.perm p4) ?_
  refine h_next ?_
  refine h_done (by kernel_rfl) ?_
  refine q_conv (fun w S => (S.perm p2).tail) ?_
  refine q_conv (fun w S => S.perm p1) ?_
  refine q_conv (fun w S => S.perm p2) ?_
  refine q_conv (fun w S => S.perm p3) ?_
  refine q_conv (fun w S => S.perm p3) ?_
  exact f_end (r_none rfl) (⟨⟨s.n, ins ItA.f_key strlt (⟨k', r⟩ : ItA) s.xs⟩, rfl, by (rw [show setM k' r.m s.M = insM k' r.m s.M from if_neg hneg]; exact map_ins), rfl⟩) (fun w S => Sat.obj_mk t_1 (ok_1.ins hr) (((Sat.vals_ins (x := (⟨k', r⟩ : ItA)) ((S.perm p3).perm p3)).perm p2).perm p2))
theorem put6_ {W : World} {F : List Res} {k : Nat} {s : SS} {k' : ByteArray} {vs : List UInt8} {av : Option Addr} {cv : Nat} (hs : RdS W F e8 av vs) (hk : k'.size ≤ 1000000) (hv : vs.length ≤ 1000000) (hl : s.xs.length ≤ 1000000) : CS Try.prog 11 #[.pointer (some ⟨k, 0, none⟩), .string k', .slice av (vs).length cv] W (StR k s :: F) (fun _ L' => ∃ s' : SS, s'.n = s.n ∧ s'.M = putM s.n k' vs s.M ∧ L' = StR k s' :: F) := by
 refine f_door (l0 := [(0, .pointer (some ⟨k, 0, none⟩)), (1, .string k'), (2, .slice av (vs).length cv)]) Try.func11 Try.ntmps11 rfl rfl rfl ?_
 refine c_seq ?_
 refine c_fact (p := OkS s) (fun w S => StR_ok S) fun hok => ?_
 refine c_region ?_
 refine o_move rfl rfl ?_
 refine o_move rfl rfl ?_
 refine o_call rfl cal13 rfl (get_ (k' := k') (by omega)) ?_
 rintro _ _ ⟨v9, hv9, rfl, rfl⟩
 refine o_alloc rfl ti36 fun b6 => ?_
 refine o_storen rfl rfl ti36 rfl rfl rfl rfl ?_
 refine l_nil ?_
 refine q_then ?_
 refine c_seq ?_
 have hlo := hok.look k'
 rw [← hv9] at hlo
 refine c_region ?_
 refine o_move rfl rfl ?_
 refine o_call rfl cal30 rfl (clone8 (xs := vs) (a := av) (c := cv) (rds_c (rds_c (rds_c hs))) (by show _ * 1 ≤ _; omega) (by omega)) ?_
 rintro _ _ ⟨a11, c11, rfl, rfl⟩
 refine o_fieldAddr (q := ⟨b6, 0, none⟩) rfl rfl Try.underlying36 rfl ti4 rfl ?_
 refine l_f1 ?_
 refine o_store1 rfl rfl rfl ti4 rfl rfl ?_
 refine o_fieldAddr (q := ⟨b6, 1, none⟩) rfl rfl Try.underlying36 rfl ti23 rfl ?_
 refine o_store1 rfl rfl rfl ti23 rfl rfl ?_
 refine l_nil ?_
 refine q_then ?_
 refine c_region ?_
 refine o_move rfl rfl ?_
 refine o_move rfl rfl ?_
 refine o_loadn (vs := [_, _, _, _]) rfl rfl Try.underlying36 rfl ti36 (rdn_lit 0 rfl rfl) ?_
 refine l_f3 ?_
 refine l_f2 ?_
 refine o_call rfl cal31 rfl (set_ (k' := k') (r := (⟨true, ⟨a11, vs, c11⟩, v9.f_Home, v9.f_Count⟩ : Rec)) (hlo.put hv) hl) ?_
 rintro _ _ ⟨s2, hsn, hsM, rfl⟩
 refine l_nil ?_
 refine q_conv (fun w S => (S.perm p1).tail) ?_
 refine q_conv (fun w S => (S.perm p1).tail) ?_
 exact f_end (r_none rfl) (⟨s2, hsn, (by rw [hsM]; unfold putM; rw [← hv9]; rfl), rfl⟩) (fun w S => S)
theorem rm6_ {W : World} {F : List Res} {k : Nat} {s : SS} {k' : ByteArray} (hk : k'.size ≤ 1000000) (hl : s.xs.length ≤ 1000000) : CS Try.prog 12 #[.pointer (some ⟨k, 0, none⟩), .string k'] W (StR k s :: F) (fun _ L' => ∃ s' : SS, s'.n = s.n ∧ s'.M = rmM s.n k' s.M ∧ L' = StR k s' :: F) := by
 refine f_door (l0 := [(0, .pointer (some ⟨k, 0, none⟩)), (1, .string k')]) Try.func12 Try.ntmps12 rfl rfl rfl ?_
 refine c_seq ?_
 refine c_fact (p := OkS s) (fun w S => StR_ok S) fun hok => ?_
 refine c_region ?_
 refine o_move rfl rfl ?_
 refine o_move rfl rfl ?_
 refine o_call rfl cal13 rfl (get_ (k' := k') (by omega)) ?_
 rintro _ _ ⟨v7, hv7, rfl, rfl⟩
 refine o_alloc rfl ti36 fun b4 => ?_
 refine o_storen rfl rfl ti36 rfl rfl rfl rfl ?_
 refine l_nil ?_
 refine q_then ?_
 refine c_seq ?_
 have hlo := hok.look k'
 rw [← hv7] at hlo
 refine c_region ?_
 refine o_fieldAddr (q := ⟨b4, 0, none⟩) rfl rfl Try.underlying36 rfl ti4 rfl ?_
 refine o_store1 rfl rfl rfl ti4 rfl rfl ?_
 refine o_fieldAddr (q := ⟨b4, 1, none⟩) rfl rfl Try.underlying36 rfl ti23 rfl ?_
 refine o_store1 rfl rfl rfl ti23 rfl rfl ?_
 refine l_nil ?_
 refine q_then ?_
 refine c_nilrow e8 ?_
 refine c_region ?_
 refine o_move rfl rfl ?_
 refine o_move rfl rfl ?_
 refine o_loadn (vs := [_, _, _, _]) rfl rfl Try.underlying36 rfl ti36 (rdn_lit 1 rfl rfl) ?_
 refine l_f3 ?_
 refine l_f1 ?_
 refine o_call rfl cal31 rfl (set_ (k' := k') (r := (⟨false, ⟨none, [], 0⟩, v7.f_Home, v7.f_Count⟩ : Rec)) (hlo.put (by simp)) hl) ?_
 rintro _ _ ⟨s2, hsn, hsM, rfl⟩
 refine l_nil ?_
 refine q_conv (fun w S => (S.perm p1).tail) ?_
 refine q_conv (fun w S => (S.perm p1).tail) ?_
 exact f_end (r_none rfl) (⟨s2, hsn, (by rw [hsM]; unfold rmM; rw [← hv7]; rfl), rfl⟩) (fun w S => S)
end
section
set_option linter.unusedVariables false
set_option linter.unusedSimpArgs false
set_option maxRecDepth 10000
open Go.RowKit Classical
theorem move6_ {W : World} {F : List Res} {k : Nat} {s : SS} {k' : ByteArray} {h : Int} (hk : k'.size ≤ 1000000) (hl : s.xs.length ≤ 1000000) : CS Try.prog 18 #[.pointer (some ⟨k, 0, none⟩), .string k', .int .i64 h] W (StR k s :: F) (fun r L' => ∃ (s' : SS) (e : Int), s'.n = s.n ∧ moveM s.n k' h s.M = (e, s'.M) ∧ r = .int .i64 e ∧ L' = StR k s' :: F) := by
 refine f_door (l0 := [(0, .pointer (some ⟨k, 0, none⟩)), (1, .string k'), (2, .int .i64 h)]) Try.func18 Try.ntmps18 rfl rfl rfl ?_
 refine c_seq ?_
 refine c_fact (p := OkS s) (fun w S => StR_ok S) fun hok => ?_
 refine c_region ?_
 refine o_assign rfl rfl ?_
 refine l_nil ?_
 refine q_then ?_
 refine c_seq ?_
 refine c_region ?_
 refine o_move rfl rfl ?_
 refine o_move rfl rfl ?_
 refine o_call rfl cal13 rfl (get_ (k' := k') (by omega)) ?_
 rintro _ _ ⟨v10, hv10, rfl, rfl⟩
 refine o_alloc rfl ti36 fun b7 => ?_
 refine o_storen rfl rfl ti36 rfl rfl rfl rfl ?_
 refine l_nil ?_
 refine q_then ?_
 refine c_seq ?_
 refine c_block ?_
 refine c_seq ?_
 have hlo := hok.look k'
 rw [← hv10] at hlo
 have hc0 := hlo.c0
 have hcn := hlo.cn
 simp only [maxU, Rec.m] at hc0 hcn
 refine c_conv (fun w S => S.perm p2) ?_
 refine c_obj ?_
 rintro t_1 ok_1
 refine c_conv (L' := blk k (.cells #[.int .i64 s.n, .pointer (some ⟨t_1, 0, none⟩)] 65 (0, 0)) :: treeR e_ItA eN99 103 105 ItA.f_key strlt t_1 s.xs :: vals s.xs :: _) (fun w S => S) ?_
 refine c_region ?_
 refine o_move rfl rfl ?_
 refine o_bin rfl rfl rfl b_lss ?_
 refine o_move rfl rfl ?_
 refine l_split (t := 14) rfl (fun h1 => ?_) (fun h1 => ?_)
 · -- h1T
  have h1b := h1
  try simp only [decide_eq_true_eq] at h1
  refine o_no rfl rfl rfl rfl ?_
  refine o_no rfl rfl rfl rfl ?_
  refine o_no rfl rfl rfl rfl ?_
  refine o_no rfl rfl rfl rfl ?_
  refine o_no rfl rfl rfl rfl ?_
  refine o_no rfl rfl rfl rfl ?_
  refine o_pick_true rfl rfl rfl ?_
  refine o_assign rfl rfl ?_
  refine l_nil ?_
  refine q_then ?_
  refine c_true rfl ?_
  refine c_seq ?_
  refine c_region ?_
  refine o_assign rfl rfl ?_
  refine l_nil ?_
  refine q_then ?_
  refine c_ret ?_
  refine q_block_ret ?_
  refine q_pass_ret ?_
  refine q_conv (L' := StR k s :: _) (fun w S => Sat.obj_mk t_1 ok_1 S) ?_
  refine q_conv (fun w S => (S.perm p1).tail) ?_
  refine q_conv (fun w S => (S.perm p1).tail) ?_
  exact f_ret (r_one rfl rfl) (⟨s, 1, rfl, by (unfold moveM; rw [if_pos (by omega)]), rfl, rfl⟩) (fun w S => S)
 · -- h1F
  have h1b := h1
  try simp only [decide_eq_false_iff_not, Int.not_lt, Int.not_le] at h1
  refine o_yes rfl rfl rfl ?_
  refine o_move rfl rfl ?_
  refine o_yes rfl rfl rfl ?_
  refine o_move rfl rfl ?_
  refine o_yes rfl rfl rfl ?_
  refine o_nil rfl rfl ?_
  refine o_yes rfl rfl rfl ?_
  refine o_fieldAddr (q := ⟨k, 0, none⟩) rfl rfl Try.underlying65 rfl ti3 rfl ?_
  refine o_yes rfl rfl rfl ?_
  refine o_load1 rfl rfl Try.underlying3 rfl (rd_mem 0 rfl rfl) ?_
  refine o_yes rfl rfl rfl ?_
  refine o_bin rfl rfl rfl b_geq ?_
  refine o_pick_false rfl rfl rfl ?_
  refine o_assign rfl rfl ?_
  refine l_nil ?_
  refine q_then ?_
  refine c_cond rfl (fun h2 => ?_) (fun h2 => ?_)
  · -- h2T
   have h2b := h2
   try simp only [decide_eq_true_eq] at h2
   refine c_seq ?_
   refine c_region ?_
   refine o_assign rfl rfl ?_
   refine l_nil ?_
   refine q_then ?_
   refine c_ret ?_
   refine q_block_ret ?_
   refine q_pass_ret ?_
   refine q_conv (L' := StR k s :: _) (fun w S => Sat.obj_mk t_1 ok_1 S) ?_
   refine q_conv (fun w S => (S.perm p1).tail) ?_
   refine q_conv (fun w S => (S.perm p1).tail) ?_
   exact f_ret (r_one rfl rfl) (⟨s, 1, rfl, by (unfold moveM; rw [if_pos (by omega)]), rfl, rfl⟩) (fun w S => S)
  · -- h2F
   have h2b := h2
   try simp only [decide_eq_false_iff_not, Int.not_lt, Int.not_le] at h2
   refine c_seq ?_
   refine c_region ?_
   refine o_fieldAddr (q := ⟨b7, 3, none⟩) rfl rfl Try.underlying36 rfl ti34 rfl ?_
   refine o_load1 rfl rfl Try.underlying34 rfl (rd_mem 3 rfl rfl) ?_
   refine o_bin rfl rfl rfl b_eql ?_
   refine o_assign rfl rfl ?_
   refine l_nil ?_
   refine q_then ?_
   refine c_cond rfl (fun h3 => ?_) (fun h3 => ?_)
   · -- h3T
    have h3b := h3
    try simp only [decide_eq_true_eq] at h3
    refine c_seq ?_
    refine c_region ?_
    refine o_assign rfl rfl ?_
    refine l_nil ?_
    refine q_then ?_
    refine c_ret ?_
    refine q_block_ret ?_
    refine q_pass_ret ?_
    refine q_conv (L' := StR k s :: _) (fun w S => Sat.obj_mk t_1 ok_1 S) ?_
    refine q_conv (fun w S => (S.perm p1).tail) ?_
    refine q_conv (fun w S => (S.perm p1).tail) ?_
    exact f_ret (r_one rfl rfl) (⟨s, 111, rfl, by (unfold moveM; rw [if_neg (by omega), if_pos (by rw [← hv10]; show v10.f_Count = 18446744073709551615; assumption)]), rfl, rfl⟩) (fun w S => S)
   · -- h3F
    have h3b := h3
    try simp only [decide_eq_false_iff_not, Int.not_lt, Int.not_le] at h3
    refine c_skip ?_
    refine q_block ?_
    refine q_then ?_
    refine c_seq ?_
    have hcm : ¬ v10.m.count = maxU := by show ¬ v10.f_Count = 18446744073709551615; assumption
    refine c_region ?_
    refine o_move rfl rfl ?_
    refine o_fieldAddr (q := ⟨b7, 2, none⟩) rfl rfl Try.underlying36 rfl ti3 rfl ?_
    refine l_f3 ?_
    refine o_store1 rfl rfl rfl ti3 rfl rfl ?_
    refine l_nil ?_
    refine q_then ?_
    refine c_seq ?_
    refine c_region ?_
    refine o_fieldAddr (q := ⟨b7, 3, none⟩) rfl rfl Try.underlying36 rfl ti34 rfl ?_
    refine o_load1 rfl rfl Try.underlying34 rfl (rd_mem 0 rfl rfl) ?_
    refine o_bin rfl rfl rfl (b_add (wrap_u64 (by omega) (by omega))) ?_
    refine o_fieldAddr (q := ⟨b7, 3, none⟩) rfl rfl Try.underlying36 rfl ti34 rfl ?_
    refine o_store1 rfl rfl rfl ti34 rfl rfl ?_
    refine l_nil ?_
    refine q_then ?_
    refine c_seq ?_
    refine c_region ?_
    refine o_move rfl rfl ?_
    refine o_move rfl rfl ?_
    refine o_loadn (vs := [_, _, _, _]) rfl rfl Try.underlying36 rfl ti36 (rdn_lit 0 rfl rfl) ?_
    refine l_conv (fun w S => S.perm p4) ?_
    refine l_conv (fun w S => S.perm p1) ?_
    refine l_conv (fun w S => S.perm p4) ?_
    refine l_conv (fun w S => S.perm p4) ?_
    refine l_conv (fun w S => S.perm p4) ?_
    refine l_conv (L' := StR k s :: _) (fun w S => Sat.obj_mk t_1 ok_1 S) ?_
    refine l_f2 ?_
    refine o_call rfl cal31 rfl (set_ (k' := k') (r := (⟨v10.f_Has, ⟨v10.f_Value.a, v10.f_Value.xs, v10.f_Value.c⟩, h, (v10.f_Count + 1)⟩ : Rec)) (hlo.move (h := h) (by omega) hcm) hl) ?_
    rintro _ _ ⟨s2, hsn, hsM, rfl⟩
    refine l_nil ?_
    refine q_then ?_
    refine c_seq ?_
    refine c_region ?_
    refine o_assign rfl rfl ?_
    refine l_nil ?_
    refine q_then ?_
    refine c_ret ?_
    refine q_conv (fun w S => (S.perm p1).tail) ?_
    exact f_ret (r_one rfl rfl) (⟨s2, 0, hsn, by (unfold moveM; rw [if_neg (by omega), ← hv10, if_neg hcm, hsM]; rfl), rfl, rfl⟩) (fun w S => S)
end
section
set_option linter.unusedVariables false
set_option linter.unusedSimpArgs false
open Go.RowKit Classical
def s97 : ByteArray := ⟨#[97]⟩
theorem d97 : dflt s97 3 = 1 := by
  have h : sumK s97 = 97 := by rfl
  unfold dflt; rw [h]; rfl
theorem look_nil {n : Int} {k : ByteArray} : lookM n k [] = r0 n k := rfl
theorem spMove {s : SS} {e : Int} {s1 : SS} (h1 : s1 = ⟨3, []⟩) (h : moveM s1.n s97 2 s1.M = (e, s.M)) : e = 0 ∧ lookM 3 s97 s.M = ⟨false, [], 2, 1⟩ := by
  subst h1
  rw [show (⟨3, []⟩ : SS).n = 3 from rfl, show (⟨3, []⟩ : SS).M = [] from rfl] at h
  unfold moveM at h
  rw [if_neg (by omega), look_nil, if_neg (by show ¬ (0 : Int) = maxU; decide)] at h
  have h2 := congrArg Prod.fst h
  have h3 := congrArg Prod.snd h
  simp only at h2 h3
  refine ⟨h2.symm, ?_⟩
  rw [← h3, look_set (.inr (by show ¬ (0 : Int) + 1 = 0; omega))]
  rfl
/-- The operations are small. -/
structure GoodOps (os : List Op) : Prop where
  len : os.length ≤ 100
  all : ∀ o ∈ os, o.f_Key.size ≤ 500 ∧ o.f_Value.xs.length ≤ 500
/-- What the key that is looked at has got. -/
structure LastOk (k : ByteArray) (vs : List UInt8) (i : Nat) (s : SS) : Prop where
  n : s.n = 3
  len : s.xs.length ≤ i + 1
  look : lookM 3 k s.M = ⟨true, vs, dflt k 3, 0⟩
theorem LastOk.start {k : ByteArray} {vs : List UInt8} {s s1 : SS} (h1 : s1 = ⟨3, []⟩) (hn : s.n = s1.n) (hM : s.M = putM s1.n k vs s1.M) : LastOk k vs 0 s := by
  subst h1
  rw [show (⟨3, []⟩ : SS).n = 3 from rfl] at hn hM
  rw [show (⟨3, []⟩ : SS).M = [] from rfl] at hM
  refine ⟨hn, by rw [← M_len, hM]; exact set_len, ?_⟩
  rw [hM]; unfold putM; rw [look_set (.inl rfl), look_nil]; rfl
theorem LastOk.put {k k' : ByteArray} {vs v : List UInt8} {i : Nat} {s s2 : SS} (h : LastOk k vs i s) (hk : ¬ k' = k) (hn : s2.n = s.n) (hM : s2.M = putM s.n k' v s.M) : LastOk k vs (i + 1) s2 := by
  have h2 := h.len
  refine ⟨hn.trans h.n, by rw [← M_len, hM]; exact Nat.le_trans set_len (by rw [M_len]; omega), ?_⟩
  rw [hM]; unfold putM; rw [look_set_ne hk]; exact h.look
theorem LastOk.rm {k k' : ByteArray} {vs : List UInt8} {i : Nat} {s s2 : SS} (h : LastOk k vs i s) (hk : ¬ k' = k) (hn : s2.n = s.n) (hM : s2.M = rmM s.n k' s.M) : LastOk k vs (i + 1) s2 := by
  have h2 := h.len
  refine ⟨hn.trans h.n, by rw [← M_len, hM]; exact Nat.le_trans set_len (by rw [M_len]; omega), ?_⟩
  rw [hM]; unfold rmM; rw [look_set_ne hk]; exact h.look
theorem LastOk.get {k : ByteArray} {vs : List UInt8} {i : Nat} {s : SS} {v : Rec} (h : LastOk k vs i s) (hv : v.m = lookM s.n k s.M) : v.f_Has = true ∧ v.f_Value.xs = vs ∧ v.f_Home = dflt k 3 ∧ v.f_Count = 0 := by
  rw [h.n, h.look] at hv
  exact ⟨congrArg RecM.has hv, congrArg RecM.val hv, congrArg RecM.home hv, congrArg RecM.count hv⟩
end
section
set_option linter.unusedVariables false
set_option linter.unusedSimpArgs false
open Go.RowKit Classical
noncomputable def lookI (n : Int) (k : ByteArray) (xs : List ItA) : Rec := ((xs.find? fun y => decide (y.f_key = k)).map ItA.f_value).getD ⟨false, ⟨none, [], 0⟩, dflt k n, 0⟩
theorem find_map {k : ByteArray} : ∀ {xs : List ItA}, findM k (xs.map proj) = (xs.find? fun y => decide (y.f_key = k)).map proj
  | [] => rfl
  | y :: ys => by
    have ih := find_map (k := k) (xs := ys)
    unfold findM at ih ⊢
    rw [List.map_cons]
    by_cases h : y.f_key = k
    · rw [List.find?_cons_of_pos (p := fun z : ByteArray × RecM => decide (z.1 = k)) (decide_eq_true (show (proj y).1 = k from h)), List.find?_cons_of_pos (p := fun y : ItA => decide (y.f_key = k)) (decide_eq_true h)]; rfl
    · rw [List.find?_cons_of_neg (p := fun z : ByteArray × RecM => decide (z.1 = k)) (by rw [decide_eq_false (show ¬ (proj y).1 = k from h)]; decide), List.find?_cons_of_neg (p := fun y : ItA => decide (y.f_key = k)) (by rw [decide_eq_false h]; decide), ih]
theorem lookI_m {n : Int} {k : ByteArray} {xs : List ItA} : (lookI n k xs).m = lookM n k (xs.map proj) := by
  unfold lookM lookI
  rw [find_map]
  cases xs.find? fun y => decide (y.f_key = k) <;> rfl
theorem lookI_at {n : Int} {k : ByteArray} {xs : List ItA} {i : Nat} {x : ItA} (hx : xs[i]? = some x) (hk : x.f_key = k) (h : ∀ y ∈ xs.take i, ¬ y.f_key = k) : x.f_value = lookI n k xs := by
  unfold lookI
  rw [take_get hx, List.find?_append, List.find?_eq_none.2 fun y hy => by simpa using h y hy]
  rw [Option.none_or, List.find?_cons_of_pos (by simpa using hk)]; rfl
theorem lookI_none {n : Int} {k : ByteArray} {xs : List ItA} (h : ∀ y ∈ xs, ¬ y.f_key = k) : (⟨false, ⟨none, [], 0⟩, dflt k n, 0⟩ : Rec) = lookI n k xs := by
  unfold lookI
  rw [List.find?_eq_none.2 fun y hy => by simpa using h y hy]; rfl
theorem lookI_in {n : Int} {k : ByteArray} {xs : List ItA} : (∃ y ∈ xs, y.f_key = k ∧ y.f_value = lookI n k xs) ∨ (∀ y ∈ xs, ¬ y.f_key = k) ∧ lookI n k xs = ⟨false, ⟨none, [], 0⟩, dflt k n, 0⟩ := by
  unfold lookI
  cases h : xs.find? fun y => decide (y.f_key = k) with
  | none => exact .inr ⟨fun y hy => by simpa using List.find?_eq_none.1 h y hy, rfl⟩
  | some y => exact .inl ⟨y, List.mem_of_find?_eq_some h, by have := List.find?_some h; simpa using this, rfl⟩
noncomputable def setL (k : ByteArray) (r : Rec) : Bool → List ItA → List ItA
  | kp, [] => if kp = true then [⟨k, r⟩] else []
  | kp, y :: ys => if kp = true ∧ strlt k y.f_key then ⟨k, r⟩ :: (if y.f_key = k then setL k r false ys else y :: setL k r false ys) else if y.f_key = k then setL k r kp ys else y :: setL k r kp ys
theorem setL_A {k : ByteArray} {r : Rec} {xs O A : List ItA} {i : Nat} {x : ItA} (h : O ++ setL k r true (xs.drop i) = A) (hx : xs[i]? = some x) (hk : strlt k x.f_key) (hne : ¬ x.f_key = k) : (O ++ [⟨k, r⟩] ++ [x]) ++ setL k r false (xs.drop (i + 1)) = A := by
  rw [← h, drop_at hx, setL, if_pos ⟨rfl, hk⟩, if_neg hne]; simp
theorem setL_B {k : ByteArray} {r : Rec} {xs O A : List ItA} {i : Nat} {x : ItA} {kp : Bool} (h : O ++ setL k r kp (xs.drop i) = A) (hx : xs[i]? = some x) (hk : ¬ (kp = true ∧ strlt k x.f_key)) (hne : ¬ x.f_key = k) : (O ++ [x]) ++ setL k r kp (xs.drop (i + 1)) = A := by
  rw [← h, drop_at hx, setL, if_neg hk, if_neg hne]; simp
theorem setL_C {k : ByteArray} {r : Rec} {xs O A : List ItA} {i : Nat} {x : ItA} {kp : Bool} (h : O ++ setL k r kp (xs.drop i) = A) (hx : xs[i]? = some x) (hk : ¬ (kp = true ∧ strlt k x.f_key)) (hne : x.f_key = k) : O ++ setL k r kp (xs.drop (i + 1)) = A := by
  rw [← h, drop_at hx, setL, if_neg hk, if_pos hne]
theorem setL_A' {k : ByteArray} {r : Rec} {xs O A : List ItA} {i : Nat} {x : ItA} {kp : Bool} (h : O ++ setL k r kp (xs.drop i) = A) (hkp : kp = true) (hx : xs[i]? = some x) (hk : strlt k x.f_key) (hne : ¬ x.f_key = k) : (O ++ [⟨k, r⟩] ++ [x]) ++ setL k r false (xs.drop (i + 1)) = A := by
  subst hkp
  exact setL_A h hx hk hne
theorem setL_len {k : ByteArray} {r : Rec} : ∀ {xs : List ItA} {kp : Bool}, (setL k r kp xs).length ≤ xs.length + 1
  | [], kp => by rw [setL]; split <;> simp
  | y :: ys, kp => by
    have h1 := setL_len (k := k) (r := r) (xs := ys) (kp := kp)
    have h2 : (setL k r false ys).length ≤ ys.length := by
      have h3 : ∀ {zs : List ItA}, (setL k r false zs).length ≤ zs.length := fun {zs} => by
        induction zs with
        | nil => simp [setL]
        | cons z zs ih => rw [setL, if_neg (by simp)]; split <;> simp <;> omega
      exact h3
    rw [setL]; split <;> split <;> simp <;> omega
theorem setL_end {k : ByteArray} {r : Rec} {xs O A : List ItA} {i : Nat} {kp : Bool} (h : O ++ setL k r kp (xs.drop i) = A) (hi : xs.length ≤ i) : (kp = true → O ++ [⟨k, r⟩] = A) ∧ (kp = false → O = A) := by
  rw [List.drop_of_length_le hi, setL] at h
  constructor
  · rintro rfl; rw [if_pos rfl] at h; exact h
  · rintro rfl; rw [if_neg (by decide), List.append_nil] at h; exact h
theorem setL_false {k : ByteArray} {r : Rec} : ∀ {xs : List ItA}, setL k r false xs = del ItA.f_key k xs
  | [] => by simp [setL, del]
  | y :: ys => by
    rw [setL, if_neg (by simp)]
    unfold del
    by_cases h : y.f_key = k
    · rw [if_pos h, List.filter_cons_of_neg (by simpa using h)]; exact setL_false
    · rw [if_neg h, List.filter_cons_of_pos (by simpa using h)]; exact congrArg _ setL_false
theorem setL_true {k : ByteArray} {r : Rec} : ∀ {xs : List ItA}, Srt ItA.f_key strlt xs → setL k r true xs = ins ItA.f_key strlt (⟨k, r⟩ : ItA) xs
  | [], _ => by simp [setL, ins]
  | y :: ys, hs => by
    have h' := List.pairwise_cons.1 hs
    rw [setL, ins]
    by_cases h1 : strlt k y.f_key
    · have hne : ¬ y.f_key = k := fun h => strlt_sto.irr k (by rw [h] at h1; exact h1)
      rw [if_pos ⟨rfl, h1⟩, if_neg hne, if_pos (show strlt (⟨k, r⟩ : ItA).f_key y.f_key from h1), setL_false, del_none fun z hz h => strlt_sto.irr k (by have := strlt_sto.tr h1 (h'.1 z hz); rw [h] at this; exact this)]
    · rw [if_neg (fun h => h1 h.2), if_neg (show ¬ strlt (⟨k, r⟩ : ItA).f_key y.f_key from h1)]
      by_cases h2 : y.f_key = k
      · rw [if_pos h2, if_neg (show ¬ strlt y.f_key k from by rw [h2]; exact strlt_sto.irr k)]
        cases ys with
        | nil => simp [setL]
        | cons z zs =>
          have hz : strlt k z.f_key := by rw [← h2]; exact h'.1 z (by simp)
          have h3 := List.pairwise_cons.1 h'.2
          have hne : ¬ z.f_key = k := fun h => strlt_sto.irr k (by rw [h] at hz; exact hz)
          rw [setL, if_pos ⟨rfl, hz⟩, if_neg hne, setL_false, del_none fun u hu h => strlt_sto.irr k (by have := strlt_sto.tr hz (h3.1 u hu); rw [h] at this; exact this)]
      · have h3 : strlt y.f_key k := Classical.byContradiction fun h3 => h2 (strlt_sto.tri h3 h1)
        rw [if_neg h2, if_pos (show strlt y.f_key (⟨k, r⟩ : ItA).f_key from h3), setL_true h'.2]
noncomputable def setI (k : ByteArray) (r : Rec) (xs : List ItA) : List ItA := if r.f_Has = false ∧ r.f_Count = 0 then del ItA.f_key k xs else ins ItA.f_key strlt (⟨k, r⟩ : ItA) xs
theorem setL_I {k : ByteArray} {r : Rec} {xs : List ItA} (hs : Srt ItA.f_key strlt xs) (h0 : 0 ≤ r.f_Count) : setL k r (r.f_Has || decide (0 < r.f_Count)) xs = setI k r xs := by
  unfold setI
  cases hh : r.f_Has with
  | true => rw [Bool.true_or, if_neg (by simp), setL_true hs]
  | false =>
    rw [Bool.false_or]
    by_cases hc : r.f_Count = 0
    · rw [if_pos ⟨rfl, hc⟩, hc, decide_eq_false (by omega), setL_false]
    · rw [if_neg (fun h => hc h.2), decide_eq_true (by omega), setL_true hs]
theorem map_setI {k : ByteArray} {r : Rec} {xs : List ItA} : (setI k r xs).map proj = setM k r.m (xs.map proj) := by
  unfold setI setM
  by_cases h : r.f_Has = false ∧ r.f_Count = 0
  · rw [if_pos h, if_pos (show r.m.has = false ∧ r.m.count = 0 from h), map_del]
  · rw [if_neg h, if_neg (show ¬ (r.m.has = false ∧ r.m.count = 0) from h), map_ins]
theorem M_setI {n : Int} {k : ByteArray} {r : Rec} {s : SS} : (⟨n, setI k r s.xs⟩ : SS).M = setM k r.m s.M := map_setI
theorem srt_setI {k : ByteArray} {r : Rec} {xs : List ItA} (h : Srt ItA.f_key strlt xs) : Srt ItA.f_key strlt (setI k r xs) := by
  unfold setI
  split
  · exact srt_del h
  · exact srt_ins strlt_sto h
theorem OkS.setI {s : SS} {k : ByteArray} {r : Rec} (h : OkS s) (hr : OkR s.n r.m) : OkS ⟨s.n, setI k r s.xs⟩ := by
  unfold Go.Proofs.Ytnfbjidpiglabaa.setI
  split
  · exact h.del
  · exact h.ins hr
section
variable {W w : World} {L : List Res}
theorem Sat.vals_set {xs : List ItA} {k : ByteArray} {r : Rec} (S : Sat W w (vR ⟨k, r⟩ :: vals xs :: L)) : Sat W w (vals (setI k r xs) :: L) := by
  unfold setI
  split
  · exact Sat.vals_del S.tail
  · exact Sat.vals_ins S
/-- A record whose value is the one that the key has got already. -/
theorem Sat.vals_alias {xs : List ItA} {k : ByteArray} {n h c : Int} {b : Bool} (hs : Srt ItA.f_key strlt xs) (S : Sat W w (vals xs :: L)) : Sat W w (vals (setI k ⟨b, (lookI n k xs).f_Value, h, c⟩ xs) :: L) := by
  rcases lookI_in (n := n) (k := k) (xs := xs) with ⟨y, hy, hk, hv⟩ | ⟨hn, hz⟩
  · unfold setI
    split
    · exact Sat.vals_del S
    · rw [← hv]
      obtain ⟨i, hi⟩ := List.getElem?_of_mem hy
      have e := take_get hi
      have hs2 := hs
      rw [e] at hs2
      have hp := List.pairwise_append.1 hs2
      have h2 : ins ItA.f_key strlt (⟨k, ⟨b, y.f_value.f_Value, h, c⟩⟩ : ItA) xs = xs.take i ++ (⟨k, ⟨b, y.f_value.f_Value, h, c⟩⟩ : ItA) :: xs.drop (i + 1) := by
        conv => lhs; rw [e]
        exact ins_eq strlt_sto (fun p hp9 => by have := hp.2.2 p hp9 y (by simp); rw [hk] at this; exact this) hk
      rw [h2]
      have S1 := S
      rw [e] at S1
      unfold vals at S1 ⊢
      rw [List.map_append, List.map_cons] at S1 ⊢
      exact S1
  · rw [hz]
    exact Sat.vals_set (r := ⟨b, ⟨none, [], 0⟩, h, c⟩) S.own_nil
theorem Sat.vals_alias' {xs : List ItA} {k : ByteArray} {n h c : Int} {b : Bool} {v : Rec} (hv : v = lookI n k xs) (hs : Srt ItA.f_key strlt xs) (S : Sat W w (vals xs :: L)) : Sat W w (vals (setI k ⟨b, ⟨v.f_Value.a, v.f_Value.xs, v.f_Value.c⟩, h, c⟩ xs) :: L) := by
  subst hv
  exact Sat.vals_alias hs S
end
theorem rds_vals {W : World} {L : List Res} {xs : List ItA} {x : ItA} (j : Nat) (h : L[j]? = some (vals xs)) (hx : x ∈ xs) : RdS W L e8 x.f_value.f_Value.a x.f_value.f_Value.xs := fun w S => by
  obtain ⟨L', S'⟩ := mem_front (List.mem_of_getElem? h) S
  obtain ⟨i, hi⟩ := List.getElem?_of_mem hx
  exact (Sat.vals_take hi S').own_rds e8_ok
end
section
set_option linter.unusedVariables false
set_option linter.unusedSimpArgs false
set_option maxRecDepth 10000
open Go.RowKit Classical
theorem rdefault_ {W : World} {F : List Res} {k : ByteArray} {n : Int} (hk : k.size ≤ 1000000) (hn9 : n < 9223372036854775808) : CS Try.prog 23 #[.string k, .int .i64 n] W (F) (fun r L' => r = .int .i64 (dflt k n) ∧ F = L') := by
 refine f_door (l0 := [(0, .string k), (1, .int .i64 n)]) Try.func23 Try.ntmps23 rfl rfl rfl ?_
 refine c_seq ?_
 refine c_region ?_
 refine o_assign rfl rfl ?_
 refine l_nil ?_
 refine q_then ?_
 refine c_seq ?_
 refine c_seq ?_
 refine c_region ?_
 refine o_move rfl rfl ?_
 refine o_bin rfl rfl rfl b_lss ?_
 refine l_nil ?_
 refine q_then ?_
 refine c_cond rfl (fun h1 => ?_) (fun h1 => ?_)
 · -- h1T
  have h1b := h1
  try simp only [decide_eq_true_eq] at h1
  refine c_seq ?_
  refine c_region ?_
  refine o_assign rfl rfl ?_
  refine l_nil ?_
  refine q_then ?_
  refine c_ret ?_
  refine q_pass_ret ?_
  exact f_ret (r_one rfl rfl) (⟨by unfold dflt; rw [if_pos (by omega)], rfl⟩) (fun w S => S)
 · -- h1F
  have h1b := h1
  try simp only [decide_eq_false_iff_not, Int.not_lt, Int.not_le] at h1
  refine c_skip ?_
  refine q_then ?_
  refine c_seq ?_
  refine c_region ?_
  refine o_assign rfl rfl ?_
  refine l_nil ?_
  refine q_then ?_
  refine c_seq ?_
  refine c_seq ?_
  refine c_region ?_
  refine o_assign rfl rfl ?_
  refine l_nil ?_
  refine q_then ?_
  refine c_block ?_
  refine c_loop (α := Nat) (fun z => [(0, .string k), (1, .int .i64 n), (5, .int .u64 ((sumI k z : Nat) : Int)), (6, .int .i64 (z : Int))]) (fun z => F) (fun z => z ≤ k.size) (fun z => k.size - z) (0) (by exact Nat.zero_le _) ⟨(by first | rfl | exact vint (by omega)), (by first | rfl | exact vint (by omega)), (by first | rfl | exact vint (by omega)), (by first | rfl | exact vint (by omega)), trivial⟩ (fun w S => S) ?_
  rintro i hi
  try dsimp only at *
  refine c_seq ?_
  refine c_seq ?_
  refine c_region ?_
  refine o_move rfl rfl ?_
  refine o_move rfl rfl ?_
  refine o_lenStr rfl rfl Try.underlying9 ?_
  refine o_bin rfl rfl rfl b_lss ?_
  refine l_nil ?_
  refine q_then ?_
  refine c_cond rfl (fun h2 => ?_) (fun h2 => ?_)
  · -- h2T
   have h2b := h2
   try simp only [decide_eq_true_eq] at h2
   refine c_skip ?_
   refine q_then ?_
   refine c_seq ?_
   refine c_block ?_
   have hbd := sumI_le k i
   refine c_region ?_
   refine o_move rfl rfl ?_
   refine o_move rfl rfl ?_
   refine o_move rfl rfl ?_
   obtain ⟨x18, hx18⟩ : ∃ b, (k).data.toList[((i : Int)).toNat]? = some b := ⟨_, List.getElem?_eq_getElem (by (try simp only [Array.length_toList]); first | omega | (show _ < ByteArray.size _; omega))⟩
   refine o_strIndex rfl rfl rfl Try.underlying9 (by omega) hx18 ?_
   have hx18' : k.data.toList[i]? = some x18 := hx18
   have hbb := x18.toNat_lt
   refine o_int rfl rfl Try.underlying5 Try.underlying34 (wrap_u64 (by omega) (by omega)) ?_
   refine o_bin rfl rfl rfl (b_add (show IntKind.u64.wrap (((sumI k i : Nat) : Int) + (x18.toNat : Int)) = ((sumI k (i + 1) : Nat) : Int) from by rw [wrap_u64 (by omega) (by omega), sumI_on hx18', Int.natCast_add])) ?_
   refine o_assign rfl rfl ?_
   refine l_nil ?_
   refine q_block ?_
   refine q_then ?_
   refine c_region ?_
   refine o_move rfl rfl ?_
   refine o_bin rfl rfl rfl (b_add (wrap_i64 (by omega) (by omega))) ?_
   refine o_assign rfl rfl ?_
   refine l_nil ?_
   exact q_round (i + 1) (by omega) (by (try dsimp only); omega) ⟨(by first | rfl | exact vint (by omega)), (by first | rfl | exact vint (by omega)), (by first | rfl | exact vint (by omega)), (by first | rfl | exact vint (by omega)), trivial⟩ (fun w S => S)
  · -- h2F
   have h2b := h2
   try simp only [decide_eq_false_iff_not, Int.not_lt, Int.not_le] at h2
   refine c_exit ?_
   refine q_pass_exit ?_
   refine q_pass_exit ?_
   refine q_hit ?_
   refine q_then ?_
   refine c_seq ?_
   have hdd := dflt_in (k := k) (n := n) (by omega)
   have hbd := sumI_le k i
   have hfin : (((sumI k i : Nat) : Int)).tmod n = dflt k n := by rw [Int.tmod_eq_emod_of_nonneg (by omega), sumI_all (by omega)]; unfold dflt; rw [if_neg (by omega)]
   refine c_region ?_
   refine o_move rfl rfl ?_
   refine o_move rfl rfl ?_
   refine o_int rfl rfl Try.underlying3 Try.underlying34 (wrap_u64 (by omega) (by omega)) ?_
   refine o_bin rfl rfl rfl (b_rem (by omega) hfin) ?_
   refine o_int rfl rfl Try.underlying34 Try.underlying3 (wrap_i64 (by omega) (by omega)) ?_
   refine o_assign rfl rfl ?_
   refine l_nil ?_
   refine q_then ?_
   refine c_ret ?_
   exact f_ret (r_one rfl rfl) (⟨rfl, rfl⟩) (fun w S => S)
end
section
set_option linter.unusedVariables false
set_option linter.unusedSimpArgs false
set_option maxRecDepth 10000
open Go.RowKit Classical
theorem rget_ {W : World} {F : List Res} {m : Nat} {n : Int} {xs : List ItA} {a : Option Addr} {c : Nat} {k' : ByteArray} (hk : k'.size ≤ 1000000) (hl : xs.length ≤ 1000000) (hn9 : n < 9223372036854775808) : CS Try.prog 21 #[.pointer (some ⟨m, 0, none⟩), .string k'] W (blk m (.cells #[.int .i64 n, .slice a (xs).length c] 54 (0, 0)) :: row e_Row.T e_Row.sz a (xs).length c (flat e_Row xs) :: F) (fun r L' => ∃ v : Rec, v = lookI n k' xs ∧ r = .agg #[.bool v.f_Has, .slice v.f_Value.a (v.f_Value.xs).length v.f_Value.c, .int .i64 v.f_Home, .int .u64 v.f_Count] ∧ L' = blk m (.cells #[.int .i64 n, .slice a (xs).length c] 54 (0, 0)) :: row e_Row.T e_Row.sz a (xs).length c (flat e_Row xs) :: F) := by
 refine f_door (l0 := [(0, .pointer (some ⟨m, 0, none⟩)), (1, .string k')]) Try.func21 Try.ntmps21 rfl rfl rfl ?_
 refine c_seq ?_
 refine c_region ?_
 refine o_alloc rfl ti36 fun b4 => ?_
 refine l_nil ?_
 refine q_then ?_
 refine c_seq ?_
 refine c_seq ?_
 refine c_region ?_
 refine o_assign rfl rfl ?_
 refine l_nil ?_
 refine q_then ?_
 refine c_block ?_
 refine c_loop (α := Nat) (fun z => [(0, .pointer (some ⟨m, 0, none⟩)), (1, .string k'), (4, .pointer (some ⟨b4, 0, none⟩)), (5, .int .i64 (z : Int))]) (fun z => blk b4 (.cells #[.bool false, .slice none 0 0, .int .i64 0, .int .u64 0] 36 (0, 0)) :: blk m (.cells #[.int .i64 n, .slice a (xs).length c] 54 (0, 0)) :: row e_Row.T e_Row.sz a (xs).length c (flat e_Row xs) :: F) (fun z => z ≤ xs.length ∧ ∀ y ∈ xs.take z, ¬ y.f_key = k') (fun z => xs.length - z) (0) (by exact ⟨Nat.zero_le _, fun y hy => by simp at hy⟩) ⟨(by first | rfl | exact vint (by omega)), (by first | rfl | exact vint (by omega)), (by first | rfl | exact vint (by omega)), (by first | rfl | exact vint (by omega)), trivial⟩ (fun w S => S) ?_
 rintro i ⟨hi, hno⟩
 try dsimp only at *
 refine c_seq ?_
 refine c_seq ?_
 refine c_region ?_
 refine o_move rfl rfl ?_
 refine o_move rfl rfl ?_
 refine o_nil rfl rfl ?_
 refine o_fieldAddr (q := ⟨m, 1, none⟩) rfl rfl Try.underlying54 rfl ti43 rfl ?_
 refine o_load1 rfl rfl Try.underlying43 rfl (rd_mem 1 rfl rfl) ?_
 refine o_len rfl rfl Try.underlying43 ?_
 refine o_bin rfl rfl rfl b_lss ?_
 refine l_nil ?_
 refine q_then ?_
 refine c_cond rfl (fun h1 => ?_) (fun h1 => ?_)
 · -- h1T
  have h1b := h1
  try simp only [decide_eq_true_eq] at h1
  refine c_skip ?_
  refine q_then ?_
  refine c_seq ?_
  refine c_block ?_
  refine c_seq ?_
  refine c_region ?_
  refine o_move rfl rfl ?_
  refine o_nil rfl rfl ?_
  refine o_fieldAddr (q := ⟨m, 1, none⟩) rfl rfl Try.underlying54 rfl ti43 rfl ?_
  refine o_load1 rfl rfl Try.underlying43 rfl (rd_mem 1 rfl rfl) ?_
  refine o_move rfl rfl ?_
  refine o_index e_Row_ok rfl rfl rfl Try.underlying43 (by omega) (by omega) (rds_own e_Row_ok 2 rfl) fun ad20 ead20 => ?_
  obtain ⟨x20, hx20⟩ : ∃ x, (xs)[((i : Int)).toNat]? = some x := ⟨_, List.getElem?_eq_getElem (by omega)⟩
  refine o_fieldAddr rfl rfl Try.underlying49 rfl ti9 (Addr.add_add' _ _ _) ?_
  refine o_load1 rfl rfl Try.underlying9 rfl (rd_sl e_Row_ok ead20 (rds_own e_Row_ok 2 rfl) hx20 rfl) ?_
  refine o_move rfl rfl ?_
  refine o_bin rfl rfl rfl b_seql ?_
  refine l_nil ?_
  refine q_then ?_
  refine c_cond rfl (fun h2 => ?_) (fun h2 => ?_)
  · -- h2T
   have h2b := h2
   try simp only [decide_eq_true_eq] at h2
   refine c_seq ?_
   refine c_region ?_
   refine o_move rfl rfl ?_
   refine o_nil rfl rfl ?_
   refine o_fieldAddr (q := ⟨m, 1, none⟩) rfl rfl Try.underlying54 rfl ti43 rfl ?_
   refine o_load1 rfl rfl Try.underlying43 rfl (rd_mem 1 rfl rfl) ?_
   refine o_move rfl rfl ?_
   refine o_indexK e_Row_ok ead20 rfl rfl rfl Try.underlying43 (by omega) (by omega) ?_
   obtain ⟨x30, hx30⟩ : ∃ x, (xs)[((i : Int)).toNat]? = some x := ⟨_, List.getElem?_eq_getElem (by omega)⟩
   have e30 : x30 = x20 := by rw [hx30] at hx20; exact Option.some.inj hx20
   refine o_fieldAddr rfl rfl Try.underlying49 rfl ti36 (Addr.add_add' _ _ _) ?_
   refine o_loadn (vs := [.bool x30.f_value.f_Has, .slice x30.f_value.f_Value.a (x30.f_value.f_Value.xs).length x30.f_value.f_Value.c, .int .i64 x30.f_value.f_Home, .int .u64 x30.f_value.f_Count]) rfl rfl Try.underlying36 rfl ti36 (rdn_slo (n := 4) e_Row_ok ead20 (rds_own e_Row_ok 2 rfl) hx30 rfl) ?_
   refine o_storen rfl rfl ti36 rfl rfl rfl rfl ?_
   refine l_nil ?_
   refine q_then ?_
   refine c_ret ?_
   refine q_block_ret ?_
   refine q_pass_ret ?_
   refine q_pass_ret ?_
   refine q_block_ret ?_
   refine q_pass_ret ?_
   refine f_retq (.inl rfl) (rs_1 rfl (rs_celln (vs := [.bool x30.f_value.f_Has, .slice x30.f_value.f_Value.a (x30.f_value.f_Value.xs).length x30.f_value.f_Value.c, .int .i64 x30.f_value.f_Home, .int .u64 x30.f_value.f_Count]) rfl Try.underlying36 rfl ti36 (rdn_lit 0 rfl rfl))) (fun w S => ?_)
   replace S := S.tail
   exact ⟨_, ⟨x30.f_value, (by rw [e30]; exact lookI_at (show xs[i]? = some x20 from hx20) (by assumption) hno), rfl, rfl⟩, (fun w S => S) w S⟩
  · -- h2F
   have h2b := h2
   try simp only [decide_eq_false_iff_not, Int.not_lt, Int.not_le] at h2
   refine c_skip ?_
   refine q_block ?_
   refine q_then ?_
   refine c_region ?_
   refine o_move rfl rfl ?_
   refine o_bin rfl rfl rfl (b_add (wrap_i64 (by omega) (by omega))) ?_
   refine o_assign rfl rfl ?_
   refine l_nil ?_
   exact q_round (i + 1) (by exact ⟨by omega, fun y hy => by rw [take_snoc' (show xs[i]? = some x20 from hx20)] at hy; rcases List.mem_append.1 hy with hy | hy; exact hno y hy; obtain rfl : y = x20 := (by simpa using hy); assumption⟩) (by (try dsimp only); omega) ⟨(by first | rfl | exact vint (by omega)), (by first | rfl | exact vint (by omega)), (by first | rfl | exact vint (by omega)), (by first | rfl | exact vint (by omega)), trivial⟩ (fun w S => S)
 · -- h1F
  have h1b := h1
  try simp only [decide_eq_false_iff_not, Int.not_lt, Int.not_le] at h1
  refine c_exit ?_
  refine q_pass_exit ?_
  refine q_pass_exit ?_
  refine q_hit ?_
  refine q_then ?_
  refine c_seq ?_
  refine c_region ?_
  refine o_move rfl rfl ?_
  refine o_move rfl rfl ?_
  refine o_nil rfl rfl ?_
  refine o_fieldAddr (q := ⟨m, 0, none⟩) rfl rfl Try.underlying54 rfl ti3 rfl ?_
  refine o_load1 rfl rfl Try.underlying3 rfl (rd_mem 1 rfl rfl) ?_
  refine o_call rfl cal23 rfl (rdefault_ (k := k') (n := n) (by omega) (by omega)) ?_
  rintro _ _ ⟨rfl, rfl⟩
  refine o_build rfl sp36 ti36 rfl ((fill_cons (cells' := [.bool false, .slice none 0 0, .int .i64 (dflt k' n), .int .u64 0]) rfl rfl rfl rfl fill_nil)) ?_
  refine o_storen rfl rfl ti36 rfl rfl rfl rfl ?_
  refine l_nil ?_
  refine q_then ?_
  refine c_ret ?_
  refine f_retq (.inl rfl) (rs_1 rfl (rs_celln (vs := [.bool false, .slice none 0 0, .int .i64 (dflt k' n), .int .u64 0]) rfl Try.underlying36 rfl ti36 (rdn_lit 0 rfl rfl))) (fun w S => ?_)
  replace S := S.tail
  exact ⟨_, ⟨⟨false, ⟨none, [], 0⟩, dflt k' n, 0⟩, lookI_none (fun y hy => hno y (by rw [List.take_of_length_le (by omega)]; exact hy)), rfl, rfl⟩, (fun w S => S) w S⟩
set_option maxHeartbeats 2000000 in
theorem rset_ {W : World} {F : List Res} {m : Nat} {n : Int} {xs : List ItA} {a : Option Addr} {c : Nat} {k' : ByteArray} {r : Rec} (hs : Srt ItA.f_key strlt xs) (h0 : 0 ≤ r.f_Count) (hl : xs.length ≤ 1000000) : CS Try.prog 57 #[.pointer (some ⟨m, 0, none⟩), .string k', .agg #[.bool r.f_Has, .slice r.f_Value.a (r.f_Value.xs).length r.f_Value.c, .int .i64 r.f_Home, .int .u64 r.f_Count]] W (blk m (.cells #[.int .i64 n, .slice a (xs).length c] 54 (0, 0)) :: row e_Row.T e_Row.sz a (xs).length c (flat e_Row xs) :: F) (fun _ L' => ∃ (a' : Option Addr) (c' : Nat), L' = blk m (.cells #[.int .i64 n, .slice a' ((setI k' r xs)).length c'] 54 (0, 0)) :: row e_Row.T e_Row.sz a' ((setI k' r xs)).length c' (flat e_Row (setI k' r xs)) :: F) := by
 refine f_door (l0 := [(0, .pointer (some ⟨m, 0, none⟩)), (1, .string k'), (2, .agg #[.bool r.f_Has, .slice r.f_Value.a (r.f_Value.xs).length r.f_Value.c, .int .i64 r.f_Home, .int .u64 r.f_Count])]) Try.func57 Try.ntmps57 rfl rfl rfl ?_
 refine c_seq ?_
 refine c_region ?_
 refine o_box rfl rfl fun b5 => ?_
 refine l_nil ?_
 refine q_then ?_
 refine c_seq ?_
 refine c_held [blk b5 (.cells #[.bool r.f_Has, .slice r.f_Value.a (r.f_Value.xs).length r.f_Value.c, .int .i64 r.f_Home, .int .u64 r.f_Count] 36 (0, 0)), blk m (.cells #[.int .i64 n, .slice a (xs).length c] 54 (0, 0)), row e_Row.T e_Row.sz a (xs).length c (flat e_Row xs)] (by kernel_rfl) rfl ?_
 refine h_take 1 rfl rfl (by kernel_rfl) (by kernel_rfl) (by kernel_rfl) (fun L0 => v_fieldAddr (q := ⟨b5, 0, none⟩) rfl rfl Try.underlying36 rfl ti4 rfl) ?_
 refine h_take 2 rfl rfl (by kernel_rfl) (by kernel_rfl) (by kernel_rfl) (fun L0 => v_load1 rfl rfl Try.underlying4 rfl (rd_mem 0 rfl rfl)) ?_
 refine h_take 3 rfl rfl (by kernel_rfl) (by kernel_rfl) (by kernel_rfl) (fun L0 => v_move rfl rfl) ?_
 refine h_split (t := 12) rfl (fun h1 => ?_) (fun h1 => ?_)
 · -- h1T
  have h1b := h1
  try simp only [decide_eq_true_eq, decide_eq_false_iff_not, Bool.not_eq_eq_eq_not, Bool.not_true, Bool.not_false, Bool.not_eq_true', Bool.not_eq_false', Int.not_lt, Int.not_le, Bool.or_eq_true, Bool.and_eq_true] at h1
  refine h_take_no 4 rfl rfl rfl rfl rfl (by kernel_rfl) (by kernel_rfl) (by kernel_rfl) ?_
  refine h_take_no 5 rfl rfl rfl rfl rfl (by kernel_rfl) (by kernel_rfl) (by kernel_rfl) ?_
  refine h_take_no 6 rfl rfl rfl rfl rfl (by kernel_rfl) (by kernel_rfl) (by kernel_rfl) ?_
  refine h_take 7 rfl rfl (by kernel_rfl) (by kernel_rfl) (by kernel_rfl) (fun L0 => v_pick_true rfl rfl rfl) ?_
  refine h_one 0 rfl (by kernel_rfl) ?_
  refine o_lit e_Row_ok rfl Try.underlying43 rfl rfl rfl (lit_ok rfl) ([] : List ItA) rfl rfl fun a9 => ?_
  refine l_nil ?_
  refine q_conv (fun w S => S.perm p3) ?_
  refine q_conv (fun w S => S.perm p3) ?_
  refine q_conv (fun w S => S.perm p3) ?_
  refine h_next ?_
  refine h_take 8 rfl rfl (by kernel_rfl) (by kernel_rfl) (by kernel_rfl) (fun L0 => v_assign rfl rfl) ?_
  refine h_take 9 rfl rfl (by kernel_rfl) (by kernel_rfl) (by kernel_rfl) (fun L0 => v_assign rfl rfl) ?_
  refine h_done (by kernel_rfl) ?_
  refine q_then ?_
  refine c_seq ?_
  refine c_seq ?_
  refine c_region ?_
  refine o_assign rfl rfl ?_
  refine l_nil ?_
  refine q_then ?_
  refine c_block ?_
  refine c_loop (α := Nat × (List ItA) × Bool × (Option Addr) × Nat) (fun z => [(0, .pointer (some ⟨m, 0, none⟩)), (1, .string k'), (5, .pointer (some ⟨b5, 0, none⟩)), (6, .slice z.2.2.2.1 (z.2.1).length z.2.2.2.2), (7, .bool z.2.2.1), (8, .int .i64 (z.1 : Int))]) (fun z => blk b5 (.cells #[.bool r.f_Has, .slice r.f_Value.a (r.f_Value.xs).length r.f_Value.c, .int .i64 r.f_Home, .int .u64 r.f_Count] 36 (0, 0)) :: blk m (.cells #[.int .i64 n, .slice a (xs).length c] 54 (0, 0)) :: row e_Row.T e_Row.sz a (xs).length c (flat e_Row xs) :: row e_Row.T e_Row.sz z.2.2.2.1 (z.2.1).length z.2.2.2.2 (flat e_Row z.2.1) :: F) (fun z => z.1 ≤ xs.length ∧ z.2.1 ++ setL k' r z.2.2.1 (xs.drop z.1) = setL k' r (r.f_Has || decide (0 < r.f_Count)) xs) (fun z => xs.length - z.1) (0, ([] : List ItA), true, a9, 0) (by exact ⟨Nat.zero_le _, by first | (rw [List.nil_append, List.drop_zero, show r.f_Has = true by assumption]; rfl) | (rw [List.nil_append, List.drop_zero, show r.f_Has = false by assumption]; rfl)⟩) ⟨(by first | rfl | exact vint (by omega)), (by first | rfl | exact vint (by omega)), (by first | rfl | exact vint (by omega)), (by first | rfl | exact vint (by omega)), (by first | rfl | exact vint (by omega)), (by first | rfl | exact vint (by omega)), trivial⟩ (fun w S => S) ?_
  rintro ⟨i, O, kp, ao, co⟩ ⟨hi, hset⟩
  try dsimp only at *
  refine c_seq ?_
  refine c_seq ?_
  refine c_region ?_
  refine o_move rfl rfl ?_
  refine o_move rfl rfl ?_
  refine o_nil rfl rfl ?_
  refine o_fieldAddr (q := ⟨m, 1, none⟩) rfl rfl Try.underlying54 rfl ti43 rfl ?_
  refine o_load1 rfl rfl Try.underlying43 rfl (rd_mem 1 rfl rfl) ?_
  refine o_len rfl rfl Try.underlying43 ?_
  refine o_bin rfl rfl rfl b_lss ?_
  refine l_nil ?_
  refine q_then ?_
  refine c_cond rfl (fun h2 => ?_) (fun h2 => ?_)
  · -- h2T
   have h2b := h2
   try simp only [decide_eq_true_eq] at h2
   refine c_skip ?_
   refine q_then ?_
   refine c_seq ?_
   refine c_block ?_
   refine c_seq ?_
   refine c_seq ?_
   have hol : O.length ≤ 2000000 := by have h9 := setL_len (xs := xs) (k := k') (r := r) (kp := r.f_Has || decide (0 < r.f_Count)); rw [← hset, List.length_append] at h9; omega
   refine c_region ?_
   refine o_move rfl rfl ?_
   refine o_move rfl rfl ?_
   refine l_split (t := 27) rfl (fun h3 => ?_) (fun h3 => ?_)
   · -- h3T
    have h3b := h3
    try simp only [decide_eq_true_eq, decide_eq_false_iff_not, Bool.not_eq_eq_eq_not, Bool.not_true, Bool.not_false, Bool.not_eq_true', Bool.not_eq_false', Int.not_lt, Int.not_le, Bool.or_eq_true, Bool.and_eq_true] at h3
    refine o_yes rfl rfl rfl ?_
    refine o_move rfl rfl ?_
    refine o_yes rfl rfl rfl ?_
    refine o_nil rfl rfl ?_
    refine o_yes rfl rfl rfl ?_
    refine o_fieldAddr (q := ⟨m, 1, none⟩) rfl rfl Try.underlying54 rfl ti43 rfl ?_
    refine o_yes rfl rfl rfl ?_
    refine o_load1 rfl rfl Try.underlying43 rfl (rd_mem 1 rfl rfl) ?_
    refine o_yes rfl rfl rfl ?_
    refine o_move rfl rfl ?_
    refine o_yes rfl rfl rfl ?_
    refine o_index e_Row_ok rfl rfl rfl Try.underlying43 (by omega) (by omega) (rds_own e_Row_ok 2 rfl) fun ad33 ead33 => ?_
    obtain ⟨x33, hx33⟩ : ∃ x, (xs)[((i : Int)).toNat]? = some x := ⟨_, List.getElem?_eq_getElem (by omega)⟩
    refine o_yes rfl rfl rfl ?_
    refine o_fieldAddr rfl rfl Try.underlying49 rfl ti9 (Addr.add_add' _ _ _) ?_
    refine o_yes rfl rfl rfl ?_
    refine o_load1 rfl rfl Try.underlying9 rfl (rd_sl e_Row_ok ead33 (rds_own e_Row_ok 2 rfl) hx33 rfl) ?_
    refine o_yes rfl rfl rfl ?_
    refine o_move rfl rfl ?_
    refine o_yes rfl rfl rfl ?_
    refine o_bin rfl rfl rfl b_sgtr ?_
    refine o_pick_true rfl rfl rfl ?_
    refine l_nil ?_
    refine q_then ?_
    refine c_cond rfl (fun h4 => ?_) (fun h4 => ?_)
    · -- h4T
     have h4b := h4
     try simp only [decide_eq_true_eq, decide_eq_false_iff_not, Bool.not_eq_eq_eq_not, Bool.not_true, Bool.not_false, Bool.not_eq_true', Bool.not_eq_false', Int.not_lt, Int.not_le, Bool.or_eq_true, Bool.and_eq_true] at h4
     refine c_seq ?_
     refine c_region ?_
     refine o_move rfl rfl ?_
     refine o_move rfl rfl ?_
     refine o_loadn (vs := [_, _, _, _]) rfl rfl Try.underlying36 rfl ti36 (rdn_lit 0 rfl rfl) ?_
     refine o_build rfl sp49 ti49 rfl ((fill_cons (cells' := [.string k', .bool false, .slice none 0 0, .int .i64 0, .int .u64 0]) rfl rfl rfl rfl (fill_cons (cells' := [.string k', .bool r.f_Has, .slice r.f_Value.a (r.f_Value.xs).length r.f_Value.c, .int .i64 r.f_Home, .int .u64 r.f_Count]) rfl rfl rfl rfl fill_nil))) ?_
     refine o_lit e_Row_ok rfl Try.underlying43 rfl rfl rfl (lit_ok rfl) [(⟨k', r⟩ : ItA)] rfl rfl fun a43 => ?_
     refine l_f4 ?_
     refine o_append e_Row_ok rfl rfl rfl Try.underlying43 (rds_own e_Row_ok 1 rfl) (by show (_ + _) * 64 ≤ _; (try simp only [List.length_append, List.length_cons, List.length_nil]); omega) (by (try simp only [List.length_append, List.length_cons, List.length_nil]); omega) fun a44 c44 => ?_
     refine l_f1 ?_
     refine l_drop ?_
     refine o_assign rfl rfl ?_
     refine l_nil ?_
     refine q_then ?_
     refine c_region ?_
     refine o_assign rfl rfl ?_
     refine l_nil ?_
     refine q_then ?_
     refine c_seq ?_
     refine c_region ?_
     refine o_move rfl rfl ?_
     refine o_nil rfl rfl ?_
     refine o_fieldAddr (q := ⟨m, 1, none⟩) rfl rfl Try.underlying54 rfl ti43 rfl ?_
     refine o_load1 rfl rfl Try.underlying43 rfl (rd_mem 2 rfl rfl) ?_
     refine o_move rfl rfl ?_
     refine o_indexK e_Row_ok ead33 rfl rfl rfl Try.underlying43 (by omega) (by omega) ?_
     obtain ⟨x50, hx50⟩ : ∃ x, (xs)[((i : Int)).toNat]? = some x := ⟨_, List.getElem?_eq_getElem (by omega)⟩
     first | have e50 : x50 = x33 := by rw [hx50] at hx33; exact Option.some.inj hx33 | skip
     refine o_fieldAddr rfl rfl Try.underlying49 rfl ti9 (Addr.add_add' _ _ _) ?_
     refine o_load1 rfl rfl Try.underlying9 rfl (rd_sl e_Row_ok ead33 (rds_own e_Row_ok 3 rfl) hx50 rfl) ?_
     refine o_move rfl rfl ?_
     refine o_bin rfl rfl rfl b_sneq ?_
     refine l_nil ?_
     refine q_then ?_
     refine c_cond rfl (fun h5 => ?_) (fun h5 => ?_)
     · -- h5T
      have h5b := h5
      try simp only [Bool.not_eq_true', decide_eq_false_iff_not, Int.not_lt, Int.not_le] at h5
      refine c_region ?_
      refine o_move rfl rfl ?_
      refine o_move rfl rfl ?_
      refine o_nil rfl rfl ?_
      refine o_fieldAddr (q := ⟨m, 1, none⟩) rfl rfl Try.underlying54 rfl ti43 rfl ?_
      refine o_load1 rfl rfl Try.underlying43 rfl (rd_mem 2 rfl rfl) ?_
      refine o_move rfl rfl ?_
      refine o_indexK e_Row_ok ead33 rfl rfl rfl Try.underlying43 (by omega) (by omega) ?_
      obtain ⟨x61, hx61⟩ : ∃ x, (xs)[((i : Int)).toNat]? = some x := ⟨_, List.getElem?_eq_getElem (by omega)⟩
      have e61 : x61 = x50 := by rw [hx61] at hx50; exact Option.some.inj hx50
      refine o_loadn (vs := e_Row.cells x61) rfl rfl Try.underlying49 rfl ti49 (rdn_sl e_Row_ok ead33 (rds_own e_Row_ok 3 rfl) hx61) ?_
      refine o_lit e_Row_ok rfl Try.underlying43 rfl rfl rfl (lit_ok rfl) [x61] rfl rfl fun a63 => ?_
      refine l_f1 ?_
      refine o_append e_Row_ok rfl rfl rfl Try.underlying43 (rds_own e_Row_ok 1 rfl) (by show (_ + _) * 64 ≤ _; (try simp only [List.length_append, List.length_cons, List.length_nil]); omega) (by (try simp only [List.length_append, List.length_cons, List.length_nil]); omega) fun a64 c64 => ?_
      refine l_f1 ?_
      refine l_drop ?_
      refine o_assign rfl rfl ?_
      refine l_nil ?_
      refine q_block ?_
      refine q_then ?_
      refine c_region ?_
      refine o_move rfl rfl ?_
      refine o_bin rfl rfl rfl (b_add (wrap_i64 (by omega) (by omega))) ?_
      refine o_assign rfl rfl ?_
      refine l_nil ?_
      refine q_conv (fun w S => S.perm p3) ?_
      refine q_conv (fun w S => S.perm p3) ?_
      refine q_conv (fun w S => S.perm p3) ?_
      exact q_round (i + 1, O ++ [(⟨k', r⟩ : ItA)] ++ [x61], false, a64, c64) (by exact ⟨by omega, by rw [e61]; exact setL_A' hset (by assumption) (show xs[i]? = some x50 from hx50) (by rw [e50]; exact (show slt k' x33.f_key = true by assumption)) (by assumption)⟩) (by (try dsimp only); omega) ⟨(by first | rfl | exact vint (by omega)), (by first | rfl | exact vint (by omega)), (by first | rfl | exact vint (by omega)), (by first | rfl | exact vint (by omega)), (by first | rfl | exact vint (by omega)), (by first | rfl | exact vint (by omega)), trivial⟩ (fun w S => S)
     · -- h5F
      have h5b := h5
      try simp only [Bool.not_eq_false', decide_eq_true_eq] at h5
      refine c_skip ?_
      refine q_block ?_
      refine q_then ?_
      refine c_region ?_
      refine o_move rfl rfl ?_
      refine o_bin rfl rfl rfl (b_add (wrap_i64 (by omega) (by omega))) ?_
      refine o_assign rfl rfl ?_
      refine l_nil ?_
      refine q_conv (fun w S => S.perm p3) ?_
      refine q_conv (fun w S => S.perm p3) ?_
      refine q_conv (fun w S => S.perm p3) ?_
      exact q_round (i + 1, O ++ [(⟨k', r⟩ : ItA)], false, a44, c44) (by exact absurd (show strlt k' x33.f_key from (show slt k' x33.f_key = true by assumption)) (by rw [← e50, show x50.f_key = k' by assumption]; exact strlt_sto.irr _)) (by (try dsimp only); omega) ⟨(by first | rfl | exact vint (by omega)), (by first | rfl | exact vint (by omega)), (by first | rfl | exact vint (by omega)), (by first | rfl | exact vint (by omega)), (by first | rfl | exact vint (by omega)), (by first | rfl | exact vint (by omega)), trivial⟩ (fun w S => S)
    · -- h4F
     have h4b := h4
     try simp only [decide_eq_true_eq, decide_eq_false_iff_not, Bool.not_eq_eq_eq_not, Bool.not_true, Bool.not_false, Bool.not_eq_true', Bool.not_eq_false', Int.not_lt, Int.not_le, Bool.or_eq_true, Bool.and_eq_true] at h4
     refine c_skip ?_
     refine q_then ?_
     refine c_seq ?_
     refine c_region ?_
     refine o_move rfl rfl ?_
     refine o_nil rfl rfl ?_
     refine o_fieldAddr (q := ⟨m, 1, none⟩) rfl rfl Try.underlying54 rfl ti43 rfl ?_
     refine o_load1 rfl rfl Try.underlying43 rfl (rd_mem 1 rfl rfl) ?_
     refine o_move rfl rfl ?_
     refine o_indexK e_Row_ok ead33 rfl rfl rfl Try.underlying43 (by omega) (by omega) ?_
     obtain ⟨x50, hx50⟩ : ∃ x, (xs)[((i : Int)).toNat]? = some x := ⟨_, List.getElem?_eq_getElem (by omega)⟩
     first | have e50 : x50 = x33 := by rw [hx50] at hx33; exact Option.some.inj hx33 | skip
     refine o_fieldAddr rfl rfl Try.underlying49 rfl ti9 (Addr.add_add' _ _ _) ?_
     refine o_load1 rfl rfl Try.underlying9 rfl (rd_sl e_Row_ok ead33 (rds_own e_Row_ok 2 rfl) hx50 rfl) ?_
     refine o_move rfl rfl ?_
     refine o_bin rfl rfl rfl b_sneq ?_
     refine l_nil ?_
     refine q_then ?_
     refine c_cond rfl (fun h6 => ?_) (fun h6 => ?_)
     · -- h6T
      have h6b := h6
      try simp only [Bool.not_eq_true', decide_eq_false_iff_not, Int.not_lt, Int.not_le] at h6
      refine c_region ?_
      refine o_move rfl rfl ?_
      refine o_move rfl rfl ?_
      refine o_nil rfl rfl ?_
      refine o_fieldAddr (q := ⟨m, 1, none⟩) rfl rfl Try.underlying54 rfl ti43 rfl ?_
      refine o_load1 rfl rfl Try.underlying43 rfl (rd_mem 1 rfl rfl) ?_
      refine o_move rfl rfl ?_
      refine o_indexK e_Row_ok ead33 rfl rfl rfl Try.underlying43 (by omega) (by omega) ?_
      obtain ⟨x61, hx61⟩ : ∃ x, (xs)[((i : Int)).toNat]? = some x := ⟨_, List.getElem?_eq_getElem (by omega)⟩
      have e61 : x61 = x50 := by rw [hx61] at hx50; exact Option.some.inj hx50
      refine o_loadn (vs := e_Row.cells x61) rfl rfl Try.underlying49 rfl ti49 (rdn_sl e_Row_ok ead33 (rds_own e_Row_ok 2 rfl) hx61) ?_
      refine o_lit e_Row_ok rfl Try.underlying43 rfl rfl rfl (lit_ok rfl) [x61] rfl rfl fun a63 => ?_
      refine l_f4 ?_
      refine o_append e_Row_ok rfl rfl rfl Try.underlying43 (rds_own e_Row_ok 1 rfl) (by show (_ + _) * 64 ≤ _; (try simp only [List.length_append, List.length_cons, List.length_nil]); omega) (by (try simp only [List.length_append, List.length_cons, List.length_nil]); omega) fun a64 c64 => ?_
      refine l_f1 ?_
      refine l_drop ?_
      refine o_assign rfl rfl ?_
      refine l_nil ?_
      refine q_block ?_
      refine q_then ?_
      refine c_region ?_
      refine o_move rfl rfl ?_
      refine o_bin rfl rfl rfl (b_add (wrap_i64 (by omega) (by omega))) ?_
      refine o_assign rfl rfl ?_
      refine l_nil ?_
      refine q_conv (fun w S => S.perm p3) ?_
      refine q_conv (fun w S => S.perm p3) ?_
      refine q_conv (fun w S => S.perm p3) ?_
      exact q_round (i + 1, O ++ [x61], kp, a64, c64) (by exact ⟨by omega, by rw [e61]; exact setL_B hset (show xs[i]? = some x50 from hx50) (by rintro ⟨h8, h9⟩; first | exact absurd (h8.symm.trans (show kp = false by assumption)) (by decide) | (rw [e50] at h9; have h7 : slt k' x33.f_key = true := h9; simp_all)) (by assumption)⟩) (by (try dsimp only); omega) ⟨(by first | rfl | exact vint (by omega)), (by first | rfl | exact vint (by omega)), (by first | rfl | exact vint (by omega)), (by first | rfl | exact vint (by omega)), (by first | rfl | exact vint (by omega)), (by first | rfl | exact vint (by omega)), trivial⟩ (fun w S => S)
     · -- h6F
      have h6b := h6
      try simp only [Bool.not_eq_false', decide_eq_true_eq] at h6
      refine c_skip ?_
      refine q_block ?_
      refine q_then ?_
      refine c_region ?_
      refine o_move rfl rfl ?_
      refine o_bin rfl rfl rfl (b_add (wrap_i64 (by omega) (by omega))) ?_
      refine o_assign rfl rfl ?_
      refine l_nil ?_
      exact q_round (i + 1, O, kp, ao, co) (by exact ⟨by omega, setL_C hset (show xs[i]? = some x50 from hx50) (by rintro ⟨h8, h9⟩; first | exact absurd (h8.symm.trans (show kp = false by assumption)) (by decide) | (rw [e50] at h9; have h7 : slt k' x33.f_key = true := h9; simp_all)) (by assumption)⟩) (by (try dsimp only); omega) ⟨(by first | rfl | exact vint (by omega)), (by first | rfl | exact vint (by omega)), (by first | rfl | exact vint (by omega)), (by first | rfl | exact vint (by omega)), (by first | rfl | exact vint (by omega)), (by first | rfl | exact vint (by omega)), trivial⟩ (fun w S => S)
   · -- h3F
    have h3b := h3
    try simp only [decide_eq_true_eq, decide_eq_false_iff_not, Bool.not_eq_eq_eq_not, Bool.not_true, Bool.not_false, Bool.not_eq_true', Bool.not_eq_false', Int.not_lt, Int.not_le, Bool.or_eq_true, Bool.and_eq_true] at h3
    refine o_no rfl rfl rfl rfl ?_
    refine o_no rfl rfl rfl rfl ?_
    refine o_no rfl rfl rfl rfl ?_
    refine o_no rfl rfl rfl rfl ?_
    refine o_no rfl rfl rfl rfl ?_
    refine o_no rfl rfl rfl rfl ?_
    refine o_no rfl rfl rfl rfl ?_
    refine o_no rfl rfl rfl rfl ?_
    refine o_no rfl rfl rfl rfl ?_
    refine o_no rfl rfl rfl rfl ?_
    refine o_pick_false rfl rfl rfl ?_
    refine l_nil ?_
    refine q_then ?_
    refine c_false rfl ?_
    refine c_skip ?_
    refine q_then ?_
    refine c_seq ?_
    refine c_region ?_
    refine o_move rfl rfl ?_
    refine o_nil rfl rfl ?_
    refine o_fieldAddr (q := ⟨m, 1, none⟩) rfl rfl Try.underlying54 rfl ti43 rfl ?_
    refine o_load1 rfl rfl Try.underlying43 rfl (rd_mem 1 rfl rfl) ?_
    refine o_move rfl rfl ?_
    refine o_index e_Row_ok rfl rfl rfl Try.underlying43 (by omega) (by omega) (rds_own e_Row_ok 2 rfl) fun ad50 ead50 => ?_
    obtain ⟨x50, hx50⟩ : ∃ x, (xs)[((i : Int)).toNat]? = some x := ⟨_, List.getElem?_eq_getElem (by omega)⟩
    first | have e50 : x50 = x33 := by rw [hx50] at hx33; exact Option.some.inj hx33 | skip
    refine o_fieldAddr rfl rfl Try.underlying49 rfl ti9 (Addr.add_add' _ _ _) ?_
    refine o_load1 rfl rfl Try.underlying9 rfl (rd_sl e_Row_ok ead50 (rds_own e_Row_ok 2 rfl) hx50 rfl) ?_
    refine o_move rfl rfl ?_
    refine o_bin rfl rfl rfl b_sneq ?_
    refine l_nil ?_
    refine q_then ?_
    refine c_cond rfl (fun h7 => ?_) (fun h7 => ?_)
    · -- h7T
     have h7b := h7
     try simp only [Bool.not_eq_true', decide_eq_false_iff_not, Int.not_lt, Int.not_le] at h7
     refine c_region ?_
     refine o_move rfl rfl ?_
     refine o_move rfl rfl ?_
     refine o_nil rfl rfl ?_
     refine o_fieldAddr (q := ⟨m, 1, none⟩) rfl rfl Try.underlying54 rfl ti43 rfl ?_
     refine o_load1 rfl rfl Try.underlying43 rfl (rd_mem 1 rfl rfl) ?_
     refine o_move rfl rfl ?_
     refine o_indexK e_Row_ok ead50 rfl rfl rfl Try.underlying43 (by omega) (by omega) ?_
     obtain ⟨x61, hx61⟩ : ∃ x, (xs)[((i : Int)).toNat]? = some x := ⟨_, List.getElem?_eq_getElem (by omega)⟩
     have e61 : x61 = x50 := by rw [hx61] at hx50; exact Option.some.inj hx50
     refine o_loadn (vs := e_Row.cells x61) rfl rfl Try.underlying49 rfl ti49 (rdn_sl e_Row_ok ead50 (rds_own e_Row_ok 2 rfl) hx61) ?_
     refine o_lit e_Row_ok rfl Try.underlying43 rfl rfl rfl (lit_ok rfl) [x61] rfl rfl fun a63 => ?_
     refine l_f4 ?_
     refine o_append e_Row_ok rfl rfl rfl Try.underlying43 (rds_own e_Row_ok 1 rfl) (by show (_ + _) * 64 ≤ _; (try simp only [List.length_append, List.length_cons, List.length_nil]); omega) (by (try simp only [List.length_append, List.length_cons, List.length_nil]); omega) fun a64 c64 => ?_
     refine l_f1 ?_
     refine l_drop ?_
     refine o_assign rfl rfl ?_
     refine l_nil ?_
     refine q_block ?_
     refine q_then ?_
     refine c_region ?_
     refine o_move rfl rfl ?_
     refine o_bin rfl rfl rfl (b_add (wrap_i64 (by omega) (by omega))) ?_
     refine o_assign rfl rfl ?_
     refine l_nil ?_
     refine q_conv (fun w S => S.perm p3) ?_
     refine q_conv (fun w S => S.perm p3) ?_
     refine q_conv (fun w S => S.perm p3) ?_
     exact q_round (i + 1, O ++ [x61], kp, a64, c64) (by exact ⟨by omega, by rw [e61]; exact setL_B hset (show xs[i]? = some x50 from hx50) (by rintro ⟨h8, h9⟩; first | exact absurd (h8.symm.trans (show kp = false by assumption)) (by decide) | (rw [e50] at h9; have h7 : slt k' x33.f_key = true := h9; simp_all)) (by assumption)⟩) (by (try dsimp only); omega) ⟨(by first | rfl | exact vint (by omega)), (by first | rfl | exact vint (by omega)), (by first | rfl | exact vint (by omega)), (by first | rfl | exact vint (by omega)), (by first | rfl | exact vint (by omega)), (by first | rfl | exact vint (by omega)), trivial⟩ (fun w S => S)
    · -- h7F
     have h7b := h7
     try simp only [Bool.not_eq_false', decide_eq_true_eq] at h7
     refine c_skip ?_
     refine q_block ?_
     refine q_then ?_
     refine c_region ?_
     refine o_move rfl rfl ?_
     refine o_bin rfl rfl rfl (b_add (wrap_i64 (by omega) (by omega))) ?_
     refine o_assign rfl rfl ?_
     refine l_nil ?_
     exact q_round (i + 1, O, kp, ao, co) (by exact ⟨by omega, setL_C hset (show xs[i]? = some x50 from hx50) (by rintro ⟨h8, h9⟩; first | exact absurd (h8.symm.trans (show kp = false by assumption)) (by decide) | (rw [e50] at h9; have h7 : slt k' x33.f_key = true := h9; simp_all)) (by assumption)⟩) (by (try dsimp only); omega) ⟨(by first | rfl | exact vint (by omega)), (by first | rfl | exact vint (by omega)), (by first | rfl | exact vint (by omega)), (by first | rfl | exact vint (by omega)), (by first | rfl | exact vint (by omega)), (by first | rfl | exact vint (by omega)), trivial⟩ (fun w S => S)
  · -- h2F
   have h2b := h2
   try simp only [decide_eq_false_iff_not, Int.not_lt, Int.not_le] at h2
   refine c_exit ?_
   refine q_pass_exit ?_
   refine q_pass_exit ?_
   refine q_hit ?_
   refine q_then ?_
   refine c_seq ?_
   refine c_seq ?_
   refine c_region ?_
   refine o_move rfl rfl ?_
   refine l_nil ?_
   refine q_then ?_
   refine c_cond rfl (fun h8 => ?_) (fun h8 => ?_)
   · -- h8T
    have h8b := h8
    try simp only [decide_eq_true_eq, decide_eq_false_iff_not, Bool.not_eq_eq_eq_not, Bool.not_true, Bool.not_false, Bool.not_eq_true', Bool.not_eq_false', Int.not_lt, Int.not_le, Bool.or_eq_true, Bool.and_eq_true] at h8
    have hol : O.length ≤ 2000000 := by have h9 := setL_len (xs := xs) (k := k') (r := r) (kp := r.f_Has || decide (0 < r.f_Count)); rw [← hset, List.length_append] at h9; omega
    refine c_region ?_
    refine o_move rfl rfl ?_
    refine o_move rfl rfl ?_
    refine o_loadn (vs := [_, _, _, _]) rfl rfl Try.underlying36 rfl ti36 (rdn_lit 0 rfl rfl) ?_
    refine o_build rfl sp49 ti49 rfl ((fill_cons (cells' := [.string k', .bool false, .slice none 0 0, .int .i64 0, .int .u64 0]) rfl rfl rfl rfl (fill_cons (cells' := [.string k', .bool r.f_Has, .slice r.f_Value.a (r.f_Value.xs).length r.f_Value.c, .int .i64 r.f_Home, .int .u64 r.f_Count]) rfl rfl rfl rfl fill_nil))) ?_
    refine o_lit e_Row_ok rfl Try.underlying43 rfl rfl rfl (lit_ok rfl) [(⟨k', r⟩ : ItA)] rfl rfl fun a70 => ?_
    refine l_f4 ?_
    refine o_append e_Row_ok rfl rfl rfl Try.underlying43 (rds_own e_Row_ok 1 rfl) (by show (_ + _) * 64 ≤ _; (try simp only [List.length_append, List.length_cons, List.length_nil]); omega) (by (try simp only [List.length_append, List.length_cons, List.length_nil]); omega) fun a71 c71 => ?_
    refine l_f1 ?_
    refine l_drop ?_
    refine o_assign rfl rfl ?_
    refine l_nil ?_
    refine q_then ?_
    refine c_region ?_
    refine o_move rfl rfl ?_
    refine o_move rfl rfl ?_
    refine o_nil rfl rfl ?_
    refine o_fieldAddr (q := ⟨m, 1, none⟩) rfl rfl Try.underlying54 rfl ti43 rfl ?_
    refine l_f2 ?_
    refine o_store1 rfl rfl rfl ti43 rfl rfl ?_
    refine l_nil ?_
    refine q_conv (fun w S => (S.perm p2).tail) ?_
    refine q_conv (fun w S => (S.perm p2).tail) ?_
    have hfin := ((setL_end hset (by omega)).1 (by assumption)).trans (setL_I hs h0)
    exact f_end (r_none rfl) (⟨a71, c71, rfl⟩) (fun w S => by rw [hfin] at S; exact S)
   · -- h8F
    have h8b := h8
    try simp only [decide_eq_true_eq, decide_eq_false_iff_not, Bool.not_eq_eq_eq_not, Bool.not_true, Bool.not_false, Bool.not_eq_true', Bool.not_eq_false', Int.not_lt, Int.not_le, Bool.or_eq_true, Bool.and_eq_true] at h8
    refine c_skip ?_
    refine q_then ?_
    refine c_region ?_
    refine o_move rfl rfl ?_
    refine o_move rfl rfl ?_
    refine o_nil rfl rfl ?_
    refine o_fieldAddr (q := ⟨m, 1, none⟩) rfl rfl Try.underlying54 rfl ti43 rfl ?_
    refine l_f1 ?_
    refine o_store1 rfl rfl rfl ti43 rfl rfl ?_
    refine l_nil ?_
    refine q_conv (fun w S => (S.perm p1).tail) ?_
    refine q_conv (fun w S => (S.perm p1).tail) ?_
    have hfin := ((setL_end hset (by omega)).2 (by assumption)).trans (setL_I hs h0)
    exact f_end (r_none rfl) (⟨ao, co, rfl⟩) (fun w S => by rw [hfin] at S; exact S)
 · -- h1F
  have h1b := h1
  try simp only [decide_eq_true_eq, decide_eq_false_iff_not, Bool.not_eq_eq_eq_not, Bool.not_true, Bool.not_false, Bool.not_eq_true', Bool.not_eq_false', Int.not_lt, Int.not_le, Bool.or_eq_true, Bool.and_eq_true] at h1
  refine h_take_yes 4 rfl rfl rfl rfl rfl (by kernel_rfl) (by kernel_rfl) (by kernel_rfl) (fun L0 => v_fieldAddr (q := ⟨b5, 3, none⟩) rfl rfl Try.underlying36 rfl ti34 rfl) ?_
  refine h_take_yes 5 rfl rfl rfl rfl rfl (by kernel_rfl) (by kernel_rfl) (by kernel_rfl) (fun L0 => v_load1 rfl rfl Try.underlying34 rfl (rd_mem 0 rfl rfl)) ?_
  refine h_take_yes 6 rfl rfl rfl rfl rfl (by kernel_rfl) (by kernel_rfl) (by kernel_rfl) (fun L0 => v_bin rfl rfl rfl b_gtr) ?_
  refine h_take 7 rfl rfl (by kernel_rfl) (by kernel_rfl) (by kernel_rfl) (fun L0 => v_pick_false rfl rfl rfl) ?_
  refine h_one 0 rfl (by kernel_rfl) ?_
  refine o_lit e_Row_ok rfl Try.underlying43 rfl rfl rfl (lit_ok rfl) ([] : List ItA) rfl rfl fun a9 => ?_
  refine l_nil ?_
  refine q_conv (fun w S => S.perm p3) ?_
  refine q_conv (fun w S => S.perm p3) ?_
  refine q_conv (fun w S => S.perm p3) ?_
  refine h_next ?_
  refine h_take 8 rfl rfl (by kernel_rfl) (by kernel_rfl) (by kernel_rfl) (fun L0 => v_assign rfl rfl) ?_
  refine h_take 9 rfl rfl (by kernel_rfl) (by kernel_rfl) (by kernel_rfl) (fun L0 => v_assign rfl rfl) ?_
  refine h_done (by kernel_rfl) ?_
  refine q_then ?_
  refine c_seq ?_
  refine c_seq ?_
  refine c_region ?_
  refine o_assign rfl rfl ?_
  refine l_nil ?_
  refine q_then ?_
  refine c_block ?_
  refine c_loop (α := Nat × (List ItA) × Bool × (Option Addr) × Nat) (fun z => [(0, .pointer (some ⟨m, 0, none⟩)), (1, .string k'), (5, .pointer (some ⟨b5, 0, none⟩)), (6, .slice z.2.2.2.1 (z.2.1).length z.2.2.2.2), (7, .bool z.2.2.1), (8, .int .i64 (z.1 : Int))]) (fun z => blk b5 (.cells #[.bool r.f_Has, .slice r.f_Value.a (r.f_Value.xs).length r.f_Value.c, .int .i64 r.f_Home, .int .u64 r.f_Count] 36 (0, 0)) :: blk m (.cells #[.int .i64 n, .slice a (xs).length c] 54 (0, 0)) :: row e_Row.T e_Row.sz a (xs).length c (flat e_Row xs) :: row e_Row.T e_Row.sz z.2.2.2.1 (z.2.1).length z.2.2.2.2 (flat e_Row z.2.1) :: F) (fun z => z.1 ≤ xs.length ∧ z.2.1 ++ setL k' r z.2.2.1 (xs.drop z.1) = setL k' r (r.f_Has || decide (0 < r.f_Count)) xs) (fun z => xs.length - z.1) (0, ([] : List ItA), decide (0 < r.f_Count), a9, 0) (by exact ⟨Nat.zero_le _, by first | (rw [List.nil_append, List.drop_zero, show r.f_Has = true by assumption]; rfl) | (rw [List.nil_append, List.drop_zero, show r.f_Has = false by assumption]; rfl)⟩) ⟨(by first | rfl | exact vint (by omega)), (by first | rfl | exact vint (by omega)), (by first | rfl | exact vint (by omega)), (by first | rfl | exact vint (by omega)), (by first | rfl | exact vint (by omega)), (by first | rfl | exact vint (by omega)), trivial⟩ (fun w S => S) ?_
  rintro ⟨i, O, kp, ao, co⟩ ⟨hi, hset⟩
  try dsimp only at *
  refine c_seq ?_
  refine c_seq ?_
  refine c_region ?_
  refine o_move rfl rfl ?_
  refine o_move rfl rfl ?_
  refine o_nil rfl rfl ?_
  refine o_fieldAddr (q := ⟨m, 1, none⟩) rfl rfl Try.underlying54 rfl ti43 rfl ?_
  refine o_load1 rfl rfl Try.underlying43 rfl (rd_mem 1 rfl rfl) ?_
  refine o_len rfl rfl Try.underlying43 ?_
  refine o_bin rfl rfl rfl b_lss ?_
  refine l_nil ?_
  refine q_then ?_
  refine c_cond rfl (fun h9 => ?_) (fun h9 => ?_)
  · -- h9T
   have h9b := h9
   try simp only [decide_eq_true_eq] at h9
   refine c_skip ?_
   refine q_then ?_
   refine c_seq ?_
   refine c_block ?_
   refine c_seq ?_
   refine c_seq ?_
   have hol : O.length ≤ 2000000 := by have h9 := setL_len (xs := xs) (k := k') (r := r) (kp := r.f_Has || decide (0 < r.f_Count)); rw [← hset, List.length_append] at h9; omega
   refine c_region ?_
   refine o_move rfl rfl ?_
   refine o_move rfl rfl ?_
   refine l_split (t := 27) rfl (fun h10 => ?_) (fun h10 => ?_)
   · -- h10T
    have h10b := h10
    try simp only [decide_eq_true_eq, decide_eq_false_iff_not, Bool.not_eq_eq_eq_not, Bool.not_true, Bool.not_false, Bool.not_eq_true', Bool.not_eq_false', Int.not_lt, Int.not_le, Bool.or_eq_true, Bool.and_eq_true] at h10
    refine o_yes rfl rfl rfl ?_
    refine o_move rfl rfl ?_
    refine o_yes rfl rfl rfl ?_
    refine o_nil rfl rfl ?_
    refine o_yes rfl rfl rfl ?_
    refine o_fieldAddr (q := ⟨m, 1, none⟩) rfl rfl Try.underlying54 rfl ti43 rfl ?_
    refine o_yes rfl rfl rfl ?_
    refine o_load1 rfl rfl Try.underlying43 rfl (rd_mem 1 rfl rfl) ?_
    refine o_yes rfl rfl rfl ?_
    refine o_move rfl rfl ?_
    refine o_yes rfl rfl rfl ?_
    refine o_index e_Row_ok rfl rfl rfl Try.underlying43 (by omega) (by omega) (rds_own e_Row_ok 2 rfl) fun ad33 ead33 => ?_
    obtain ⟨x33, hx33⟩ : ∃ x, (xs)[((i : Int)).toNat]? = some x := ⟨_, List.getElem?_eq_getElem (by omega)⟩
    refine o_yes rfl rfl rfl ?_
    refine o_fieldAddr rfl rfl Try.underlying49 rfl ti9 (Addr.add_add' _ _ _) ?_
    refine o_yes rfl rfl rfl ?_
    refine o_load1 rfl rfl Try.underlying9 rfl (rd_sl e_Row_ok ead33 (rds_own e_Row_ok 2 rfl) hx33 rfl) ?_
    refine o_yes rfl rfl rfl ?_
    refine o_move rfl rfl ?_
    refine o_yes rfl rfl rfl ?_
    refine o_bin rfl rfl rfl b_sgtr ?_
    refine o_pick_true rfl rfl rfl ?_
    refine l_nil ?_
    refine q_then ?_
    refine c_cond rfl (fun h11 => ?_) (fun h11 => ?_)
    · -- h11T
     have h11b := h11
     try simp only [decide_eq_true_eq, decide_eq_false_iff_not, Bool.not_eq_eq_eq_not, Bool.not_true, Bool.not_false, Bool.not_eq_true', Bool.not_eq_false', Int.not_lt, Int.not_le, Bool.or_eq_true, Bool.and_eq_true] at h11
     refine c_seq ?_
     refine c_region ?_
     refine o_move rfl rfl ?_
     refine o_move rfl rfl ?_
     refine o_loadn (vs := [_, _, _, _]) rfl rfl Try.underlying36 rfl ti36 (rdn_lit 0 rfl rfl) ?_
     refine o_build rfl sp49 ti49 rfl ((fill_cons (cells' := [.string k', .bool false, .slice none 0 0, .int .i64 0, .int .u64 0]) rfl rfl rfl rfl (fill_cons (cells' := [.string k', .bool r.f_Has, .slice r.f_Value.a (r.f_Value.xs).length r.f_Value.c, .int .i64 r.f_Home, .int .u64 r.f_Count]) rfl rfl rfl rfl fill_nil))) ?_
     refine o_lit e_Row_ok rfl Try.underlying43 rfl rfl rfl (lit_ok rfl) [(⟨k', r⟩ : ItA)] rfl rfl fun a43 => ?_
     refine l_f4 ?_
     refine o_append e_Row_ok rfl rfl rfl Try.underlying43 (rds_own e_Row_ok 1 rfl) (by show (_ + _) * 64 ≤ _; (try simp only [List.length_append, List.length_cons, List.length_nil]); omega) (by (try simp only [List.length_append, List.length_cons, List.length_nil]); omega) fun a44 c44 => ?_
     refine l_f1 ?_
     refine l_drop ?_
     refine o_assign rfl rfl ?_
     refine l_nil ?_
     refine q_then ?_
     refine c_region ?_
     refine o_assign rfl rfl ?_
     refine l_nil ?_
     refine q_then ?_
     refine c_seq ?_
     refine c_region ?_
     refine o_move rfl rfl ?_
     refine o_nil rfl rfl ?_
     refine o_fieldAddr (q := ⟨m, 1, none⟩) rfl rfl Try.underlying54 rfl ti43 rfl ?_
     refine o_load1 rfl rfl Try.underlying43 rfl (rd_mem 2 rfl rfl) ?_
     refine o_move rfl rfl ?_
     refine o_indexK e_Row_ok ead33 rfl rfl rfl Try.underlying43 (by omega) (by omega) ?_
     obtain ⟨x50, hx50⟩ : ∃ x, (xs)[((i : Int)).toNat]? = some x := ⟨_, List.getElem?_eq_getElem (by omega)⟩
     first | have e50 : x50 = x33 := by rw [hx50] at hx33; exact Option.some.inj hx33 | skip
     refine o_fieldAddr rfl rfl Try.underlying49 rfl ti9 (Addr.add_add' _ _ _) ?_
     refine o_load1 rfl rfl Try.underlying9 rfl (rd_sl e_Row_ok ead33 (rds_own e_Row_ok 3 rfl) hx50 rfl) ?_
     refine o_move rfl rfl ?_
     refine o_bin rfl rfl rfl b_sneq ?_
     refine l_nil ?_
     refine q_then ?_
     refine c_cond rfl (fun h12 => ?_) (fun h12 => ?_)
     · -- h12T
      have h12b := h12
      try simp only [Bool.not_eq_true', decide_eq_false_iff_not, Int.not_lt, Int.not_le] at h12
      refine c_region ?_
      refine o_move rfl rfl ?_
      refine o_move rfl rfl ?_
      refine o_nil rfl rfl ?_
      refine o_fieldAddr (q := ⟨m, 1, none⟩) rfl rfl Try.underlying54 rfl ti43 rfl ?_
      refine o_load1 rfl rfl Try.underlying43 rfl (rd_mem 2 rfl rfl) ?_
      refine o_move rfl rfl ?_
      refine o_indexK e_Row_ok ead33 rfl rfl rfl Try.underlying43 (by omega) (by omega) ?_
      obtain ⟨x61, hx61⟩ : ∃ x, (xs)[((i : Int)).toNat]? = some x := ⟨_, List.getElem?_eq_getElem (by omega)⟩
      have e61 : x61 = x50 := by rw [hx61] at hx50; exact Option.some.inj hx50
      refine o_loadn (vs := e_Row.cells x61) rfl rfl Try.underlying49 rfl ti49 (rdn_sl e_Row_ok ead33 (rds_own e_Row_ok 3 rfl) hx61) ?_
      refine o_lit e_Row_ok rfl Try.underlying43 rfl rfl rfl (lit_ok rfl) [x61] rfl rfl fun a63 => ?_
      refine l_f1 ?_
      refine o_append e_Row_ok rfl rfl rfl Try.underlying43 (rds_own e_Row_ok 1 rfl) (by show (_ + _) * 64 ≤ _; (try simp only [List.length_append, List.length_cons, List.length_nil]); omega) (by (try simp only [List.length_append, List.length_cons, List.length_nil]); omega) fun a64 c64 => ?_
      refine l_f1 ?_
      refine l_drop ?_
      refine o_assign rfl rfl ?_
      refine l_nil ?_
      refine q_block ?_
      refine q_then ?_
      refine c_region ?_
      refine o_move rfl rfl ?_
      refine o_bin rfl rfl rfl (b_add (wrap_i64 (by omega) (by omega))) ?_
      refine o_assign rfl rfl ?_
      refine l_nil ?_
      refine q_conv (fun w S => S.perm p3) ?_
      refine q_conv (fun w S => S.perm p3) ?_
      refine q_conv (fun w S => S.perm p3) ?_
      exact q_round (i + 1, O ++ [(⟨k', r⟩ : ItA)] ++ [x61], false, a64, c64) (by exact ⟨by omega, by rw [e61]; exact setL_A' hset (by assumption) (show xs[i]? = some x50 from hx50) (by rw [e50]; exact (show slt k' x33.f_key = true by assumption)) (by assumption)⟩) (by (try dsimp only); omega) ⟨(by first | rfl | exact vint (by omega)), (by first | rfl | exact vint (by omega)), (by first | rfl | exact vint (by omega)), (by first | rfl | exact vint (by omega)), (by first | rfl | exact vint (by omega)), (by first | rfl | exact vint (by omega)), trivial⟩ (fun w S => S)
     · -- h12F
      have h12b := h12
      try simp only [Bool.not_eq_false', decide_eq_true_eq] at h12
      refine c_skip ?_
      refine q_block ?_
      refine q_then ?_
      refine c_region ?_
      refine o_move rfl rfl ?_
      refine o_bin rfl rfl rfl (b_add (wrap_i64 (by omega) (by omega))) ?_
      refine o_assign rfl rfl ?_
      refine l_nil ?_
      refine q_conv (fun w S => S.perm p3) ?_
      refine q_conv (fun w S => S.perm p3) ?_
      refine q_conv (fun w S => S.perm p3) ?_
      exact q_round (i + 1, O ++ [(⟨k', r⟩ : ItA)], false, a44, c44) (by exact absurd (show strlt k' x33.f_key from (show slt k' x33.f_key = true by assumption)) (by rw [← e50, show x50.f_key = k' by assumption]; exact strlt_sto.irr _)) (by (try dsimp only); omega) ⟨(by first | rfl | exact vint (by omega)), (by first | rfl | exact vint (by omega)), (by first | rfl | exact vint (by omega)), (by first | rfl | exact vint (by omega)), (by first | rfl | exact vint (by omega)), (by first | rfl | exact vint (by omega)), trivial⟩ (fun w S => S)
    · -- h11F
     have h11b := h11
     try simp only [decide_eq_true_eq, decide_eq_false_iff_not, Bool.not_eq_eq_eq_not, Bool.not_true, Bool.not_false, Bool.not_eq_true', Bool.not_eq_false', Int.not_lt, Int.not_le, Bool.or_eq_true, Bool.and_eq_true] at h11
     refine c_skip ?_
     refine q_then ?_
     refine c_seq ?_
     refine c_region ?_
     refine o_move rfl rfl ?_
     refine o_nil rfl rfl ?_
     refine o_fieldAddr (q := ⟨m, 1, none⟩) rfl rfl Try.underlying54 rfl ti43 rfl ?_
     refine o_load1 rfl rfl Try.underlying43 rfl (rd_mem 1 rfl rfl) ?_
     refine o_move rfl rfl ?_
     refine o_indexK e_Row_ok ead33 rfl rfl rfl Try.underlying43 (by omega) (by omega) ?_
     obtain ⟨x50, hx50⟩ : ∃ x, (xs)[((i : Int)).toNat]? = some x := ⟨_, List.getElem?_eq_getElem (by omega)⟩
     first | have e50 : x50 = x33 := by rw [hx50] at hx33; exact Option.some.inj hx33 | skip
     refine o_fieldAddr rfl rfl Try.underlying49 rfl ti9 (Addr.add_add' _ _ _) ?_
     refine o_load1 rfl rfl Try.underlying9 rfl (rd_sl e_Row_ok ead33 (rds_own e_Row_ok 2 rfl) hx50 rfl) ?_
     refine o_move rfl rfl ?_
     refine o_bin rfl rfl rfl b_sneq ?_
     refine l_nil ?_
     refine q_then ?_
     refine c_cond rfl (fun h13 => ?_) (fun h13 => ?_)
     · -- h13T
      have h13b := h13
      try simp only [Bool.not_eq_true', decide_eq_false_iff_not, Int.not_lt, Int.not_le] at h13
      refine c_region ?_
      refine o_move rfl rfl ?_
      refine o_move rfl rfl ?_
      refine o_nil rfl rfl ?_
      refine o_fieldAddr (q := ⟨m, 1, none⟩) rfl rfl Try.underlying54 rfl ti43 rfl ?_
      refine o_load1 rfl rfl Try.underlying43 rfl (rd_mem 1 rfl rfl) ?_
      refine o_move rfl rfl ?_
      refine o_indexK e_Row_ok ead33 rfl rfl rfl Try.underlying43 (by omega) (by omega) ?_
      obtain ⟨x61, hx61⟩ : ∃ x, (xs)[((i : Int)).toNat]? = some x := ⟨_, List.getElem?_eq_getElem (by omega)⟩
      have e61 : x61 = x50 := by rw [hx61] at hx50; exact Option.some.inj hx50
      refine o_loadn (vs := e_Row.cells x61) rfl rfl Try.underlying49 rfl ti49 (rdn_sl e_Row_ok ead33 (rds_own e_Row_ok 2 rfl) hx61) ?_
      refine o_lit e_Row_ok rfl Try.underlying43 rfl rfl rfl (lit_ok rfl) [x61] rfl rfl fun a63 => ?_
      refine l_f4 ?_
      refine o_append e_Row_ok rfl rfl rfl Try.underlying43 (rds_own e_Row_ok 1 rfl) (by show (_ + _) * 64 ≤ _; (try simp only [List.length_append, List.length_cons, List.length_nil]); omega) (by (try simp only [List.length_append, List.length_cons, List.length_nil]); omega) fun a64 c64 => ?_
      refine l_f1 ?_
      refine l_drop ?_
      refine o_assign rfl rfl ?_
      refine l_nil ?_
      refine q_block ?_
      refine q_then ?_
      refine c_region ?_
      refine o_move rfl rfl ?_
      refine o_bin rfl rfl rfl (b_add (wrap_i64 (by omega) (by omega))) ?_
      refine o_assign rfl rfl ?_
      refine l_nil ?_
      refine q_conv (fun w S => S.perm p3) ?_
      refine q_conv (fun w S => S.perm p3) ?_
      refine q_conv (fun w S => S.perm p3) ?_
      exact q_round (i + 1, O ++ [x61], kp, a64, c64) (by exact ⟨by omega, by rw [e61]; exact setL_B hset (show xs[i]? = some x50 from hx50) (by rintro ⟨h8, h9⟩; first | exact absurd (h8.symm.trans (show kp = false by assumption)) (by decide) | (rw [e50] at h9; have h7 : slt k' x33.f_key = true := h9; simp_all)) (by assumption)⟩) (by (try dsimp only); omega) ⟨(by first | rfl | exact vint (by omega)), (by first | rfl | exact vint (by omega)), (by first | rfl | exact vint (by omega)), (by first | rfl | exact vint (by omega)), (by first | rfl | exact vint (by omega)), (by first | rfl | exact vint (by omega)), trivial⟩ (fun w S => S)
     · -- h13F
      have h13b := h13
      try simp only [Bool.not_eq_false', decide_eq_true_eq] at h13
      refine c_skip ?_
      refine q_block ?_
      refine q_then ?_
      refine c_region ?_
      refine o_move rfl rfl ?_
      refine o_bin rfl rfl rfl (b_add (wrap_i64 (by omega) (by omega))) ?_
      refine o_assign rfl rfl ?_
      refine l_nil ?_
      exact q_round (i + 1, O, kp, ao, co) (by exact ⟨by omega, setL_C hset (show xs[i]? = some x50 from hx50) (by rintro ⟨h8, h9⟩; first | exact absurd (h8.symm.trans (show kp = false by assumption)) (by decide) | (rw [e50] at h9; have h7 : slt k' x33.f_key = true := h9; simp_all)) (by assumption)⟩) (by (try dsimp only); omega) ⟨(by first | rfl | exact vint (by omega)), (by first | rfl | exact vint (by omega)), (by first | rfl | exact vint (by omega)), (by first | rfl | exact vint (by omega)), (by first | rfl | exact vint (by omega)), (by first | rfl | exact vint (by omega)), trivial⟩ (fun w S => S)
   · -- h10F
    have h10b := h10
    try simp only [decide_eq_true_eq, decide_eq_false_iff_not, Bool.not_eq_eq_eq_not, Bool.not_true, Bool.not_false, Bool.not_eq_true', Bool.not_eq_false', Int.not_lt, Int.not_le, Bool.or_eq_true, Bool.and_eq_true] at h10
    refine o_no rfl rfl rfl rfl ?_
    refine o_no rfl rfl rfl rfl ?_
    refine o_no rfl rfl rfl rfl ?_
    refine o_no rfl rfl rfl rfl ?_
    refine o_no rfl rfl rfl rfl ?_
    refine o_no rfl rfl rfl rfl ?_
    refine o_no rfl rfl rfl rfl ?_
    refine o_no rfl rfl rfl rfl ?_
    refine o_no rfl rfl rfl rfl ?_
    refine o_no rfl rfl rfl rfl ?_
    refine o_pick_false rfl rfl rfl ?_
    refine l_nil ?_
    refine q_then ?_
    refine c_false rfl ?_
    refine c_skip ?_
    refine q_then ?_
    refine c_seq ?_
    refine c_region ?_
    refine o_move rfl rfl ?_
    refine o_nil rfl rfl ?_
    refine o_fieldAddr (q := ⟨m, 1, none⟩) rfl rfl Try.underlying54 rfl ti43 rfl ?_
    refine o_load1 rfl rfl Try.underlying43 rfl (rd_mem 1 rfl rfl) ?_
    refine o_move rfl rfl ?_
    refine o_index e_Row_ok rfl rfl rfl Try.underlying43 (by omega) (by omega) (rds_own e_Row_ok 2 rfl) fun ad50 ead50 => ?_
    obtain ⟨x50, hx50⟩ : ∃ x, (xs)[((i : Int)).toNat]? = some x := ⟨_, List.getElem?_eq_getElem (by omega)⟩
    first | have e50 : x50 = x33 := by rw [hx50] at hx33; exact Option.some.inj hx33 | skip
    refine o_fieldAddr rfl rfl Try.underlying49 rfl ti9 (Addr.add_add' _ _ _) ?_
    refine o_load1 rfl rfl Try.underlying9 rfl (rd_sl e_Row_ok ead50 (rds_own e_Row_ok 2 rfl) hx50 rfl) ?_
    refine o_move rfl rfl ?_
    refine o_bin rfl rfl rfl b_sneq ?_
    refine l_nil ?_
    refine q_then ?_
    refine c_cond rfl (fun h14 => ?_) (fun h14 => ?_)
    · -- h14T
     have h14b := h14
     try simp only [Bool.not_eq_true', decide_eq_false_iff_not, Int.not_lt, Int.not_le] at h14
     refine c_region ?_
     refine o_move rfl rfl ?_
     refine o_move rfl rfl ?_
     refine o_nil rfl rfl ?_
     refine o_fieldAddr (q := ⟨m, 1, none⟩) rfl rfl Try.underlying54 rfl ti43 rfl ?_
     refine o_load1 rfl rfl Try.underlying43 rfl (rd_mem 1 rfl rfl) ?_
     refine o_move rfl rfl ?_
     refine o_indexK e_Row_ok ead50 rfl rfl rfl Try.underlying43 (by omega) (by omega) ?_
     obtain ⟨x61, hx61⟩ : ∃ x, (xs)[((i : Int)).toNat]? = some x := ⟨_, List.getElem?_eq_getElem (by omega)⟩
     have e61 : x61 = x50 := by rw [hx61] at hx50; exact Option.some.inj hx50
     refine o_loadn (vs := e_Row.cells x61) rfl rfl Try.underlying49 rfl ti49 (rdn_sl e_Row_ok ead50 (rds_own e_Row_ok 2 rfl) hx61) ?_
     refine o_lit e_Row_ok rfl Try.underlying43 rfl rfl rfl (lit_ok rfl) [x61] rfl rfl fun a63 => ?_
     refine l_f4 ?_
     refine o_append e_Row_ok rfl rfl rfl Try.underlying43 (rds_own e_Row_ok 1 rfl) (by show (_ + _) * 64 ≤ _; (try simp only [List.length_append, List.length_cons, List.length_nil]); omega) (by (try simp only [List.length_append, List.length_cons, List.length_nil]); omega) fun a64 c64 => ?_
     refine l_f1 ?_
     refine l_drop ?_
     refine o_assign rfl rfl ?_
     refine l_nil ?_
     refine q_block ?_
     refine q_then ?_
     refine c_region ?_
     refine o_move rfl rfl ?_
     refine o_bin rfl rfl rfl (b_add (wrap_i64 (by omega) (by omega))) ?_
     refine o_assign rfl rfl ?_
     refine l_nil ?_
     refine q_conv (fun w S => S.perm p3) ?_
     refine q_conv (fun w S => S.perm p3) ?_
     refine q_conv (fun w S => S.perm p3) ?_
     exact q_round (i + 1, O ++ [x61], kp, a64, c64) (by exact ⟨by omega, by rw [e61]; exact setL_B hset (show xs[i]? = some x50 from hx50) (by rintro ⟨h8, h9⟩; first | exact absurd (h8.symm.trans (show kp = false by assumption)) (by decide) | (rw [e50] at h9; have h7 : slt k' x33.f_key = true := h9; simp_all)) (by assumption)⟩) (by (try dsimp only); omega) ⟨(by first | rfl | exact vint (by omega)), (by first | rfl | exact vint (by omega)), (by first | rfl | exact vint (by omega)), (by first | rfl | exact vint (by omega)), (by first | rfl | exact vint (by omega)), (by first | rfl | exact vint (by omega)), trivial⟩ (fun w S => S)
    · -- h14F
     have h14b := h14
     try simp only [Bool.not_eq_false', decide_eq_true_eq] at h14
     refine c_skip ?_
     refine q_block ?_
     refine q_then ?_
     refine c_region ?_
     refine o_move rfl rfl ?_
     refine o_bin rfl rfl rfl (b_add (wrap_i64 (by omega) (by omega))) ?_
     refine o_assign rfl rfl ?_
     refine l_nil ?_
     exact q_round (i + 1, O, kp, ao, co) (by exact ⟨by omega, setL_C hset (show xs[i]? = some x50 from hx50) (by rintro ⟨h8, h9⟩; first | exact absurd (h8.symm.trans (show kp = false by assumption)) (by decide) | (rw [e50] at h9; have h7 : slt k' x33.f_key = true := h9; simp_all)) (by assumption)⟩) (by (try dsimp only); omega) ⟨(by first | rfl | exact vint (by omega)), (by first | rfl | exact vint (by omega)), (by first | rfl | exact vint (by omega)), (by first | rfl | exact vint (by omega)), (by first | rfl | exact vint (by omega)), (by first | rfl | exact vint (by omega)), trivial⟩ (fun w S => S)
  · -- h9F
   have h9b := h9
   try simp only [decide_eq_false_iff_not, Int.not_lt, Int.not_le] at h9
   refine c_exit ?_
   refine q_pass_exit ?_
   refine q_pass_exit ?_
   refine q_hit ?_
   refine q_then ?_
   refine c_seq ?_
   refine c_seq ?_
   refine c_region ?_
   refine o_move rfl rfl ?_
   refine l_nil ?_
   refine q_then ?_
   refine c_cond rfl (fun h15 => ?_) (fun h15 => ?_)
   · -- h15T
    have h15b := h15
    try simp only [decide_eq_true_eq, decide_eq_false_iff_not, Bool.not_eq_eq_eq_not, Bool.not_true, Bool.not_false, Bool.not_eq_true', Bool.not_eq_false', Int.not_lt, Int.not_le, Bool.or_eq_true, Bool.and_eq_true] at h15
    have hol : O.length ≤ 2000000 := by have h9 := setL_len (xs := xs) (k := k') (r := r) (kp := r.f_Has || decide (0 < r.f_Count)); rw [← hset, List.length_append] at h9; omega
    refine c_region ?_
    refine o_move rfl rfl ?_
    refine o_move rfl rfl ?_
    refine o_loadn (vs := [_, _, _, _]) rfl rfl Try.underlying36 rfl ti36 (rdn_lit 0 rfl rfl) ?_
    refine o_build rfl sp49 ti49 rfl ((fill_cons (cells' := [.string k', .bool false, .slice none 0 0, .int .i64 0, .int .u64 0]) rfl rfl rfl rfl (fill_cons (cells' := [.string k', .bool r.f_Has, .slice r.f_Value.a (r.f_Value.xs).length r.f_Value.c, .int .i64 r.f_Home, .int .u64 r.f_Count]) rfl rfl rfl rfl fill_nil))) ?_
    refine o_lit e_Row_ok rfl Try.underlying43 rfl rfl rfl (lit_ok rfl) [(⟨k', r⟩ : ItA)] rfl rfl fun a70 => ?_
    refine l_f4 ?_
    refine o_append e_Row_ok rfl rfl rfl Try.underlying43 (rds_own e_Row_ok 1 rfl) (by show (_ + _) * 64 ≤ _; (try simp only [List.length_append, List.length_cons, List.length_nil]); omega) (by (try simp only [List.length_append, List.length_cons, List.length_nil]); omega) fun a71 c71 => ?_
    refine l_f1 ?_
    refine l_drop ?_
    refine o_assign rfl rfl ?_
    refine l_nil ?_
    refine q_then ?_
    refine c_region ?_
    refine o_move rfl rfl ?_
    refine o_move rfl rfl ?_
    refine o_nil rfl rfl ?_
    refine o_fieldAddr (q := ⟨m, 1, none⟩) rfl rfl Try.underlying54 rfl ti43 rfl ?_
    refine l_f2 ?_
    refine o_store1 rfl rfl rfl ti43 rfl rfl ?_
    refine l_nil ?_
    refine q_conv (fun w S => (S.perm p2).tail) ?_
    refine q_conv (fun w S => (S.perm p2).tail) ?_
    have hfin := ((setL_end hset (by omega)).1 (by assumption)).trans (setL_I hs h0)
    exact f_end (r_none rfl) (⟨a71, c71, rfl⟩) (fun w S => by rw [hfin] at S; exact S)
   · -- h15F
    have h15b := h15
    try simp only [decide_eq_true_eq, decide_eq_false_iff_not, Bool.not_eq_eq_eq_not, Bool.not_true, Bool.not_false, Bool.not_eq_true', Bool.not_eq_false', Int.not_lt, Int.not_le, Bool.or_eq_true, Bool.and_eq_true] at h15
    refine c_skip ?_
    refine q_then ?_
    refine c_region ?_
    refine o_move rfl rfl ?_
    refine o_move rfl rfl ?_
    refine o_nil rfl rfl ?_
    refine o_fieldAddr (q := ⟨m, 1, none⟩) rfl rfl Try.underlying54 rfl ti43 rfl ?_
    refine l_f1 ?_
    refine o_store1 rfl rfl rfl ti43 rfl rfl ?_
    refine l_nil ?_
    refine q_conv (fun w S => (S.perm p1).tail) ?_
    refine q_conv (fun w S => (S.perm p1).tail) ?_
    have hfin := ((setL_end hset (by omega)).2 (by assumption)).trans (setL_I hs h0)
    exact f_end (r_none rfl) (⟨ao, co, rfl⟩) (fun w S => by rw [hfin] at S; exact S)
end
section
set_option linter.unusedVariables false
set_option linter.unusedSimpArgs false
set_option maxRecDepth 10000
open Go.RowKit Classical
def RfR (m : Nat) (s : SS) : Res := obj (fun _ : Option Addr × Nat => OkS s ∧ Srt ItA.f_key strlt s.xs) fun x => [blk m (.cells #[.int .i64 s.n, .slice x.1 (s.xs).length x.2] 54 (0, 0)), row e_Row.T e_Row.sz x.1 (s.xs).length x.2 (flat e_Row s.xs), vals s.xs]
theorem RfR_ok {W w : World} {L : List Res} {m : Nat} {s : SS} (S : Sat W w (RfR m s :: L)) : OkS s ∧ Srt ItA.f_key strlt s.xs := by
  obtain ⟨_, h, _⟩ := S.obj_open
  exact h
theorem rds_rf {W : World} {L : List Res} {m : Nat} {s : SS} {x : ItA} (j : Nat) (h : L[j]? = some (RfR m s)) (hx : x ∈ s.xs) : RdS W L e8 x.f_value.f_Value.a x.f_value.f_Value.xs := fun w S => by
  obtain ⟨L', S'⟩ := mem_front (List.mem_of_getElem? h) S
  obtain ⟨_, _, S2⟩ := S'.obj_open
  exact rds_vals 2 rfl hx w S2
theorem rnew_ {W : World} {F : List Res} {n : Int} (h1n : 1 ≤ n) (hn3 : n ≤ 3) : CS Try.prog 15 #[.int .i64 n] W (F) (fun r L' => ∃ m : Nat, r = .pointer (some ⟨m, 0, none⟩) ∧ L' = RfR m ⟨n, []⟩ :: F) := by
 refine f_door (l0 := [(0, .int .i64 n)]) Try.func15 Try.ntmps15 rfl rfl rfl ?_
 refine c_seq ?_
 refine c_region ?_
 refine o_assign rfl rfl ?_
 refine l_nil ?_
 refine q_then ?_
 refine c_seq ?_
 refine c_region ?_
 refine o_move rfl rfl ?_
 refine o_build rfl sp54 ti54 rfl ((fill_cons (cells' := [.int .i64 n, .slice none 0 0]) rfl rfl rfl rfl fill_nil)) ?_
 refine o_box rfl rfl fun b5 => ?_
 refine o_assign rfl rfl ?_
 refine l_nil ?_
 refine q_then ?_
 refine c_ret ?_
 exact f_ret (r_one rfl rfl) (⟨b5, rfl, rfl⟩) (fun w S => Sat.obj_mk (none, 0) ⟨OkS.new h1n hn3, List.Pairwise.nil⟩ (((Sat.vals_nil S).own_nil).perm p2))
theorem rput_ {W : World} {F : List Res} {m : Nat} {s : SS} {k' : ByteArray} {vs : List UInt8} {av : Option Addr} {cv : Nat} (hs : RdS W F e8 av vs) (hk : k'.size ≤ 1000000) (hv : vs.length ≤ 1000000) (hl : s.xs.length ≤ 1000000) : CS Try.prog 36 #[.pointer (some ⟨m, 0, none⟩), .string k', .slice av (vs).length cv] W (RfR m s :: F) (fun _ L' => ∃ s' : SS, s'.n = s.n ∧ s'.M = putM s.n k' vs s.M ∧ L' = RfR m s' :: F) := by
 refine f_door (l0 := [(0, .pointer (some ⟨m, 0, none⟩)), (1, .string k'), (2, .slice av (vs).length cv)]) Try.func36 Try.ntmps36 rfl rfl rfl ?_
 refine c_seq ?_
 refine c_obj ?_
 rintro ⟨a_1, c_1⟩ ok_1
 refine c_conv (L' := blk m (.cells #[.int .i64 s.n, .slice a_1 (s.xs).length c_1] 54 (0, 0)) :: row e_Row.T e_Row.sz a_1 (s.xs).length c_1 (flat e_Row s.xs) :: vals s.xs :: _) (fun w S => S) ?_
 have hok9 := ok_1.1
 have hn1 := hok9.n1
 have hn3 := hok9.n3
 refine c_region ?_
 refine o_move rfl rfl ?_
 refine o_move rfl rfl ?_
 refine l_f1 ?_
 refine l_f1 ?_
 refine o_call rfl cal21 rfl (rget_ (k' := k') (by omega) (by omega) (by omega)) ?_
 rintro _ _ ⟨v9, hv9, rfl, rfl⟩
 refine o_alloc rfl ti36 fun b6 => ?_
 refine o_storen rfl rfl ti36 rfl rfl rfl rfl ?_
 refine l_nil ?_
 refine q_then ?_
 have hlm : v9.m = lookM s.n k' s.M := by rw [hv9]; exact lookI_m
 have hlo := hok9.look k'
 rw [← hlm] at hlo
 have hc0 : 0 ≤ v9.f_Count := hlo.c0
 have hcn : v9.f_Count ≤ 18446744073709551615 := hlo.cn
 refine c_conv (fun w S => S.perm p2) ?_
 refine c_conv (fun w S => S.perm p2) ?_
 refine c_conv (fun w S => S.perm p3) ?_
 refine c_conv (fun w S => S.perm p3) ?_
 refine c_conv (fun w S => S.perm p1) ?_
 refine c_conv (fun w S => S.perm p1) ?_
 refine c_conv (fun w S => S.perm p3) ?_
 refine c_conv (fun w S => S.perm p3) ?_
 refine c_heldF [blk m (.cells #[.int .i64 s.n, .slice a_1 (s.xs).length c_1] 54 (0, 0)), row e_Row.T e_Row.sz a_1 (s.xs).length c_1 (flat e_Row s.xs)] (blk b6 (.cells #[.bool v9.f_Has, .slice v9.f_Value.a (v9.f_Value.xs).length v9.f_Value.c, .int .i64 v9.f_Home, .int .u64 v9.f_Count] 36 (0, 0)) :: vals s.xs :: F) (by kernel_rfl) ?_
 refine h_take 0 rfl rfl (by kernel_rfl) (by kernel_rfl) (by kernel_rfl) (fun L0 => v_move rfl rfl) ?_
 refine h_take 1 rfl rfl (by kernel_rfl) (by kernel_rfl) (by kernel_rfl) (fun L0 => v_move rfl rfl) ?_
 refine h_take 3 rfl rfl (by kernel_rfl) (by kernel_rfl) (by kernel_rfl) (fun L0 => v_move rfl rfl) ?_
 refine h_take 5 rfl rfl (by kernel_rfl) (by kernel_rfl) (by kernel_rfl) (fun L0 => v_fieldAddr (q := ⟨b6, 2, none⟩) rfl rfl Try.underlying36 rfl ti3 rfl) ?_
 refine h_take 6 rfl rfl (by kernel_rfl) (by kernel_rfl) (by kernel_rfl) (fun L0 => v_load1 rfl rfl Try.underlying3 rfl (rd_mem 0 rfl rfl)) ?_
 refine h_take 7 rfl rfl (by kernel_rfl) (by kernel_rfl) (by kernel_rfl) (fun L0 => v_fieldAddr (q := ⟨b6, 3, none⟩) rfl rfl Try.underlying36 rfl ti34 rfl) ?_
 refine h_take 8 rfl rfl (by kernel_rfl) (by kernel_rfl) (by kernel_rfl) (fun L0 => v_load1 rfl rfl Try.underlying34 rfl (rd_mem 0 rfl rfl)) ?_
 refine h_one 2 rfl (by kernel_rfl) ?_
 refine l_conv (L' := blk m (.cells #[.int .i64 s.n, .slice a_1 (s.xs).length c_1] 54 (0, 0)) :: row e_Row.T e_Row.sz a_1 (s.xs).length c_1 (flat e_Row s.xs) :: blk b6 (.cells #[.bool v9.f_Has, .slice v9.f_Value.a (v9.f_Value.xs).length v9.f_Value.c, .int .i64 v9.f_Home, .int .u64 v9.f_Count] 36 (0, 0)) :: vals s.xs :: F) (fun w S => S.perm List.perm_append_comm) ?_
 refine o_lit e8_ok rfl Try.underlying23 rfl rfl rfl (lit_ok rfl) ([] : List UInt8) rfl rfl fun a12 => ?_
 refine l_nil ?_
 refine q_conv (L' := (blk b6 (.cells #[.bool v9.f_Has, .slice v9.f_Value.a (v9.f_Value.xs).length v9.f_Value.c, .int .i64 v9.f_Home, .int .u64 v9.f_Count] 36 (0, 0)) :: vals s.xs :: F) ++ [row e8.T e8.sz a12 (([] : List UInt8)).length 0 (flat e8 ([] : List UInt8)), blk m (.cells #[.int .i64 s.n, .slice a_1 (s.xs).length c_1] 54 (0, 0)), row e_Row.T e_Row.sz a_1 (s.xs).length c_1 (flat e_Row s.xs)]) (fun w S => S.perm (List.perm_append_comm (l₁ := [row e8.T e8.sz a12 (([] : List UInt8)).length 0 (flat e8 ([] : List UInt8)), blk m (.cells #[.int .i64 s.n, .slice a_1 (s.xs).length c_1] 54 (0, 0)), row e_Row.T e_Row.sz a_1 (s.xs).length c_1 (flat e_Row s.xs)]) (l₂ := blk b6 (.cells #[.bool v9.f_Has, .slice v9.f_Value.a (v9.f_Value.xs).length v9.f_Value.c, .int .i64 v9.f_Home, .int .u64 v9.f_Count] 36 (0, 0)) :: vals s.xs :: F))) ?_
 refine h_next ?_
 refine h_one 4 rfl (by kernel_rfl) ?_
 refine l_conv (L' := row e8.T e8.sz a12 (([] : List UInt8)).length 0 (flat e8 ([] : List UInt8)) :: blk m (.cells #[.int .i64 s.n, .slice a_1 (s.xs).length c_1] 54 (0, 0)) :: row e_Row.T e_Row.sz a_1 (s.xs).length c_1 (flat e_Row s.xs) :: blk b6 (.cells #[.bool v9.f_Has, .slice v9.f_Value.a (v9.f_Value.xs).length v9.f_Value.c, .int .i64 v9.f_Home, .int .u64 v9.f_Count] 36 (0, 0)) :: vals s.xs :: F) (fun w S => S.perm List.perm_append_comm) ?_
 refine o_append e8_ok rfl rfl rfl Try.underlying23 (rds_c (rds_c (rds_c (rds_c (rds_c hs))))) (by show (_ + _) * 1 ≤ _; (try simp only [List.length_append, List.length_cons, List.length_nil]); omega) (by (try simp only [List.length_append, List.length_cons, List.length_nil]); omega) fun a14 c14 => ?_
 refine l_nil ?_
 refine q_conv (L' := (blk b6 (.cells #[.bool v9.f_Has, .slice v9.f_Value.a (v9.f_Value.xs).length v9.f_Value.c, .int .i64 v9.f_Home, .int .u64 v9.f_Count] 36 (0, 0)) :: vals s.xs :: F) ++ [row e8.T e8.sz a14 (([] : List UInt8) ++ vs).length c14 (flat e8 (([] : List UInt8) ++ vs)), blk m (.cells #[.int .i64 s.n, .slice a_1 (s.xs).length c_1] 54 (0, 0)), row e_Row.T e_Row.sz a_1 (s.xs).length c_1 (flat e_Row s.xs)]) (fun w S => S.perm (List.perm_append_comm (l₁ := [row e8.T e8.sz a14 (([] : List UInt8) ++ vs).length c14 (flat e8 (([] : List UInt8) ++ vs)), blk m (.cells #[.int .i64 s.n, .slice a_1 (s.xs).length c_1] 54 (0, 0)), row e_Row.T e_Row.sz a_1 (s.xs).length c_1 (flat e_Row s.xs)]) (l₂ := blk b6 (.cells #[.bool v9.f_Has, .slice v9.f_Value.a (v9.f_Value.xs).length v9.f_Value.c, .int .i64 v9.f_Home, .int .u64 v9.f_Count] 36 (0, 0)) :: vals s.xs :: F))) ?_
 refine h_next ?_
 refine h_take 9 rfl rfl (by kernel_rfl) (by kernel_rfl) (by kernel_rfl) (fun L0 => v_build rfl sp36 ti36 rfl ((fill_cons (cells' := [.bool true, .slice none 0 0, .int .i64 0, .int .u64 0]) rfl rfl rfl rfl (fill_cons (cells' := [.bool true, .slice a14 (([] : List UInt8) ++ vs).length c14, .int .i64 0, .int .u64 0]) rfl rfl rfl rfl (fill_cons (cells' := [.bool true, .slice a14 (([] : List UInt8) ++ vs).length c14, .int .i64 v9.f_Home, .int .u64 0]) rfl rfl rfl rfl (fill_cons (cells' := [.bool true, .slice a14 (([] : List UInt8) ++ vs).length c14, .int .i64 v9.f_Home, .int .u64 v9.f_Count]) rfl rfl rfl rfl fill_nil)))))) ?_
 refine h_one 10 rfl (by kernel_rfl) ?_
 refine l_conv (L' := row e8.T e8.sz a14 (([] : List UInt8) ++ vs).length c14 (flat e8 (([] : List UInt8) ++ vs)) :: blk m (.cells #[.int .i64 s.n, .slice a_1 (s.xs).length c_1] 54 (0, 0)) :: row e_Row.T e_Row.sz a_1 (s.xs).length c_1 (flat e_Row s.xs) :: blk b6 (.cells #[.bool v9.f_Has, .slice v9.f_Value.a (v9.f_Value.xs).length v9.f_Value.c, .int .i64 v9.f_Home, .int .u64 v9.f_Count] 36 (0, 0)) :: vals s.xs :: F) (fun w S => S.perm List.perm_append_comm) ?_
 refine l_f2 ?_
 refine l_f2 ?_
 refine o_call rfl cal57 rfl (rset_ (k' := k') (r := (⟨true, ⟨a14, ([] : List UInt8) ++ vs, c14⟩, v9.f_Home, v9.f_Count⟩ : Rec)) ok_1.2 hc0 hl) ?_
 rintro _ _ ⟨a20, c20, rfl⟩
 refine l_nil ?_
 refine q_conv (L' := (blk b6 (.cells #[.bool v9.f_Has, .slice v9.f_Value.a (v9.f_Value.xs).length v9.f_Value.c, .int .i64 v9.f_Home, .int .u64 v9.f_Count] 36 (0, 0)) :: vals s.xs :: F) ++ [blk m (.cells #[.int .i64 s.n, .slice a20 ((setI k' (⟨true, ⟨a14, ([] : List UInt8) ++ vs, c14⟩, v9.f_Home, v9.f_Count⟩ : Rec) s.xs)).length c20] 54 (0, 0)), row e_Row.T e_Row.sz a20 ((setI k' (⟨true, ⟨a14, ([] : List UInt8) ++ vs, c14⟩, v9.f_Home, v9.f_Count⟩ : Rec) s.xs)).length c20 (flat e_Row (setI k' (⟨true, ⟨a14, ([] : List UInt8) ++ vs, c14⟩, v9.f_Home, v9.f_Count⟩ : Rec) s.xs)), row e8.T e8.sz a14 (([] : List UInt8) ++ vs).length c14 (flat e8 (([] : List UInt8) ++ vs))]) (fun w S => S.perm (List.perm_append_comm (l₁ := [blk m (.cells #[.int .i64 s.n, .slice a20 ((setI k' (⟨true, ⟨a14, ([] : List UInt8) ++ vs, c14⟩, v9.f_Home, v9.f_Count⟩ : Rec) s.xs)).length c20] 54 (0, 0)), row e_Row.T e_Row.sz a20 ((setI k' (⟨true, ⟨a14, ([] : List UInt8) ++ vs, c14⟩, v9.f_Home, v9.f_Count⟩ : Rec) s.xs)).length c20 (flat e_Row (setI k' (⟨true, ⟨a14, ([] : List UInt8) ++ vs, c14⟩, v9.f_Home, v9.f_Count⟩ : Rec) s.xs)), row e8.T e8.sz a14 (([] : List UInt8) ++ vs).length c14 (flat e8 (([] : List UInt8) ++ vs))]) (l₂ := blk b6 (.cells #[.bool v9.f_Has, .slice v9.f_Value.a (v9.f_Value.xs).length v9.f_Value.c, .int .i64 v9.f_Home, .int .u64 v9.f_Count] 36 (0, 0)) :: vals s.xs :: F))) ?_
 refine h_next ?_
 refine h_done (by kernel_rfl) ?_
 refine q_conv (L' := blk m (.cells #[.int .i64 s.n, .slice a20 ((setI k' (⟨true, ⟨a14, ([] : List UInt8) ++ vs, c14⟩, v9.f_Home, v9.f_Count⟩ : Rec) s.xs)).length c20] 54 (0, 0)) :: row e_Row.T e_Row.sz a20 ((setI k' (⟨true, ⟨a14, ([] : List UInt8) ++ vs, c14⟩, v9.f_Home, v9.f_Count⟩ : Rec) s.xs)).length c20 (flat e_Row (setI k' (⟨true, ⟨a14, ([] : List UInt8) ++ vs, c14⟩, v9.f_Home, v9.f_Count⟩ : Rec) s.xs)) :: row e8.T e8.sz a14 (([] : List UInt8) ++ vs).length c14 (flat e8 (([] : List UInt8) ++ vs)) :: blk b6 (.cells #[.bool v9.f_Has, .slice v9.f_Value.a (v9.f_Value.xs).length v9.f_Value.c, .int .i64 v9.f_Home, .int .u64 v9.f_Count] 36 (0, 0)) :: vals s.xs :: F) (fun w S => S.perm List.perm_append_comm) ?_
 refine q_conv (fun w S => (S.perm p3).tail) ?_
 refine q_conv (fun w S => S.perm p1) ?_
 refine q_conv (fun w S => S.perm p1) ?_
 refine q_conv (fun w S => S.perm p3) ?_
 refine q_conv (fun w S => S.perm p3) ?_
 exact f_end (r_none rfl) (⟨⟨s.n, (setI k' (⟨true, ⟨a14, ([] : List UInt8) ++ vs, c14⟩, v9.f_Home, v9.f_Count⟩ : Rec) s.xs)⟩, rfl, (by refine (M_setI (n := s.n) (k := k') (r := (⟨true, ⟨a14, ([] : List UInt8) ++ vs, c14⟩, v9.f_Home, v9.f_Count⟩ : Rec)) (s := s)).trans ?_; unfold putM; rw [← hlm]; rfl), rfl⟩) (fun w S => Sat.obj_mk (a20, c20) ⟨hok9.setI (k := k') (r := (⟨true, ⟨a14, ([] : List UInt8) ++ vs, c14⟩, v9.f_Home, v9.f_Count⟩ : Rec)) (hlo.put (b := true) hv), srt_setI (k := k') (r := (⟨true, ⟨a14, ([] : List UInt8) ++ vs, c14⟩, v9.f_Home, v9.f_Count⟩ : Rec)) ok_1.2⟩ (((Sat.vals_set (k := k') (r := (⟨true, ⟨a14, ([] : List UInt8) ++ vs, c14⟩, v9.f_Home, v9.f_Count⟩ : Rec)) S).perm p2).perm p2))
theorem rrm_ {W : World} {F : List Res} {m : Nat} {s : SS} {k' : ByteArray} (hk : k'.size ≤ 1000000) (hl : s.xs.length ≤ 1000000) : CS Try.prog 33 #[.pointer (some ⟨m, 0, none⟩), .string k'] W (RfR m s :: F) (fun _ L' => ∃ s' : SS, s'.n = s.n ∧ s'.M = rmM s.n k' s.M ∧ L' = RfR m s' :: F) := by
 refine f_door (l0 := [(0, .pointer (some ⟨m, 0, none⟩)), (1, .string k')]) Try.func33 Try.ntmps33 rfl rfl rfl ?_
 refine c_seq ?_
 refine c_obj ?_
 rintro ⟨a_1, c_1⟩ ok_1
 refine c_conv (L' := blk m (.cells #[.int .i64 s.n, .slice a_1 (s.xs).length c_1] 54 (0, 0)) :: row e_Row.T e_Row.sz a_1 (s.xs).length c_1 (flat e_Row s.xs) :: vals s.xs :: _) (fun w S => S) ?_
 have hok9 := ok_1.1
 have hn1 := hok9.n1
 have hn3 := hok9.n3
 refine c_region ?_
 refine o_move rfl rfl ?_
 refine o_move rfl rfl ?_
 refine l_f1 ?_
 refine l_f1 ?_
 refine o_call rfl cal21 rfl (rget_ (k' := k') (by omega) (by omega) (by omega)) ?_
 rintro _ _ ⟨v7, hv7, rfl, rfl⟩
 refine o_alloc rfl ti36 fun b4 => ?_
 refine o_storen rfl rfl ti36 rfl rfl rfl rfl ?_
 refine l_nil ?_
 refine q_then ?_
 have hlm : v7.m = lookM s.n k' s.M := by rw [hv7]; exact lookI_m
 have hlo := hok9.look k'
 rw [← hlm] at hlo
 have hc0 : 0 ≤ v7.f_Count := hlo.c0
 have hcn : v7.f_Count ≤ 18446744073709551615 := hlo.cn
 refine c_nilrow e8 ?_
 refine c_region ?_
 refine o_move rfl rfl ?_
 refine o_move rfl rfl ?_
 refine o_fieldAddr (q := ⟨b4, 2, none⟩) rfl rfl Try.underlying36 rfl ti3 rfl ?_
 refine o_load1 rfl rfl Try.underlying3 rfl (rd_mem 1 rfl rfl) ?_
 refine o_fieldAddr (q := ⟨b4, 3, none⟩) rfl rfl Try.underlying36 rfl ti34 rfl ?_
 refine o_load1 rfl rfl Try.underlying34 rfl (rd_mem 1 rfl rfl) ?_
 refine o_build rfl sp36 ti36 rfl ((fill_cons (cells' := [.bool false, .slice none 0 0, .int .i64 v7.f_Home, .int .u64 0]) rfl rfl rfl rfl (fill_cons (cells' := [.bool false, .slice none 0 0, .int .i64 v7.f_Home, .int .u64 v7.f_Count]) rfl rfl rfl rfl fill_nil))) ?_
 refine l_f3 ?_
 refine l_f3 ?_
 refine o_call rfl cal57 rfl (rset_ (k' := k') (r := (⟨false, ⟨none, [], 0⟩, v7.f_Home, v7.f_Count⟩ : Rec)) ok_1.2 hc0 hl) ?_
 rintro _ _ ⟨a15, c15, rfl⟩
 refine l_nil ?_
 refine q_conv (fun w S => (S.perm p3).tail) ?_
 refine q_conv (fun w S => S.perm p1) ?_
 refine q_conv (fun w S => S.perm p1) ?_
 refine q_conv (fun w S => S.perm p3) ?_
 refine q_conv (fun w S => S.perm p3) ?_
 exact f_end (r_none rfl) (⟨⟨s.n, (setI k' (⟨false, ⟨none, [], 0⟩, v7.f_Home, v7.f_Count⟩ : Rec) s.xs)⟩, rfl, (by refine (M_setI (n := s.n) (k := k') (r := (⟨false, ⟨none, [], 0⟩, v7.f_Home, v7.f_Count⟩ : Rec)) (s := s)).trans ?_; unfold rmM; rw [← hlm]; rfl), rfl⟩) (fun w S => Sat.obj_mk (a15, c15) ⟨hok9.setI (k := k') (r := (⟨false, ⟨none, [], 0⟩, v7.f_Home, v7.f_Count⟩ : Rec)) (hlo.put (b := false) (by simp)), srt_setI (k := k') (r := (⟨false, ⟨none, [], 0⟩, v7.f_Home, v7.f_Count⟩ : Rec)) ok_1.2⟩ (((Sat.vals_set (k := k') (r := (⟨false, ⟨none, [], 0⟩, v7.f_Home, v7.f_Count⟩ : Rec)) S).perm p2).perm p2))
theorem rmove_ {W : World} {F : List Res} {m : Nat} {s : SS} {k' : ByteArray} {h : Int} (hk : k'.size ≤ 1000000) (hl : s.xs.length ≤ 1000000) : CS Try.prog 34 #[.pointer (some ⟨m, 0, none⟩), .string k', .int .i64 h] W (RfR m s :: F) (fun r L' => ∃ (s' : SS) (e : Int), s'.n = s.n ∧ moveM s.n k' h s.M = (e, s'.M) ∧ r = .int .i64 e ∧ L' = RfR m s' :: F) := by
 refine f_door (l0 := [(0, .pointer (some ⟨m, 0, none⟩)), (1, .string k'), (2, .int .i64 h)]) Try.func34 Try.ntmps34 rfl rfl rfl ?_
 refine c_seq ?_
 refine c_region ?_
 refine o_assign rfl rfl ?_
 refine l_nil ?_
 refine q_then ?_
 refine c_seq ?_
 refine c_seq ?_
 refine c_obj ?_
 rintro ⟨a_1, c_1⟩ ok_1
 refine c_conv (L' := blk m (.cells #[.int .i64 s.n, .slice a_1 (s.xs).length c_1] 54 (0, 0)) :: row e_Row.T e_Row.sz a_1 (s.xs).length c_1 (flat e_Row s.xs) :: vals s.xs :: _) (fun w S => S) ?_
 have hok9 := ok_1.1
 have hn1 := hok9.n1
 have hn3 := hok9.n3
 refine c_region ?_
 refine o_move rfl rfl ?_
 refine o_bin rfl rfl rfl b_lss ?_
 refine o_move rfl rfl ?_
 refine l_split (t := 10) rfl (fun h1 => ?_) (fun h1 => ?_)
 · -- h1T
  have h1b := h1
  try simp only [decide_eq_true_eq] at h1
  refine o_no rfl rfl rfl rfl ?_
  refine o_no rfl rfl rfl rfl ?_
  refine o_no rfl rfl rfl rfl ?_
  refine o_no rfl rfl rfl rfl ?_
  refine o_no rfl rfl rfl rfl ?_
  refine o_no rfl rfl rfl rfl ?_
  refine o_pick_true rfl rfl rfl ?_
  refine l_nil ?_
  refine q_then ?_
  refine c_true rfl ?_
  refine c_seq ?_
  refine c_region ?_
  refine o_assign rfl rfl ?_
  refine l_nil ?_
  refine q_then ?_
  refine c_ret ?_
  refine q_pass_ret ?_
  refine q_conv (L' := RfR m s :: _) (fun w S => Sat.obj_mk ⟨a_1, c_1⟩ ok_1 S) ?_
  exact f_ret (r_one rfl rfl) (⟨s, 1, rfl, by (unfold moveM; rw [if_pos (by omega)]), rfl, rfl⟩) (fun w S => S)
 · -- h1F
  have h1b := h1
  try simp only [decide_eq_false_iff_not, Int.not_lt, Int.not_le] at h1
  refine o_yes rfl rfl rfl ?_
  refine o_move rfl rfl ?_
  refine o_yes rfl rfl rfl ?_
  refine o_move rfl rfl ?_
  refine o_yes rfl rfl rfl ?_
  refine o_nil rfl rfl ?_
  refine o_yes rfl rfl rfl ?_
  refine o_fieldAddr (q := ⟨m, 0, none⟩) rfl rfl Try.underlying54 rfl ti3 rfl ?_
  refine o_yes rfl rfl rfl ?_
  refine o_load1 rfl rfl Try.underlying3 rfl (rd_mem 0 rfl rfl) ?_
  refine o_yes rfl rfl rfl ?_
  refine o_bin rfl rfl rfl b_geq ?_
  refine o_pick_false rfl rfl rfl ?_
  refine l_nil ?_
  refine q_then ?_
  refine c_cond rfl (fun h2 => ?_) (fun h2 => ?_)
  · -- h2T
   have h2b := h2
   try simp only [decide_eq_true_eq] at h2
   refine c_seq ?_
   refine c_region ?_
   refine o_assign rfl rfl ?_
   refine l_nil ?_
   refine q_then ?_
   refine c_ret ?_
   refine q_pass_ret ?_
   refine q_conv (L' := RfR m s :: _) (fun w S => Sat.obj_mk ⟨a_1, c_1⟩ ok_1 S) ?_
   exact f_ret (r_one rfl rfl) (⟨s, 1, rfl, by (unfold moveM; rw [if_pos (by omega)]), rfl, rfl⟩) (fun w S => S)
  · -- h2F
   have h2b := h2
   try simp only [decide_eq_false_iff_not, Int.not_lt, Int.not_le] at h2
   refine c_skip ?_
   refine q_then ?_
   refine c_seq ?_
   refine c_region ?_
   refine o_move rfl rfl ?_
   refine o_move rfl rfl ?_
   refine l_f1 ?_
   refine l_f1 ?_
   refine o_call rfl cal21 rfl (rget_ (k' := k') (by omega) (by omega) (by omega)) ?_
   rintro _ _ ⟨v20, hv20, rfl, rfl⟩
   refine o_alloc rfl ti36 fun b7 => ?_
   refine o_storen rfl rfl ti36 rfl rfl rfl rfl ?_
   refine l_nil ?_
   refine q_then ?_
   refine c_seq ?_
   refine c_seq ?_
   have hlm : v20.m = lookM s.n k' s.M := by rw [hv20]; exact lookI_m
   have hlo := hok9.look k'
   rw [← hlm] at hlo
   have hc0 : 0 ≤ v20.f_Count := hlo.c0
   have hcn : v20.f_Count ≤ 18446744073709551615 := hlo.cn
   refine c_region ?_
   refine o_fieldAddr (q := ⟨b7, 3, none⟩) rfl rfl Try.underlying36 rfl ti34 rfl ?_
   refine o_load1 rfl rfl Try.underlying34 rfl (rd_mem 0 rfl rfl) ?_
   refine o_bin rfl rfl rfl b_eql ?_
   refine l_nil ?_
   refine q_then ?_
   refine c_cond rfl (fun h3 => ?_) (fun h3 => ?_)
   · -- h3T
    have h3b := h3
    try simp only [decide_eq_true_eq] at h3
    refine c_seq ?_
    refine c_region ?_
    refine o_assign rfl rfl ?_
    refine l_nil ?_
    refine q_then ?_
    refine c_ret ?_
    refine q_pass_ret ?_
    refine q_conv (fun w S => S.perm p3) ?_
    refine q_conv (fun w S => S.perm p3) ?_
    refine q_conv (fun w S => S.perm p3) ?_
    refine q_conv (L' := RfR m s :: _) (fun w S => Sat.obj_mk ⟨a_1, c_1⟩ ok_1 S) ?_
    refine q_conv (fun w S => (S.perm p1).tail) ?_
    exact f_ret (r_one rfl rfl) (⟨s, 111, rfl, by (unfold moveM; rw [if_neg (by omega), if_pos (by rw [← hlm]; show v20.f_Count = 18446744073709551615; assumption)]), rfl, rfl⟩) (fun w S => S)
   · -- h3F
    have h3b := h3
    try simp only [decide_eq_false_iff_not, Int.not_lt, Int.not_le] at h3
    refine c_skip ?_
    refine q_then ?_
    refine c_seq ?_
    have hcm : ¬ v20.m.count = maxU := by show ¬ v20.f_Count = 18446744073709551615; assumption
    refine c_region ?_
    refine o_move rfl rfl ?_
    refine o_fieldAddr (q := ⟨b7, 2, none⟩) rfl rfl Try.underlying36 rfl ti3 rfl ?_
    refine o_store1 rfl rfl rfl ti3 rfl rfl ?_
    refine l_nil ?_
    refine q_then ?_
    refine c_seq ?_
    refine c_region ?_
    refine o_fieldAddr (q := ⟨b7, 3, none⟩) rfl rfl Try.underlying36 rfl ti34 rfl ?_
    refine o_load1 rfl rfl Try.underlying34 rfl (rd_mem 0 rfl rfl) ?_
    refine o_bin rfl rfl rfl (b_add (wrap_u64 (by omega) (by omega))) ?_
    refine o_fieldAddr (q := ⟨b7, 3, none⟩) rfl rfl Try.underlying36 rfl ti34 rfl ?_
    refine o_store1 rfl rfl rfl ti34 rfl rfl ?_
    refine l_nil ?_
    refine q_then ?_
    refine c_seq ?_
    refine c_region ?_
    refine o_move rfl rfl ?_
    refine o_move rfl rfl ?_
    refine o_loadn (vs := [_, _, _, _]) rfl rfl Try.underlying36 rfl ti36 (rdn_lit 0 rfl rfl) ?_
    refine l_f2 ?_
    refine l_f2 ?_
    refine o_call rfl cal57 rfl (rset_ (k' := k') (r := (⟨v20.f_Has, ⟨v20.f_Value.a, v20.f_Value.xs, v20.f_Value.c⟩, h, (v20.f_Count + 1)⟩ : Rec)) ok_1.2 (by show 0 ≤ v20.f_Count + 1; omega) hl) ?_
    rintro _ _ ⟨a33, c33, rfl⟩
    refine l_nil ?_
    refine q_then ?_
    refine c_seq ?_
    refine c_region ?_
    refine o_assign rfl rfl ?_
    refine l_nil ?_
    refine q_then ?_
    refine c_ret ?_
    refine q_conv (fun w S => (S.perm p2).tail) ?_
    refine q_conv (fun w S => S.perm p1) ?_
    refine q_conv (fun w S => S.perm p1) ?_
    refine q_conv (fun w S => S.perm p2) ?_
    exact f_ret (r_one rfl rfl) (⟨⟨s.n, (setI k' (⟨v20.f_Has, ⟨v20.f_Value.a, v20.f_Value.xs, v20.f_Value.c⟩, h, (v20.f_Count + 1)⟩ : Rec) s.xs)⟩, 0, rfl, (by unfold moveM; rw [if_neg (by omega), ← hlm, if_neg hcm]; exact congrArg (Prod.mk (0 : Int)) (M_setI (n := s.n) (k := k') (r := (⟨v20.f_Has, ⟨v20.f_Value.a, v20.f_Value.xs, v20.f_Value.c⟩, h, (v20.f_Count + 1)⟩ : Rec)) (s := s)).symm), rfl, rfl⟩) (fun w S => Sat.obj_mk (a33, c33) ⟨hok9.setI (k := k') (r := (⟨v20.f_Has, ⟨v20.f_Value.a, v20.f_Value.xs, v20.f_Value.c⟩, h, (v20.f_Count + 1)⟩ : Rec)) (hlo.move (h := h) (by omega) hcm), srt_setI (k := k') (r := (⟨v20.f_Has, ⟨v20.f_Value.a, v20.f_Value.xs, v20.f_Value.c⟩, h, (v20.f_Count + 1)⟩ : Rec)) ok_1.2⟩ (((Sat.vals_alias' (k := k') (n := s.n) (v := v20) (b := v20.f_Has) (h := h) (c := v20.f_Count + 1) hv20 ok_1.2 S).perm p2).perm p2))
end
section
set_option linter.unusedVariables false
set_option linter.unusedSimpArgs false
open Go.RowKit Classical
theorem rec_iff {a b : Rec} : a.m = b.m ↔ a.f_Has = b.f_Has ∧ a.f_Value.xs = b.f_Value.xs ∧ a.f_Home = b.f_Home ∧ a.f_Count = b.f_Count := by
  unfold Rec.m
  constructor
  · intro h
    injection h with h1 h2 h3 h4
    exact ⟨h1, h2, h3, h4⟩
  · rintro ⟨h1, h2, h3, h4⟩
    rw [h1, h2, h3, h4]
theorem same_on {xs ys : List ItA} {i : Nat} {x y : ItA} (h : (xs.take i).map proj = (ys.take i).map proj) (hx : xs[i]? = some x) (hy : ys[i]? = some y) (hk : x.f_key = y.f_key) (hm : x.f_value.m = y.f_value.m) : (xs.take (i + 1)).map proj = (ys.take (i + 1)).map proj := by
  rw [take_snoc' hx, take_snoc' hy, List.map_append, List.map_append, h]
  unfold proj
  simp [hk, hm]
theorem same_no {xs ys : List ItA} {i : Nat} {x y : ItA} (hx : xs[i]? = some x) (hy : ys[i]? = some y) (hn : ¬ (x.f_key = y.f_key ∧ x.f_value.m = y.f_value.m)) : ¬ xs.map proj = ys.map proj := fun h => by
  have h2 : (xs.map proj)[i]? = (ys.map proj)[i]? := by rw [h]
  rw [List.getElem?_map, List.getElem?_map, hx, hy] at h2
  have h3 : proj x = proj y := Option.some.inj h2
  exact hn ⟨congrArg Prod.fst h3, congrArg Prod.snd h3⟩
noncomputable def rangeM (f : ByteArray) (most : Int) (M : Rows) : Rows := (M.filter fun z => decide (¬ strlt z.1 f) && z.2.has).take most.toNat
noncomputable def rngI (f : ByteArray) (most : Int) (xs : List ItA) : List ItA := (xs.filter fun y => decide (¬ strlt y.f_key f) && y.f_value.f_Has).take most.toNat
theorem rngI_m {f : ByteArray} {most : Int} {xs : List ItA} : (rngI f most xs).map proj = rangeM f most (xs.map proj) := by
  unfold rngI rangeM
  rw [List.map_take, List.filter_map]; rfl
theorem rngI_in {f : ByteArray} {most : Int} {xs : List ItA} {y : ItA} (h : y ∈ rngI f most xs) : y ∈ xs := (List.mem_filter.1 (List.mem_of_mem_take h)).1
theorem take_grow {α : Type} {A : List α} {x : α} {n : Nat} (h : (A.take n).length < n) : (A ++ [x]).take n = A.take n ++ [x] := by
  rw [List.length_take] at h
  rw [List.take_of_length_le (by rw [List.length_append]; simp only [List.length_cons, List.length_nil]; omega), List.take_of_length_le (l := A) (by omega)]
theorem take_full {α : Type} {A : List α} {x : α} {n : Nat} (h : n ≤ (A.take n).length) : (A ++ [x]).take n = A.take n := by
  rw [List.length_take] at h
  rw [List.take_append_of_le_length (by omega)]
theorem filt_yes {α : Type} {p : α → Bool} {A : List α} {x : α} (h : p x = true) : (A ++ [x]).filter p = A.filter p ++ [x] := by
  rw [List.filter_append, List.filter_cons_of_pos h, List.filter_nil]
theorem filt_no {α : Type} {p : α → Bool} {A : List α} {x : α} (h : ¬ p x = true) : (A ++ [x]).filter p = A.filter p := by
  rw [List.filter_append, List.filter_cons_of_neg h, List.filter_nil, List.append_nil]
theorem rng_yes {f : ByteArray} {most : Int} {xs : List ItA} {i : Nat} {x : ItA} (hx : xs[i]? = some x) (h1 : ¬ strlt x.f_key f) (h2 : x.f_value.f_Has = true) (h3 : ((rngI f most (xs.take i)).length : Int) < most) : rngI f most (xs.take (i + 1)) = rngI f most (xs.take i) ++ [x] := by
  unfold rngI at h3 ⊢
  rw [take_snoc' hx, filt_yes (by simp [h1, h2])]
  exact take_grow (by omega)
theorem rng_no {f : ByteArray} {most : Int} {xs : List ItA} {i : Nat} {x : ItA} (hx : xs[i]? = some x) (h : strlt x.f_key f ∨ x.f_value.f_Has = false ∨ most ≤ ((rngI f most (xs.take i)).length : Int)) : rngI f most (xs.take (i + 1)) = rngI f most (xs.take i) := by
  unfold rngI at h ⊢
  rw [take_snoc' hx]
  by_cases hp : (fun y : ItA => decide (¬ strlt y.f_key f) && y.f_value.f_Has) x = true
  · rw [filt_yes (p := fun y : ItA => decide (¬ strlt y.f_key f) && y.f_value.f_Has) hp]
    rcases h with h | h | h
    · simp [h] at hp
    · simp [h] at hp
    · exact take_full (by omega)
  · rw [filt_no (p := fun y : ItA => decide (¬ strlt y.f_key f) && y.f_value.f_Has) hp]
theorem rngI_le {f : ByteArray} {most : Int} {xs : List ItA} : (rngI f most xs).length ≤ xs.length := by
  unfold rngI
  exact Nat.le_trans (List.length_take_le' _ _) (List.length_filter_le _ _)
/-- The rows so far of a pass over the tree. -/
structure PassO (most : Int) (pre O : List ItA) : Prop where
  is : O.map proj = (pre.filter fun y => y.f_value.f_Has).map proj
  le : O = [] ∨ (O.length : Int) ≤ most
theorem PassO.start {most : Int} : PassO most [] [] := ⟨rfl, .inl rfl⟩
theorem PassO.yes {most : Int} {pre O : List ItA} {x y : ItA} (h : PassO most pre O) (h1 : x.f_value.f_Has = true) (hl : (O.length : Int) < most) (hy : proj y = proj x) : PassO most (pre ++ [x]) (O ++ [y]) :=
  ⟨by rw [List.filter_append, List.filter_cons_of_pos (by simpa using h1), List.filter_nil, List.map_append, List.map_append, h.is]; simp [hy], .inr (by rw [List.length_append]; simp only [List.length_cons, List.length_nil]; omega)⟩
theorem PassO.no {most : Int} {pre O : List ItA} {x : ItA} (h : PassO most pre O) (h1 : x.f_value.f_Has = false) : PassO most (pre ++ [x]) O :=
  ⟨by rw [List.filter_append, List.filter_cons_of_neg (by simp [h1]), List.filter_nil, List.append_nil, h.is], h.le⟩
theorem sel_filter {f : ByteArray} {xs : List ItA} : (sel ItA.f_key strlt (some f) xs).filter (fun y => y.f_value.f_Has) = xs.filter fun y => decide (¬ strlt y.f_key f) && y.f_value.f_Has := by
  unfold sel
  rw [List.filter_filter]
  congr 1; funext y
  exact Bool.and_comm _ _
theorem PassO.done {most : Int} {f : ByteArray} {xs O : List ItA} (h : PassO most (sel ItA.f_key strlt (some f) xs) O) : O.map proj = rangeM f most (xs.map proj) := by
  rw [← rngI_m]
  unfold rngI
  have h1 := h.is
  rw [sel_filter] at h1
  rw [h1]
  have hlen : (xs.filter fun y => decide (¬ strlt y.f_key f) && y.f_value.f_Has).length = O.length := by
    have := congrArg List.length h1
    rw [List.length_map, List.length_map] at this; exact this.symm
  rw [List.take_of_length_le (by rw [hlen]; rcases h.le with h2 | h2; · rw [h2]; simp
                                 · omega)]
theorem PassO.stop {most : Int} {f : ByteArray} {xs O pre : List ItA} (h : PassO most pre O) (hp : pre <+: sel ItA.f_key strlt (some f) xs) (hl : most ≤ (O.length : Int)) : O.map proj = rangeM f most (xs.map proj) := by
  rw [← rngI_m]
  unfold rngI
  rw [← sel_filter, h.is]
  obtain ⟨t, ht⟩ := hp
  rw [← ht, List.filter_append]
  have hlen : (pre.filter fun y => y.f_value.f_Has).length = O.length := by
    have := congrArg List.length h.is
    rw [List.length_map, List.length_map] at this; exact this.symm
  rw [List.take_append_of_le_length (by rw [hlen]; omega), List.take_of_length_le (by
    rw [hlen]
    rcases h.le with h2 | h2
    · rw [h2]; simp
    · omega)]
theorem PassO.len {most : Int} {pre O : List ItA} (h : PassO most pre O) : O.length ≤ pre.length := by
  have h1 := congrArg List.length h.is
  rw [List.length_map, List.length_map] at h1
  have h2 := List.length_filter_le (fun y : ItA => y.f_value.f_Has) pre
  omega
theorem sel_len {f : ByteArray} {xs pre : List ItA} {x : ItA} (h : pre ++ [x] <+: sel ItA.f_key strlt (some f) xs) : pre.length < xs.length := by
  have h1 := h.length_le
  rw [List.length_append] at h1
  have h2 : (sel ItA.f_key strlt (some f) xs).length ≤ xs.length := by unfold sel; exact List.length_filter_le _ _
  simp only [List.length_cons, List.length_nil] at h1
  omega
theorem pre_len {α : Type} {xs pre : List α} {x : α} (h : pre ++ [x] <+: xs) : pre.length < xs.length := by
  have h1 := h.length_le
  rw [List.length_append] at h1
  simp only [List.length_cons, List.length_nil] at h1
  omega
theorem sel_in {f : ByteArray} {xs : List ItA} {y : ItA} (h : y ∈ sel ItA.f_key strlt (some f) xs) : y ∈ xs := by
  unfold sel at h
  exact (List.mem_filter.1 h).1
theorem pre_in {α : Type} {pre xs : List α} {x : α} (h : pre ++ [x] <+: xs) : x ∈ xs := by
  obtain ⟨t, rfl⟩ := h
  simp
theorem spoil_on {zs ys : List ItA} {i : Nat} {z : ItA} (h : zs.drop i = ys.drop i) : (zs.set i z).drop (i + 1) = ys.drop (i + 1) := by
  rw [List.drop_set_of_lt (by omega)]
  have h2 := congrArg (List.drop 1) h
  rw [List.drop_drop, List.drop_drop] at h2
  exact h2
section
variable {W w : World} {L : List Res}
theorem Sat.vals_app {xs : List ItA} {x : ItA} (S : Sat W w (vR x :: vals xs :: L)) : Sat W w (vals (xs ++ [x]) :: L) :=
  Sat.vals_perm (List.perm_append_comm (l₁ := [x]) (l₂ := xs)) (Sat.stars_uncons (A := vR x) (Rs := xs.map vR) S)
theorem Sat.vals_cons {xs : List ItA} {x : ItA} (S : Sat W w (vals (x :: xs) :: L)) : Sat W w (vR x :: vals xs :: L) := Sat.stars_cons (A := vR x) (Rs := xs.map vR) S
end
end
section
set_option linter.unusedVariables false
set_option linter.unusedSimpArgs false
set_option maxRecDepth 10000
open Go.RowKit Classical
theorem srec_ {W : World} {F : List Res} {a b : Rec} (ha : RdS W F e8 a.f_Value.a a.f_Value.xs) (hb : RdS W F e8 b.f_Value.a b.f_Value.xs) : CS Try.prog 19 #[.agg #[.bool a.f_Has, .slice a.f_Value.a (a.f_Value.xs).length a.f_Value.c, .int .i64 a.f_Home, .int .u64 a.f_Count], .agg #[.bool b.f_Has, .slice b.f_Value.a (b.f_Value.xs).length b.f_Value.c, .int .i64 b.f_Home, .int .u64 b.f_Count]] W (F) (fun r L' => ∃ bb : Bool, (bb = true ↔ a.m = b.m) ∧ r = .bool bb ∧ F = L') := by
 refine f_door (l0 := [(0, .agg #[.bool a.f_Has, .slice a.f_Value.a (a.f_Value.xs).length a.f_Value.c, .int .i64 a.f_Home, .int .u64 a.f_Count]), (1, .agg #[.bool b.f_Has, .slice b.f_Value.a (b.f_Value.xs).length b.f_Value.c, .int .i64 b.f_Home, .int .u64 b.f_Count])]) Try.func19 Try.ntmps19 rfl rfl rfl ?_
 refine c_seq ?_
 refine c_region ?_
 refine o_box rfl rfl fun b2 => ?_
 refine o_box rfl rfl fun b3 => ?_
 refine o_assign rfl rfl ?_
 refine l_nil ?_
 refine q_then ?_
 refine c_seq ?_
 refine c_region ?_
 refine o_fieldAddr (q := ⟨b2, 0, none⟩) rfl rfl Try.underlying36 rfl ti4 rfl ?_
 refine o_load1 rfl rfl Try.underlying4 rfl (rd_mem 1 rfl rfl) ?_
 refine o_fieldAddr (q := ⟨b3, 0, none⟩) rfl rfl Try.underlying36 rfl ti4 rfl ?_
 refine o_load1 rfl rfl Try.underlying4 rfl (rd_mem 0 rfl rfl) ?_
 refine o_bin rfl rfl rfl (b_beq Try.underlying4 _ _) ?_
 refine o_move rfl rfl ?_
 refine l_split (t := 10) rfl (fun h1 => ?_) (fun h1 => ?_)
 · -- h1T
  have h1b := h1
  try simp only [decide_eq_true_eq, decide_eq_false_iff_not, Bool.not_eq_eq_eq_not, Bool.not_true, Bool.not_false, Bool.not_eq_true', Bool.not_eq_false', Int.not_lt, Int.not_le, Bool.or_eq_true, Bool.and_eq_true] at h1
  refine o_yes rfl rfl rfl ?_
  refine o_fieldAddr (q := ⟨b2, 1, none⟩) rfl rfl Try.underlying36 rfl ti23 rfl ?_
  refine o_yes rfl rfl rfl ?_
  refine o_load1 rfl rfl Try.underlying23 rfl (rd_mem 1 rfl rfl) ?_
  refine o_yes rfl rfl rfl ?_
  refine o_bytesStr (e := e8) rfl rfl rfl Try.underlying23 Try.underlying5 Try.underlying9 (rds_c (rds_c ha)) ?_
  refine o_yes rfl rfl rfl ?_
  refine o_fieldAddr (q := ⟨b3, 1, none⟩) rfl rfl Try.underlying36 rfl ti23 rfl ?_
  refine o_yes rfl rfl rfl ?_
  refine o_load1 rfl rfl Try.underlying23 rfl (rd_mem 0 rfl rfl) ?_
  refine o_yes rfl rfl rfl ?_
  refine o_bytesStr (e := e8) rfl rfl rfl Try.underlying23 Try.underlying5 Try.underlying9 (rds_c (rds_c hb)) ?_
  refine o_yes rfl rfl rfl ?_
  refine o_bin rfl rfl rfl b_seql ?_
  refine o_pick_true rfl rfl rfl ?_
  refine o_move rfl rfl ?_
  refine l_split (t := 19) rfl (fun h2 => ?_) (fun h2 => ?_)
  · -- h2T
   have h2b := h2
   try simp only [decide_eq_true_eq] at h2
   refine o_yes rfl rfl rfl ?_
   refine o_fieldAddr (q := ⟨b2, 2, none⟩) rfl rfl Try.underlying36 rfl ti3 rfl ?_
   refine o_yes rfl rfl rfl ?_
   refine o_load1 rfl rfl Try.underlying3 rfl (rd_mem 1 rfl rfl) ?_
   refine o_yes rfl rfl rfl ?_
   refine o_fieldAddr (q := ⟨b3, 2, none⟩) rfl rfl Try.underlying36 rfl ti3 rfl ?_
   refine o_yes rfl rfl rfl ?_
   refine o_load1 rfl rfl Try.underlying3 rfl (rd_mem 0 rfl rfl) ?_
   refine o_yes rfl rfl rfl ?_
   refine o_bin rfl rfl rfl b_eql ?_
   refine o_pick_true rfl rfl rfl ?_
   refine o_move rfl rfl ?_
   refine l_split (t := 26) rfl (fun h3 => ?_) (fun h3 => ?_)
   · -- h3T
    have h3b := h3
    try simp only [decide_eq_true_eq] at h3
    refine o_yes rfl rfl rfl ?_
    refine o_fieldAddr (q := ⟨b2, 3, none⟩) rfl rfl Try.underlying36 rfl ti34 rfl ?_
    refine o_yes rfl rfl rfl ?_
    refine o_load1 rfl rfl Try.underlying34 rfl (rd_mem 1 rfl rfl) ?_
    refine o_yes rfl rfl rfl ?_
    refine o_fieldAddr (q := ⟨b3, 3, none⟩) rfl rfl Try.underlying36 rfl ti34 rfl ?_
    refine o_yes rfl rfl rfl ?_
    refine o_load1 rfl rfl Try.underlying34 rfl (rd_mem 0 rfl rfl) ?_
    refine o_yes rfl rfl rfl ?_
    refine o_bin rfl rfl rfl b_eql ?_
    refine o_pick_true rfl rfl rfl ?_
    refine o_assign rfl rfl ?_
    refine l_nil ?_
    refine q_then ?_
    refine c_ret ?_
    refine q_conv (fun w S => S.tail) ?_
    refine q_conv (fun w S => S.tail) ?_
    exact f_ret (r_one rfl rfl) (⟨decide (a.f_Count = b.f_Count), (by rw [rec_iff]; simp_all [bts_eq]), rfl, rfl⟩) (fun w S => S)
   · -- h3F
    have h3b := h3
    try simp only [decide_eq_false_iff_not, Int.not_lt, Int.not_le] at h3
    refine o_no rfl rfl rfl rfl ?_
    refine o_no rfl rfl rfl rfl ?_
    refine o_no rfl rfl rfl rfl ?_
    refine o_no rfl rfl rfl rfl ?_
    refine o_no rfl rfl rfl rfl ?_
    refine o_pick_false rfl rfl rfl ?_
    refine o_assign rfl rfl ?_
    refine l_nil ?_
    refine q_then ?_
    refine c_ret ?_
    refine q_conv (fun w S => S.tail) ?_
    refine q_conv (fun w S => S.tail) ?_
    exact f_ret (r_one rfl rfl) (⟨false, (by rw [rec_iff]; simp_all [bts_eq]), rfl, rfl⟩) (fun w S => S)
  · -- h2F
   have h2b := h2
   try simp only [decide_eq_false_iff_not, Int.not_lt, Int.not_le] at h2
   refine o_no rfl rfl rfl rfl ?_
   refine o_no rfl rfl rfl rfl ?_
   refine o_no rfl rfl rfl rfl ?_
   refine o_no rfl rfl rfl rfl ?_
   refine o_no rfl rfl rfl rfl ?_
   refine o_pick_false rfl rfl rfl ?_
   refine o_move rfl rfl ?_
   refine o_no rfl rfl rfl rfl ?_
   refine o_no rfl rfl rfl rfl ?_
   refine o_no rfl rfl rfl rfl ?_
   refine o_no rfl rfl rfl rfl ?_
   refine o_no rfl rfl rfl rfl ?_
   refine o_pick_false rfl rfl rfl ?_
   refine o_assign rfl rfl ?_
   refine l_nil ?_
   refine q_then ?_
   refine c_ret ?_
   refine q_conv (fun w S => S.tail) ?_
   refine q_conv (fun w S => S.tail) ?_
   exact f_ret (r_one rfl rfl) (⟨false, (by rw [rec_iff]; simp_all [bts_eq]), rfl, rfl⟩) (fun w S => S)
 · -- h1F
  have h1b := h1
  try simp only [decide_eq_true_eq, decide_eq_false_iff_not, Bool.not_eq_eq_eq_not, Bool.not_true, Bool.not_false, Bool.not_eq_true', Bool.not_eq_false', Int.not_lt, Int.not_le, Bool.or_eq_true, Bool.and_eq_true] at h1
  refine o_no rfl rfl rfl rfl ?_
  refine o_no rfl rfl rfl rfl ?_
  refine o_no rfl rfl rfl rfl ?_
  refine o_no rfl rfl rfl rfl ?_
  refine o_no rfl rfl rfl rfl ?_
  refine o_no rfl rfl rfl rfl ?_
  refine o_no rfl rfl rfl rfl ?_
  refine o_pick_false rfl rfl rfl ?_
  refine o_move rfl rfl ?_
  refine o_no rfl rfl rfl rfl ?_
  refine o_no rfl rfl rfl rfl ?_
  refine o_no rfl rfl rfl rfl ?_
  refine o_no rfl rfl rfl rfl ?_
  refine o_no rfl rfl rfl rfl ?_
  refine o_pick_false rfl rfl rfl ?_
  refine o_move rfl rfl ?_
  refine o_no rfl rfl rfl rfl ?_
  refine o_no rfl rfl rfl rfl ?_
  refine o_no rfl rfl rfl rfl ?_
  refine o_no rfl rfl rfl rfl ?_
  refine o_no rfl rfl rfl rfl ?_
  refine o_pick_false rfl rfl rfl ?_
  refine o_assign rfl rfl ?_
  refine l_nil ?_
  refine q_then ?_
  refine c_ret ?_
  refine q_conv (fun w S => S.tail) ?_
  refine q_conv (fun w S => S.tail) ?_
  exact f_ret (r_one rfl rfl) (⟨false, (by rw [rec_iff]; simp_all [bts_eq]), rfl, rfl⟩) (fun w S => S)
theorem same_ {W : World} {F : List Res} {xs ys : List ItA} {a b : Option Addr} {c c2 : Nat} (hs : RdS W F e_Row a xs) (ht : RdS W F e_Row b ys) (va : ∀ x ∈ xs, RdS W F e8 x.f_value.f_Value.a x.f_value.f_Value.xs) (vb : ∀ x ∈ ys, RdS W F e8 x.f_value.f_Value.a x.f_value.f_Value.xs) (hl : xs.length ≤ 1000000) : CS Try.prog 20 #[.slice a (xs).length c, .slice b (ys).length c2] W (F) (fun r L' => ∃ bb : Bool, (bb = true ↔ xs.map proj = ys.map proj) ∧ r = .bool bb ∧ F = L') := by
 refine f_door (l0 := [(0, .slice a (xs).length c), (1, .slice b (ys).length c2)]) Try.func20 Try.ntmps20 rfl rfl rfl ?_
 refine c_seq ?_
 refine c_region ?_
 refine o_assign rfl rfl ?_
 refine l_nil ?_
 refine q_then ?_
 refine c_seq ?_
 refine c_seq ?_
 refine c_region ?_
 refine o_move rfl rfl ?_
 refine o_len rfl rfl Try.underlying43 ?_
 refine o_move rfl rfl ?_
 refine o_len rfl rfl Try.underlying43 ?_
 refine o_bin rfl rfl rfl b_neq ?_
 refine l_nil ?_
 refine q_then ?_
 refine c_cond rfl (fun h1 => ?_) (fun h1 => ?_)
 · -- h1T
  have h1b := h1
  try simp only [Bool.not_eq_true', decide_eq_false_iff_not, Int.not_lt, Int.not_le] at h1
  refine c_seq ?_
  refine c_region ?_
  refine o_assign rfl rfl ?_
  refine l_nil ?_
  refine q_then ?_
  refine c_ret ?_
  refine q_pass_ret ?_
  exact f_ret (r_one rfl rfl) (⟨false, (by refine ⟨fun h9 => (by cases h9), fun h9 => ?_⟩; have h8 := congrArg List.length h9; rw [List.length_map, List.length_map] at h8; omega), rfl, rfl⟩) (fun w S => S)
 · -- h1F
  have h1b := h1
  try simp only [Bool.not_eq_false', decide_eq_true_eq] at h1
  refine c_skip ?_
  refine q_then ?_
  refine c_seq ?_
  refine c_seq ?_
  refine c_region ?_
  refine o_assign rfl rfl ?_
  refine l_nil ?_
  refine q_then ?_
  refine c_block ?_
  refine c_loop (α := Nat) (fun z => [(0, .slice a (xs).length c), (1, .slice b (ys).length c2), (5, .int .i64 (z : Int))]) (fun z => F) (fun z => z ≤ xs.length ∧ (xs.take z).map proj = (ys.take z).map proj) (fun z => xs.length - z) (0) (by exact ⟨Nat.zero_le _, rfl⟩) ⟨(by first | rfl | exact vint (by omega)), (by first | rfl | exact vint (by omega)), (by first | rfl | exact vint (by omega)), trivial⟩ (fun w S => S) ?_
  rintro i ⟨hi, hmp⟩
  try dsimp only at *
  refine c_seq ?_
  refine c_seq ?_
  refine c_region ?_
  refine o_move rfl rfl ?_
  refine o_move rfl rfl ?_
  refine o_len rfl rfl Try.underlying43 ?_
  refine o_bin rfl rfl rfl b_lss ?_
  refine l_nil ?_
  refine q_then ?_
  refine c_cond rfl (fun h2 => ?_) (fun h2 => ?_)
  · -- h2T
   have h2b := h2
   try simp only [decide_eq_true_eq] at h2
   refine c_skip ?_
   refine q_then ?_
   refine c_seq ?_
   refine c_block ?_
   refine c_seq ?_
   refine c_fact (p := ∃ ad, a = some ad) (rds_some (e := e_Row) (xs := xs) hs (by intro h0; have h8 := congrArg List.length h0; simp only [List.length_nil] at h8; omega)) ?_
   rintro ⟨ad1, ead1⟩
   refine c_fact (p := ∃ ad, b = some ad) (rds_some (e := e_Row) (xs := ys) ht (by intro h0; have h8 := congrArg List.length h0; simp only [List.length_nil] at h8; omega)) ?_
   rintro ⟨ad2, ead2⟩
   refine c_heldF [] (F) (by kernel_rfl) ?_
   refine h_take 0 rfl rfl (by kernel_rfl) (by kernel_rfl) (by kernel_rfl) (fun L0 => v_move rfl rfl) ?_
   refine h_take 1 rfl rfl (by kernel_rfl) (by kernel_rfl) (by kernel_rfl) (fun L0 => v_move rfl rfl) ?_
   refine h_take 2 rfl rfl (by kernel_rfl) (by kernel_rfl) (by kernel_rfl) (fun L0 => v_indexK e_Row_ok ead1 rfl rfl rfl Try.underlying43 (by omega) (by omega)) ?_
   obtain ⟨x19, hx19⟩ : ∃ x, (xs)[((i : Int)).toNat]? = some x := ⟨_, List.getElem?_eq_getElem (by omega)⟩
   refine h_take 3 rfl rfl (by kernel_rfl) (by kernel_rfl) (by kernel_rfl) (fun L0 => v_fieldAddr rfl rfl Try.underlying49 rfl ti9 (Addr.add_add' _ _ _)) ?_
   refine h_take 4 rfl rfl (by kernel_rfl) (by kernel_rfl) (by kernel_rfl) (fun L0 => v_load1 rfl rfl Try.underlying9 rfl (rd_sl e_Row_ok ead1 (rds_app hs) hx19 rfl)) ?_
   refine h_take 5 rfl rfl (by kernel_rfl) (by kernel_rfl) (by kernel_rfl) (fun L0 => v_move rfl rfl) ?_
   refine h_take 6 rfl rfl (by kernel_rfl) (by kernel_rfl) (by kernel_rfl) (fun L0 => v_move rfl rfl) ?_
   refine h_take 7 rfl rfl (by kernel_rfl) (by kernel_rfl) (by kernel_rfl) (fun L0 => v_indexK e_Row_ok ead2 rfl rfl rfl Try.underlying43 (by omega) (by omega)) ?_
   obtain ⟨x24, hx24⟩ : ∃ x, (ys)[((i : Int)).toNat]? = some x := ⟨_, List.getElem?_eq_getElem (by omega)⟩
   refine h_take 8 rfl rfl (by kernel_rfl) (by kernel_rfl) (by kernel_rfl) (fun L0 => v_fieldAddr rfl rfl Try.underlying49 rfl ti9 (Addr.add_add' _ _ _)) ?_
   refine h_take 9 rfl rfl (by kernel_rfl) (by kernel_rfl) (by kernel_rfl) (fun L0 => v_load1 rfl rfl Try.underlying9 rfl (rd_sl e_Row_ok ead2 (rds_app ht) hx24 rfl)) ?_
   refine h_take 10 rfl rfl (by kernel_rfl) (by kernel_rfl) (by kernel_rfl) (fun L0 => v_bin rfl rfl rfl b_sneq) ?_
   refine h_take 11 rfl rfl (by kernel_rfl) (by kernel_rfl) (by kernel_rfl) (fun L0 => v_move rfl rfl) ?_
   refine h_split (t := 28) rfl (fun h3 => ?_) (fun h3 => ?_)
   · -- h3T
    have h3b := h3
    try simp only [Bool.not_eq_true', decide_eq_false_iff_not, Int.not_lt, Int.not_le] at h3
    refine h_take_no 12 rfl rfl rfl rfl rfl (by kernel_rfl) (by kernel_rfl) (by kernel_rfl) ?_
    refine h_take_no 13 rfl rfl rfl rfl rfl (by kernel_rfl) (by kernel_rfl) (by kernel_rfl) ?_
    refine h_take_no 14 rfl rfl rfl rfl rfl (by kernel_rfl) (by kernel_rfl) (by kernel_rfl) ?_
    refine h_take_no 15 rfl rfl rfl rfl rfl (by kernel_rfl) (by kernel_rfl) (by kernel_rfl) ?_
    refine h_take_no 16 rfl rfl rfl rfl rfl (by kernel_rfl) (by kernel_rfl) (by kernel_rfl) ?_
    refine h_take_no 17 rfl rfl rfl rfl rfl (by kernel_rfl) (by kernel_rfl) (by kernel_rfl) ?_
    refine h_take_no 18 rfl rfl rfl rfl rfl (by kernel_rfl) (by kernel_rfl) (by kernel_rfl) ?_
    refine h_take_no 19 rfl rfl rfl rfl rfl (by kernel_rfl) (by kernel_rfl) (by kernel_rfl) ?_
    refine h_take_no 20 rfl rfl rfl rfl rfl (by kernel_rfl) (by kernel_rfl) (by kernel_rfl) ?_
    refine h_take_no 21 rfl rfl rfl rfl rfl (by kernel_rfl) (by kernel_rfl) (by kernel_rfl) ?_
    refine h_take_no 22 rfl rfl rfl rfl rfl (by kernel_rfl) (by kernel_rfl) (by kernel_rfl) ?_
    refine h_take_no 23 rfl rfl rfl rfl rfl (by kernel_rfl) (by kernel_rfl) (by kernel_rfl) ?_
    refine h_take 24 rfl rfl (by kernel_rfl) (by kernel_rfl) (by kernel_rfl) (fun L0 => v_pick_true rfl rfl rfl) ?_
    refine h_done (by kernel_rfl) ?_
    refine q_conv (L' := F) (fun w S => S.perm List.perm_append_comm) ?_
    refine q_then ?_
    refine c_true rfl ?_
    refine c_seq ?_
    refine c_region ?_
    refine o_assign rfl rfl ?_
    refine l_nil ?_
    refine q_then ?_
    refine c_ret ?_
    refine q_block_ret ?_
    refine q_pass_ret ?_
    refine q_pass_ret ?_
    refine q_block_ret ?_
    refine q_pass_ret ?_
    exact f_ret (r_one rfl rfl) (⟨false, (by refine ⟨fun h9 => (by cases h9), fun h9 => absurd h9 (same_no (show xs[i]? = some x19 from hx19) (show ys[i]? = some x24 from hx24) (by rintro ⟨h7, h8⟩; first | (exact absurd h7 (by assumption)) | (rw [e31, e36] at hbb39; have h6 := hbb39.2 h8; simp_all)))⟩), rfl, rfl⟩) (fun w S => S)
   · -- h3F
    have h3b := h3
    try simp only [Bool.not_eq_false', decide_eq_true_eq] at h3
    refine h_take_yes 12 rfl rfl rfl rfl rfl (by kernel_rfl) (by kernel_rfl) (by kernel_rfl) (fun L0 => v_move rfl rfl) ?_
    refine h_take_yes 13 rfl rfl rfl rfl rfl (by kernel_rfl) (by kernel_rfl) (by kernel_rfl) (fun L0 => v_move rfl rfl) ?_
    refine h_take_yes 14 rfl rfl rfl rfl rfl (by kernel_rfl) (by kernel_rfl) (by kernel_rfl) (fun L0 => v_indexK e_Row_ok ead1 rfl rfl rfl Try.underlying43 (by omega) (by omega)) ?_
    obtain ⟨x31, hx31⟩ : ∃ x, (xs)[((i : Int)).toNat]? = some x := ⟨_, List.getElem?_eq_getElem (by omega)⟩
    have e31 : x31 = x19 := by rw [hx31] at hx19; exact Option.some.inj hx19
    refine h_take_yes 15 rfl rfl rfl rfl rfl (by kernel_rfl) (by kernel_rfl) (by kernel_rfl) (fun L0 => v_fieldAddr rfl rfl Try.underlying49 rfl ti36 (Addr.add_add' _ _ _)) ?_
    refine h_take_yes 16 rfl rfl rfl rfl rfl (by kernel_rfl) (by kernel_rfl) (by kernel_rfl) (fun L0 => v_loadn (vs := [.bool x31.f_value.f_Has, .slice x31.f_value.f_Value.a (x31.f_value.f_Value.xs).length x31.f_value.f_Value.c, .int .i64 x31.f_value.f_Home, .int .u64 x31.f_value.f_Count]) rfl rfl Try.underlying36 rfl ti36 (rdn_slo (n := 4) e_Row_ok ead1 (rds_app hs) hx31 rfl)) ?_
    refine h_take_yes 17 rfl rfl rfl rfl rfl (by kernel_rfl) (by kernel_rfl) (by kernel_rfl) (fun L0 => v_move rfl rfl) ?_
    refine h_take_yes 18 rfl rfl rfl rfl rfl (by kernel_rfl) (by kernel_rfl) (by kernel_rfl) (fun L0 => v_move rfl rfl) ?_
    refine h_take_yes 19 rfl rfl rfl rfl rfl (by kernel_rfl) (by kernel_rfl) (by kernel_rfl) (fun L0 => v_indexK e_Row_ok ead2 rfl rfl rfl Try.underlying43 (by omega) (by omega)) ?_
    obtain ⟨x36, hx36⟩ : ∃ x, (ys)[((i : Int)).toNat]? = some x := ⟨_, List.getElem?_eq_getElem (by omega)⟩
    have e36 : x36 = x24 := by rw [hx36] at hx24; exact Option.some.inj hx24
    refine h_take_yes 20 rfl rfl rfl rfl rfl (by kernel_rfl) (by kernel_rfl) (by kernel_rfl) (fun L0 => v_fieldAddr rfl rfl Try.underlying49 rfl ti36 (Addr.add_add' _ _ _)) ?_
    refine h_take_yes 21 rfl rfl rfl rfl rfl (by kernel_rfl) (by kernel_rfl) (by kernel_rfl) (fun L0 => v_loadn (vs := [.bool x36.f_value.f_Has, .slice x36.f_value.f_Value.a (x36.f_value.f_Value.xs).length x36.f_value.f_Value.c, .int .i64 x36.f_value.f_Home, .int .u64 x36.f_value.f_Count]) rfl rfl Try.underlying36 rfl ti36 (rdn_slo (n := 4) e_Row_ok ead2 (rds_app ht) hx36 rfl)) ?_
    refine h_one 22 rfl (by kernel_rfl) ?_
    refine l_conv (L' := F) (fun w S => S.perm List.perm_append_comm) ?_
    refine o_yes rfl rfl rfl ?_
    refine o_call rfl cal19 rfl (srec_ (a := x31.f_value) (b := x36.f_value) (va x31 (List.mem_of_getElem? hx31)) (vb x36 (List.mem_of_getElem? hx36))) ?_
    rintro _ _ ⟨bb39, hbb39, rfl, rfl⟩
    refine l_nil ?_
    refine q_conv (L' := (F) ++ []) (fun w S => S.perm (List.perm_append_comm (l₁ := []) (l₂ := F))) ?_
    refine h_next ?_
    refine h_take_yes 23 rfl rfl rfl rfl rfl (by kernel_rfl) (by kernel_rfl) (by kernel_rfl) (fun L0 => v_not rfl rfl) ?_
    refine h_take 24 rfl rfl (by kernel_rfl) (by kernel_rfl) (by kernel_rfl) (fun L0 => v_pick_false rfl rfl rfl) ?_
    refine h_done (by kernel_rfl) ?_
    refine q_conv (L' := F) (fun w S => S.perm List.perm_append_comm) ?_
    refine q_then ?_
    refine c_cond rfl (fun h4 => ?_) (fun h4 => ?_)
    · -- h4T
     have h4b := h4
     try simp only [decide_eq_true_eq, decide_eq_false_iff_not, Bool.not_eq_eq_eq_not, Bool.not_true, Bool.not_false, Bool.not_eq_true', Bool.not_eq_false', Int.not_lt, Int.not_le, Bool.or_eq_true, Bool.and_eq_true] at h4
     refine c_seq ?_
     refine c_region ?_
     refine o_assign rfl rfl ?_
     refine l_nil ?_
     refine q_then ?_
     refine c_ret ?_
     refine q_block_ret ?_
     refine q_pass_ret ?_
     refine q_pass_ret ?_
     refine q_block_ret ?_
     refine q_pass_ret ?_
     exact f_ret (r_one rfl rfl) (⟨false, (by refine ⟨fun h9 => (by cases h9), fun h9 => absurd h9 (same_no (show xs[i]? = some x19 from hx19) (show ys[i]? = some x24 from hx24) (by rintro ⟨h7, h8⟩; first | (exact absurd h7 (by assumption)) | (rw [e31, e36] at hbb39; have h6 := hbb39.2 h8; simp_all)))⟩), rfl, rfl⟩) (fun w S => S)
    · -- h4F
     have h4b := h4
     try simp only [decide_eq_true_eq, decide_eq_false_iff_not, Bool.not_eq_eq_eq_not, Bool.not_true, Bool.not_false, Bool.not_eq_true', Bool.not_eq_false', Int.not_lt, Int.not_le, Bool.or_eq_true, Bool.and_eq_true] at h4
     refine c_skip ?_
     refine q_block ?_
     refine q_then ?_
     refine c_region ?_
     refine o_move rfl rfl ?_
     refine o_bin rfl rfl rfl (b_add (wrap_i64 (by omega) (by omega))) ?_
     refine o_assign rfl rfl ?_
     refine l_nil ?_
     exact q_round (i + 1) (by exact ⟨by omega, same_on hmp (show xs[i]? = some x19 from hx19) (show ys[i]? = some x24 from hx24) (by assumption) (by rw [e31, e36] at hbb39; exact hbb39.1 (by simp_all))⟩) (by (try dsimp only); omega) ⟨(by first | rfl | exact vint (by omega)), (by first | rfl | exact vint (by omega)), (by first | rfl | exact vint (by omega)), trivial⟩ (fun w S => S)
  · -- h2F
   have h2b := h2
   try simp only [decide_eq_false_iff_not, Int.not_lt, Int.not_le] at h2
   refine c_exit ?_
   refine q_pass_exit ?_
   refine q_pass_exit ?_
   refine q_hit ?_
   refine q_then ?_
   refine c_seq ?_
   refine c_region ?_
   refine o_assign rfl rfl ?_
   refine l_nil ?_
   refine q_then ?_
   refine c_ret ?_
   exact f_ret (r_one rfl rfl) (⟨true, (by refine ⟨fun _ => ?_, fun _ => rfl⟩; rw [List.take_of_length_le (by omega), List.take_of_length_le (by omega)] at hmp; exact hmp), rfl, rfl⟩) (fun w S => S)
end
end Go.Proofs.Ytnfbjidpiglabaa
